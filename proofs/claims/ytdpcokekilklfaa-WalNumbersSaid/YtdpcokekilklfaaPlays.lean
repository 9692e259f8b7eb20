/- WalPlays: its walk. -/
import Derived.Test.YtdpcokekilklfaaAskrow
import Derived.Test.YtdpcokekilklfaaPlay
import Derived.Test.YtdpcokekilklfaaWithin
namespace Go.Proofs.Ytdpcokekilklfaa
open Go.RowKit Go.Hop
theorem and63 (z : Int) : bits .and .i64 z 63 = z % 64 := by
  have h127 : (BitVec.ofInt 64 63).toNat = 2 ^ 6 - 1 := by decide
  have key : (BitVec.ofInt 64 z &&& BitVec.ofInt 64 63).toNat = (z % ((2 ^ 64 : Nat) : Int)).toNat % 2 ^ 6 := by
    rw [BitVec.toNat_and, BitVec.toNat_ofInt, h127, Nat.and_two_pow_sub_one_eq_mod]
  show IntKind.i64.wrap ((BitVec.ofInt 64 z &&& BitVec.ofInt 64 63).toNat : Nat) = z % 64
  rw [key, IntKind.wrap_i64]
  omega
def AskSt (x : Nat) (kd : Int) (sl : Value) (N kd' N' : Int) : Stages where
  G := Just fun b => b = x
  T := fun _ => Just fun b => b = x
  I := fun k w => match k with
    | 0 => Blk w x 41 #[.int .i64 kd, sl, .int .i64 N]
    | 1 => Blk w x 41 #[.int .i64 kd', sl, .int .i64 N]
    | _ => Blk w x 41 #[.int .i64 kd', sl, .int .i64 N']
  muts := [7, 9]
  stage := fun j => if j = 1 then some 0 else if j = 4 then some 0 else if j = 7 then some 0 else if j = 9 then some 1 else none
theorem askSt_ok (x : Nat) (kd : Int) (sl : Value) (N kd' N' : Int) : (AskSt x kd sl N kd' N').Ok := by
  refine ⟨fun _ _ _ => Just.trans, fun _ _ h => Just.of_grow h, fun _ _ _ h => h, fun k a b h hg => ?_⟩
  rcases k with _ | _ | k <;> exact Blk.grow h hg
set_option maxRecDepth 100000 in
set_option maxHeartbeats 4000000 in
theorem plays_s (w : World) (A : Option Addr) (n c : Nat) (l : List UInt8) (hb0 : Bytes w w.heap.size A n l) (hnc : n ≤ c) (hn0 : n ≤ 1048576) (Z : Option Addr) (n' c' : Nat) (q : List Ask) (hq : Asks w w.heap.size Z n' q) (hc' : n' ≤ c') (hcm : c' ≤ maxLen) (hn' : n' ≤ 1048576) (hcase : n ≤ 300) :
    Calls Try.prog 7 #[.slice A n c, .slice Z n' c'] w fun e w' => e = .returned (.bool true) ∧ Grow w w' := by
  have hla := hb0
  have k10 : ∀ (vs : Array Value) (w : World), (callFunc 10 vs).run Try.prog w = .ok (.enter 10 vs) w := fun vs w => by go_simp
  go_enter Try.func7, Try.ntmps7
  go_wp2_with fail
  go_loopw [5, 10] (fun s i wr => ∃ (k : Nat) (qs : List Ask), k ≤ n' ∧ i = .int .i64 k ∧ Own wr (New w wr) 41 3 s k (qs.flatMap Ask.cells) ∧ (∀ a ∈ qs, AskIn wr w.heap.size a) ∧ Below w.heap.size w wr) (fun _ i _ => n' - (intOf i).toNat)
  case atStart => exact ⟨0, [], by omega, rfl, Own.nil, by simp, Below.refl _ _⟩
  case round =>
    obtain ⟨k, qs, hkn, rfl, hO, hin, hb⟩ := hrel
    obtain ⟨A1, c1, rfl, hR1, hn1, hm1⟩ := hO.reads
    by_cases hk : k < n'
    · obtain ⟨ad, a, rfl, hadB, hai, e0, e1, e2⟩ := hq.at_ hk
      have hkeep : ∀ p : Addr, p.block < w.heap.size → wr.cell? p = w.cell? p := fun p hp => hb.cell hp
      have f0 := (hkeep (ad.add (k * 3)) (by rw [block_add]; exact hadB)).trans e0
      have f1 := (hkeep ⟨(ad.add (k * 3)).block, (ad.add (k * 3)).off + 1, none⟩ (show (ad.add (k * 3)).block < _ by rw [block_add]; exact hadB)).trans e1
      have f2 := (hkeep ⟨(ad.add (k * 3)).block, (ad.add (k * 3)).off + 2, none⟩ (show (ad.add (k * 3)).block < _ by rw [block_add]; exact hadB)).trans e2
      clear e0 e1 e2
      have hai' := hai.below hb
      obtain ⟨kd, Ab, mb, cb, bs, N⟩ := a
      have hkd := hai.kind
      have hN := hai.num
      dsimp only at f0 f1 f2 hkd hN
      unfold I64 at hkd hN
      obtain ⟨sl, HSL⟩ : ∃ sl : Value, Hid (sl = .slice Ab mb cb) := ⟨_, rfl⟩
      have hga : Grow wr (wr.alloc (.cells #[.int .i64 kd, sl, .int .i64 N] 41)) := (Below.refl wr.heap.size wr).alloc (Nat.le_refl _) _
      have hBx0 := Blk.made wr 41 #[.int .i64 kd, sl, .int .i64 N]
      obtain ⟨x, HX⟩ : ∃ x : Nat, Hid (x = wr.heap.size) := ⟨_, rfl⟩
      obtain ⟨wa, HA⟩ : ∃ wa : World, Hid (wa = wr.alloc (.cells #[.int .i64 kd, sl, .int .i64 N] 41)) := ⟨_, rfl⟩
      have hsa : wa.heap.size = wr.heap.size + 1 := by rw [HA.out]; simp
      rw [← HA.out] at hga
      have hBx : Blk wa x 41 #[.int .i64 kd, sl, .int .i64 N] := by rw [HA.out, HX.out]; exact hBx0
      clear hBx0
      have hw2 : IntKind.i64.wrap (N % 64) = N % 64 := by rw [IntKind.wrap_i64]; omega
      go_wp2_with fail
      rw [← HSL.out, ← HA.out, ← HX.out]
      refine wp_region_reg rfl ?_
      refine reg_flow (AskSt x kd sl N (withinF kd 0 4) (N % 64)) (askSt_ok _ _ _ _ _ _) 0 10 53 [(2, .inl (.int .i64 (withinF kd 0 4))), (7, .inl (undef)), (9, .inl (undef))] rfl (by kernel_rfl) (by kernel_rfl) (by kernel_rfl) ?_ (Just.of_grow (Grow.refl _).drew) hBx ?_
      · intro x hx φ he
        simp only [List.mem_cons, List.not_mem_nil, or_false] at hx
        rcases hx with rfl | rfl | rfl <;> cases he
      intro ops' A' K' T hops hA' hK hT
      refine fl_op1 17 (by rfl) (by decide) (wanted_none (by rfl)) (by rw [hK.out]; rfl) (by rfl) (.tmp 7) (.pointer (some ⟨x, 0, none⟩)) (by rfl) (.pointer (some ⟨x, 0, none⟩)) (fun ρ h1 kk w1 (hg : Just (fun b => b = x) _ w1) hb hf => by go_simp) ?_
      refine fl_op1 18 (by rfl) (by decide) (wanted_none (by rfl)) (by rw [hK.out]; rfl) (by rfl) (.tmp 17) (.pointer (some ⟨x, 0, none⟩)) (by rfl) (.int .i64 kd) (fun ρ h1 kk w1 (hg : Just (fun b => b = x) _ w1) hb hf => by obtain rfl := before_some 0 (by rfl) hb; have hI := hb.1; have c := hI.cell 0; go_simp) ?_
      refine fl_call 19 (by rfl) (by decide) (wanted_none (by rfl)) (.int .i64 (withinF kd 0 4)) (by rw [hK.out]; rfl) 10 _ _ (by rfl) [.int .i64 kd, .int .i64 0, .int .i64 4] (by rfl) k10 (fun kk w1 (hg : Just (fun b => b = x) _ w1) hb hf => calls_behind (by rfl) (by exact grew_same (within_is w1 kd 0 4 hkd (by omega) (by omega) (by omega)))) ?_
      refine fl_op1 20 (by rfl) (by decide) (wanted_none (by rfl)) (by rw [hK.out]; rfl) (by rfl) (.tmp 7) (.pointer (some ⟨x, 0, none⟩)) (by rfl) (.pointer (some ⟨x, 2, none⟩)) (fun ρ h1 kk w1 (hg : Just (fun b => b = x) _ w1) hb hf => by go_simp) ?_
      refine fl_op1 21 (by rfl) (by decide) (wanted_none (by rfl)) (by rw [hK.out]; rfl) (by rfl) (.tmp 20) (.pointer (some ⟨x, 2, none⟩)) (by rfl) (.int .i64 N) (fun ρ h1 kk w1 (hg : Just (fun b => b = x) _ w1) hb hf => by obtain rfl := before_some 0 (by rfl) hb; have hI := hb.1; have c := hI.cell 2; go_simp) ?_
      refine fl_op2 22 (by rfl) (by decide) (wanted_none (by rfl)) (by rw [hK.out]; rfl) (by rfl) (.tmp 21) (.const (.int .i64 63)) (.int .i64 N) (.int .i64 63) (by rfl) (by rfl) (.int .i64 (N % 64)) (fun ρ h1 h2 kk w1 (hg : Just (fun b => b = x) _ w1) hb hf => by have ea := and63 N; go_simp) ?_
      refine fl_op1 23 (by rfl) (by decide) (wanted_none (by rfl)) (by rw [hK.out]; rfl) (by rfl) (.tmp 7) (.pointer (some ⟨x, 0, none⟩)) (by rfl) (.pointer (some ⟨x, 0, none⟩)) (fun ρ h1 kk w1 (hg : Just (fun b => b = x) _ w1) hb hf => by go_simp) ?_
      refine fl_do2 (by rfl) (wanted_none (by rfl)) (undef) (by rw [hK.out]; rfl) (.tmp 23) (.tmp 19) (.pointer (some ⟨x, 0, none⟩)) (.int .i64 (withinF kd 0 4)) (by rfl) (by rfl) (fun ρ h1 h2 kk w1 (hg : Just (fun b => b = x) _ w1) hb hf => by obtain rfl := before_some 0 (by rfl) hb; have hI := hb.1; refine upon_turn 0 (by rfl) ?_; have f := hI.frozen 0; have c := hI.cell 0; exact flowUpon_skip (w' := w1.setCell ⟨x, 0, none⟩ (.int .i64 (withinF kd 0 4))) (by go_simp) ⟨rfl, just_at w1 x 0 _, hI.put 0 _⟩) ?_
      refine fl_op1 24 (by rfl) (by decide) (wanted_none (by rfl)) (by rw [hK.out]; rfl) (by rfl) (.tmp 7) (.pointer (some ⟨x, 0, none⟩)) (by rfl) (.pointer (some ⟨x, 2, none⟩)) (fun ρ h1 kk w1 (hg : Just (fun b => b = x) _ w1) hb hf => by go_simp) ?_
      refine fl_do2 (by rfl) (wanted_none (by rfl)) (undef) (by rw [hK.out]; rfl) (.tmp 24) (.tmp 22) (.pointer (some ⟨x, 2, none⟩)) (.int .i64 (N % 64)) (by rfl) (by rfl) (fun ρ h1 h2 kk w1 (hg : Just (fun b => b = x) _ w1) hb hf => by obtain rfl := before_some 1 (by rfl) hb; have hI := hb.1; refine upon_turn 1 (by rfl) ?_; have f := hI.frozen 2; have c := hI.cell 2; exact flowUpon_skip (w' := w1.setCell ⟨x, 2, none⟩ (.int .i64 (N % 64))) (by go_simp) ⟨rfl, just_at w1 x 2 _, hI.put 2 _⟩) ?_
      refine fl_end (fun _ _ w1 (hg : Just (fun b => b = x) _ w1) hend hfacts => hT _ _ ?_)
      clear hops hA' hK hT
      simp only [putsL, Act.put, List.setIfInBounds_toArray, List.set_cons_zero, List.set_cons_succ]
      refine reg_end ?_
      have hB1 : Blk w1 x 41 #[.int .i64 (withinF kd 0 4), sl, .int .i64 (N % 64)] := hend
      clear hend hfacts
      have hx : w.heap.size ≤ x := by have := HX.out; have := hb.size; omega
      have hb1 := (below_trans hb hga hb.size).trans (hg.below (B := w.heap.size) (fun b h => by rw [h]; exact hx) (by have := hb.size; omega))
      have hO1 : Own w1 (New w w1) 41 3 (.slice A1 k c1) k (qs.flatMap Ask.cells) := by
        refine Own.mono (V := New w wr) (hO.keep fun b h => ?_) fun b h => ⟨h.1, by have := h.2; have := hg.size; omega⟩
        rw [hg.block b (by have := h.2; omega) (by have := h.2; have := HX.out; omega), hga.block b h.2]
      have hin1 : ∀ a ∈ qs, AskIn w1 w.heap.size a := fun a ha => by
        have := (hin a ha).below (hga.mono hb.size)
        exact this.below (hg.below (B := w.heap.size) (fun b h => by rw [h]; exact hx) (by have := hb.size; omega))
      have hnew : AskIn w1 w.heap.size ⟨withinF kd 0 4, Ab, mb, cb, bs, N % 64⟩ := by
        have h1 := (hai.below hb1)
        have hw := withinF_in (n := kd) (lo := 0) (hi := 4) (by omega)
        exact ⟨h1.bytes, h1.le, h1.max, by unfold I64; dsimp only; omega, by unfold I64; dsimp only; omega⟩
      rw [HSL.out] at hB1
      clear hO hin hR1 hb hga hai hai' hBx f0 f1 f2
      have c0 := hB1.cell 0
      have c1' := hB1.cell 1
      have c2 := hB1.cell 2
      go_wp2_with (at_builtin; refine stay ?_)
      refine stay_out ?_
      have hs1 := hb1.size
      have hgB := (Below.refl w1.heap.size w1).alloc (Nat.le_refl _) (.cells #[.int .i64 (withinF kd 0 4), .slice Ab mb cb, .int .i64 (N % 64)] 41)
      refine wpList_own (V := New w w1) askE _ rfl (.tmp 25) (.tmp 27) rfl (.slice A1 k c1) k (qs.flatMap Ask.cells) rfl (hO1.grow (fun b h => h.2) hgB) (w1.heap.size + 1) (some ⟨w1.heap.size, 0, none⟩) 1 1 (Ask.cells ⟨withinF kd 0 4, Ab, mb, cb, bs, N % 64⟩) rfl (reads_laid w1 _ 41 _ rfl _ rfl) (ask_one _) (by omega) ?_
      intro v3 w3 hO3 hj3
      have hs3 := hj3.size
      simp at hs3
      have hg3 : Below w.heap.size w1 w3 := Below.trans (hgB.mono hs1) (hj3.below (B := w.heap.size) (fun b h => h.1) (by simp; omega))
      have hb3 : Below w.heap.size w w3 := hb1.trans hg3
      have hO4 : Own w3 (New w w3) 41 3 v3 (k + 1) ((qs ++ [(⟨withinF kd 0 4, Ab, mb, cb, bs, N % 64⟩ : Ask)]).flatMap Ask.cells) := by
        rw [List.flatMap_append, List.flatMap_cons, List.flatMap_nil, List.append_nil]
        refine hO3.mono fun b h => ?_
        rcases h with h | h
        · exact ⟨h.1, by have := h.2; omega⟩
        · simp at h; exact ⟨by have := h.1; omega, h.2⟩
      have hin3 : ∀ a ∈ qs ++ [(⟨withinF kd 0 4, Ab, mb, cb, bs, N % 64⟩ : Ask)], AskIn w3 w.heap.size a := fun a ha => by
        rcases List.mem_append.1 ha with h | h
        · exact (hin1 a h).below hg3
        · rw [List.mem_singleton.1 h]; exact hnew.below hg3
      clear hO3 hj3 hO1 hin1 hnew hg3
      generalize qs ++ [(⟨withinF kd 0 4, Ab, mb, cb, bs, N % 64⟩ : Ask)] = qs3 at hO4 hin3
      go_wp2_with fail
      go_roundw
      case rel => exact ⟨k + 1, qs3, by omega, by go_num, hO4, hin3, hb3⟩
      case measure => simp [intOf]; omega
    · obtain rfl : k = n' := by omega
      have hqs : Asks wr wr.heap.size A1 k qs := ⟨hR1, fun a ha => (hin a ha).more hb.size⟩
      have hp1 := play_any wr none 0 0 [] Reads.nil (Nat.zero_le _) A1 k c1 qs hqs hn1 hm1
      clear hO hR1 hin
      go_wp2_with fail
      go_at_call 19
      refine hp1.mono ?_
      rintro e w7 ⟨rfl, hg7⟩
      have hb7 := below_trans hb hg7 hb.size
      have hp2 := play_any w7 A n c l (Reads.more (Reads.below hla hb7) hb7.size) (by omega) Z k c' q ((hq.below hb7).more hb7.size) hc' hcm
      clear hp1
      go_wp2_with fail
      go_at_call 19
      refine hp2.mono ?_
      rintro e w8 ⟨rfl, hg8⟩
      have hb8 := below_trans hb7 hg8 hb7.size
      have hp3 := rFrame_any w8 A n c l (Reads.more (Reads.below hla hb8) hb8.size) (by omega)
      clear hp2
      go_wp2_with fail
      go_at_call 18
      refine hp3.mono ?_
      rintro e w9 ⟨v9, rfl, hO9, hg9⟩
      have hb9 := below_trans hb8 hg9 hb8.size
      have hfb : (frame l).length + n ≤ 100000 := by
        have hll := hla.len
        have hfl := frame_len l
        have hel := enc_ten (n := l.length) (by omega)
        omega
      obtain ⟨A9, c9, rfl, _, _, _⟩ := hO9.reads
      clear hp3
      go_wp2_with (at_builtin; refine stay ?_)
      refine stay_out ?_
      refine wpList_own (V := New w8 w9) u8E _ rfl (.tmp 44) (.tmp 45) rfl (.slice A9 (frame l).length c9) (frame l).length (u8s (frame l)) rfl hO9 w9.heap.size A n c (u8s l) rfl (Reads.more (Reads.below hla hb9) hb9.size) u8s_one (by omega) ?_
      intro v10 w10 hO10 hj10
      obtain ⟨hO10, hg10⟩ := own_more hg9 hO10 hj10
      rw [← u8s_append] at hO10
      obtain ⟨A10, c10, rfl, hR10, hn10, hm10⟩ := hO10.reads
      have hb10 := below_trans hb8 hg10 hb8.size
      have hp4 := play_any w10 A10 _ c10 (frame l ++ l) hR10 (by omega) A1 k c1 qs ((hqs.below (hg7.trans (hg8.trans hg10))).more (hg7.trans (hg8.trans hg10)).size) hn1 hm1
      clear hO9 hO10 hR10
      go_wp2_with fail
      go_at_call 19
      refine hp4.mono ?_
      rintro e w11 ⟨rfl, hg11⟩
      have hb11 := below_trans hb10 hg11 hb10.size
      clear hp4
      go_wp2_with (go_at_call 15; refine (known_any _).mono ?_; rintro e w12 ⟨rfl, hg12⟩)
      go_ret
      exact ⟨rfl, below_trans hb11 hg12 hb11.size⟩
set_option maxRecDepth 100000 in
set_option maxHeartbeats 4000000 in
theorem plays_g (w : World) (A : Option Addr) (n c : Nat) (l : List UInt8) (hb0 : Bytes w w.heap.size A n l) (hnc : n ≤ c) (hn0 : n ≤ 1048576) (Z : Option Addr) (n' c' : Nat) (q : List Ask) (hq : Asks w w.heap.size Z n' q) (hc' : n' ≤ c') (hcm : c' ≤ maxLen) (hn' : n' ≤ 1048576) (hcase : 300 < n) :
    Calls Try.prog 7 #[.slice A n c, .slice Z n' c'] w fun e w' => e = .returned (.bool true) ∧ Grow w w' := by
  obtain ⟨la, hla⟩ : ∃ la, Bytes w w.heap.size A 300 la := ⟨l.take 300, by
    have := Reads.take hb0 (k := 300) (by omega)
    unfold Bytes
    rw [u8s_take]; exact this⟩
  have k10 : ∀ (vs : Array Value) (w : World), (callFunc 10 vs).run Try.prog w = .ok (.enter 10 vs) w := fun vs w => by go_simp
  go_enter Try.func7, Try.ntmps7
  go_wp2_with fail
  go_loopw [5, 10] (fun s i wr => ∃ (k : Nat) (qs : List Ask), k ≤ n' ∧ i = .int .i64 k ∧ Own wr (New w wr) 41 3 s k (qs.flatMap Ask.cells) ∧ (∀ a ∈ qs, AskIn wr w.heap.size a) ∧ Below w.heap.size w wr) (fun _ i _ => n' - (intOf i).toNat)
  case atStart => exact ⟨0, [], by omega, rfl, Own.nil, by simp, Below.refl _ _⟩
  case round =>
    obtain ⟨k, qs, hkn, rfl, hO, hin, hb⟩ := hrel
    obtain ⟨A1, c1, rfl, hR1, hn1, hm1⟩ := hO.reads
    by_cases hk : k < n'
    · obtain ⟨ad, a, rfl, hadB, hai, e0, e1, e2⟩ := hq.at_ hk
      have hkeep : ∀ p : Addr, p.block < w.heap.size → wr.cell? p = w.cell? p := fun p hp => hb.cell hp
      have f0 := (hkeep (ad.add (k * 3)) (by rw [block_add]; exact hadB)).trans e0
      have f1 := (hkeep ⟨(ad.add (k * 3)).block, (ad.add (k * 3)).off + 1, none⟩ (show (ad.add (k * 3)).block < _ by rw [block_add]; exact hadB)).trans e1
      have f2 := (hkeep ⟨(ad.add (k * 3)).block, (ad.add (k * 3)).off + 2, none⟩ (show (ad.add (k * 3)).block < _ by rw [block_add]; exact hadB)).trans e2
      clear e0 e1 e2
      have hai' := hai.below hb
      obtain ⟨kd, Ab, mb, cb, bs, N⟩ := a
      have hkd := hai.kind
      have hN := hai.num
      dsimp only at f0 f1 f2 hkd hN
      unfold I64 at hkd hN
      obtain ⟨sl, HSL⟩ : ∃ sl : Value, Hid (sl = .slice Ab mb cb) := ⟨_, rfl⟩
      have hga : Grow wr (wr.alloc (.cells #[.int .i64 kd, sl, .int .i64 N] 41)) := (Below.refl wr.heap.size wr).alloc (Nat.le_refl _) _
      have hBx0 := Blk.made wr 41 #[.int .i64 kd, sl, .int .i64 N]
      obtain ⟨x, HX⟩ : ∃ x : Nat, Hid (x = wr.heap.size) := ⟨_, rfl⟩
      obtain ⟨wa, HA⟩ : ∃ wa : World, Hid (wa = wr.alloc (.cells #[.int .i64 kd, sl, .int .i64 N] 41)) := ⟨_, rfl⟩
      have hsa : wa.heap.size = wr.heap.size + 1 := by rw [HA.out]; simp
      rw [← HA.out] at hga
      have hBx : Blk wa x 41 #[.int .i64 kd, sl, .int .i64 N] := by rw [HA.out, HX.out]; exact hBx0
      clear hBx0
      have hw2 : IntKind.i64.wrap (N % 64) = N % 64 := by rw [IntKind.wrap_i64]; omega
      go_wp2_with fail
      rw [← HSL.out, ← HA.out, ← HX.out]
      refine wp_region_reg rfl ?_
      refine reg_flow (AskSt x kd sl N (withinF kd 0 4) (N % 64)) (askSt_ok _ _ _ _ _ _) 0 10 53 [(2, .inl (.int .i64 (withinF kd 0 4))), (7, .inl (undef)), (9, .inl (undef))] rfl (by kernel_rfl) (by kernel_rfl) (by kernel_rfl) ?_ (Just.of_grow (Grow.refl _).drew) hBx ?_
      · intro x hx φ he
        simp only [List.mem_cons, List.not_mem_nil, or_false] at hx
        rcases hx with rfl | rfl | rfl <;> cases he
      intro ops' A' K' T hops hA' hK hT
      refine fl_op1 17 (by rfl) (by decide) (wanted_none (by rfl)) (by rw [hK.out]; rfl) (by rfl) (.tmp 7) (.pointer (some ⟨x, 0, none⟩)) (by rfl) (.pointer (some ⟨x, 0, none⟩)) (fun ρ h1 kk w1 (hg : Just (fun b => b = x) _ w1) hb hf => by go_simp) ?_
      refine fl_op1 18 (by rfl) (by decide) (wanted_none (by rfl)) (by rw [hK.out]; rfl) (by rfl) (.tmp 17) (.pointer (some ⟨x, 0, none⟩)) (by rfl) (.int .i64 kd) (fun ρ h1 kk w1 (hg : Just (fun b => b = x) _ w1) hb hf => by obtain rfl := before_some 0 (by rfl) hb; have hI := hb.1; have c := hI.cell 0; go_simp) ?_
      refine fl_call 19 (by rfl) (by decide) (wanted_none (by rfl)) (.int .i64 (withinF kd 0 4)) (by rw [hK.out]; rfl) 10 _ _ (by rfl) [.int .i64 kd, .int .i64 0, .int .i64 4] (by rfl) k10 (fun kk w1 (hg : Just (fun b => b = x) _ w1) hb hf => calls_behind (by rfl) (by exact grew_same (within_is w1 kd 0 4 hkd (by omega) (by omega) (by omega)))) ?_
      refine fl_op1 20 (by rfl) (by decide) (wanted_none (by rfl)) (by rw [hK.out]; rfl) (by rfl) (.tmp 7) (.pointer (some ⟨x, 0, none⟩)) (by rfl) (.pointer (some ⟨x, 2, none⟩)) (fun ρ h1 kk w1 (hg : Just (fun b => b = x) _ w1) hb hf => by go_simp) ?_
      refine fl_op1 21 (by rfl) (by decide) (wanted_none (by rfl)) (by rw [hK.out]; rfl) (by rfl) (.tmp 20) (.pointer (some ⟨x, 2, none⟩)) (by rfl) (.int .i64 N) (fun ρ h1 kk w1 (hg : Just (fun b => b = x) _ w1) hb hf => by obtain rfl := before_some 0 (by rfl) hb; have hI := hb.1; have c := hI.cell 2; go_simp) ?_
      refine fl_op2 22 (by rfl) (by decide) (wanted_none (by rfl)) (by rw [hK.out]; rfl) (by rfl) (.tmp 21) (.const (.int .i64 63)) (.int .i64 N) (.int .i64 63) (by rfl) (by rfl) (.int .i64 (N % 64)) (fun ρ h1 h2 kk w1 (hg : Just (fun b => b = x) _ w1) hb hf => by have ea := and63 N; go_simp) ?_
      refine fl_op1 23 (by rfl) (by decide) (wanted_none (by rfl)) (by rw [hK.out]; rfl) (by rfl) (.tmp 7) (.pointer (some ⟨x, 0, none⟩)) (by rfl) (.pointer (some ⟨x, 0, none⟩)) (fun ρ h1 kk w1 (hg : Just (fun b => b = x) _ w1) hb hf => by go_simp) ?_
      refine fl_do2 (by rfl) (wanted_none (by rfl)) (undef) (by rw [hK.out]; rfl) (.tmp 23) (.tmp 19) (.pointer (some ⟨x, 0, none⟩)) (.int .i64 (withinF kd 0 4)) (by rfl) (by rfl) (fun ρ h1 h2 kk w1 (hg : Just (fun b => b = x) _ w1) hb hf => by obtain rfl := before_some 0 (by rfl) hb; have hI := hb.1; refine upon_turn 0 (by rfl) ?_; have f := hI.frozen 0; have c := hI.cell 0; exact flowUpon_skip (w' := w1.setCell ⟨x, 0, none⟩ (.int .i64 (withinF kd 0 4))) (by go_simp) ⟨rfl, just_at w1 x 0 _, hI.put 0 _⟩) ?_
      refine fl_op1 24 (by rfl) (by decide) (wanted_none (by rfl)) (by rw [hK.out]; rfl) (by rfl) (.tmp 7) (.pointer (some ⟨x, 0, none⟩)) (by rfl) (.pointer (some ⟨x, 2, none⟩)) (fun ρ h1 kk w1 (hg : Just (fun b => b = x) _ w1) hb hf => by go_simp) ?_
      refine fl_do2 (by rfl) (wanted_none (by rfl)) (undef) (by rw [hK.out]; rfl) (.tmp 24) (.tmp 22) (.pointer (some ⟨x, 2, none⟩)) (.int .i64 (N % 64)) (by rfl) (by rfl) (fun ρ h1 h2 kk w1 (hg : Just (fun b => b = x) _ w1) hb hf => by obtain rfl := before_some 1 (by rfl) hb; have hI := hb.1; refine upon_turn 1 (by rfl) ?_; have f := hI.frozen 2; have c := hI.cell 2; exact flowUpon_skip (w' := w1.setCell ⟨x, 2, none⟩ (.int .i64 (N % 64))) (by go_simp) ⟨rfl, just_at w1 x 2 _, hI.put 2 _⟩) ?_
      refine fl_end (fun _ _ w1 (hg : Just (fun b => b = x) _ w1) hend hfacts => hT _ _ ?_)
      clear hops hA' hK hT
      simp only [putsL, Act.put, List.setIfInBounds_toArray, List.set_cons_zero, List.set_cons_succ]
      refine reg_end ?_
      have hB1 : Blk w1 x 41 #[.int .i64 (withinF kd 0 4), sl, .int .i64 (N % 64)] := hend
      clear hend hfacts
      have hx : w.heap.size ≤ x := by have := HX.out; have := hb.size; omega
      have hb1 := (below_trans hb hga hb.size).trans (hg.below (B := w.heap.size) (fun b h => by rw [h]; exact hx) (by have := hb.size; omega))
      have hO1 : Own w1 (New w w1) 41 3 (.slice A1 k c1) k (qs.flatMap Ask.cells) := by
        refine Own.mono (V := New w wr) (hO.keep fun b h => ?_) fun b h => ⟨h.1, by have := h.2; have := hg.size; omega⟩
        rw [hg.block b (by have := h.2; omega) (by have := h.2; have := HX.out; omega), hga.block b h.2]
      have hin1 : ∀ a ∈ qs, AskIn w1 w.heap.size a := fun a ha => by
        have := (hin a ha).below (hga.mono hb.size)
        exact this.below (hg.below (B := w.heap.size) (fun b h => by rw [h]; exact hx) (by have := hb.size; omega))
      have hnew : AskIn w1 w.heap.size ⟨withinF kd 0 4, Ab, mb, cb, bs, N % 64⟩ := by
        have h1 := (hai.below hb1)
        have hw := withinF_in (n := kd) (lo := 0) (hi := 4) (by omega)
        exact ⟨h1.bytes, h1.le, h1.max, by unfold I64; dsimp only; omega, by unfold I64; dsimp only; omega⟩
      rw [HSL.out] at hB1
      clear hO hin hR1 hb hga hai hai' hBx f0 f1 f2
      have c0 := hB1.cell 0
      have c1' := hB1.cell 1
      have c2 := hB1.cell 2
      go_wp2_with (at_builtin; refine stay ?_)
      refine stay_out ?_
      have hs1 := hb1.size
      have hgB := (Below.refl w1.heap.size w1).alloc (Nat.le_refl _) (.cells #[.int .i64 (withinF kd 0 4), .slice Ab mb cb, .int .i64 (N % 64)] 41)
      refine wpList_own (V := New w w1) askE _ rfl (.tmp 25) (.tmp 27) rfl (.slice A1 k c1) k (qs.flatMap Ask.cells) rfl (hO1.grow (fun b h => h.2) hgB) (w1.heap.size + 1) (some ⟨w1.heap.size, 0, none⟩) 1 1 (Ask.cells ⟨withinF kd 0 4, Ab, mb, cb, bs, N % 64⟩) rfl (reads_laid w1 _ 41 _ rfl _ rfl) (ask_one _) (by omega) ?_
      intro v3 w3 hO3 hj3
      have hs3 := hj3.size
      simp at hs3
      have hg3 : Below w.heap.size w1 w3 := Below.trans (hgB.mono hs1) (hj3.below (B := w.heap.size) (fun b h => h.1) (by simp; omega))
      have hb3 : Below w.heap.size w w3 := hb1.trans hg3
      have hO4 : Own w3 (New w w3) 41 3 v3 (k + 1) ((qs ++ [(⟨withinF kd 0 4, Ab, mb, cb, bs, N % 64⟩ : Ask)]).flatMap Ask.cells) := by
        rw [List.flatMap_append, List.flatMap_cons, List.flatMap_nil, List.append_nil]
        refine hO3.mono fun b h => ?_
        rcases h with h | h
        · exact ⟨h.1, by have := h.2; omega⟩
        · simp at h; exact ⟨by have := h.1; omega, h.2⟩
      have hin3 : ∀ a ∈ qs ++ [(⟨withinF kd 0 4, Ab, mb, cb, bs, N % 64⟩ : Ask)], AskIn w3 w.heap.size a := fun a ha => by
        rcases List.mem_append.1 ha with h | h
        · exact (hin1 a h).below hg3
        · rw [List.mem_singleton.1 h]; exact hnew.below hg3
      clear hO3 hj3 hO1 hin1 hnew hg3
      generalize qs ++ [(⟨withinF kd 0 4, Ab, mb, cb, bs, N % 64⟩ : Ask)] = qs3 at hO4 hin3
      go_wp2_with fail
      go_roundw
      case rel => exact ⟨k + 1, qs3, by omega, by go_num, hO4, hin3, hb3⟩
      case measure => simp [intOf]; omega
    · obtain rfl : k = n' := by omega
      have hqs : Asks wr wr.heap.size A1 k qs := ⟨hR1, fun a ha => (hin a ha).more hb.size⟩
      have hp1 := play_any wr none 0 0 [] Reads.nil (Nat.zero_le _) A1 k c1 qs hqs hn1 hm1
      clear hO hR1 hin
      go_wp2_with fail
      go_at_call 19
      refine hp1.mono ?_
      rintro e w7 ⟨rfl, hg7⟩
      have hb7 := below_trans hb hg7 hb.size
      have hp2 := play_any w7 A 300 c la (Reads.more (Reads.below hla hb7) hb7.size) (by omega) Z k c' q ((hq.below hb7).more hb7.size) hc' hcm
      clear hp1
      go_wp2_with fail
      go_at_call 19
      refine hp2.mono ?_
      rintro e w8 ⟨rfl, hg8⟩
      have hb8 := below_trans hb7 hg8 hb7.size
      have hp3 := rFrame_any w8 A 300 c la (Reads.more (Reads.below hla hb8) hb8.size) (by omega)
      clear hp2
      go_wp2_with fail
      go_at_call 18
      refine hp3.mono ?_
      rintro e w9 ⟨v9, rfl, hO9, hg9⟩
      have hb9 := below_trans hb8 hg9 hb8.size
      have hfb : (frame la).length + 300 ≤ 100000 := by
        have hll := hla.len
        have hfl := frame_len la
        have hel := enc_ten (n := la.length) (by omega)
        omega
      obtain ⟨A9, c9, rfl, _, _, _⟩ := hO9.reads
      clear hp3
      go_wp2_with (at_builtin; refine stay ?_)
      refine stay_out ?_
      refine wpList_own (V := New w8 w9) u8E _ rfl (.tmp 44) (.tmp 45) rfl (.slice A9 (frame la).length c9) (frame la).length (u8s (frame la)) rfl hO9 w9.heap.size A 300 c (u8s la) rfl (Reads.more (Reads.below hla hb9) hb9.size) u8s_one (by omega) ?_
      intro v10 w10 hO10 hj10
      obtain ⟨hO10, hg10⟩ := own_more hg9 hO10 hj10
      rw [← u8s_append] at hO10
      obtain ⟨A10, c10, rfl, hR10, hn10, hm10⟩ := hO10.reads
      have hb10 := below_trans hb8 hg10 hb8.size
      have hp4 := play_any w10 A10 _ c10 (frame la ++ la) hR10 (by omega) A1 k c1 qs ((hqs.below (hg7.trans (hg8.trans hg10))).more (hg7.trans (hg8.trans hg10)).size) hn1 hm1
      clear hO9 hO10 hR10
      go_wp2_with fail
      go_at_call 19
      refine hp4.mono ?_
      rintro e w11 ⟨rfl, hg11⟩
      have hb11 := below_trans hb10 hg11 hb10.size
      clear hp4
      go_wp2_with (go_at_call 15; refine (known_any _).mono ?_; rintro e w12 ⟨rfl, hg12⟩)
      go_ret
      exact ⟨rfl, below_trans hb11 hg12 hb11.size⟩
theorem plays_any (w : World) (A : Option Addr) (n c : Nat) (l : List UInt8) (hb0 : Bytes w w.heap.size A n l) (hnc : n ≤ c) (hn0 : n ≤ 1048576) (Z : Option Addr) (n' c' : Nat) (q : List Ask) (hq : Asks w w.heap.size Z n' q) (hc' : n' ≤ c') (hcm : c' ≤ maxLen) (hn' : n' ≤ 1048576) :
    Calls Try.prog 7 #[.slice A n c, .slice Z n' c'] w fun e w' => e = .returned (.bool true) ∧ Grow w w' := by
  by_cases h1 : n ≤ 300
  · exact plays_s w A n c l hb0 hnc hn0 Z n' c' q hq hc' hcm hn' h1
  · exact plays_g w A n c l hb0 hnc hn0 Z n' c' q hq hc' hcm hn' (by omega)
end Go.Proofs.Ytdpcokekilklfaa
