/- CrcTurns' walk: it answers true for every row, every place, every turn. -/
import Derived.Test.YtiebjjmgbgibcaaTells
import Derived.Test.YtiebjjmgbgibcaaLaw
import Derived.Test.YtiebjjmgbgibcaaFlow
import Derived.Deep.DeepCutAuto
namespace Go.Proofs.Ytiebjjmgbgibcaa
open Go.RowKit Go.Hop Go.ChangeShapes Go.WideShapes Go.ChangeAt

theorem u8s_at (l : List UInt8) (i : Nat) (h : i < l.length) : (u8s l)[i]? = some (.int .u8 ((l.getD i 0).toNat : Int)) := by
  unfold u8s
  rw [List.getElem?_map, List.getElem?_eq_getElem h]
  simp [List.getD, h]
theorem u8s_set (l : List UInt8) (i : Nat) (x : UInt8) : (u8s l).set i (.int .u8 (x.toNat : Int)) = u8s (l.set i x) := by
  unfold u8s; rw [List.map_set]

theorem tb_nat (t : BitVec 32) (j : Nat) : (tb t j).toNat = t.toNat / 2 ^ (8 * j) % 256 := by
  show ((t >>> (8 * j)).setWidth 8).toNat = _
  rw [BitVec.toNat_setWidth, BitVec.toNat_ushiftRight, Nat.shiftRight_eq_div_pow]
theorem xor_u8 (a b : UInt8) : bits BinOp.xor IntKind.u8 (a.toNat : Int) (b.toNat : Int) = ((a ^^^ b).toNat : Int) := by
  rw [u8_xor_nat _ _ a.toNat_lt b.toNat_lt, UInt8.toNat_xor]
theorem bool_eq {a b : Bool} (h : a = b) : a = b := h
theorem eq_turned {X : List UInt8} {N k : Nat} {t : BitVec 32} (hX : X.length = N) (hk : k + 4 ≤ N) : (((crc X).toNat : Int) == ((crc (turned X k t 4)).toNat : Int)) = decide (t = 0#32) := by
  have h := crc_turned X k t (by omega)
  rw [Bool.eq_iff_iff]
  simp only [beq_iff_eq, decide_eq_true_eq]
  rw [← h]
  exact ⟨fun e => BitVec.eq_of_toNat_eq (by omega), fun e => by rw [e]⟩
theorem zero_eq (t : BitVec 32) : (((t.toNat : Nat) : Int) == 0) = decide (t = 0#32) := by
  rw [Bool.eq_iff_iff]
  simp only [beq_iff_eq, decide_eq_true_eq]
  exact ⟨fun e => BitVec.eq_of_toNat_eq (by simp; omega), fun e => by rw [e]; rfl⟩
theorem crc_sums' {X : List UInt8} {N k : Nat} {t : BitVec 32} (hX : X.length = N) (hk : k + 4 ≤ N) : crc (turned (List.replicate N 0) k t 4) ^^^ crc (List.replicate N 0) = crc X ^^^ crc (turned X k t 4) := by
  subst hX; exact (crc_sums X k t hk).symm
theorem turn_round {wr w2 : World} {g3 g4 N c3 c4 : Nat} {X : List UInt8} {t : BitVec 32} {k j : Nat} (hoy : wr.ownsRow w2.heap.size 5 1 (.slice (some ⟨g3, 0, none⟩) N c3) N (u8s (turned X k t j)))
    (hoz : wr.ownsRow g4 5 1 (.slice (some ⟨g4, 0, none⟩) N c4) N (u8s (turned (List.replicate N 0) k t j))) (hb : Below w2.heap.size w2 wr) (hg : g3 < g4) (hj : k + j < N) (hX : X.length = N) (xv : Int) (hx : xv = ((tb t j).toNat : Int)) (h2 : w2.heap.size ≤ g3) :
    ((wr.setCell ⟨g3, k + j, none⟩ (.int .u8 (bits .xor .u8 (((turned X k t j)[k + j]?.getD 0).toNat : Int) xv))).setCell ⟨g4, k + j, none⟩ (.int .u8 xv)).ownsRow w2.heap.size 5 1 (.slice (some ⟨g3, 0, none⟩) N c3) N (u8s (turned X k t (j + 1))) ∧
    ((wr.setCell ⟨g3, k + j, none⟩ (.int .u8 (bits .xor .u8 (((turned X k t j)[k + j]?.getD 0).toNat : Int) xv))).setCell ⟨g4, k + j, none⟩ (.int .u8 xv)).ownsRow g4 5 1 (.slice (some ⟨g4, 0, none⟩) N c4) N (u8s (turned (List.replicate N 0) k t (j + 1))) ∧
    Below w2.heap.size w2 ((wr.setCell ⟨g3, k + j, none⟩ (.int .u8 (bits .xor .u8 (((turned X k t j)[k + j]?.getD 0).toNat : Int) xv))).setCell ⟨g4, k + j, none⟩ (.int .u8 xv)) := by
  subst hx
  rw [xor_u8]
  have hy1 := hoy.stored (k + j) (.int .u8 ((((turned X k t j)[k + j]?.getD 0) ^^^ tb t j).toNat : Int))
  have hz1 : (wr.setCell ⟨g3, k + j, none⟩ (.int .u8 ((((turned X k t j)[k + j]?.getD 0) ^^^ tb t j).toNat : Int))).ownsRow g4 5 1 (.slice (some ⟨g4, 0, none⟩) N c4) N (u8s (turned (List.replicate N 0) k t j)) :=
    hoz.kept hy1.2 (by simp [Value.ownBlock]; omega)
  have hz2 := hz1.stored (k + j) (.int .u8 ((tb t j).toNat : Int))
  have hy2 := hy1.1.kept hz2.2 (by simp [Value.ownBlock]; omega)
  rw [u8s_set] at hy2 hz2
  refine ⟨hy2, ?_, (hb.setCell (p := ⟨g3, k + j, none⟩) h2 _).setCell (p := ⟨g4, k + j, none⟩) (by show _ ≤ g4; omega) _⟩
  have e : (turned (List.replicate N 0) k t j).getD (k + j) 0 ^^^ tb t j = tb t j := by
    rw [turned_get _ k t j (k + j) (by simp; omega) (by simp; omega), if_neg (by omega), noughts_get, UInt8.zero_xor]
  show World.ownsRow _ g4 5 1 _ N (u8s ((turned (List.replicate N 0) k t j).set (k + j) ((turned (List.replicate N 0) k t j).getD (k + j) 0 ^^^ tb t j)))
  rw [e]
  exact hz2.1

set_option maxRecDepth 100000 in
set_option maxHeartbeats 1000000 in
theorem turns_any (A : Option Addr) (n cap : Nat) (l : List UInt8) (at_ : Int) (t : BitVec 32) (w : World) (h : Bytes w w.heap.size A n l) (hc : n ≤ cap) (hn : cap ≤ maxLen) :
    Calls Try.prog 5 #[.slice A n cap, .int .i64 at_, .int .u32 t.toNat] w fun e w' => e = .returned (.bool true) ∧ Below w.heap.size w w' := by
  unfold maxLen at hn
  go_enter Try.func5, Try.ntmps5
  go_upto_if 14 with fail
  go_cut [0] (fun s0 wx => ∃ (n' : Nat) (l' : List UInt8), s0 = .slice A n' cap ∧ n' ≤ 200 ∧ Bytes w w.heap.size A n' l' ∧ wx = w)
  case first =>
    by_cases h200 : 200 < n
    · go_wp2_with fail
      go_meet
      exact ⟨200, l.take 200, rfl, by omega, by have := Reads.take h (k := 200) (by omega); rw [Nat.mul_one] at this; unfold Bytes u8s; rw [List.map_take]; exact this, rfl⟩
    · go_wp2_with fail
      go_meet
      exact ⟨n, l, rfl, by omega, h, rfl⟩
  case rest =>
    obtain ⟨n', l', rfl, hn', hb, rfl⟩ := hcut
    rename_i w
    go_wp2_with (at_builtin; refine stay ?_)
    refine stay_out ?_
    refine wpList_app bytesE _ rfl (.tmp 17) (.tmp 18) rfl wc.heap.size (.slice (some ⟨wc.heap.size, 0, none⟩) 0 0) 0 [] rfl (World.ownsRow_made wc #[] 0 (Nat.le_refl _) (by decide) rfl) wc.heap.size A n' cap (u8s l') rfl (Reads.alloc hb (Nat.le_refl _) _) u8s_one (by omega) (by simp) ?_
    intro v1 w1 hown1 hg1 hat1
    have hb1 : Below wc.heap.size wc w1 := ((Below.refl _ _).alloc (Nat.le_refl _) _).grown hg1 (by simp) (by simp [Value.ownBlock])
    simp only [Nat.zero_add, List.nil_append] at hown1
    clear hg1 hat1
    go_wp2_with (at_builtin; refine stay ?_)
    refine stay_out ?_
    have hl1 : Below w1.heap.size w1 (w1.alloc (.cells #[.int .u8 1, .int .u8 2, .int .u8 3, .int .u8 4] 5)) := (Below.refl _ _).alloc (Nat.le_refl _) _
    have hown1' := own_below hown1 hl1
    refine wpList_app bytesE _ rfl (.tmp 19) (.tmp 20) rfl wc.heap.size v1 n' (u8s l') rfl hown1' (w1.heap.size + 1) (some ⟨w1.heap.size, 0, none⟩) 4 4 [.int .u8 1, .int .u8 2, .int .u8 3, .int .u8 4] rfl (reads_laid w1 _ 5 _ rfl _ rfl) (by simp [Value.oneCell']) (by omega) (by have := hb1.size; simp; omega) ?_
    intro v2 w2 hown2 hg2 hat2
    have hb2 : Below wc.heap.size wc w2 := below_own (below_trans hb1 hl1 hb1.size) hown1' hg2 (Nat.le_refl _) (by have := hb1.size; simp; omega)
    have eX : u8s l' ++ [.int .u8 1, .int .u8 2, .int .u8 3, .int .u8 4] = u8s (l' ++ [1, 2, 3, 4]) := by rw [u8s_append]; rfl
    rw [eX] at hown2
    obtain ⟨A2, c2, rfl, hr2, hc2, hc2m⟩ := own_reads hown2
    unfold maxLen at hc2m
    clear eX hown1 hown1' hl1 hb1 hg2 hat2 hb
    have hq0 : -(200 : Int) ≤ at_.tmod ((n' : Int) + 4 - 3) := by
      have := Int.lt_tmod_of_pos at_ (b := (n' : Int) + 4 - 3) (by omega); omega
    have hq1 : at_.tmod ((n' : Int) + 4 - 3) ≤ 200 := by
      have := Int.tmod_lt_of_pos at_ (b := (n' : Int) + 4 - 3) (by omega); omega
    have hq2 : -((n' : Int) + 4 - 3) < at_.tmod ((n' : Int) + 4 - 3) := Int.lt_tmod_of_pos at_ (by omega)
    have hq3 : at_.tmod ((n' : Int) + 4 - 3) < (n' : Int) + 4 - 3 := Int.tmod_lt_of_pos at_ (by omega)
    go_wp2_with (at_builtin; refine stay ?_)
    obtain ⟨k, hk⟩ : ∃ k : Nat, (at_.tmod ((n' : Int) + 4 - 3) + ((n' : Int) + 4) - 3) % ((n' : Int) + 4 - 3) = (k : Int) := Int.eq_ofNat_of_zero_le (Int.emod_nonneg _ (by omega))
    have hkn : k + 4 ≤ n' + 4 := by
      have := Int.emod_lt_of_pos (at_.tmod ((n' : Int) + 4 - 3) + ((n' : Int) + 4) - 3) (b := (n' : Int) + 4 - 3) (by omega)
      omega
    rw [hk]
    clear hk hq0 hq1 hq2 hq3
    generalize hX : l' ++ [1, 2, 3, 4] = X at hown2 hr2
    have hXl : X.length = n' + 4 := by have := hr2.1; simpa using this
    clear hX
    refine stay_out ?_
    have hl2 : Below w2.heap.size w2 (w2.alloc (.cells #[] 5)) := (Below.refl _ _).alloc (Nat.le_refl _) _
    refine wpList_app bytesE _ rfl (.tmp 35) (.tmp 36) rfl w2.heap.size (.slice (some ⟨w2.heap.size, 0, none⟩) 0 0) 0 [] rfl (World.ownsRow_made w2 #[] 0 (Nat.le_refl _) (by decide) rfl) w2.heap.size A2 (n' + 4) c2 (u8s X) rfl (Reads.below hr2 hl2) u8s_one (by omega) (by simp) ?_
    intro v3 w3 hown3 hg3 hat3
    have hb3 : Below w2.heap.size w2 w3 := hl2.grown hg3 (by simp) (by simp [Value.ownBlock])
    simp only [Nat.zero_add, List.nil_append] at hown3
    have hr3 := Reads.below hr2 hb3
    obtain ⟨A3, c3, rfl, _, hc3, hc3m⟩ := own_reads hown3
    unfold maxLen at hc3m
    clear hg3 hat3 hl2
    obtain ⟨i0, hi, hz0, hz1, hz2⟩ := info_parts u8_info
    go_wp2_with (at_make; refine stay ?_)
    refine stay_out ?_
    refine wpList_make_full _ rfl (.tmp 39) (.tmp 39) 22 rfl w3.heap.size 5 i0 (.int .u8 0) 1 Try.underlying22 hi hz0 hz1 .i64 .i64 _ _ (n' + 4) rfl rfl (by omega) (by omega) (by rw [hz2]; omega) (by unfold maxLen; omega) (Nat.le_refl _) ?_
    intro w4 hown4 hg4
    go_wp2_with fail
    obtain ⟨g3, hA3, hg3, hg2⟩ : ∃ g3, A3 = some ⟨g3, 0, none⟩ ∧ g3 < w3.heap.size ∧ w2.heap.size ≤ g3 := by
      obtain ⟨g, cap', hv, hle, hlt⟩ := hown3.form (by omega)
      injection hv with hv
      exact ⟨g, hv, hlt, hle⟩
    subst hA3
    have hb4 : Below w2.heap.size w2 w4 := hb3.grown hg4 hb3.size (by simp)
    have hown34 : w4.ownsRow w2.heap.size 5 1 (.slice (some ⟨g3, 0, none⟩) (n' + 4) c3) (n' + 4) (u8s X) := hown3.kept hg4 (by simp [Value.ownBlock])
    have eZ : (madeCells (Value.int .u8 0).cells ((n' + 4) * 1)).toList = u8s (List.replicate (n' + 4) 0) := by
      show (madeCells #[Value.int .u8 0] ((n' + 4) * 1)).toList = _
      rw [toList_madeCells_one, Nat.mul_one]
      simp [u8s]
    rw [eZ] at hown4
    clear eZ hown3 hr3
    have hs4 : w3.heap.size ≤ w4.heap.size := hg4.size
    go_loopw [11] (fun i wr => ∃ j : Nat, j ≤ 4 ∧ i = .int .i64 j ∧
      wr.ownsRow w2.heap.size 5 1 (.slice (some ⟨g3, 0, none⟩) (n' + 4) c3) (n' + 4) (u8s (turned X k t j)) ∧
      wr.ownsRow w3.heap.size 5 1 (.slice (some ⟨w3.heap.size, 0, none⟩) (n' + 4) (n' + 4)) (n' + 4) (u8s (turned (List.replicate (n' + 4) 0) k t j)) ∧ Below w2.heap.size w2 wr) (fun i _ => 4 - (intOf i).toNat)
    case atStart => exact ⟨0, by omega, rfl, hown34, hown4, hb4⟩
    case round =>
      obtain ⟨j, hj, rfl, hoy, hoz, hb⟩ := hrel
      by_cases hlt : j < 4
      · have hyl := turned_length X k t j
        have hyc := hoy.cellAt (k + j) (by omega)
        have hyf := hoy.frozenAt (k + j)
        have hzc := hoz.cellAt (k + j) (by omega)
        have hzf := hoz.frozenAt (k + j)
        rw [u8s_at _ _ (by rw [turned_length]; omega)] at hyc
        rw [u8s_at _ _ (by rw [turned_length]; simp; omega)] at hzc
        obtain rfl | rfl | rfl | rfl : j = 0 ∨ j = 1 ∨ j = 2 ∨ j = 3 := by omega
        all_goals
          try simp only [Nat.add_zero] at hyc hyf hzc hzf
          go_wp2_with fail
          go_roundw
        case rel => exact ⟨1, by omega, rfl, turn_round (j := 0) hoy hoz hb hg3 (by omega) hXl _ (by rw [tb_nat]; omega) hg2⟩
        case measure => simp [intOf]
        case rel => exact ⟨2, by omega, rfl, turn_round (j := 1) hoy hoz hb hg3 (by omega) hXl _ (by rw [tb_nat]; omega) hg2⟩
        case measure => simp [intOf]
        case rel => exact ⟨3, by omega, rfl, turn_round (j := 2) hoy hoz hb hg3 (by omega) hXl _ (by rw [tb_nat]; omega) hg2⟩
        case measure => simp [intOf]
        case rel => exact ⟨4, by omega, rfl, turn_round (j := 3) hoy hoz hb hg3 (by omega) hXl _ (by rw [tb_nat]; omega) hg2⟩
        case measure => simp [intOf]
      · obtain rfl : j = 4 := by omega
        go_wp2_with fail
        have hx : Bytes wr wr.heap.size A2 (n' + 4) X := (Reads.below hr2 hb).more hb.size
        obtain ⟨A3, c3', e3, hy, hyc, hym⟩ := own_reads hoy
        have hyb : Bytes wr wr.heap.size (some ⟨g3, 0, none⟩) (n' + 4) (turned X k t 4) := by injection e3 with e3; rw [e3]; exact hy
        have hzb : Bytes wr wr.heap.size (some ⟨w3.heap.size, 0, none⟩) (n' + 4) (turned (List.replicate (n' + 4) 0) k t 4) := by
          obtain ⟨A4, c4', e4, hz, _⟩ := own_reads hoz
          injection e4 with e4; rw [e4]; exact hz
        clear e3 hy hyc hym hoy hoz hr2 hown2
        refine wp_region_flow 27 96 [(1, .inl (.int .u32 (crc X).toNat)), (3, .inl (.int .u32 (crc (turned X k t 4)).toNat)), (10, .inl (.int .u32 (crc X).toNat)), (12, .inl (.int .u32 (crc (turned X k t 4)).toNat)),
          (15, .inl (.int .u32 (crc (turned (List.replicate (n' + 4) 0) k t 4)).toNat)), (18, .inr (IsBytes (List.replicate (n' + 4) 0))), (19, .inl (.int .u32 (crc (List.replicate (n' + 4) 0)).toNat)), (24, .inl (.bool true))] rfl rfl (by kernel_rfl) ?_ ?_
        · intro x hx φ he
          simp only [List.mem_cons, List.not_mem_nil, or_false] at hx
          rcases hx with rfl | rfl | rfl | rfl | rfl | rfl | rfl | rfl <;> cases he
          exact lasting_bytes _
        · intro ops' A' K' T hops hA' hK hT
          have quiet : ∀ {f : FuncId} {args : Array Value} {w1 : World} {v : Value}, Calls Try.prog f args w1 (fun e w' => e = .returned v ∧ w1 = w') → Calls Try.prog f args w1 (fun e w' => e = .returned v ∧ Grow w1 w') :=
            fun hh => hh.mono fun _ _ ⟨he, hw⟩ => ⟨he, hw ▸ Grow.refl _⟩
          have cx : ∀ w1, Grow wr w1 → Calls Try.prog 9 #[.slice A2 (n' + 4) c2] w1 (fun e w' => e = .returned (.int .u32 (crc X).toNat) ∧ Grow w1 w') := fun w1 hg => quiet (of_any A2 (n' + 4) c2 X w1 _ (Reads.below hx hg) (by unfold maxLen; omega))
          have cy : ∀ w1, Grow wr w1 → Calls Try.prog 9 #[.slice (some ⟨g3, 0, none⟩) (n' + 4) c3] w1 (fun e w' => e = .returned (.int .u32 (crc (turned X k t 4)).toNat) ∧ Grow w1 w') := fun w1 hg => quiet (of_any _ (n' + 4) c3 _ w1 _ (Reads.below hyb hg) (by unfold maxLen; omega))
          have cz : ∀ w1, Grow wr w1 → Calls Try.prog 9 #[.slice (some ⟨w3.heap.size, 0, none⟩) (n' + 4) (n' + 4)] w1 (fun e w' => e = .returned (.int .u32 (crc (turned (List.replicate (n' + 4) 0) k t 4)).toNat) ∧ Grow w1 w') := fun w1 hg => quiet (of_any _ (n' + 4) (n' + 4) _ w1 _ (Reads.below hzb hg) (by unfold maxLen; omega))
          have hz0 : ∀ w1, Grow wr w1 → ∃ w2, (Instr.makeSlice 22 (.int .i64 ((n' : Int) + 4)) (.int .i64 ((n' : Int) + 4))).run Try.prog w1 = .ok (.slice (some ⟨w1.heap.size, 0, none⟩) (n' + 4) (n' + 4)) w2 ∧ Grow w1 w2 ∧ IsBytes (List.replicate (n' + 4) 0) (.slice (some ⟨w1.heap.size, 0, none⟩) (n' + 4) (n' + 4)) w2 := by
            intro w1 _
            obtain ⟨w2, hrun, r1, r2⟩ := run_make_full (P := Try.prog) w1 w1.heap.size 22 5 i0 (.int .u8 0) 1 Try.underlying22 hi hz0 hz1 .i64 .i64 (n' + 4) (by rw [hz2]; omega) (by unfold maxLen; omega) (Nat.le_refl _)
            refine ⟨w2, by simpa using hrun, (Below.refl _ _).grown r2 (Nat.le_refl _) (by simp), ?_⟩
            have eZ : (madeCells (Value.int .u8 0).cells ((n' + 4) * 1)).toList = u8s (List.replicate (n' + 4) 0) := by
              show (madeCells #[Value.int .u8 0] ((n' + 4) * 1)).toList = _
              rw [toList_madeCells_one, Nat.mul_one]
              simp [u8s]
            rw [eZ] at r1
            obtain ⟨A5, c5, e5, hr5, h5, h5m⟩ := own_reads r1
            exact ⟨A5, _, c5, e5, hr5, h5, h5m⟩
          have k9 : ∀ (vs : Array Value) (w : World), (callFunc 9 vs).run Try.prog w = .ok (.enter 9 vs) w := fun vs w => by go_simp
          have k8 : ∀ (vs : Array Value) (w : World), (callFunc 8 vs).run Try.prog w = .ok (.enter 8 vs) w := fun vs w => by go_simp
          have ES := Lib.hid (crc_sums' hXl (t := t) hkn)
          refine fl_mv 70 (by rfl) (by decide) (wanted_none (by rfl)) (by rw [hK.out]; rfl) _ (Or.inl (by rfl)) _ (by rfl) ?_
          refine fl_call 71 (by rfl) (by decide) (wanted_none (by rfl)) _ (by rw [hK.out]; rfl) 9 _ _ (by rfl) _ (by rfl) k9 (fun w1 hg _ => cx w1 hg) ?_
          refine fl_mv 72 (by rfl) (by decide) (wanted_none (by rfl)) (by rw [hK.out]; rfl) _ (Or.inl (by rfl)) _ (by rfl) ?_
          refine fl_call 73 (by rfl) (by decide) (wanted_none (by rfl)) _ (by rw [hK.out]; rfl) 9 _ _ (by rfl) _ (by rfl) k9 (fun w1 hg hf => cy w1 hg) ?_
          refine fl_op2 74 (by rfl) (by decide) (wanted_none (by rfl)) (by rw [hK.out]; rfl) (.tmp 71) (.tmp 73) (.int .u32 (crc X).toNat) (.int .u32 (crc (turned X k t 4)).toNat) (by rfl) (by rfl) (.bool (decide (t = 0#32))) (fun ρ h1 h2 w1 _ _ => by go_simp; exact eq_turned hXl hkn) ?_
          refine fl_mv 75 (by rfl) (by decide) (wanted_none (by rfl)) (by rw [hK.out]; rfl) _ (Or.inl (by rfl)) _ (by rfl) ?_
          refine fl_op2 76 (by rfl) (by decide) (wanted_none (by rfl)) (by rw [hK.out]; rfl) (.tmp 75) (.const (.int .u32 0)) (.int .u32 t.toNat) (.int .u32 0) (by rfl) (by rfl) (.bool (decide (t = 0#32))) (fun ρ h1 h2 w1 _ _ => by go_simp; exact zero_eq t) ?_
          refine fl_op2 77 (by rfl) (by decide) (wanted_none (by rfl)) (by rw [hK.out]; rfl) (.tmp 74) (.tmp 76) (.bool (decide (t = 0#32))) (.bool (decide (t = 0#32))) (by rfl) (by rfl) (.bool true) (fun ρ h1 h2 w1 _ _ => by go_simp) ?_
          refine fl_mv 78 (by rfl) (by decide) (wanted_none (by rfl)) (by rw [hK.out]; rfl) _ (Or.inl (by rfl)) _ (by rfl) ?_
          refine fl_mv 79 (by rfl) (by decide) (wanted_if hops 8 true (by rfl) 78 (by rfl) true (by rfl)) (by rw [hK.out]; rfl) _ (Or.inl (by rfl)) _ (by rfl) ?_
          refine fl_call 80 (by rfl) (by decide) (wanted_if hops 8 true (by rfl) 78 (by rfl) true (by rfl)) _ (by rw [hK.out]; rfl) 9 _ _ (by rfl) _ (by rfl) k9 (fun w1 hg hf => cx w1 hg) ?_
          refine fl_mv 81 (by rfl) (by decide) (wanted_if hops 8 true (by rfl) 78 (by rfl) true (by rfl)) (by rw [hK.out]; rfl) _ (Or.inl (by rfl)) _ (by rfl) ?_
          refine fl_call 82 (by rfl) (by decide) (wanted_if hops 8 true (by rfl) 78 (by rfl) true (by rfl)) _ (by rw [hK.out]; rfl) 9 _ _ (by rfl) _ (by rfl) k9 (fun w1 hg hf => cy w1 hg) ?_
          refine fl_op2 83 (by rfl) (by decide) (wanted_if hops 8 true (by rfl) 78 (by rfl) true (by rfl)) (by rw [hK.out]; rfl) (.tmp 80) (.tmp 82) (.int .u32 (crc X).toNat) (.int .u32 (crc (turned X k t 4)).toNat) (by rfl) (by rfl) (.int .u32 (crc X ^^^ crc (turned X k t 4)).toNat) (fun ρ h1 h2 w1 _ _ => by go_simp; exact xor32 _ _) ?_
          refine fl_mv 84 (by rfl) (by decide) (wanted_if hops 8 true (by rfl) 78 (by rfl) true (by rfl)) (by rw [hK.out]; rfl) _ (Or.inl (by rfl)) _ (by rfl) ?_
          refine fl_call 85 (by rfl) (by decide) (wanted_if hops 8 true (by rfl) 78 (by rfl) true (by rfl)) _ (by rw [hK.out]; rfl) 9 _ _ (by rfl) _ (by rfl) k9 (fun w1 hg hf => cz w1 hg) ?_
          refine fl_mv 86 (by rfl) (by decide) (wanted_if hops 8 true (by rfl) 78 (by rfl) true (by rfl)) (by rw [hK.out]; rfl) _ (Or.inl (by rfl)) _ (by rfl) ?_
          refine fl_op1 87 (by rfl) (by decide) (wanted_if hops 8 true (by rfl) 78 (by rfl) true (by rfl)) (by rw [hK.out]; rfl) (.tmp 86) (.slice A2 (n' + 4) c2) (by rfl) (.int .i64 ((n' : Int) + 4)) (fun ρ h1 w1 _ _ => by go_simp) ?_
          refine fl_any 88 (by rfl) (by decide) (wanted_if hops 8 true (by rfl) 78 (by rfl) true (by rfl)) _ (by rw [hK.out]; rfl) (fun w1 hg _ => ?_) (fun v => ?_)
          · obtain ⟨w2', hrun, h1, h2⟩ := hz0 w1 hg
            refine flowUpon_value (u := .slice (some ⟨w1.heap.size, 0, none⟩) (n' + 4) (n' + 4)) (w := w2') ?_ ⟨h1, h2⟩
            have r1 : ∀ ρ : Operand → Value, ρ (.tmp 87) = .int .i64 ((n' : Int) + 4) → (execOp ρ { dst := some 88, op := .makeSlice 22 (.tmp 87) (.tmp 87), type := 22, pos := "law.go:48", after := #[], guard := none }).run Try.prog w1 = .ok (.value (.slice (some ⟨w1.heap.size, 0, none⟩) (n' + 4) (n' + 4))) w2' := fun ρ h => by go_simp
            exact r1 _ (by rfl)
          have c0 : ∀ w1, Grow wr w1 → IsBytes (List.replicate (n' + 4) 0) v w1 → Calls Try.prog 9 [v].toArray w1 (fun e w' => e = .returned (.int .u32 (crc (List.replicate (n' + 4) 0)).toNat) ∧ Grow w1 w') := by
            intro w1 _ ⟨A6, n6, c6, e6, h6, _, h6m⟩
            subst e6
            have := h6.len
            exact grew_same (of_any A6 n6 c6 _ w1 _ h6 (by omega))
          refine fl_call 89 (by rfl) (by decide) (wanted_if hops 8 true (by rfl) 78 (by rfl) true (by rfl)) _ (by rw [hK.out]; rfl) 9 _ _ (by rfl) _ (by rfl) k9 (fun w1 hg hf => c0 w1 hg (facts_take hf (by rw [hA'.out]; kernel_rfl))) ?_
          refine fl_op2 90 (by rfl) (by decide) (wanted_if hops 8 true (by rfl) 78 (by rfl) true (by rfl)) (by rw [hK.out]; rfl) (.tmp 85) (.tmp 89) (.int .u32 (crc (turned (List.replicate (n' + 4) 0) k t 4)).toNat) (.int .u32 (crc (List.replicate (n' + 4) 0)).toNat) (by rfl) (by rfl) (.int .u32 (crc X ^^^ crc (turned X k t 4)).toNat) (fun ρ h1 h2 w1 _ _ => by go_simp; rw [xor32, ES.out, BitVec.toNat_xor]) ?_
          refine fl_op2 91 (by rfl) (by decide) (wanted_if hops 8 true (by rfl) 78 (by rfl) true (by rfl)) (by rw [hK.out]; rfl) (.tmp 83) (.tmp 90) (.int .u32 (crc X ^^^ crc (turned X k t 4)).toNat) (.int .u32 (crc X ^^^ crc (turned X k t 4)).toNat) (by rfl) (by rfl) (.bool true) (fun ρ h1 h2 w1 _ _ => by go_simp) ?_
          refine fl_pick 92 (by rfl) (by decide) (wanted_none (by rfl)) (by rw [hK.out]; rfl) _ _ _ (by rfl) true (by rfl) _ (by rfl) ?_
          refine fl_mv 93 (by rfl) (by decide) (wanted_none (by rfl)) (by rw [hK.out]; rfl) _ (Or.inl (by rfl)) _ (by rfl) ?_
          refine fl_call 94 (by rfl) (by decide) (wanted_if hops 23 true (by rfl) 93 (by rfl) true (by rfl)) _ (by rw [hK.out]; rfl) 8 _ _ (by rfl) _ (by rfl) k8 (fun w1 hg hf => known_any w1) ?_
          refine fl_pick 95 (by rfl) (by decide) (wanted_none (by rfl)) (by rw [hK.out]; rfl) _ _ _ (by rfl) true (by rfl) _ (by rfl) ?_
          refine fl_mv 6 (by rfl) (by decide) (wanted_none (by rfl)) (by rw [hK.out]; rfl) _ (Or.inr (by rfl)) _ (by rfl) ?_
          refine fl_end (fun _ _ w1 hg _ => hT _ _ ?_)
          simp only [putsL, Act.put, List.setIfInBounds_toArray, List.set_cons_zero, List.set_cons_succ, List.drop_succ_cons, List.drop_zero]
          go_wp2_with fail
          go_ret
          exact ⟨rfl, below_trans (below_trans hb2 hb hb2.size) hg (Nat.le_trans hb2.size hb.size)⟩
end Go.Proofs.Ytiebjjmgbgibcaa
