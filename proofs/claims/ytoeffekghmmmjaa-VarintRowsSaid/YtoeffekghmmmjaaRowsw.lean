/- VarintRows: its walk. -/
import Derived.Test.YtoeffekghmmmjaaWithin
namespace Go.Proofs.Ytoeffekghmmmjaa
open Go.RowKit Go.Hop
def rowsOf (l : List Int) (i : Nat) : List UInt8 := (l.take i).flatMap fun z => enc z.toNat
theorem rowsOf_succ (l : List Int) (i : Nat) (hi : i < l.length) : rowsOf l (i + 1) = rowsOf l i ++ enc l[i].toNat := by
  unfold rowsOf
  rw [List.take_succ_eq_append_getElem hi, List.flatMap_append, List.flatMap_cons, List.flatMap_nil, List.append_nil]
theorem rowsOf_prefix (l : List Int) : ∀ (k i : Nat), i ≤ k → k ≤ l.length → ∃ T, rowsOf l k = rowsOf l i ++ T
  | 0, i, h, _ => ⟨[], by rw [show i = 0 by omega]; simp⟩
  | k + 1, i, h, hk => by
    by_cases he : i = k + 1
    · exact ⟨[], by rw [he]; simp⟩
    · obtain ⟨T, hT⟩ := rowsOf_prefix l k i (by omega) (by omega)
      exact ⟨T ++ enc l[k].toNat, by rw [rowsOf_succ l k (by omega), hT, List.append_assoc]⟩
set_option maxRecDepth 100000 in
set_option maxHeartbeats 4000000 in
theorem rows_lts (w : World) (A : Option Addr) (n c : Nat) (l : List Int) (hr : Reads w w.heap.size 1 A n (l.map (Value.int .u64))) (hw : ∀ z ∈ l, 0 ≤ z ∧ z < 18446744073709551616) (s : ByteArray) (hs0 : s.size ≤ 9223372036854775807) (x : Int) (hx : -9223372036854775808 ≤ x ∧ x ≤ 9223372036854775807) (hcase : s.size ≤ 100) (hnm : n ≤ 9223372036854775807) (hkc : n < 20) :
    Calls Try.prog 7 #[.slice A n c, .string s, .int .i64 x] w fun e w' => e = .returned (.bool true) ∧ Grow w w' := by
  have hll : l.length = n := by have := hr.1; simpa using this
  go_enter Try.func7, Try.ntmps7
  go_wp2_with fail
  obtain ⟨S, rfl⟩ : ∃ S : ByteArray, S = s := ⟨_, rfl⟩
  have hs : S.size ≤ 1048576 := by omega
  go_loopw [7, 9] (fun bv iv wr => ∃ (i m : Nat) (A1 : Option Addr) (c1 : Nat), i ≤ n ∧ iv = .int .i64 i ∧ bv = .slice A1 m c1 ∧ Bytes wr wr.heap.size A1 m (rowsOf l i) ∧ m ≤ c1 ∧ c1 ≤ maxLen ∧ m ≤ 10 * i ∧ Grow w wr) (fun _ iv _ => n - (intOf iv).toNat)
  case atStart => exact ⟨0, 0, none, 0, by omega, rfl, rfl, Reads.nil, Nat.le_refl _, Nat.zero_le _, by omega, Grow.refl _⟩
  case round =>
    obtain ⟨i, m, A1, c1, hiK, rfl, rfl, hB, hmc, hcm, hm10, hg⟩ := hrel
    by_cases hi : i < n
    · obtain ⟨ad, u, rfl, hadB, hxu, hcell0⟩ := hr.at_ (show i < n by omega)
      have hil : i < l.length := by omega
      rw [List.getElem?_map, List.getElem?_eq_getElem hil] at hxu
      injection hxu with hxu
      have hz := hw _ (List.getElem_mem hil)
      obtain ⟨q, HQ⟩ : ∃ q : Nat, Hid (q = l[i].toNat) := ⟨l[i].toNat, rfl⟩
      have hzq : l[i] = (q : Int) := by rw [HQ.out]; omega
      have hq : q < 18446744073709551616 := by rw [HQ.out]; omega
      rw [hzq] at hxu
      subst hxu
      have hcell : wr.cell? (ad.add i) = some (.int .u64 (q : Int)) := by rw [hg.cell (by rw [block_add]; exact hadB)]; exact hcell0
      have hrow : rowsOf l (i + 1) = rowsOf l i ++ enc q := by rw [HQ.out]; exact rowsOf_succ l i hil
      have HROW := Lib.hid hrow
      clear hrow hzq hz hcell0
      go_wp2_with fail
      go_at_call 8
      refine (Put_any wr A1 m c1 (rowsOf l i) hB (by omega) q hq).mono ?_
      rintro e w3 ⟨v3, rfl, hO3, hg3⟩
      rw [← HROW.out] at hO3
      have hL := enc_ten hq
      obtain ⟨m3, HM3⟩ : ∃ m3, Hid (m3 = m + (enc q).length) := ⟨_, rfl⟩
      have hm3 : m3 ≤ 10 * (i + 1) := by rw [HM3.out]; omega
      rw [← HM3.out] at hO3
      clear hL hB
      obtain ⟨A3, c3, rfl, hR3, hn3, hmx3⟩ := hO3.reads
      have hR3 : Bytes w3 w3.heap.size A3 m3 (rowsOf l (i + 1)) := hR3
      have hgo := hg.trans hg3
      clear hO3 hg hg3 hcell
      go_wp2_with fail
      go_roundw
      case rel => exact ⟨i + 1, m3, A3, c3, by omega, by go_num, rfl, hR3, hn3, hmx3, hm3, hgo⟩
      case measure => simp [intOf]; omega
    · obtain rfl : i = n := by omega
      obtain ⟨SB, HSB⟩ : ∃ SB : List UInt8, Hid (SB = S.data.toList) := ⟨_, rfl⟩
      have hSBl : SB.length = S.size := by rw [HSB.out, Array.length_toList]; rfl
      have hSB : (⟨SB.toArray⟩ : ByteArray) = S := by rw [HSB.out]
      obtain ⟨L2, HL2⟩ : ∃ L2, Hid (L2 = (enc S.size).length) := ⟨_, rfl⟩
      have hL2 : 1 ≤ L2 ∧ L2 ≤ 10 := by rw [HL2.out]; exact ⟨enc_pos _, enc_ten (by omega)⟩
      have hRm : (rowsOf l i).length = m := hB.len
      obtain ⟨R, HR⟩ : ∃ R : List UInt8, Hid (R = rowsOf l i) := ⟨_, rfl⟩
      rw [← HR.out] at hB hRm
      obtain ⟨T, HT⟩ : ∃ T : List UInt8, Hid (T = enc S.size ++ SB) := ⟨_, rfl⟩
      have hTl : T.length = L2 + S.size := by rw [HT.out, List.length_append, hSBl, HL2.out]
      have HSB2 := Lib.hid hSB
      have HRM := Lib.hid hRm
      have HTL := Lib.hid hTl
      have HSL := Lib.hid hSBl
      clear hSB hRm hTl hSBl
      go_wp2_with fail
      go_at_call 18
      refine (Text_any wr A1 m c1 R hB (by omega) S (by omega)).mono ?_
      rintro e w2 ⟨v2, rfl, hO2, hg2⟩
      rw [List.append_assoc, ← HSB.out, ← HT.out, ← HL2.out] at hO2
      obtain ⟨N, HN⟩ : ∃ N, Hid (N = m + L2 + S.size) := ⟨_, rfl⟩
      have hN : m < N ∧ N ≤ 1048800 := by rw [HN.out]; omega
      rw [← HN.out] at hO2
      obtain ⟨A2, c2, rfl, hR2, hn2, hm2⟩ := hO2.reads
      have hX : Bytes w2 w2.heap.size A2 N (R ++ T) := hR2
      have hgo := hg.trans hg2
      clear hO2 hR2 hB hg hg2
      have hd1 : decide (N ≤ m) = false := decide_eq_false (by omega)
      go_wp2_with fail
      clear hd1
      go_loopw [11, 12] (fun atv iv wq => ∃ j : Nat, j ≤ i ∧ iv = .int .i64 j ∧ atv = .int .i64 ((rowsOf l j).length : Int) ∧ wq = w2) (fun _ iv _ => i - (intOf iv).toNat)
      case atStart => exact ⟨0, by omega, rfl, rfl, rfl⟩
      case round =>
        obtain ⟨j, hjI, rfl, rfl, rfl⟩ := hrel
        obtain ⟨a, HA⟩ : ∃ a, Hid (a = (rowsOf l j).length) := ⟨_, rfl⟩
        rw [← HA.out]
        by_cases hj : j < i
        · obtain ⟨ad, u, rfl, hadB, hxu, hcell0⟩ := hr.at_ (show j < i by omega)
          have hjl : j < l.length := by omega
          rw [List.getElem?_map, List.getElem?_eq_getElem hjl] at hxu
          injection hxu with hxu
          have hz := hw _ (List.getElem_mem hjl)
          obtain ⟨q, HQ⟩ : ∃ q : Nat, Hid (q = l[j].toNat) := ⟨l[j].toNat, rfl⟩
          have hzq : l[j] = (q : Int) := by rw [HQ.out]; omega
          have hq : q < 18446744073709551616 := by rw [HQ.out]; omega
          rw [hzq] at hxu
          subst hxu
          have hcell : wr.cell? (ad.add j) = some (.int .u64 (q : Int)) := by rw [hgo.cell (by rw [block_add]; exact hadB)]; exact hcell0
          have hrow : rowsOf l (j + 1) = rowsOf l j ++ enc q := by rw [HQ.out]; exact rowsOf_succ l j hjl
          obtain ⟨T', hT'⟩ := rowsOf_prefix l i (j + 1) (by omega) (by omega)
          obtain ⟨Lq, HLq⟩ : ∃ L, Hid (L = (enc q).length) := ⟨_, rfl⟩
          have hLq : 1 ≤ Lq ∧ Lq ≤ 10 := by rw [HLq.out]; exact ⟨enc_pos _, enc_ten hq⟩
          have hlen1 : (rowsOf l (j + 1)).length = a + Lq := by rw [hrow, List.length_append, ← HA.out, ← HLq.out]
          have hRe : R = rowsOf l j ++ (enc q ++ T') := by rw [HR.out, hT', hrow, List.append_assoc]
          have ham : a + Lq ≤ m := by
            have h1 := HRM.out
            rw [hRe, List.length_append, List.length_append, ← HA.out, ← HLq.out] at h1
            omega
          have hdrop : (R ++ T).drop a = enc q ++ (T' ++ T) := by
            rw [hRe, HA.out, List.append_assoc, List.drop_left, List.append_assoc]
          have hXd : Bytes wr wr.heap.size (A2.map (·.add a)) (N - a) (enc q ++ (T' ++ T)) := by
            have h1 := Reads.cut hX (k := a) (by omega) hn2
            rw [if_neg (by omega), ← u8s_drop, hdrop, Nat.mul_one] at h1
            exact h1
          have HLEN := Lib.hid hlen1
          have hca : ¬ c2 = a := by omega
          clear hzq hz hcell0 hrow hT' hRe hdrop hlen1
          go_wp2_with fail
          go_at_call 9
          refine (Get_any wr _ (A2.map (·.add a)) (N - a) (c2 - a) _ hXd (by unfold maxLen at hm2 ⊢; omega)).mono ?_
          rintro e w4 ⟨v, k, hG, rfl, rfl⟩
          obtain ⟨hv, hk⟩ := hG.one (n' := q) (k' := (enc q).length) (.inl ⟨hq, List.prefix_append _ _, rfl⟩)
          rw [← HLq.out] at hk
          obtain rfl : q = v := hv.symm
          obtain rfl : k = Lq := hk
          clear hG hXd
          have hd2 : decide ((k : Int) < 1) = false := decide_eq_false (by omega)
          go_wp2_with fail
          go_roundw
          case rel => exact ⟨j + 1, by omega, by go_num, by rw [HLEN.out]; push_cast; rfl, trivial⟩
          case measure => simp [intOf]; omega
        · have hjj : j = i := by omega
          have ham : a = m := by rw [HA.out, hjj, ← HR.out]; exact HRM.out
          subst ham
          have hXm : Bytes wr wr.heap.size (A2.map (·.add a)) (N - a) T := by
            have h1 := Reads.cut hX (k := a) (by omega) hn2
            rw [if_neg (by omega), ← u8s_drop, ← HRM.out, List.drop_left, HRM.out, Nat.mul_one] at h1
            exact h1
          have hca : ¬ c2 = a := by omega
          have hC0 : CutIs T SB (N - a) := .inl ⟨by rw [HSL.out]; omega, by rw [HSL.out, HT.out]; exact List.prefix_refl _, by rw [HSL.out, ← HL2.out, HN.out]; omega⟩
          have HC0 := Lib.hid hC0
          clear hC0 HR hX
          subst hjj
          go_wp2_with fail
          go_at_call 19
          refine (Cut_any wr _ (A2.map (·.add a)) (N - a) (c2 - a) T hXm (Nat.le_refl _) (by omega) (by unfold maxLen at hm2 ⊢; omega)).mono ?_
          rintro e w3 ⟨t, k, hC, rfl, hg3⟩
          obtain ⟨ht, hk⟩ := hC.one HC0.out
          obtain rfl : SB = t := ht.symm
          subst hk
          rw [HSB2.out]
          clear hC
          have hgo3 := hgo.trans hg3
          have hX3 : Bytes w3 w3.heap.size (A2.map (·.add a)) (N - a) T := Reads.more (Reads.below hXm hg3) hg3.size
          have hNl : N - a = L2 + S.size := by rw [HN.out]; omega
          have HNL := Lib.hid hNl
          clear hNl
          go_wp2_with fail
          go_at_call 17
          refine (within_nat _ x 0 _ hx (by omega) (by omega) (by omega)).mono ?_
          rintro e w4 ⟨p, hp0, hp1, rfl, rfl⟩
          have hpN : p < N - a := by omega
          clear hp0 hp1
          have hXp : Bytes w3 w3.heap.size (A2.map (·.add a)) p (T.take p) := by
            have := Reads.take hX3 (k := p) (by omega)
            unfold Bytes
            rw [u8s_take]; exact this
          have hno : ∀ t2 k2, CutIs (T.take p) t2 k2 → k2 = 0 := fun t2 k2 h => (h.one (CutIs.none fun t' ht' hp => by
            have h1 : enc t'.length ++ t' <+: T := hp.trans (List.take_prefix _ _)
            have h2 : enc S.size ++ SB <+: T := by rw [← HT.out]; exact List.prefix_refl _
            have h3 := hp.length_le
            rw [List.length_take] at h3
            have h4 : t' = SB := cut_prefix h1 (by rw [HSL.out]; exact h2)
            rw [h4, List.length_append, HSL.out, ← HL2.out] at h3
            have := HNL.out
            omega)).2
          have hcp : ¬ (c2 : Int) < (a : Int) + (p : Int) := by omega
          have hcp2 : ¬ (a : Int) + (p : Int) < (a : Int) := by omega
          go_wp2_with fail
          go_at_call 19
          refine (Cut_any w3 _ (A2.map (·.add a)) p (c2 - a) (T.take p) hXp (Nat.le_refl _) (by omega) (by unfold maxLen at hm2 ⊢; omega)).mono ?_
          rintro e w5 ⟨t2, k2, hC2, rfl, hg5⟩
          obtain rfl := hno t2 k2 hC2
          clear hno hC2 hXp hX3 hXm
          have hcast : ((N - a : Nat) : Int) = (N : Int) - (a : Int) := by omega
          go_wp2_with (go_at_call 12; refine (known_any _).mono ?_; rintro e wk ⟨rfl, hgk⟩)
          go_ret
          exact ⟨rfl, (hgo3.trans hg5).trans hgk⟩
set_option maxRecDepth 100000 in
set_option maxHeartbeats 4000000 in
theorem rows_ltg (w : World) (A : Option Addr) (n c : Nat) (l : List Int) (hr : Reads w w.heap.size 1 A n (l.map (Value.int .u64))) (hw : ∀ z ∈ l, 0 ≤ z ∧ z < 18446744073709551616) (s : ByteArray) (hs0 : s.size ≤ 9223372036854775807) (x : Int) (hx : -9223372036854775808 ≤ x ∧ x ≤ 9223372036854775807) (hcase : 100 < s.size) (hnm : n ≤ 9223372036854775807) (hkc : n < 20) :
    Calls Try.prog 7 #[.slice A n c, .string s, .int .i64 x] w fun e w' => e = .returned (.bool true) ∧ Grow w w' := by
  have hll : l.length = n := by have := hr.1; simpa using this
  go_enter Try.func7, Try.ntmps7
  go_wp2_with fail
  obtain ⟨S, HS⟩ : ∃ S : ByteArray, Hid (S = s.extract 0 100) := ⟨_, rfl⟩
  rw [← HS.out]
  have hs : S.size ≤ 1048576 := by rw [HS.out, ByteArray.size_extract]; omega
  try rw [show decide ((100 : Int) < (s.size : Int)) = true from decide_eq_true (by omega)]
  go_loopw [7, 9] (fun bv iv wr => ∃ (i m : Nat) (A1 : Option Addr) (c1 : Nat), i ≤ n ∧ iv = .int .i64 i ∧ bv = .slice A1 m c1 ∧ Bytes wr wr.heap.size A1 m (rowsOf l i) ∧ m ≤ c1 ∧ c1 ≤ maxLen ∧ m ≤ 10 * i ∧ Grow w wr) (fun _ iv _ => n - (intOf iv).toNat)
  case atStart => exact ⟨0, 0, none, 0, by omega, rfl, rfl, Reads.nil, Nat.le_refl _, Nat.zero_le _, by omega, Grow.refl _⟩
  case round =>
    obtain ⟨i, m, A1, c1, hiK, rfl, rfl, hB, hmc, hcm, hm10, hg⟩ := hrel
    by_cases hi : i < n
    · obtain ⟨ad, u, rfl, hadB, hxu, hcell0⟩ := hr.at_ (show i < n by omega)
      have hil : i < l.length := by omega
      rw [List.getElem?_map, List.getElem?_eq_getElem hil] at hxu
      injection hxu with hxu
      have hz := hw _ (List.getElem_mem hil)
      obtain ⟨q, HQ⟩ : ∃ q : Nat, Hid (q = l[i].toNat) := ⟨l[i].toNat, rfl⟩
      have hzq : l[i] = (q : Int) := by rw [HQ.out]; omega
      have hq : q < 18446744073709551616 := by rw [HQ.out]; omega
      rw [hzq] at hxu
      subst hxu
      have hcell : wr.cell? (ad.add i) = some (.int .u64 (q : Int)) := by rw [hg.cell (by rw [block_add]; exact hadB)]; exact hcell0
      have hrow : rowsOf l (i + 1) = rowsOf l i ++ enc q := by rw [HQ.out]; exact rowsOf_succ l i hil
      have HROW := Lib.hid hrow
      clear hrow hzq hz hcell0
      go_wp2_with fail
      go_at_call 8
      refine (Put_any wr A1 m c1 (rowsOf l i) hB (by omega) q hq).mono ?_
      rintro e w3 ⟨v3, rfl, hO3, hg3⟩
      rw [← HROW.out] at hO3
      have hL := enc_ten hq
      obtain ⟨m3, HM3⟩ : ∃ m3, Hid (m3 = m + (enc q).length) := ⟨_, rfl⟩
      have hm3 : m3 ≤ 10 * (i + 1) := by rw [HM3.out]; omega
      rw [← HM3.out] at hO3
      clear hL hB
      obtain ⟨A3, c3, rfl, hR3, hn3, hmx3⟩ := hO3.reads
      have hR3 : Bytes w3 w3.heap.size A3 m3 (rowsOf l (i + 1)) := hR3
      have hgo := hg.trans hg3
      clear hO3 hg hg3 hcell
      go_wp2_with fail
      go_roundw
      case rel => exact ⟨i + 1, m3, A3, c3, by omega, by go_num, rfl, hR3, hn3, hmx3, hm3, hgo⟩
      case measure => simp [intOf]; omega
    · obtain rfl : i = n := by omega
      obtain ⟨SB, HSB⟩ : ∃ SB : List UInt8, Hid (SB = S.data.toList) := ⟨_, rfl⟩
      have hSBl : SB.length = S.size := by rw [HSB.out, Array.length_toList]; rfl
      have hSB : (⟨SB.toArray⟩ : ByteArray) = S := by rw [HSB.out]
      obtain ⟨L2, HL2⟩ : ∃ L2, Hid (L2 = (enc S.size).length) := ⟨_, rfl⟩
      have hL2 : 1 ≤ L2 ∧ L2 ≤ 10 := by rw [HL2.out]; exact ⟨enc_pos _, enc_ten (by omega)⟩
      have hRm : (rowsOf l i).length = m := hB.len
      obtain ⟨R, HR⟩ : ∃ R : List UInt8, Hid (R = rowsOf l i) := ⟨_, rfl⟩
      rw [← HR.out] at hB hRm
      obtain ⟨T, HT⟩ : ∃ T : List UInt8, Hid (T = enc S.size ++ SB) := ⟨_, rfl⟩
      have hTl : T.length = L2 + S.size := by rw [HT.out, List.length_append, hSBl, HL2.out]
      have HSB2 := Lib.hid hSB
      have HRM := Lib.hid hRm
      have HTL := Lib.hid hTl
      have HSL := Lib.hid hSBl
      clear hSB hRm hTl hSBl
      go_wp2_with fail
      go_at_call 18
      refine (Text_any wr A1 m c1 R hB (by omega) S (by omega)).mono ?_
      rintro e w2 ⟨v2, rfl, hO2, hg2⟩
      rw [List.append_assoc, ← HSB.out, ← HT.out, ← HL2.out] at hO2
      obtain ⟨N, HN⟩ : ∃ N, Hid (N = m + L2 + S.size) := ⟨_, rfl⟩
      have hN : m < N ∧ N ≤ 1048800 := by rw [HN.out]; omega
      rw [← HN.out] at hO2
      obtain ⟨A2, c2, rfl, hR2, hn2, hm2⟩ := hO2.reads
      have hX : Bytes w2 w2.heap.size A2 N (R ++ T) := hR2
      have hgo := hg.trans hg2
      clear hO2 hR2 hB hg hg2
      have hd1 : decide (N ≤ m) = false := decide_eq_false (by omega)
      go_wp2_with fail
      clear hd1
      go_loopw [11, 12] (fun atv iv wq => ∃ j : Nat, j ≤ i ∧ iv = .int .i64 j ∧ atv = .int .i64 ((rowsOf l j).length : Int) ∧ wq = w2) (fun _ iv _ => i - (intOf iv).toNat)
      case atStart => exact ⟨0, by omega, rfl, rfl, rfl⟩
      case round =>
        obtain ⟨j, hjI, rfl, rfl, rfl⟩ := hrel
        obtain ⟨a, HA⟩ : ∃ a, Hid (a = (rowsOf l j).length) := ⟨_, rfl⟩
        rw [← HA.out]
        by_cases hj : j < i
        · obtain ⟨ad, u, rfl, hadB, hxu, hcell0⟩ := hr.at_ (show j < i by omega)
          have hjl : j < l.length := by omega
          rw [List.getElem?_map, List.getElem?_eq_getElem hjl] at hxu
          injection hxu with hxu
          have hz := hw _ (List.getElem_mem hjl)
          obtain ⟨q, HQ⟩ : ∃ q : Nat, Hid (q = l[j].toNat) := ⟨l[j].toNat, rfl⟩
          have hzq : l[j] = (q : Int) := by rw [HQ.out]; omega
          have hq : q < 18446744073709551616 := by rw [HQ.out]; omega
          rw [hzq] at hxu
          subst hxu
          have hcell : wr.cell? (ad.add j) = some (.int .u64 (q : Int)) := by rw [hgo.cell (by rw [block_add]; exact hadB)]; exact hcell0
          have hrow : rowsOf l (j + 1) = rowsOf l j ++ enc q := by rw [HQ.out]; exact rowsOf_succ l j hjl
          obtain ⟨T', hT'⟩ := rowsOf_prefix l i (j + 1) (by omega) (by omega)
          obtain ⟨Lq, HLq⟩ : ∃ L, Hid (L = (enc q).length) := ⟨_, rfl⟩
          have hLq : 1 ≤ Lq ∧ Lq ≤ 10 := by rw [HLq.out]; exact ⟨enc_pos _, enc_ten hq⟩
          have hlen1 : (rowsOf l (j + 1)).length = a + Lq := by rw [hrow, List.length_append, ← HA.out, ← HLq.out]
          have hRe : R = rowsOf l j ++ (enc q ++ T') := by rw [HR.out, hT', hrow, List.append_assoc]
          have ham : a + Lq ≤ m := by
            have h1 := HRM.out
            rw [hRe, List.length_append, List.length_append, ← HA.out, ← HLq.out] at h1
            omega
          have hdrop : (R ++ T).drop a = enc q ++ (T' ++ T) := by
            rw [hRe, HA.out, List.append_assoc, List.drop_left, List.append_assoc]
          have hXd : Bytes wr wr.heap.size (A2.map (·.add a)) (N - a) (enc q ++ (T' ++ T)) := by
            have h1 := Reads.cut hX (k := a) (by omega) hn2
            rw [if_neg (by omega), ← u8s_drop, hdrop, Nat.mul_one] at h1
            exact h1
          have HLEN := Lib.hid hlen1
          have hca : ¬ c2 = a := by omega
          clear hzq hz hcell0 hrow hT' hRe hdrop hlen1
          go_wp2_with fail
          go_at_call 9
          refine (Get_any wr _ (A2.map (·.add a)) (N - a) (c2 - a) _ hXd (by unfold maxLen at hm2 ⊢; omega)).mono ?_
          rintro e w4 ⟨v, k, hG, rfl, rfl⟩
          obtain ⟨hv, hk⟩ := hG.one (n' := q) (k' := (enc q).length) (.inl ⟨hq, List.prefix_append _ _, rfl⟩)
          rw [← HLq.out] at hk
          obtain rfl : q = v := hv.symm
          obtain rfl : k = Lq := hk
          clear hG hXd
          have hd2 : decide ((k : Int) < 1) = false := decide_eq_false (by omega)
          go_wp2_with fail
          go_roundw
          case rel => exact ⟨j + 1, by omega, by go_num, by rw [HLEN.out]; push_cast; rfl, trivial⟩
          case measure => simp [intOf]; omega
        · have hjj : j = i := by omega
          have ham : a = m := by rw [HA.out, hjj, ← HR.out]; exact HRM.out
          subst ham
          have hXm : Bytes wr wr.heap.size (A2.map (·.add a)) (N - a) T := by
            have h1 := Reads.cut hX (k := a) (by omega) hn2
            rw [if_neg (by omega), ← u8s_drop, ← HRM.out, List.drop_left, HRM.out, Nat.mul_one] at h1
            exact h1
          have hca : ¬ c2 = a := by omega
          have hC0 : CutIs T SB (N - a) := .inl ⟨by rw [HSL.out]; omega, by rw [HSL.out, HT.out]; exact List.prefix_refl _, by rw [HSL.out, ← HL2.out, HN.out]; omega⟩
          have HC0 := Lib.hid hC0
          clear hC0 HR hX
          subst hjj
          go_wp2_with fail
          go_at_call 19
          refine (Cut_any wr _ (A2.map (·.add a)) (N - a) (c2 - a) T hXm (Nat.le_refl _) (by omega) (by unfold maxLen at hm2 ⊢; omega)).mono ?_
          rintro e w3 ⟨t, k, hC, rfl, hg3⟩
          obtain ⟨ht, hk⟩ := hC.one HC0.out
          obtain rfl : SB = t := ht.symm
          subst hk
          rw [HSB2.out]
          clear hC
          have hgo3 := hgo.trans hg3
          have hX3 : Bytes w3 w3.heap.size (A2.map (·.add a)) (N - a) T := Reads.more (Reads.below hXm hg3) hg3.size
          have hNl : N - a = L2 + S.size := by rw [HN.out]; omega
          have HNL := Lib.hid hNl
          clear hNl
          go_wp2_with fail
          go_at_call 17
          refine (within_nat _ x 0 _ hx (by omega) (by omega) (by omega)).mono ?_
          rintro e w4 ⟨p, hp0, hp1, rfl, rfl⟩
          have hpN : p < N - a := by omega
          clear hp0 hp1
          have hXp : Bytes w3 w3.heap.size (A2.map (·.add a)) p (T.take p) := by
            have := Reads.take hX3 (k := p) (by omega)
            unfold Bytes
            rw [u8s_take]; exact this
          have hno : ∀ t2 k2, CutIs (T.take p) t2 k2 → k2 = 0 := fun t2 k2 h => (h.one (CutIs.none fun t' ht' hp => by
            have h1 : enc t'.length ++ t' <+: T := hp.trans (List.take_prefix _ _)
            have h2 : enc S.size ++ SB <+: T := by rw [← HT.out]; exact List.prefix_refl _
            have h3 := hp.length_le
            rw [List.length_take] at h3
            have h4 : t' = SB := cut_prefix h1 (by rw [HSL.out]; exact h2)
            rw [h4, List.length_append, HSL.out, ← HL2.out] at h3
            have := HNL.out
            omega)).2
          have hcp : ¬ (c2 : Int) < (a : Int) + (p : Int) := by omega
          have hcp2 : ¬ (a : Int) + (p : Int) < (a : Int) := by omega
          go_wp2_with fail
          go_at_call 19
          refine (Cut_any w3 _ (A2.map (·.add a)) p (c2 - a) (T.take p) hXp (Nat.le_refl _) (by omega) (by unfold maxLen at hm2 ⊢; omega)).mono ?_
          rintro e w5 ⟨t2, k2, hC2, rfl, hg5⟩
          obtain rfl := hno t2 k2 hC2
          clear hno hC2 hXp hX3 hXm
          have hcast : ((N - a : Nat) : Int) = (N : Int) - (a : Int) := by omega
          go_wp2_with (go_at_call 12; refine (known_any _).mono ?_; rintro e wk ⟨rfl, hgk⟩)
          go_ret
          exact ⟨rfl, (hgo3.trans hg5).trans hgk⟩
set_option maxRecDepth 100000 in
set_option maxHeartbeats 4000000 in
theorem rows_gts (w : World) (A : Option Addr) (n c : Nat) (l : List Int) (hr : Reads w w.heap.size 1 A n (l.map (Value.int .u64))) (hw : ∀ z ∈ l, 0 ≤ z ∧ z < 18446744073709551616) (s : ByteArray) (hs0 : s.size ≤ 9223372036854775807) (x : Int) (hx : -9223372036854775808 ≤ x ∧ x ≤ 9223372036854775807) (hcase : s.size ≤ 100) (hnm : n ≤ 9223372036854775807) (hkc : 20 < n) :
    Calls Try.prog 7 #[.slice A n c, .string s, .int .i64 x] w fun e w' => e = .returned (.bool true) ∧ Grow w w' := by
  have hll : l.length = n := by have := hr.1; simpa using this
  go_enter Try.func7, Try.ntmps7
  go_wp2_with fail
  obtain ⟨S, rfl⟩ : ∃ S : ByteArray, S = s := ⟨_, rfl⟩
  have hs : S.size ≤ 1048576 := by omega
  go_loopw [7, 9] (fun bv iv wr => ∃ (i m : Nat) (A1 : Option Addr) (c1 : Nat), i ≤ 20 ∧ iv = .int .i64 i ∧ bv = .slice A1 m c1 ∧ Bytes wr wr.heap.size A1 m (rowsOf l i) ∧ m ≤ c1 ∧ c1 ≤ maxLen ∧ m ≤ 10 * i ∧ Grow w wr) (fun _ iv _ => 20 - (intOf iv).toNat)
  case atStart => exact ⟨0, 0, none, 0, by omega, rfl, rfl, Reads.nil, Nat.le_refl _, Nat.zero_le _, by omega, Grow.refl _⟩
  case round =>
    obtain ⟨i, m, A1, c1, hiK, rfl, rfl, hB, hmc, hcm, hm10, hg⟩ := hrel
    by_cases hi : i < 20
    · obtain ⟨ad, u, rfl, hadB, hxu, hcell0⟩ := hr.at_ (show i < n by omega)
      have hil : i < l.length := by omega
      rw [List.getElem?_map, List.getElem?_eq_getElem hil] at hxu
      injection hxu with hxu
      have hz := hw _ (List.getElem_mem hil)
      obtain ⟨q, HQ⟩ : ∃ q : Nat, Hid (q = l[i].toNat) := ⟨l[i].toNat, rfl⟩
      have hzq : l[i] = (q : Int) := by rw [HQ.out]; omega
      have hq : q < 18446744073709551616 := by rw [HQ.out]; omega
      rw [hzq] at hxu
      subst hxu
      have hcell : wr.cell? (ad.add i) = some (.int .u64 (q : Int)) := by rw [hg.cell (by rw [block_add]; exact hadB)]; exact hcell0
      have hrow : rowsOf l (i + 1) = rowsOf l i ++ enc q := by rw [HQ.out]; exact rowsOf_succ l i hil
      have HROW := Lib.hid hrow
      clear hrow hzq hz hcell0
      go_wp2_with fail
      go_at_call 8
      refine (Put_any wr A1 m c1 (rowsOf l i) hB (by omega) q hq).mono ?_
      rintro e w3 ⟨v3, rfl, hO3, hg3⟩
      rw [← HROW.out] at hO3
      have hL := enc_ten hq
      obtain ⟨m3, HM3⟩ : ∃ m3, Hid (m3 = m + (enc q).length) := ⟨_, rfl⟩
      have hm3 : m3 ≤ 10 * (i + 1) := by rw [HM3.out]; omega
      rw [← HM3.out] at hO3
      clear hL hB
      obtain ⟨A3, c3, rfl, hR3, hn3, hmx3⟩ := hO3.reads
      have hR3 : Bytes w3 w3.heap.size A3 m3 (rowsOf l (i + 1)) := hR3
      have hgo := hg.trans hg3
      clear hO3 hg hg3 hcell
      go_wp2_with fail
      go_roundw
      case rel => exact ⟨i + 1, m3, A3, c3, by omega, by go_num, rfl, hR3, hn3, hmx3, hm3, hgo⟩
      case measure => simp [intOf]; omega
    · obtain rfl : i = 20 := by omega
      obtain ⟨SB, HSB⟩ : ∃ SB : List UInt8, Hid (SB = S.data.toList) := ⟨_, rfl⟩
      have hSBl : SB.length = S.size := by rw [HSB.out, Array.length_toList]; rfl
      have hSB : (⟨SB.toArray⟩ : ByteArray) = S := by rw [HSB.out]
      obtain ⟨L2, HL2⟩ : ∃ L2, Hid (L2 = (enc S.size).length) := ⟨_, rfl⟩
      have hL2 : 1 ≤ L2 ∧ L2 ≤ 10 := by rw [HL2.out]; exact ⟨enc_pos _, enc_ten (by omega)⟩
      have hRm : (rowsOf l 20).length = m := hB.len
      obtain ⟨R, HR⟩ : ∃ R : List UInt8, Hid (R = rowsOf l 20) := ⟨_, rfl⟩
      rw [← HR.out] at hB hRm
      obtain ⟨T, HT⟩ : ∃ T : List UInt8, Hid (T = enc S.size ++ SB) := ⟨_, rfl⟩
      have hTl : T.length = L2 + S.size := by rw [HT.out, List.length_append, hSBl, HL2.out]
      have HSB2 := Lib.hid hSB
      have HRM := Lib.hid hRm
      have HTL := Lib.hid hTl
      have HSL := Lib.hid hSBl
      clear hSB hRm hTl hSBl
      go_wp2_with fail
      go_at_call 18
      refine (Text_any wr A1 m c1 R hB (by omega) S (by omega)).mono ?_
      rintro e w2 ⟨v2, rfl, hO2, hg2⟩
      rw [List.append_assoc, ← HSB.out, ← HT.out, ← HL2.out] at hO2
      obtain ⟨N, HN⟩ : ∃ N, Hid (N = m + L2 + S.size) := ⟨_, rfl⟩
      have hN : m < N ∧ N ≤ 1048800 := by rw [HN.out]; omega
      rw [← HN.out] at hO2
      obtain ⟨A2, c2, rfl, hR2, hn2, hm2⟩ := hO2.reads
      have hX : Bytes w2 w2.heap.size A2 N (R ++ T) := hR2
      have hgo := hg.trans hg2
      clear hO2 hR2 hB hg hg2
      have hd1 : decide (N ≤ m) = false := decide_eq_false (by omega)
      go_wp2_with fail
      clear hd1
      go_loopw [11, 12] (fun atv iv wq => ∃ j : Nat, j ≤ 20 ∧ iv = .int .i64 j ∧ atv = .int .i64 ((rowsOf l j).length : Int) ∧ wq = w2) (fun _ iv _ => 20 - (intOf iv).toNat)
      case atStart => exact ⟨0, by omega, rfl, rfl, rfl⟩
      case round =>
        obtain ⟨j, hjI, rfl, rfl, rfl⟩ := hrel
        obtain ⟨a, HA⟩ : ∃ a, Hid (a = (rowsOf l j).length) := ⟨_, rfl⟩
        rw [← HA.out]
        by_cases hj : j < 20
        · obtain ⟨ad, u, rfl, hadB, hxu, hcell0⟩ := hr.at_ (show j < n by omega)
          have hjl : j < l.length := by omega
          rw [List.getElem?_map, List.getElem?_eq_getElem hjl] at hxu
          injection hxu with hxu
          have hz := hw _ (List.getElem_mem hjl)
          obtain ⟨q, HQ⟩ : ∃ q : Nat, Hid (q = l[j].toNat) := ⟨l[j].toNat, rfl⟩
          have hzq : l[j] = (q : Int) := by rw [HQ.out]; omega
          have hq : q < 18446744073709551616 := by rw [HQ.out]; omega
          rw [hzq] at hxu
          subst hxu
          have hcell : wr.cell? (ad.add j) = some (.int .u64 (q : Int)) := by rw [hgo.cell (by rw [block_add]; exact hadB)]; exact hcell0
          have hrow : rowsOf l (j + 1) = rowsOf l j ++ enc q := by rw [HQ.out]; exact rowsOf_succ l j hjl
          obtain ⟨T', hT'⟩ := rowsOf_prefix l 20 (j + 1) (by omega) (by omega)
          obtain ⟨Lq, HLq⟩ : ∃ L, Hid (L = (enc q).length) := ⟨_, rfl⟩
          have hLq : 1 ≤ Lq ∧ Lq ≤ 10 := by rw [HLq.out]; exact ⟨enc_pos _, enc_ten hq⟩
          have hlen1 : (rowsOf l (j + 1)).length = a + Lq := by rw [hrow, List.length_append, ← HA.out, ← HLq.out]
          have hRe : R = rowsOf l j ++ (enc q ++ T') := by rw [HR.out, hT', hrow, List.append_assoc]
          have ham : a + Lq ≤ m := by
            have h1 := HRM.out
            rw [hRe, List.length_append, List.length_append, ← HA.out, ← HLq.out] at h1
            omega
          have hdrop : (R ++ T).drop a = enc q ++ (T' ++ T) := by
            rw [hRe, HA.out, List.append_assoc, List.drop_left, List.append_assoc]
          have hXd : Bytes wr wr.heap.size (A2.map (·.add a)) (N - a) (enc q ++ (T' ++ T)) := by
            have h1 := Reads.cut hX (k := a) (by omega) hn2
            rw [if_neg (by omega), ← u8s_drop, hdrop, Nat.mul_one] at h1
            exact h1
          have HLEN := Lib.hid hlen1
          have hca : ¬ c2 = a := by omega
          clear hzq hz hcell0 hrow hT' hRe hdrop hlen1
          go_wp2_with fail
          go_at_call 9
          refine (Get_any wr _ (A2.map (·.add a)) (N - a) (c2 - a) _ hXd (by unfold maxLen at hm2 ⊢; omega)).mono ?_
          rintro e w4 ⟨v, k, hG, rfl, rfl⟩
          obtain ⟨hv, hk⟩ := hG.one (n' := q) (k' := (enc q).length) (.inl ⟨hq, List.prefix_append _ _, rfl⟩)
          rw [← HLq.out] at hk
          obtain rfl : q = v := hv.symm
          obtain rfl : k = Lq := hk
          clear hG hXd
          have hd2 : decide ((k : Int) < 1) = false := decide_eq_false (by omega)
          go_wp2_with fail
          go_roundw
          case rel => exact ⟨j + 1, by omega, by go_num, by rw [HLEN.out]; push_cast; rfl, trivial⟩
          case measure => simp [intOf]; omega
        · have hjj : j = 20 := by omega
          have ham : a = m := by rw [HA.out, hjj, ← HR.out]; exact HRM.out
          subst ham
          have hXm : Bytes wr wr.heap.size (A2.map (·.add a)) (N - a) T := by
            have h1 := Reads.cut hX (k := a) (by omega) hn2
            rw [if_neg (by omega), ← u8s_drop, ← HRM.out, List.drop_left, HRM.out, Nat.mul_one] at h1
            exact h1
          have hca : ¬ c2 = a := by omega
          have hC0 : CutIs T SB (N - a) := .inl ⟨by rw [HSL.out]; omega, by rw [HSL.out, HT.out]; exact List.prefix_refl _, by rw [HSL.out, ← HL2.out, HN.out]; omega⟩
          have HC0 := Lib.hid hC0
          clear hC0 HR hX
          subst hjj
          go_wp2_with fail
          go_at_call 19
          refine (Cut_any wr _ (A2.map (·.add a)) (N - a) (c2 - a) T hXm (Nat.le_refl _) (by omega) (by unfold maxLen at hm2 ⊢; omega)).mono ?_
          rintro e w3 ⟨t, k, hC, rfl, hg3⟩
          obtain ⟨ht, hk⟩ := hC.one HC0.out
          obtain rfl : SB = t := ht.symm
          subst hk
          rw [HSB2.out]
          clear hC
          have hgo3 := hgo.trans hg3
          have hX3 : Bytes w3 w3.heap.size (A2.map (·.add a)) (N - a) T := Reads.more (Reads.below hXm hg3) hg3.size
          have hNl : N - a = L2 + S.size := by rw [HN.out]; omega
          have HNL := Lib.hid hNl
          clear hNl
          go_wp2_with fail
          go_at_call 17
          refine (within_nat _ x 0 _ hx (by omega) (by omega) (by omega)).mono ?_
          rintro e w4 ⟨p, hp0, hp1, rfl, rfl⟩
          have hpN : p < N - a := by omega
          clear hp0 hp1
          have hXp : Bytes w3 w3.heap.size (A2.map (·.add a)) p (T.take p) := by
            have := Reads.take hX3 (k := p) (by omega)
            unfold Bytes
            rw [u8s_take]; exact this
          have hno : ∀ t2 k2, CutIs (T.take p) t2 k2 → k2 = 0 := fun t2 k2 h => (h.one (CutIs.none fun t' ht' hp => by
            have h1 : enc t'.length ++ t' <+: T := hp.trans (List.take_prefix _ _)
            have h2 : enc S.size ++ SB <+: T := by rw [← HT.out]; exact List.prefix_refl _
            have h3 := hp.length_le
            rw [List.length_take] at h3
            have h4 : t' = SB := cut_prefix h1 (by rw [HSL.out]; exact h2)
            rw [h4, List.length_append, HSL.out, ← HL2.out] at h3
            have := HNL.out
            omega)).2
          have hcp : ¬ (c2 : Int) < (a : Int) + (p : Int) := by omega
          have hcp2 : ¬ (a : Int) + (p : Int) < (a : Int) := by omega
          go_wp2_with fail
          go_at_call 19
          refine (Cut_any w3 _ (A2.map (·.add a)) p (c2 - a) (T.take p) hXp (Nat.le_refl _) (by omega) (by unfold maxLen at hm2 ⊢; omega)).mono ?_
          rintro e w5 ⟨t2, k2, hC2, rfl, hg5⟩
          obtain rfl := hno t2 k2 hC2
          clear hno hC2 hXp hX3 hXm
          have hcast : ((N - a : Nat) : Int) = (N : Int) - (a : Int) := by omega
          go_wp2_with (go_at_call 12; refine (known_any _).mono ?_; rintro e wk ⟨rfl, hgk⟩)
          go_ret
          exact ⟨rfl, (hgo3.trans hg5).trans hgk⟩
set_option maxRecDepth 100000 in
set_option maxHeartbeats 4000000 in
theorem rows_gtg (w : World) (A : Option Addr) (n c : Nat) (l : List Int) (hr : Reads w w.heap.size 1 A n (l.map (Value.int .u64))) (hw : ∀ z ∈ l, 0 ≤ z ∧ z < 18446744073709551616) (s : ByteArray) (hs0 : s.size ≤ 9223372036854775807) (x : Int) (hx : -9223372036854775808 ≤ x ∧ x ≤ 9223372036854775807) (hcase : 100 < s.size) (hnm : n ≤ 9223372036854775807) (hkc : 20 < n) :
    Calls Try.prog 7 #[.slice A n c, .string s, .int .i64 x] w fun e w' => e = .returned (.bool true) ∧ Grow w w' := by
  have hll : l.length = n := by have := hr.1; simpa using this
  go_enter Try.func7, Try.ntmps7
  go_wp2_with fail
  obtain ⟨S, HS⟩ : ∃ S : ByteArray, Hid (S = s.extract 0 100) := ⟨_, rfl⟩
  rw [← HS.out]
  have hs : S.size ≤ 1048576 := by rw [HS.out, ByteArray.size_extract]; omega
  try rw [show decide ((100 : Int) < (s.size : Int)) = true from decide_eq_true (by omega)]
  go_loopw [7, 9] (fun bv iv wr => ∃ (i m : Nat) (A1 : Option Addr) (c1 : Nat), i ≤ 20 ∧ iv = .int .i64 i ∧ bv = .slice A1 m c1 ∧ Bytes wr wr.heap.size A1 m (rowsOf l i) ∧ m ≤ c1 ∧ c1 ≤ maxLen ∧ m ≤ 10 * i ∧ Grow w wr) (fun _ iv _ => 20 - (intOf iv).toNat)
  case atStart => exact ⟨0, 0, none, 0, by omega, rfl, rfl, Reads.nil, Nat.le_refl _, Nat.zero_le _, by omega, Grow.refl _⟩
  case round =>
    obtain ⟨i, m, A1, c1, hiK, rfl, rfl, hB, hmc, hcm, hm10, hg⟩ := hrel
    by_cases hi : i < 20
    · obtain ⟨ad, u, rfl, hadB, hxu, hcell0⟩ := hr.at_ (show i < n by omega)
      have hil : i < l.length := by omega
      rw [List.getElem?_map, List.getElem?_eq_getElem hil] at hxu
      injection hxu with hxu
      have hz := hw _ (List.getElem_mem hil)
      obtain ⟨q, HQ⟩ : ∃ q : Nat, Hid (q = l[i].toNat) := ⟨l[i].toNat, rfl⟩
      have hzq : l[i] = (q : Int) := by rw [HQ.out]; omega
      have hq : q < 18446744073709551616 := by rw [HQ.out]; omega
      rw [hzq] at hxu
      subst hxu
      have hcell : wr.cell? (ad.add i) = some (.int .u64 (q : Int)) := by rw [hg.cell (by rw [block_add]; exact hadB)]; exact hcell0
      have hrow : rowsOf l (i + 1) = rowsOf l i ++ enc q := by rw [HQ.out]; exact rowsOf_succ l i hil
      have HROW := Lib.hid hrow
      clear hrow hzq hz hcell0
      go_wp2_with fail
      go_at_call 8
      refine (Put_any wr A1 m c1 (rowsOf l i) hB (by omega) q hq).mono ?_
      rintro e w3 ⟨v3, rfl, hO3, hg3⟩
      rw [← HROW.out] at hO3
      have hL := enc_ten hq
      obtain ⟨m3, HM3⟩ : ∃ m3, Hid (m3 = m + (enc q).length) := ⟨_, rfl⟩
      have hm3 : m3 ≤ 10 * (i + 1) := by rw [HM3.out]; omega
      rw [← HM3.out] at hO3
      clear hL hB
      obtain ⟨A3, c3, rfl, hR3, hn3, hmx3⟩ := hO3.reads
      have hR3 : Bytes w3 w3.heap.size A3 m3 (rowsOf l (i + 1)) := hR3
      have hgo := hg.trans hg3
      clear hO3 hg hg3 hcell
      go_wp2_with fail
      go_roundw
      case rel => exact ⟨i + 1, m3, A3, c3, by omega, by go_num, rfl, hR3, hn3, hmx3, hm3, hgo⟩
      case measure => simp [intOf]; omega
    · obtain rfl : i = 20 := by omega
      obtain ⟨SB, HSB⟩ : ∃ SB : List UInt8, Hid (SB = S.data.toList) := ⟨_, rfl⟩
      have hSBl : SB.length = S.size := by rw [HSB.out, Array.length_toList]; rfl
      have hSB : (⟨SB.toArray⟩ : ByteArray) = S := by rw [HSB.out]
      obtain ⟨L2, HL2⟩ : ∃ L2, Hid (L2 = (enc S.size).length) := ⟨_, rfl⟩
      have hL2 : 1 ≤ L2 ∧ L2 ≤ 10 := by rw [HL2.out]; exact ⟨enc_pos _, enc_ten (by omega)⟩
      have hRm : (rowsOf l 20).length = m := hB.len
      obtain ⟨R, HR⟩ : ∃ R : List UInt8, Hid (R = rowsOf l 20) := ⟨_, rfl⟩
      rw [← HR.out] at hB hRm
      obtain ⟨T, HT⟩ : ∃ T : List UInt8, Hid (T = enc S.size ++ SB) := ⟨_, rfl⟩
      have hTl : T.length = L2 + S.size := by rw [HT.out, List.length_append, hSBl, HL2.out]
      have HSB2 := Lib.hid hSB
      have HRM := Lib.hid hRm
      have HTL := Lib.hid hTl
      have HSL := Lib.hid hSBl
      clear hSB hRm hTl hSBl
      go_wp2_with fail
      go_at_call 18
      refine (Text_any wr A1 m c1 R hB (by omega) S (by omega)).mono ?_
      rintro e w2 ⟨v2, rfl, hO2, hg2⟩
      rw [List.append_assoc, ← HSB.out, ← HT.out, ← HL2.out] at hO2
      obtain ⟨N, HN⟩ : ∃ N, Hid (N = m + L2 + S.size) := ⟨_, rfl⟩
      have hN : m < N ∧ N ≤ 1048800 := by rw [HN.out]; omega
      rw [← HN.out] at hO2
      obtain ⟨A2, c2, rfl, hR2, hn2, hm2⟩ := hO2.reads
      have hX : Bytes w2 w2.heap.size A2 N (R ++ T) := hR2
      have hgo := hg.trans hg2
      clear hO2 hR2 hB hg hg2
      have hd1 : decide (N ≤ m) = false := decide_eq_false (by omega)
      go_wp2_with fail
      clear hd1
      go_loopw [11, 12] (fun atv iv wq => ∃ j : Nat, j ≤ 20 ∧ iv = .int .i64 j ∧ atv = .int .i64 ((rowsOf l j).length : Int) ∧ wq = w2) (fun _ iv _ => 20 - (intOf iv).toNat)
      case atStart => exact ⟨0, by omega, rfl, rfl, rfl⟩
      case round =>
        obtain ⟨j, hjI, rfl, rfl, rfl⟩ := hrel
        obtain ⟨a, HA⟩ : ∃ a, Hid (a = (rowsOf l j).length) := ⟨_, rfl⟩
        rw [← HA.out]
        by_cases hj : j < 20
        · obtain ⟨ad, u, rfl, hadB, hxu, hcell0⟩ := hr.at_ (show j < n by omega)
          have hjl : j < l.length := by omega
          rw [List.getElem?_map, List.getElem?_eq_getElem hjl] at hxu
          injection hxu with hxu
          have hz := hw _ (List.getElem_mem hjl)
          obtain ⟨q, HQ⟩ : ∃ q : Nat, Hid (q = l[j].toNat) := ⟨l[j].toNat, rfl⟩
          have hzq : l[j] = (q : Int) := by rw [HQ.out]; omega
          have hq : q < 18446744073709551616 := by rw [HQ.out]; omega
          rw [hzq] at hxu
          subst hxu
          have hcell : wr.cell? (ad.add j) = some (.int .u64 (q : Int)) := by rw [hgo.cell (by rw [block_add]; exact hadB)]; exact hcell0
          have hrow : rowsOf l (j + 1) = rowsOf l j ++ enc q := by rw [HQ.out]; exact rowsOf_succ l j hjl
          obtain ⟨T', hT'⟩ := rowsOf_prefix l 20 (j + 1) (by omega) (by omega)
          obtain ⟨Lq, HLq⟩ : ∃ L, Hid (L = (enc q).length) := ⟨_, rfl⟩
          have hLq : 1 ≤ Lq ∧ Lq ≤ 10 := by rw [HLq.out]; exact ⟨enc_pos _, enc_ten hq⟩
          have hlen1 : (rowsOf l (j + 1)).length = a + Lq := by rw [hrow, List.length_append, ← HA.out, ← HLq.out]
          have hRe : R = rowsOf l j ++ (enc q ++ T') := by rw [HR.out, hT', hrow, List.append_assoc]
          have ham : a + Lq ≤ m := by
            have h1 := HRM.out
            rw [hRe, List.length_append, List.length_append, ← HA.out, ← HLq.out] at h1
            omega
          have hdrop : (R ++ T).drop a = enc q ++ (T' ++ T) := by
            rw [hRe, HA.out, List.append_assoc, List.drop_left, List.append_assoc]
          have hXd : Bytes wr wr.heap.size (A2.map (·.add a)) (N - a) (enc q ++ (T' ++ T)) := by
            have h1 := Reads.cut hX (k := a) (by omega) hn2
            rw [if_neg (by omega), ← u8s_drop, hdrop, Nat.mul_one] at h1
            exact h1
          have HLEN := Lib.hid hlen1
          have hca : ¬ c2 = a := by omega
          clear hzq hz hcell0 hrow hT' hRe hdrop hlen1
          go_wp2_with fail
          go_at_call 9
          refine (Get_any wr _ (A2.map (·.add a)) (N - a) (c2 - a) _ hXd (by unfold maxLen at hm2 ⊢; omega)).mono ?_
          rintro e w4 ⟨v, k, hG, rfl, rfl⟩
          obtain ⟨hv, hk⟩ := hG.one (n' := q) (k' := (enc q).length) (.inl ⟨hq, List.prefix_append _ _, rfl⟩)
          rw [← HLq.out] at hk
          obtain rfl : q = v := hv.symm
          obtain rfl : k = Lq := hk
          clear hG hXd
          have hd2 : decide ((k : Int) < 1) = false := decide_eq_false (by omega)
          go_wp2_with fail
          go_roundw
          case rel => exact ⟨j + 1, by omega, by go_num, by rw [HLEN.out]; push_cast; rfl, trivial⟩
          case measure => simp [intOf]; omega
        · have hjj : j = 20 := by omega
          have ham : a = m := by rw [HA.out, hjj, ← HR.out]; exact HRM.out
          subst ham
          have hXm : Bytes wr wr.heap.size (A2.map (·.add a)) (N - a) T := by
            have h1 := Reads.cut hX (k := a) (by omega) hn2
            rw [if_neg (by omega), ← u8s_drop, ← HRM.out, List.drop_left, HRM.out, Nat.mul_one] at h1
            exact h1
          have hca : ¬ c2 = a := by omega
          have hC0 : CutIs T SB (N - a) := .inl ⟨by rw [HSL.out]; omega, by rw [HSL.out, HT.out]; exact List.prefix_refl _, by rw [HSL.out, ← HL2.out, HN.out]; omega⟩
          have HC0 := Lib.hid hC0
          clear hC0 HR hX
          subst hjj
          go_wp2_with fail
          go_at_call 19
          refine (Cut_any wr _ (A2.map (·.add a)) (N - a) (c2 - a) T hXm (Nat.le_refl _) (by omega) (by unfold maxLen at hm2 ⊢; omega)).mono ?_
          rintro e w3 ⟨t, k, hC, rfl, hg3⟩
          obtain ⟨ht, hk⟩ := hC.one HC0.out
          obtain rfl : SB = t := ht.symm
          subst hk
          rw [HSB2.out]
          clear hC
          have hgo3 := hgo.trans hg3
          have hX3 : Bytes w3 w3.heap.size (A2.map (·.add a)) (N - a) T := Reads.more (Reads.below hXm hg3) hg3.size
          have hNl : N - a = L2 + S.size := by rw [HN.out]; omega
          have HNL := Lib.hid hNl
          clear hNl
          go_wp2_with fail
          go_at_call 17
          refine (within_nat _ x 0 _ hx (by omega) (by omega) (by omega)).mono ?_
          rintro e w4 ⟨p, hp0, hp1, rfl, rfl⟩
          have hpN : p < N - a := by omega
          clear hp0 hp1
          have hXp : Bytes w3 w3.heap.size (A2.map (·.add a)) p (T.take p) := by
            have := Reads.take hX3 (k := p) (by omega)
            unfold Bytes
            rw [u8s_take]; exact this
          have hno : ∀ t2 k2, CutIs (T.take p) t2 k2 → k2 = 0 := fun t2 k2 h => (h.one (CutIs.none fun t' ht' hp => by
            have h1 : enc t'.length ++ t' <+: T := hp.trans (List.take_prefix _ _)
            have h2 : enc S.size ++ SB <+: T := by rw [← HT.out]; exact List.prefix_refl _
            have h3 := hp.length_le
            rw [List.length_take] at h3
            have h4 : t' = SB := cut_prefix h1 (by rw [HSL.out]; exact h2)
            rw [h4, List.length_append, HSL.out, ← HL2.out] at h3
            have := HNL.out
            omega)).2
          have hcp : ¬ (c2 : Int) < (a : Int) + (p : Int) := by omega
          have hcp2 : ¬ (a : Int) + (p : Int) < (a : Int) := by omega
          go_wp2_with fail
          go_at_call 19
          refine (Cut_any w3 _ (A2.map (·.add a)) p (c2 - a) (T.take p) hXp (Nat.le_refl _) (by omega) (by unfold maxLen at hm2 ⊢; omega)).mono ?_
          rintro e w5 ⟨t2, k2, hC2, rfl, hg5⟩
          obtain rfl := hno t2 k2 hC2
          clear hno hC2 hXp hX3 hXm
          have hcast : ((N - a : Nat) : Int) = (N : Int) - (a : Int) := by omega
          go_wp2_with (go_at_call 12; refine (known_any _).mono ?_; rintro e wk ⟨rfl, hgk⟩)
          go_ret
          exact ⟨rfl, (hgo3.trans hg5).trans hgk⟩
set_option maxRecDepth 100000 in
set_option maxHeartbeats 4000000 in
theorem rows_eqs (w : World) (A : Option Addr) (n c : Nat) (l : List Int) (hr : Reads w w.heap.size 1 A n (l.map (Value.int .u64))) (hw : ∀ z ∈ l, 0 ≤ z ∧ z < 18446744073709551616) (s : ByteArray) (hs0 : s.size ≤ 9223372036854775807) (x : Int) (hx : -9223372036854775808 ≤ x ∧ x ≤ 9223372036854775807) (hcase : s.size ≤ 100) (hnm : n ≤ 9223372036854775807) (hkc : n = 20) :
    Calls Try.prog 7 #[.slice A n c, .string s, .int .i64 x] w fun e w' => e = .returned (.bool true) ∧ Grow w w' := by
  have hll : l.length = n := by have := hr.1; simpa using this
  subst hkc
  go_enter Try.func7, Try.ntmps7
  go_wp2_with fail
  obtain ⟨S, rfl⟩ : ∃ S : ByteArray, S = s := ⟨_, rfl⟩
  have hs : S.size ≤ 1048576 := by omega
  go_loopw [7, 9] (fun bv iv wr => ∃ (i m : Nat) (A1 : Option Addr) (c1 : Nat), i ≤ 20 ∧ iv = .int .i64 i ∧ bv = .slice A1 m c1 ∧ Bytes wr wr.heap.size A1 m (rowsOf l i) ∧ m ≤ c1 ∧ c1 ≤ maxLen ∧ m ≤ 10 * i ∧ Grow w wr) (fun _ iv _ => 20 - (intOf iv).toNat)
  case atStart => exact ⟨0, 0, none, 0, by omega, rfl, rfl, Reads.nil, Nat.le_refl _, Nat.zero_le _, by omega, Grow.refl _⟩
  case round =>
    obtain ⟨i, m, A1, c1, hiK, rfl, rfl, hB, hmc, hcm, hm10, hg⟩ := hrel
    by_cases hi : i < 20
    · obtain ⟨ad, u, rfl, hadB, hxu, hcell0⟩ := hr.at_ (show i < 20 by omega)
      have hil : i < l.length := by omega
      rw [List.getElem?_map, List.getElem?_eq_getElem hil] at hxu
      injection hxu with hxu
      have hz := hw _ (List.getElem_mem hil)
      obtain ⟨q, HQ⟩ : ∃ q : Nat, Hid (q = l[i].toNat) := ⟨l[i].toNat, rfl⟩
      have hzq : l[i] = (q : Int) := by rw [HQ.out]; omega
      have hq : q < 18446744073709551616 := by rw [HQ.out]; omega
      rw [hzq] at hxu
      subst hxu
      have hcell : wr.cell? (ad.add i) = some (.int .u64 (q : Int)) := by rw [hg.cell (by rw [block_add]; exact hadB)]; exact hcell0
      have hrow : rowsOf l (i + 1) = rowsOf l i ++ enc q := by rw [HQ.out]; exact rowsOf_succ l i hil
      have HROW := Lib.hid hrow
      clear hrow hzq hz hcell0
      go_wp2_with fail
      go_at_call 8
      refine (Put_any wr A1 m c1 (rowsOf l i) hB (by omega) q hq).mono ?_
      rintro e w3 ⟨v3, rfl, hO3, hg3⟩
      rw [← HROW.out] at hO3
      have hL := enc_ten hq
      obtain ⟨m3, HM3⟩ : ∃ m3, Hid (m3 = m + (enc q).length) := ⟨_, rfl⟩
      have hm3 : m3 ≤ 10 * (i + 1) := by rw [HM3.out]; omega
      rw [← HM3.out] at hO3
      clear hL hB
      obtain ⟨A3, c3, rfl, hR3, hn3, hmx3⟩ := hO3.reads
      have hR3 : Bytes w3 w3.heap.size A3 m3 (rowsOf l (i + 1)) := hR3
      have hgo := hg.trans hg3
      clear hO3 hg hg3 hcell
      go_wp2_with fail
      go_roundw
      case rel => exact ⟨i + 1, m3, A3, c3, by omega, by go_num, rfl, hR3, hn3, hmx3, hm3, hgo⟩
      case measure => simp [intOf]; omega
    · obtain rfl : i = 20 := by omega
      obtain ⟨SB, HSB⟩ : ∃ SB : List UInt8, Hid (SB = S.data.toList) := ⟨_, rfl⟩
      have hSBl : SB.length = S.size := by rw [HSB.out, Array.length_toList]; rfl
      have hSB : (⟨SB.toArray⟩ : ByteArray) = S := by rw [HSB.out]
      obtain ⟨L2, HL2⟩ : ∃ L2, Hid (L2 = (enc S.size).length) := ⟨_, rfl⟩
      have hL2 : 1 ≤ L2 ∧ L2 ≤ 10 := by rw [HL2.out]; exact ⟨enc_pos _, enc_ten (by omega)⟩
      have hRm : (rowsOf l 20).length = m := hB.len
      obtain ⟨R, HR⟩ : ∃ R : List UInt8, Hid (R = rowsOf l 20) := ⟨_, rfl⟩
      rw [← HR.out] at hB hRm
      obtain ⟨T, HT⟩ : ∃ T : List UInt8, Hid (T = enc S.size ++ SB) := ⟨_, rfl⟩
      have hTl : T.length = L2 + S.size := by rw [HT.out, List.length_append, hSBl, HL2.out]
      have HSB2 := Lib.hid hSB
      have HRM := Lib.hid hRm
      have HTL := Lib.hid hTl
      have HSL := Lib.hid hSBl
      clear hSB hRm hTl hSBl
      go_wp2_with fail
      go_at_call 18
      refine (Text_any wr A1 m c1 R hB (by omega) S (by omega)).mono ?_
      rintro e w2 ⟨v2, rfl, hO2, hg2⟩
      rw [List.append_assoc, ← HSB.out, ← HT.out, ← HL2.out] at hO2
      obtain ⟨N, HN⟩ : ∃ N, Hid (N = m + L2 + S.size) := ⟨_, rfl⟩
      have hN : m < N ∧ N ≤ 1048800 := by rw [HN.out]; omega
      rw [← HN.out] at hO2
      obtain ⟨A2, c2, rfl, hR2, hn2, hm2⟩ := hO2.reads
      have hX : Bytes w2 w2.heap.size A2 N (R ++ T) := hR2
      have hgo := hg.trans hg2
      clear hO2 hR2 hB hg hg2
      have hd1 : decide (N ≤ m) = false := decide_eq_false (by omega)
      go_wp2_with fail
      clear hd1
      go_loopw [11, 12] (fun atv iv wq => ∃ j : Nat, j ≤ 20 ∧ iv = .int .i64 j ∧ atv = .int .i64 ((rowsOf l j).length : Int) ∧ wq = w2) (fun _ iv _ => 20 - (intOf iv).toNat)
      case atStart => exact ⟨0, by omega, rfl, rfl, rfl⟩
      case round =>
        obtain ⟨j, hjI, rfl, rfl, rfl⟩ := hrel
        obtain ⟨a, HA⟩ : ∃ a, Hid (a = (rowsOf l j).length) := ⟨_, rfl⟩
        rw [← HA.out]
        by_cases hj : j < 20
        · obtain ⟨ad, u, rfl, hadB, hxu, hcell0⟩ := hr.at_ (show j < 20 by omega)
          have hjl : j < l.length := by omega
          rw [List.getElem?_map, List.getElem?_eq_getElem hjl] at hxu
          injection hxu with hxu
          have hz := hw _ (List.getElem_mem hjl)
          obtain ⟨q, HQ⟩ : ∃ q : Nat, Hid (q = l[j].toNat) := ⟨l[j].toNat, rfl⟩
          have hzq : l[j] = (q : Int) := by rw [HQ.out]; omega
          have hq : q < 18446744073709551616 := by rw [HQ.out]; omega
          rw [hzq] at hxu
          subst hxu
          have hcell : wr.cell? (ad.add j) = some (.int .u64 (q : Int)) := by rw [hgo.cell (by rw [block_add]; exact hadB)]; exact hcell0
          have hrow : rowsOf l (j + 1) = rowsOf l j ++ enc q := by rw [HQ.out]; exact rowsOf_succ l j hjl
          obtain ⟨T', hT'⟩ := rowsOf_prefix l 20 (j + 1) (by omega) (by omega)
          obtain ⟨Lq, HLq⟩ : ∃ L, Hid (L = (enc q).length) := ⟨_, rfl⟩
          have hLq : 1 ≤ Lq ∧ Lq ≤ 10 := by rw [HLq.out]; exact ⟨enc_pos _, enc_ten hq⟩
          have hlen1 : (rowsOf l (j + 1)).length = a + Lq := by rw [hrow, List.length_append, ← HA.out, ← HLq.out]
          have hRe : R = rowsOf l j ++ (enc q ++ T') := by rw [HR.out, hT', hrow, List.append_assoc]
          have ham : a + Lq ≤ m := by
            have h1 := HRM.out
            rw [hRe, List.length_append, List.length_append, ← HA.out, ← HLq.out] at h1
            omega
          have hdrop : (R ++ T).drop a = enc q ++ (T' ++ T) := by
            rw [hRe, HA.out, List.append_assoc, List.drop_left, List.append_assoc]
          have hXd : Bytes wr wr.heap.size (A2.map (·.add a)) (N - a) (enc q ++ (T' ++ T)) := by
            have h1 := Reads.cut hX (k := a) (by omega) hn2
            rw [if_neg (by omega), ← u8s_drop, hdrop, Nat.mul_one] at h1
            exact h1
          have HLEN := Lib.hid hlen1
          have hca : ¬ c2 = a := by omega
          clear hzq hz hcell0 hrow hT' hRe hdrop hlen1
          go_wp2_with fail
          go_at_call 9
          refine (Get_any wr _ (A2.map (·.add a)) (N - a) (c2 - a) _ hXd (by unfold maxLen at hm2 ⊢; omega)).mono ?_
          rintro e w4 ⟨v, k, hG, rfl, rfl⟩
          obtain ⟨hv, hk⟩ := hG.one (n' := q) (k' := (enc q).length) (.inl ⟨hq, List.prefix_append _ _, rfl⟩)
          rw [← HLq.out] at hk
          obtain rfl : q = v := hv.symm
          obtain rfl : k = Lq := hk
          clear hG hXd
          have hd2 : decide ((k : Int) < 1) = false := decide_eq_false (by omega)
          go_wp2_with fail
          go_roundw
          case rel => exact ⟨j + 1, by omega, by go_num, by rw [HLEN.out]; push_cast; rfl, trivial⟩
          case measure => simp [intOf]; omega
        · have hjj : j = 20 := by omega
          have ham : a = m := by rw [HA.out, hjj, ← HR.out]; exact HRM.out
          subst ham
          have hXm : Bytes wr wr.heap.size (A2.map (·.add a)) (N - a) T := by
            have h1 := Reads.cut hX (k := a) (by omega) hn2
            rw [if_neg (by omega), ← u8s_drop, ← HRM.out, List.drop_left, HRM.out, Nat.mul_one] at h1
            exact h1
          have hca : ¬ c2 = a := by omega
          have hC0 : CutIs T SB (N - a) := .inl ⟨by rw [HSL.out]; omega, by rw [HSL.out, HT.out]; exact List.prefix_refl _, by rw [HSL.out, ← HL2.out, HN.out]; omega⟩
          have HC0 := Lib.hid hC0
          clear hC0 HR hX
          subst hjj
          go_wp2_with fail
          go_at_call 19
          refine (Cut_any wr _ (A2.map (·.add a)) (N - a) (c2 - a) T hXm (Nat.le_refl _) (by omega) (by unfold maxLen at hm2 ⊢; omega)).mono ?_
          rintro e w3 ⟨t, k, hC, rfl, hg3⟩
          obtain ⟨ht, hk⟩ := hC.one HC0.out
          obtain rfl : SB = t := ht.symm
          subst hk
          rw [HSB2.out]
          clear hC
          have hgo3 := hgo.trans hg3
          have hX3 : Bytes w3 w3.heap.size (A2.map (·.add a)) (N - a) T := Reads.more (Reads.below hXm hg3) hg3.size
          have hNl : N - a = L2 + S.size := by rw [HN.out]; omega
          have HNL := Lib.hid hNl
          clear hNl
          go_wp2_with fail
          go_at_call 17
          refine (within_nat _ x 0 _ hx (by omega) (by omega) (by omega)).mono ?_
          rintro e w4 ⟨p, hp0, hp1, rfl, rfl⟩
          have hpN : p < N - a := by omega
          clear hp0 hp1
          have hXp : Bytes w3 w3.heap.size (A2.map (·.add a)) p (T.take p) := by
            have := Reads.take hX3 (k := p) (by omega)
            unfold Bytes
            rw [u8s_take]; exact this
          have hno : ∀ t2 k2, CutIs (T.take p) t2 k2 → k2 = 0 := fun t2 k2 h => (h.one (CutIs.none fun t' ht' hp => by
            have h1 : enc t'.length ++ t' <+: T := hp.trans (List.take_prefix _ _)
            have h2 : enc S.size ++ SB <+: T := by rw [← HT.out]; exact List.prefix_refl _
            have h3 := hp.length_le
            rw [List.length_take] at h3
            have h4 : t' = SB := cut_prefix h1 (by rw [HSL.out]; exact h2)
            rw [h4, List.length_append, HSL.out, ← HL2.out] at h3
            have := HNL.out
            omega)).2
          have hcp : ¬ (c2 : Int) < (a : Int) + (p : Int) := by omega
          have hcp2 : ¬ (a : Int) + (p : Int) < (a : Int) := by omega
          go_wp2_with fail
          go_at_call 19
          refine (Cut_any w3 _ (A2.map (·.add a)) p (c2 - a) (T.take p) hXp (Nat.le_refl _) (by omega) (by unfold maxLen at hm2 ⊢; omega)).mono ?_
          rintro e w5 ⟨t2, k2, hC2, rfl, hg5⟩
          obtain rfl := hno t2 k2 hC2
          clear hno hC2 hXp hX3 hXm
          have hcast : ((N - a : Nat) : Int) = (N : Int) - (a : Int) := by omega
          go_wp2_with (go_at_call 12; refine (known_any _).mono ?_; rintro e wk ⟨rfl, hgk⟩)
          go_ret
          exact ⟨rfl, (hgo3.trans hg5).trans hgk⟩
set_option maxRecDepth 100000 in
set_option maxHeartbeats 4000000 in
theorem rows_eqg (w : World) (A : Option Addr) (n c : Nat) (l : List Int) (hr : Reads w w.heap.size 1 A n (l.map (Value.int .u64))) (hw : ∀ z ∈ l, 0 ≤ z ∧ z < 18446744073709551616) (s : ByteArray) (hs0 : s.size ≤ 9223372036854775807) (x : Int) (hx : -9223372036854775808 ≤ x ∧ x ≤ 9223372036854775807) (hcase : 100 < s.size) (hnm : n ≤ 9223372036854775807) (hkc : n = 20) :
    Calls Try.prog 7 #[.slice A n c, .string s, .int .i64 x] w fun e w' => e = .returned (.bool true) ∧ Grow w w' := by
  have hll : l.length = n := by have := hr.1; simpa using this
  subst hkc
  go_enter Try.func7, Try.ntmps7
  go_wp2_with fail
  obtain ⟨S, HS⟩ : ∃ S : ByteArray, Hid (S = s.extract 0 100) := ⟨_, rfl⟩
  rw [← HS.out]
  have hs : S.size ≤ 1048576 := by rw [HS.out, ByteArray.size_extract]; omega
  try rw [show decide ((100 : Int) < (s.size : Int)) = true from decide_eq_true (by omega)]
  go_loopw [7, 9] (fun bv iv wr => ∃ (i m : Nat) (A1 : Option Addr) (c1 : Nat), i ≤ 20 ∧ iv = .int .i64 i ∧ bv = .slice A1 m c1 ∧ Bytes wr wr.heap.size A1 m (rowsOf l i) ∧ m ≤ c1 ∧ c1 ≤ maxLen ∧ m ≤ 10 * i ∧ Grow w wr) (fun _ iv _ => 20 - (intOf iv).toNat)
  case atStart => exact ⟨0, 0, none, 0, by omega, rfl, rfl, Reads.nil, Nat.le_refl _, Nat.zero_le _, by omega, Grow.refl _⟩
  case round =>
    obtain ⟨i, m, A1, c1, hiK, rfl, rfl, hB, hmc, hcm, hm10, hg⟩ := hrel
    by_cases hi : i < 20
    · obtain ⟨ad, u, rfl, hadB, hxu, hcell0⟩ := hr.at_ (show i < 20 by omega)
      have hil : i < l.length := by omega
      rw [List.getElem?_map, List.getElem?_eq_getElem hil] at hxu
      injection hxu with hxu
      have hz := hw _ (List.getElem_mem hil)
      obtain ⟨q, HQ⟩ : ∃ q : Nat, Hid (q = l[i].toNat) := ⟨l[i].toNat, rfl⟩
      have hzq : l[i] = (q : Int) := by rw [HQ.out]; omega
      have hq : q < 18446744073709551616 := by rw [HQ.out]; omega
      rw [hzq] at hxu
      subst hxu
      have hcell : wr.cell? (ad.add i) = some (.int .u64 (q : Int)) := by rw [hg.cell (by rw [block_add]; exact hadB)]; exact hcell0
      have hrow : rowsOf l (i + 1) = rowsOf l i ++ enc q := by rw [HQ.out]; exact rowsOf_succ l i hil
      have HROW := Lib.hid hrow
      clear hrow hzq hz hcell0
      go_wp2_with fail
      go_at_call 8
      refine (Put_any wr A1 m c1 (rowsOf l i) hB (by omega) q hq).mono ?_
      rintro e w3 ⟨v3, rfl, hO3, hg3⟩
      rw [← HROW.out] at hO3
      have hL := enc_ten hq
      obtain ⟨m3, HM3⟩ : ∃ m3, Hid (m3 = m + (enc q).length) := ⟨_, rfl⟩
      have hm3 : m3 ≤ 10 * (i + 1) := by rw [HM3.out]; omega
      rw [← HM3.out] at hO3
      clear hL hB
      obtain ⟨A3, c3, rfl, hR3, hn3, hmx3⟩ := hO3.reads
      have hR3 : Bytes w3 w3.heap.size A3 m3 (rowsOf l (i + 1)) := hR3
      have hgo := hg.trans hg3
      clear hO3 hg hg3 hcell
      go_wp2_with fail
      go_roundw
      case rel => exact ⟨i + 1, m3, A3, c3, by omega, by go_num, rfl, hR3, hn3, hmx3, hm3, hgo⟩
      case measure => simp [intOf]; omega
    · obtain rfl : i = 20 := by omega
      obtain ⟨SB, HSB⟩ : ∃ SB : List UInt8, Hid (SB = S.data.toList) := ⟨_, rfl⟩
      have hSBl : SB.length = S.size := by rw [HSB.out, Array.length_toList]; rfl
      have hSB : (⟨SB.toArray⟩ : ByteArray) = S := by rw [HSB.out]
      obtain ⟨L2, HL2⟩ : ∃ L2, Hid (L2 = (enc S.size).length) := ⟨_, rfl⟩
      have hL2 : 1 ≤ L2 ∧ L2 ≤ 10 := by rw [HL2.out]; exact ⟨enc_pos _, enc_ten (by omega)⟩
      have hRm : (rowsOf l 20).length = m := hB.len
      obtain ⟨R, HR⟩ : ∃ R : List UInt8, Hid (R = rowsOf l 20) := ⟨_, rfl⟩
      rw [← HR.out] at hB hRm
      obtain ⟨T, HT⟩ : ∃ T : List UInt8, Hid (T = enc S.size ++ SB) := ⟨_, rfl⟩
      have hTl : T.length = L2 + S.size := by rw [HT.out, List.length_append, hSBl, HL2.out]
      have HSB2 := Lib.hid hSB
      have HRM := Lib.hid hRm
      have HTL := Lib.hid hTl
      have HSL := Lib.hid hSBl
      clear hSB hRm hTl hSBl
      go_wp2_with fail
      go_at_call 18
      refine (Text_any wr A1 m c1 R hB (by omega) S (by omega)).mono ?_
      rintro e w2 ⟨v2, rfl, hO2, hg2⟩
      rw [List.append_assoc, ← HSB.out, ← HT.out, ← HL2.out] at hO2
      obtain ⟨N, HN⟩ : ∃ N, Hid (N = m + L2 + S.size) := ⟨_, rfl⟩
      have hN : m < N ∧ N ≤ 1048800 := by rw [HN.out]; omega
      rw [← HN.out] at hO2
      obtain ⟨A2, c2, rfl, hR2, hn2, hm2⟩ := hO2.reads
      have hX : Bytes w2 w2.heap.size A2 N (R ++ T) := hR2
      have hgo := hg.trans hg2
      clear hO2 hR2 hB hg hg2
      have hd1 : decide (N ≤ m) = false := decide_eq_false (by omega)
      go_wp2_with fail
      clear hd1
      go_loopw [11, 12] (fun atv iv wq => ∃ j : Nat, j ≤ 20 ∧ iv = .int .i64 j ∧ atv = .int .i64 ((rowsOf l j).length : Int) ∧ wq = w2) (fun _ iv _ => 20 - (intOf iv).toNat)
      case atStart => exact ⟨0, by omega, rfl, rfl, rfl⟩
      case round =>
        obtain ⟨j, hjI, rfl, rfl, rfl⟩ := hrel
        obtain ⟨a, HA⟩ : ∃ a, Hid (a = (rowsOf l j).length) := ⟨_, rfl⟩
        rw [← HA.out]
        by_cases hj : j < 20
        · obtain ⟨ad, u, rfl, hadB, hxu, hcell0⟩ := hr.at_ (show j < 20 by omega)
          have hjl : j < l.length := by omega
          rw [List.getElem?_map, List.getElem?_eq_getElem hjl] at hxu
          injection hxu with hxu
          have hz := hw _ (List.getElem_mem hjl)
          obtain ⟨q, HQ⟩ : ∃ q : Nat, Hid (q = l[j].toNat) := ⟨l[j].toNat, rfl⟩
          have hzq : l[j] = (q : Int) := by rw [HQ.out]; omega
          have hq : q < 18446744073709551616 := by rw [HQ.out]; omega
          rw [hzq] at hxu
          subst hxu
          have hcell : wr.cell? (ad.add j) = some (.int .u64 (q : Int)) := by rw [hgo.cell (by rw [block_add]; exact hadB)]; exact hcell0
          have hrow : rowsOf l (j + 1) = rowsOf l j ++ enc q := by rw [HQ.out]; exact rowsOf_succ l j hjl
          obtain ⟨T', hT'⟩ := rowsOf_prefix l 20 (j + 1) (by omega) (by omega)
          obtain ⟨Lq, HLq⟩ : ∃ L, Hid (L = (enc q).length) := ⟨_, rfl⟩
          have hLq : 1 ≤ Lq ∧ Lq ≤ 10 := by rw [HLq.out]; exact ⟨enc_pos _, enc_ten hq⟩
          have hlen1 : (rowsOf l (j + 1)).length = a + Lq := by rw [hrow, List.length_append, ← HA.out, ← HLq.out]
          have hRe : R = rowsOf l j ++ (enc q ++ T') := by rw [HR.out, hT', hrow, List.append_assoc]
          have ham : a + Lq ≤ m := by
            have h1 := HRM.out
            rw [hRe, List.length_append, List.length_append, ← HA.out, ← HLq.out] at h1
            omega
          have hdrop : (R ++ T).drop a = enc q ++ (T' ++ T) := by
            rw [hRe, HA.out, List.append_assoc, List.drop_left, List.append_assoc]
          have hXd : Bytes wr wr.heap.size (A2.map (·.add a)) (N - a) (enc q ++ (T' ++ T)) := by
            have h1 := Reads.cut hX (k := a) (by omega) hn2
            rw [if_neg (by omega), ← u8s_drop, hdrop, Nat.mul_one] at h1
            exact h1
          have HLEN := Lib.hid hlen1
          have hca : ¬ c2 = a := by omega
          clear hzq hz hcell0 hrow hT' hRe hdrop hlen1
          go_wp2_with fail
          go_at_call 9
          refine (Get_any wr _ (A2.map (·.add a)) (N - a) (c2 - a) _ hXd (by unfold maxLen at hm2 ⊢; omega)).mono ?_
          rintro e w4 ⟨v, k, hG, rfl, rfl⟩
          obtain ⟨hv, hk⟩ := hG.one (n' := q) (k' := (enc q).length) (.inl ⟨hq, List.prefix_append _ _, rfl⟩)
          rw [← HLq.out] at hk
          obtain rfl : q = v := hv.symm
          obtain rfl : k = Lq := hk
          clear hG hXd
          have hd2 : decide ((k : Int) < 1) = false := decide_eq_false (by omega)
          go_wp2_with fail
          go_roundw
          case rel => exact ⟨j + 1, by omega, by go_num, by rw [HLEN.out]; push_cast; rfl, trivial⟩
          case measure => simp [intOf]; omega
        · have hjj : j = 20 := by omega
          have ham : a = m := by rw [HA.out, hjj, ← HR.out]; exact HRM.out
          subst ham
          have hXm : Bytes wr wr.heap.size (A2.map (·.add a)) (N - a) T := by
            have h1 := Reads.cut hX (k := a) (by omega) hn2
            rw [if_neg (by omega), ← u8s_drop, ← HRM.out, List.drop_left, HRM.out, Nat.mul_one] at h1
            exact h1
          have hca : ¬ c2 = a := by omega
          have hC0 : CutIs T SB (N - a) := .inl ⟨by rw [HSL.out]; omega, by rw [HSL.out, HT.out]; exact List.prefix_refl _, by rw [HSL.out, ← HL2.out, HN.out]; omega⟩
          have HC0 := Lib.hid hC0
          clear hC0 HR hX
          subst hjj
          go_wp2_with fail
          go_at_call 19
          refine (Cut_any wr _ (A2.map (·.add a)) (N - a) (c2 - a) T hXm (Nat.le_refl _) (by omega) (by unfold maxLen at hm2 ⊢; omega)).mono ?_
          rintro e w3 ⟨t, k, hC, rfl, hg3⟩
          obtain ⟨ht, hk⟩ := hC.one HC0.out
          obtain rfl : SB = t := ht.symm
          subst hk
          rw [HSB2.out]
          clear hC
          have hgo3 := hgo.trans hg3
          have hX3 : Bytes w3 w3.heap.size (A2.map (·.add a)) (N - a) T := Reads.more (Reads.below hXm hg3) hg3.size
          have hNl : N - a = L2 + S.size := by rw [HN.out]; omega
          have HNL := Lib.hid hNl
          clear hNl
          go_wp2_with fail
          go_at_call 17
          refine (within_nat _ x 0 _ hx (by omega) (by omega) (by omega)).mono ?_
          rintro e w4 ⟨p, hp0, hp1, rfl, rfl⟩
          have hpN : p < N - a := by omega
          clear hp0 hp1
          have hXp : Bytes w3 w3.heap.size (A2.map (·.add a)) p (T.take p) := by
            have := Reads.take hX3 (k := p) (by omega)
            unfold Bytes
            rw [u8s_take]; exact this
          have hno : ∀ t2 k2, CutIs (T.take p) t2 k2 → k2 = 0 := fun t2 k2 h => (h.one (CutIs.none fun t' ht' hp => by
            have h1 : enc t'.length ++ t' <+: T := hp.trans (List.take_prefix _ _)
            have h2 : enc S.size ++ SB <+: T := by rw [← HT.out]; exact List.prefix_refl _
            have h3 := hp.length_le
            rw [List.length_take] at h3
            have h4 : t' = SB := cut_prefix h1 (by rw [HSL.out]; exact h2)
            rw [h4, List.length_append, HSL.out, ← HL2.out] at h3
            have := HNL.out
            omega)).2
          have hcp : ¬ (c2 : Int) < (a : Int) + (p : Int) := by omega
          have hcp2 : ¬ (a : Int) + (p : Int) < (a : Int) := by omega
          go_wp2_with fail
          go_at_call 19
          refine (Cut_any w3 _ (A2.map (·.add a)) p (c2 - a) (T.take p) hXp (Nat.le_refl _) (by omega) (by unfold maxLen at hm2 ⊢; omega)).mono ?_
          rintro e w5 ⟨t2, k2, hC2, rfl, hg5⟩
          obtain rfl := hno t2 k2 hC2
          clear hno hC2 hXp hX3 hXm
          have hcast : ((N - a : Nat) : Int) = (N : Int) - (a : Int) := by omega
          go_wp2_with (go_at_call 12; refine (known_any _).mono ?_; rintro e wk ⟨rfl, hgk⟩)
          go_ret
          exact ⟨rfl, (hgo3.trans hg5).trans hgk⟩
theorem rows_any (w : World) (A : Option Addr) (n c : Nat) (l : List Int) (hr : Reads w w.heap.size 1 A n (l.map (Value.int .u64))) (hw : ∀ z ∈ l, 0 ≤ z ∧ z < 18446744073709551616) (s : ByteArray) (hs0 : s.size ≤ 9223372036854775807) (x : Int) (hx : -9223372036854775808 ≤ x ∧ x ≤ 9223372036854775807) (hnm : n ≤ 9223372036854775807) :
    Calls Try.prog 7 #[.slice A n c, .string s, .int .i64 x] w fun e w' => e = .returned (.bool true) ∧ Grow w w' := by
  rcases Nat.lt_trichotomy n 20 with h | h | h
  · by_cases hs : s.size ≤ 100
    · exact rows_lts w A n c l hr hw s hs0 x hx hs hnm h
    · exact rows_ltg w A n c l hr hw s hs0 x hx (by omega) hnm h
  · by_cases hs : s.size ≤ 100
    · exact rows_eqs w A n c l hr hw s hs0 x hx hs hnm h
    · exact rows_eqg w A n c l hr hw s hs0 x hx (by omega) hnm h
  · by_cases hs : s.size ≤ 100
    · exact rows_gts w A n c l hr hw s hs0 x hx hs hnm h
    · exact rows_gtg w A n c l hr hw s hs0 x hx (by omega) hnm h
theorem u64_of_wf {l : List Int} (h : ∀ z ∈ l, (Lit.int .u64 z).wf = true) : ∀ z ∈ l, 0 ≤ z ∧ z < 18446744073709551616 := fun z hz => by
  have := h z hz
  simp [Lit.wf, IntKind.min, IntKind.max, IntKind.signed, IntKind.bits] at this
  omega
end Go.Proofs.Ytoeffekghmmmjaa
