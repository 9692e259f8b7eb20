/- CountNumbers: its walk. -/
import Derived.Test.YtnijeemldhmkjaaLplays
import Derived.Test.YtnijeemldhmkjaaLtape
import Derived.Laws.Runes
namespace Go.Proofs.Ytnijeemldhmkjaa
open Go.RowKit Go.Hop
theorem in_keep {w w' : World} {V : Nat → Prop} {size n : Nat} {A : Option Addr} {xs : List Value} (h : In w V size A n xs) (hg : Grow w w') : In w' V size A n xs := h.grow hg
/-- two rows of deltas, laid, and a row of the two -/
theorem laid2 (w : World) (Vo : Nat → Prop) {v : Value} {q : List Rr} (hO : Own w Vo 27 1 v q.length (q.flatMap Rr.cells)) (hVo : ∀ x, Vo x → x < w.heap.size) (hq : ∀ b ∈ q, RrIn w (fun x => x < w.heap.size ∧ ¬ Vo x) b)
    (cs1 cs2 : Array Value) (l1 l2 : List Dl) (n1 n2 : Nat) (h1 : cs1.toList = dcells l1) (h2 : cs2.toList = dcells l2) (hn1 : n1 = l1.length) (hn2 : n2 = l2.length) (hs1 : n1 ≤ 100) (hs2 : n2 ≤ 100) (ok1 : ∀ d ∈ l1, d.1.size ≤ maxLen ∧ d.2 ≤ M64) (ok2 : ∀ d ∈ l2, d.1.size ≤ maxLen ∧ d.2 ≤ M64) (w3 : World)
    (hw : w3 = ((w.alloc (.cells cs1 34)).alloc (.cells cs2 34)).alloc (.cells #[.slice (some ⟨w.heap.size, 0, none⟩) n1 n1, .slice (some ⟨w.heap.size + 1, 0, none⟩) n2 n2] 27)) :
    ∃ b1 b2 : Rr, Own w3 Vo 27 1 v q.length (q.flatMap Rr.cells) ∧ Reads w3 (w.heap.size + 1 + 1 + 1) 1 (some ⟨w.heap.size + 1 + 1, 0, none⟩) 2 ([b1, b2].flatMap Rr.cells) ∧ (∀ b ∈ q ++ [b1, b2], RrIn w3 (fun x => x < w3.heap.size ∧ ¬ Vo x) b) ∧ w3.heap.size = w.heap.size + 3 ∧ Grow w w3 := by
  have g1 : Grow w (w.alloc (.cells cs1 34)) := (Below.refl _ _).alloc (Nat.le_refl _) _
  have g2 : Grow (w.alloc (.cells cs1 34)) ((w.alloc (.cells cs1 34)).alloc (.cells cs2 34)) := (Below.refl _ _).alloc (Nat.le_refl _) _
  have g3 : Grow ((w.alloc (.cells cs1 34)).alloc (.cells cs2 34)) w3 := by rw [hw]; exact (Below.refl _ _).alloc (Nat.le_refl _) _
  have g : Grow w w3 := (g1.trans g2).trans g3
  have hsz : w3.heap.size = w.heap.size + 3 := by rw [hw]; simp
  have z1 : cs1.size = n1 * 2 := by rw [← Array.length_toList, h1, dcells_len, hn1]
  have z2 : cs2.size = n2 * 2 := by rw [← Array.length_toList, h2, dcells_len, hn2]
  have i1 := ((in_laid w cs1 34 z1).grow g2).grow g3
  have i2 := (in_laid (w.alloc (.cells cs1 34)) cs2 34 z2).grow g3
  rw [h1] at i1
  rw [h2] at i2
  have hr := reads_laid ((w.alloc (.cells cs1 34)).alloc (.cells cs2 34)) #[.slice (some ⟨w.heap.size, 0, none⟩) n1 n1, .slice (some ⟨w.heap.size + 1, 0, none⟩) n2 n2] 27 (0, 0) (n := 2) (size := 1) rfl (w.heap.size + 1 + 1) (by simp)
  rw [← hw] at hr
  have hs : (w.alloc (.cells cs1 34)).heap.size = w.heap.size + 1 := by simp
  rw [hs] at i2
  refine ⟨⟨some ⟨w.heap.size, 0, none⟩, n1, l1⟩, ⟨some ⟨w.heap.size + 1, 0, none⟩, n2, l2⟩, hO.grow hVo g, ?_, fun b hb => ?_, hsz, g⟩
  · have e : ([(⟨some ⟨w.heap.size, 0, none⟩, n1, l1⟩ : Rr), ⟨some ⟨w.heap.size + 1, 0, none⟩, n2, l2⟩].flatMap Rr.cells) = (#[.slice (some ⟨w.heap.size, 0, none⟩) n1 n1, .slice (some ⟨w.heap.size + 1, 0, none⟩) n2 n2] : Array Value).toList := by
      simp [Rr.cells, Rr.val, hn1, hn2]
    rw [e]; exact hr
  · rcases List.mem_append.1 hb with hb | hb
    · exact ((hq b hb).keep fun x _ hx => g.block x hx).mono fun x hx => ⟨by omega, hx.2⟩
    · simp only [List.mem_cons, List.not_mem_nil, or_false] at hb
      rcases hb with rfl | rfl
      · exact ⟨hn1 ▸ i1.mono fun x hx => ⟨by omega, fun hv => by have := hVo x hv; omega⟩, ok1, by show l1.length ≤ 1000000; omega⟩
      · exact ⟨hn2 ▸ i2.mono fun x hx => ⟨by omega, fun hv => by have := hVo x hv; omega⟩, ok2, by show l2.length ≤ 1000000; omega⟩
theorem laid4 (w w' : World) (hw : w' = (((w.alloc (.cells #[.string { data := #[] }, .int .u64 0] 34)).alloc (.cells #[.string { data := #[] }, .int .u64 5, .string { data := #[] }, .int .u64 18446744073709551610] 34)).alloc (.cells #[.string { data := #[] }, .int .u64 1] 34)).alloc (.cells #[.slice none 0 0, .slice (some ⟨w.heap.size, 0, none⟩) 1 1, .slice (some ⟨w.heap.size + 1, 0, none⟩) 2 2, .slice (some ⟨w.heap.size + 1 + 1, 0, none⟩) 1 1] 27)) :
    RowsIn w' (fun x => x < w'.heap.size) (some ⟨w.heap.size + 1 + 1 + 1, 0, none⟩) [⟨none, 0, []⟩, ⟨some ⟨w.heap.size, 0, none⟩, 1, [(.empty, 0)]⟩, ⟨some ⟨w.heap.size + 1, 0, none⟩, 2, [(.empty, 5), (.empty, 18446744073709551610)]⟩, ⟨some ⟨w.heap.size + 1 + 1, 0, none⟩, 1, [(.empty, 1)]⟩] ∧ Grow w w' := by
  generalize e1 : w.alloc (.cells #[.string { data := #[] }, .int .u64 0] 34) = w1 at hw
  generalize e2 : w1.alloc (.cells #[.string { data := #[] }, .int .u64 5, .string { data := #[] }, .int .u64 18446744073709551610] 34) = w2 at hw
  generalize e3 : w2.alloc (.cells #[.string { data := #[] }, .int .u64 1] 34) = w3 at hw
  have s1 : w1.heap.size = w.heap.size + 1 := by rw [← e1]; simp
  have s2 : w2.heap.size = w.heap.size + 1 + 1 := by rw [← e2]; simp [s1]
  have s3 : w3.heap.size = w.heap.size + 1 + 1 + 1 := by rw [← e3]; simp [s2]
  have s4 : w'.heap.size = w.heap.size + 1 + 1 + 1 + 1 := by rw [hw]; simp [s3]
  have g1 : Grow w w1 := by rw [← e1]; exact (Below.refl _ _).alloc (Nat.le_refl _) _
  have g2 : Grow w1 w2 := by rw [← e2]; exact (Below.refl _ _).alloc (Nat.le_refl _) _
  have g3 : Grow w2 w3 := by rw [← e3]; exact (Below.refl _ _).alloc (Nat.le_refl _) _
  have g4 : Grow w3 w' := by rw [hw]; exact (Below.refl _ _).alloc (Nat.le_refl _) _
  have i1 : In w' (fun x => x < w'.heap.size) 2 (some ⟨w.heap.size, 0, none⟩) 1 (dcells [(.empty, 0)]) := by
    have := in_laid w #[.string { data := #[] }, .int .u64 0] 34 (n := 1) (size := 2) rfl
    rw [e1] at this
    exact (((this.grow g2).grow g3).grow g4).mono fun x hx => by omega
  have i2 : In w' (fun x => x < w'.heap.size) 2 (some ⟨w.heap.size + 1, 0, none⟩) 2 (dcells [(.empty, 5), (.empty, 18446744073709551610)]) := by
    have := in_laid w1 #[.string { data := #[] }, .int .u64 5, .string { data := #[] }, .int .u64 18446744073709551610] 34 (n := 2) (size := 2) rfl
    rw [e2, s1] at this
    exact ((this.grow g3).grow g4).mono fun x hx => by omega
  have i3 : In w' (fun x => x < w'.heap.size) 2 (some ⟨w.heap.size + 1 + 1, 0, none⟩) 1 (dcells [(.empty, 1)]) := by
    have := in_laid w2 #[.string { data := #[] }, .int .u64 1] 34 (n := 1) (size := 2) rfl
    rw [e3, s2] at this
    exact (this.grow g4).mono fun x hx => by omega
  have i4 := in_laid w3 #[.slice none 0 0, .slice (some ⟨w.heap.size, 0, none⟩) 1 1, .slice (some ⟨w.heap.size + 1, 0, none⟩) 2 2, .slice (some ⟨w.heap.size + 1 + 1, 0, none⟩) 1 1] 27 (n := 4) (size := 1) rfl
  rw [← hw, s3] at i4
  have h0 : (ByteArray.empty).size ≤ 100 := by decide +kernel
  refine ⟨⟨i4.mono fun x hx => by omega, fun b hb => ?_⟩, ((g1.trans g2).trans g3).trans g4⟩
  simp only [List.mem_cons, List.not_mem_nil, or_false] at hb
  rcases hb with rfl | rfl | rfl | rfl
  · exact ⟨In.nil, by simp, by simp⟩
  · exact ⟨i1, by intro d hd; rw [List.mem_singleton.1 hd]; exact small_of h0 (by omega), by simp⟩
  · exact ⟨i2, by intro d hd; simp at hd; rcases hd with hd | hd <;> rw [hd] <;> exact small_of h0 (by omega), by simp⟩
  · exact ⟨i3, by intro d hd; rw [List.mem_singleton.1 hd]; exact small_of h0 (by omega), by simp⟩
theorem rune_conv {i : Nat} (hi : i < 19) : ∃ x : ByteArray, x.size ≤ 4 ∧ ∀ w, (convert 21 9 (.int .i32 ((97 : Int) + (i : Int)))).run Try.prog w = .ok (.string x) w := by
  refine ⟨Utf8.encode ((97 : Int) + (i : Int)), ?_, fun w => run_convert_int_string w _ _ _ _ (by kernel_rfl) Try.underlying9⟩
  have hv : Utf8.valid ((97 : Int) + (i : Int)) = true := by rw [validRune_eq]; exact decide_eq_true (by omega)
  have hc : ((97 : Int) + (i : Int)).toNat < 128 := by omega
  unfold Utf8.encode
  simp only [hv, if_true, hc]
  show 1 ≤ 4
  omega
set_option maxRecDepth 100000 in
set_option maxHeartbeats 1000000 in
theorem numbers_any (w : World) : Calls Try.prog 6 #[] w fun e w' => e = .returned (.bool true) ∧ Grow w w' := by
  go_enter Try.func6, Try.ntmps6
  go_wp2_with fail
  go_loopw [1] (fun i wr => ∃ k : Nat, k ≤ 40 ∧ i = .int .i64 (k : Int) ∧ Grow w wr) (fun i _ => 40 - (intOf i).toNat)
  case atStart => exact ⟨0, by omega, rfl, Grow.refl _⟩
  case round =>
    obtain ⟨k, hk40, rfl, hgw⟩ := hrel
    by_cases hk : k < 40
    · have hkt : decide ((k : Int) < 40) = true := decide_eq_true (by omega)
      go_wp2_with fail
      refine (tape_any wr k (by omega)).mono ?_
      rintro e w1 ⟨v, l, rfl, hO, hl, hz, hg1⟩
      obtain ⟨A, c, rfl, hI, hnc, hcm⟩ := hO.in_
      have hs1 := hg1.size
      have hrows := rows_any w1 A l.length c l (New wr w1) hI (fun b hb => hb.2) (by omega) hz 40 (by omega)
      rw [show ((40 : Nat) : Int) = 40 from rfl] at hrows
      go_wp2_with fail
      refine hrows.mono ?_
      rintro e w2 ⟨v2, q, rfl, hR, hql, hg2⟩
      obtain ⟨A2, c2, rfl, hnc2, hcm2, hRI⟩ := hR.ins
      have hp := play_any w2 A2 c2 (q.map Dr.rr) (New w1 w2) hRI (fun b hb => hb.2) q.length (by rw [List.length_map])
      clear hrows hO hI hRI hR
      go_wp2_with fail
      refine hp.mono ?_
      rintro e w3 ⟨rfl, hg3⟩
      have hg12 := below_trans hg1 hg2 hs1
      have hg13 := below_trans hg12 hg3 hg12.size
      have hg03 := below_trans hgw hg13 hgw.size
      clear hp
      go_wp2_with fail
      go_roundw
      case rel => exact ⟨k + 1, by omega, by go_num, hg03⟩
      case measure => simp [intOf]; omega
    · obtain rfl : k = 40 := by omega
      have hkt : decide (((40 : Nat) : Int) < 40) = false := rfl
      go_wp2_with fail
      rw [show ((40 : Nat) : Int) = 40 from rfl]
      go_loopw [2, 3] (fun o i wz => ∃ (j : Nat) (q : List Rr) (Vo : Nat → Prop), j ≤ 19 ∧ i = .int .i64 (j : Int) ∧ q.length = 2 * j ∧ Own wz Vo 27 1 o q.length (q.flatMap Rr.cells) ∧ (∀ b ∈ q, RrIn wz (fun x => x < wz.heap.size ∧ ¬ Vo x) b) ∧ (∀ x, Vo x → w.heap.size ≤ x ∧ x < wz.heap.size) ∧ Grow w wz) (fun _ i _ => 19 - (intOf i).toNat)
      case atStart => exact ⟨0, [], fun _ => False, by omega, rfl, rfl, Own.nil, by simp, fun x h => h.elim, hgw⟩
      case round =>
        clear hgw hkt hk hk40
        obtain ⟨j, q, Vo, hj19, rfl, hql, hO, hq, hVo, hgz⟩ := hrel
        obtain ⟨Ab, cb, rfl, hIb, hnb, hmb⟩ := hO.in_
        have hsz := hgz.size
        by_cases hj : j < 19
        · have hjt : decide ((j : Int) < 19) = true := decide_eq_true (by omega)
          obtain ⟨tx, htx, hcv⟩ := rune_conv hj
          have hw1 : IntKind.i32.wrap ((97 : Int) + (j : Int)) = (97 : Int) + (j : Int) := by simp [IntKind.wrap, IntKind.bits, IntKind.signed]; omega
          have hw2 : IntKind.u64.wrap (j : Int) = (j : Int) := by rw [IntKind.wrap_u64]; omega
          go_wp2_with (at_builtin; refine stay ?_)
          refine stay_out ?_
          generalize hw3 : ((wr.alloc _).alloc _).alloc _ = w3
          obtain ⟨b1, b2, hO3, hR3, hq3, hs3, hg3⟩ := laid2 wr Vo hO (fun x hx => (hVo x hx).2) hq _ _ [({ data := #[115] } ++ tx, j)] [({ data := #[115, 97] }, 1)] 1 1 rfl rfl rfl rfl (by omega) (by omega)
            (by intro d hd; rw [List.mem_singleton.1 hd]; refine small_of ?_ (by show j ≤ _; omega); show (({ data := #[115] } : ByteArray) ++ tx).size ≤ 100; rw [ByteArray.size_append]; have : (({ data := #[115] } : ByteArray)).size = 1 := rfl; omega) (by intro d hd; rw [List.mem_singleton.1 hd]; exact small_of (by decide +kernel) (by omega)) w3 hw3.symm
          clear hw3 hcv
          refine wpList_own (V := Vo) sdE _ rfl (.tmp 17) (.tmp 29) rfl (.slice Ab q.length cb) q.length (q.flatMap Rr.cells) rfl hO3 (wr.heap.size + 1 + 1 + 1) (some ⟨wr.heap.size + 1 + 1, 0, none⟩) 2 2 ([b1, b2].flatMap Rr.cells) rfl hR3 (rcells_one _) (by omega) ?_
          intro v7 w7 hO7 hj7
          have hs7 := hj7.size
          have hO7' : Own w7 (Ext Vo w3 w7) 27 1 v7 (q ++ [b1, b2]).length ((q ++ [b1, b2]).flatMap Rr.cells) := by
            rw [List.flatMap_append, List.length_append]; exact hO7
          have hq7 : ∀ b ∈ q ++ [b1, b2], RrIn w7 (fun x => x < w7.heap.size ∧ ¬ Ext Vo w3 w7 x) b := fun b hb => ((hq3 b hb).keep fun x hx hxl => hj7.block x hxl hx.2).mono fun x hx => ⟨by omega, fun h => by
            rcases h with h | h
            · exact hx.2 h
            · have := h.1; omega⟩
          have hV7 : ∀ x, Ext Vo w3 w7 x → w.heap.size ≤ x ∧ x < w7.heap.size := fun x hx => by
            rcases hx with hx | hx
            · have := hVo x hx; omega
            · have := hx.1; exact ⟨by omega, hx.2⟩
          have hg7 : Grow w w7 := Below.trans (below_trans hgz hg3 hsz) (hj7.below (B := w.heap.size) (fun b hb => (hVo b hb).1) (by omega))
          have hl7 : (q ++ [b1, b2]).length = 2 * (j + 1) := by rw [List.length_append, hql]; show 2 * j + 2 = _; omega
          generalize Ext Vo w3 w7 = V7 at hO7' hq7 hV7
          generalize q ++ [b1, b2] = q7 at hO7' hq7 hl7
          clear hO7 hj7 hO hq hVo hgz hIb hO3 hR3 hq3 hg3 hql
          go_wp2_with fail
          go_roundw
          case rel => exact ⟨j + 1, q7, V7, by omega, by go_num, hl7, hO7', hq7, hV7, hg7⟩
          case measure => simp [intOf]; omega
        · obtain rfl : j = 19 := by omega
          have hjt : decide (((19 : Nat) : Int) < 19) = false := rfl
          go_wp2_with (at_builtin; refine stay ?_)
          refine stay_out ?_
          generalize hw3 : ((wr.alloc _).alloc _).alloc _ = w3
          obtain ⟨b1, b2, hO3, hR3, hq3, hs3, hg3⟩ := laid2 wr Vo hO (fun x hx => (hVo x hx).2) hq _ _ [({ data := #[110, 101, 119] }, 9223372036854775808), ({ data := #[110, 101, 119] }, 9223372036854775808)] [({ data := #[115, 98] }, 18446744073709551615), ({ data := #[122, 122] }, 1)] 2 2 rfl rfl rfl rfl (by omega) (by omega)
            (by intro d hd; simp at hd; rw [hd]; exact small_of (by decide +kernel) (by omega)) (by intro d hd; simp at hd; rcases hd with hd | hd <;> rw [hd] <;> exact small_of (by decide +kernel) (by omega)) w3 hw3.symm
          clear hw3
          refine wpList_own (V := Vo) sdE _ rfl (.tmp 31) (.tmp 38) rfl (.slice Ab q.length cb) q.length (q.flatMap Rr.cells) rfl hO3 (wr.heap.size + 1 + 1 + 1) (some ⟨wr.heap.size + 1 + 1, 0, none⟩) 2 2 ([b1, b2].flatMap Rr.cells) rfl hR3 (rcells_one _) (by omega) ?_
          intro v7 w7 hO7 hj7
          have hs7 := hj7.size
          obtain ⟨A7, c7, rfl, hI7, hn7, hm7⟩ := hO7.in_
          have hRI7 : RowsIn w7 (fun x => x < w7.heap.size) A7 (q ++ [b1, b2]) := by
            refine ⟨?_, fun b hb => ((hq3 b hb).keep fun x hx hxl => hj7.block x hxl hx.2).mono fun x hx => by omega⟩
            rw [List.flatMap_append, List.length_append]
            exact hI7.mono fun x hx => by
              rcases hx with hx | hx
              · have := (hVo x hx).2; omega
              · exact hx.2
          have hg7 : Grow w w7 := Below.trans (below_trans hgz hg3 hsz) (hj7.below (B := w.heap.size) (fun b hb => (hVo b hb).1) (by omega))
          have hp1 := play_any w7 A7 c7 _ _ hRI7 (fun b hb => hb) 40 (by rw [List.length_append, hql]; rfl)
          clear hO7 hj7 hO hq hVo hgz hIb hO3 hR3 hq3 hg3 hI7 hRI7
          go_wp2_with fail
          refine hp1.mono ?_
          rintro e w8 ⟨rfl, hg8⟩
          clear hp1
          have hg08 := below_trans hg7 hg8 hg7.size
          obtain ⟨w9, Hw9⟩ : ∃ w9 : World, Hid (w9 = (((w8.alloc (.cells #[.string { data := #[] }, .int .u64 0] 34)).alloc (.cells #[.string { data := #[] }, .int .u64 5, .string { data := #[] }, .int .u64 18446744073709551610] 34)).alloc (.cells #[.string { data := #[] }, .int .u64 1] 34)).alloc (.cells #[.slice none 0 0, .slice (some ⟨w8.heap.size, 0, none⟩) 1 1, .slice (some ⟨w8.heap.size + 1, 0, none⟩) 2 2, .slice (some ⟨w8.heap.size + 1 + 1, 0, none⟩) 1 1] 27)) := ⟨_, rfl⟩
          obtain ⟨hRI9, hg9⟩ := laid4 w8 w9 Hw9.out
          have hp2 := play_any w9 _ 4 _ _ hRI9 (fun b hb => hb) 4 rfl
          go_wp2_with fail
          rw [← Hw9.out]
          refine hp2.mono ?_
          rintro e w10 ⟨rfl, hg10⟩
          go_wp2_with fail
          refine (known_any _).mono ?_
          rintro e w11 ⟨rfl, hg11⟩
          go_wp2_with fail
          go_ret
          have hg09 := below_trans hg08 hg9 hg08.size
          have hg010 := below_trans hg09 hg10 hg09.size
          exact ⟨rfl, below_trans hg010 hg11 hg010.size⟩
end Go.Proofs.Ytnijeemldhmkjaa
