/- LabelTells: its walk. -/
import Derived.Test.YthkkfdnechmddaaDoorWrefuses
namespace Go.Proofs.YthkkfdnechmddaaDoor
open Go.RowKit Go.Hop
theorem and7 (z : Int) : bits .and .i64 z 7 = z % 8 := by
  have h127 : (BitVec.ofInt 64 7).toNat = 2 ^ 3 - 1 := by decide
  have key : (BitVec.ofInt 64 z &&& BitVec.ofInt 64 7).toNat = (z % ((2 ^ 64 : Nat) : Int)).toNat % 2 ^ 3 := by
    rw [BitVec.toNat_and, BitVec.toNat_ofInt, h127, Nat.and_two_pow_sub_one_eq_mod]
  show IntKind.i64.wrap ((BitVec.ofInt 64 z &&& BitVec.ofInt 64 7).toNat : Nat) = z % 8
  rw [key, IntKind.wrap_i64]
  omega
theorem own_in {w : World} {V : Nat → Prop} {e : TypeId} {size n c : Nat} {A : Option Addr} {xs : List Value} (h : Own w V e size (.slice A n c) n xs) : In w V size A n xs := by
  obtain ⟨A', c', e1, hI, _⟩ := Own.in_ h
  injection e1 with e1 e2 e3
  subst e1
  exact hI
theorem same_of {w : World} {B m : Nat} {v : Value} {l q : List Lb} (h : OwnF B 25 2 m (lcells l ++ lcells q) v w) (hl : ∀ d ∈ l, d.1.size ≤ maxLen ∧ d.2.size ≤ maxLen) (hq : ∀ d ∈ q, d.1.size ≤ maxLen ∧ d.2.size ≤ maxLen) (hm : m ≤ 9223372036854775807) :
    Calls Tryd.prog 8 #[v] w fun e w' => e = .returned (.bool true) ∧ Grow w w' := by
  obtain ⟨A, c, rfl, hI, _, _⟩ := Own.in_ h
  rw [show lcells l ++ lcells q = lcells (l ++ q) by unfold lcells; rw [List.flatMap_append]] at hI
  refine same_any w _ A m c (l ++ q) hI (fun d hd => ?_) hm
  rcases List.mem_append.1 hd with hd | hd
  · exact hl d hd
  · exact hq d hd
set_option maxRecDepth 100000 in
set_option maxHeartbeats 2000000 in
theorem tells_any (w : World) (A0 : Option Addr) (n0 c0 : Nat) (l0 : List Int) (hl0 : Reads w w.heap.size 1 A0 n0 (l0.map (Value.int .i64))) (hx0 : ∀ z ∈ l0, -9223372036854775808 ≤ z ∧ z ≤ 9223372036854775807) (hn0 : n0 ≤ 9223372036854775807) (A1 : Option Addr) (n1 c1 : Nat) (raw : List Lb) (hR : In w (fun b => b < w.heap.size) 2 A1 n1 (lcells raw)) (hRs : ∀ d ∈ raw, d.1.size ≤ maxLen ∧ d.2.size ≤ maxLen) (hnc1 : n1 ≤ c1) (hcm1 : c1 ≤ maxLen) (s : ByteArray) (hs : s.size ≤ maxLen) (x3 x4 : Int)
    (hx3 : -9223372036854775808 ≤ x3 ∧ x3 ≤ 9223372036854775807) (hx4 : -9223372036854775808 ≤ x4 ∧ x4 ≤ 9223372036854775807) :
    Calls Tryd.prog 4 #[.slice A0 n0 c0, .slice A1 n1 c1, .string s, .int .i64 x3, .int .i64 x4] w fun e w' => e = .returned (.bool true) ∧ Grow w w' := by
  have k8 : ∀ (vs : Array Value) (w : World), (callFunc 8 vs).run Tryd.prog w = .ok (.enter 8 vs) w := fun vs w => by go_simp
  have k9 : ∀ (vs : Array Value) (w : World), (callFunc 9 vs).run Tryd.prog w = .ok (.enter 9 vs) w := fun vs w => by go_simp
  have k10 : ∀ (vs : Array Value) (w : World), (callFunc 10 vs).run Tryd.prog w = .ok (.enter 10 vs) w := fun vs w => by go_simp
  have hI0 : In w (fun b => b < w.heap.size) 1 A0 n0 (l0.map (Value.int .i64)) := Reads.in_ hl0 (Nat.le_refl _) fun _ h => h
  have hT0 := tape_made w A0 n0 c0 l0 hI0 hx0 hn0
  have hg0 : Grow w (w.alloc (.cells #[.slice A0 n0 c0, .int .i64 0] 32)) := (Below.refl _ _).alloc (Nat.le_refl _) _
  have hs0 := hg0.size
  go_enter Tryd.func4, Tryd.ntmps4
  go_wp2_with fail
  refine (Labels_any _ _ _ hT0 fun b hb => by omega).mono ?_
  rintro e w2 ⟨v, l, rfl, hO, hM, hT2, hj2⟩
  obtain ⟨A, c, rfl, hI, hnc, hcm⟩ := hO.in_
  have hg2 : Grow w w2 := Below.trans hg0 (hj2.below (B := w.heap.size) (fun b hb => by omega) hs0)
  have hs2 := hg2.size
  have hsm := hM.small
  have hfew := hM.few
  obtain ⟨V, HVD⟩ : ∃ V : Nat → Prop, Hid (V = New (w.alloc (.cells #[.slice A0 n0 c0, .int .i64 0] 32)) w2) := ⟨_, rfl⟩
  rw [← HVD.out] at hO hI
  have hVB0 : ∀ b, V b → (w.alloc (.cells #[.slice A0 n0 c0, .int .i64 0] 32)).heap.size ≤ b ∧ b < w2.heap.size := fun b hb => by rw [HVD.out] at hb; exact hb
  clear hT0 hT2 hj2 hI0 hl0
  obtain ⟨n, HN⟩ : ∃ n : Nat, Hid (n = l.length) := ⟨_, rfl⟩
  rw [← HN.out] at hI hO hnc hfew
  rw [show l.length = n from HN.out.symm]
  have hO2 := hO
  obtain ⟨B, HBd⟩ : ∃ B : Nat, Hid (B = w.heap.size) := ⟨_, rfl⟩
  have hVB : ∀ b, V b → B ≤ b ∧ b < w2.heap.size := fun b hb => by have := hVB0 b hb; rw [HBd.out]; omega
  have hBw : B = w.heap.size := HBd.out
  have hTx := rText_any w2 _ A n c l hI hsm (by omega)
  have htxs := text_small (l := l)
  generalize textOf l = tx at hTx htxs
  generalize rightE l = ex at hTx
  have hHVD := HVD.out
  clear hM hI hO hHVD
  clear HVD
  by_cases ha : 12 < n1
  · by_cases hb : 60 < s.size
    · skip
      have h12 : decide ((12 : Int) < (n1 : Int)) = true := decide_eq_true (by omega)
      have h60 : decide ((60 : Int) < (s.size : Int)) = true := decide_eq_true (by omega)
      have hc12 : ¬ c1 < 12 := by omega
      have hR' : In w (fun b => b < w.heap.size) 2 A1 12 (lcells (raw.take 12)) := by
        have := hR.take (k := 12) (by omega)
        rwa [show (lcells raw).take (12 * 2) = lcells (raw.take 12) from by unfold lcells; rw [flat_take lcell 2 lcell_len]] at this
      have hRs : ∀ d ∈ raw.take 12, d.1.size ≤ maxLen ∧ d.2.size ≤ maxLen := fun d hd => hRs d (List.mem_of_mem_take hd)
      have hs60 : ¬ s.size < 60 := by omega
      go_wp2_with fail
      refine hTx.mono ?_
      rintro e w3 ⟨rfl, hg3⟩
      clear hTx
      obtain ⟨S, HS⟩ : ∃ S : ByteArray, Hid (S = s.extract 0 60) := ⟨_, rfl⟩
      have hSz : S.size ≤ 60 := by rw [HS.out, ByteArray.size_extract]; omega
      rw [← HS.out]
      go_wp2_with fail
      refine (within_nat w3 x4 0 (tx.size : Int) hx4 (by omega) (by omega) (by omega)).mono ?_
      rintro e w' ⟨k, _, hk, rfl, rfl⟩
      have hktx : ¬ tx.size < k := by omega
      have hs3 := hg3.size
      have hO3 : Own w3 V 25 2 (.slice A n c) n (lcells l) := hO2.grows hg3
      have hRw : ∀ w1, Just V w3 w1 → In w1 (fun b => b < w.heap.size) 2 A1 12 (lcells (raw.take 12)) := fun w1 hj => In.just (((hR'.grow hg2).grow hg3)) hj fun b hb hv => by have := hVB b hv; omega
      have HV : ∀ w1, Just V w3 w1 → (∀ b, V b → B ≤ b ∧ b < w1.heap.size) ∧ B ≤ w1.heap.size := fun w1 hj => ⟨fun b hv => ⟨(hVB b hv).1, by have := (hVB b hv).2; have := hj.size; omega⟩, by have := hj.size; omega⟩
      have hS : S.size ≤ 1000000 := by omega
      have hcut : (tx.extract 0 k).size ≤ 1000000 := by rw [ByteArray.size_extract]; omega
      have hmid : (tx.extract 0 k ++ S ++ tx.extract k tx.size).size ≤ 1000000 := by rw [ByteArray.size_append, ByteArray.size_append, ByteArray.size_extract, ByteArray.size_extract]; omega
      go_wp2_with fail
      refine wp_region_reg rfl ?_
      refine reg_flow (AppSt V 25 2 (.slice A n c) n (lcells l) 9 [(1, 0), (10, 1)]) appSt_ok 0 46 85 [(1, .inl (.bool true)), (4, .inl (.bool true)), (9, .inr (Once (OwnF B 25 2 (n + 12) (lcells l ++ lcells (raw.take 12))))), (10, .inl (.bool true)), (15, .inl (.bool true)), (21, .inl (.bool true)), (34, .inl (.bool true)), (40, .inl (.bool true)), (43, .inl (.bool true))] rfl (by kernel_rfl) (by kernel_rfl) (by kernel_rfl) ?_ (Just.of_grow (Grow.refl _).drew) hO3 ?_
      · intro x hx φ he
        simp only [List.mem_cons, List.not_mem_nil, or_false] at hx
        rcases hx with rfl | rfl | rfl | rfl | rfl | rfl | rfl | rfl | rfl <;> cases he
        all_goals first | exact lasts_quiet (lasting_bytes _) | exact once_lasts (ownF_lasting _ _ _ _ _)
      intro ops' A' K' T hops hA' hK hT
      refine fl_mv 40 (by rfl) (by decide) (wanted_none (by rfl)) (by rw [hK.out]; rfl) (by rfl) _ (Or.inl (by rfl)) (.slice A n c) (by rfl) ?_
      refine fl_call 41 (by rfl) (by decide) (wanted_none (by rfl)) (.bool true) (by rw [hK.out]; rfl) 8 _ _ (by rfl) [.slice A n c] (by rfl) k8 (fun kk w1 (hg : Just V _ w1) hb hf => calls_behind (by rfl) (by obtain rfl := before_some 0 (by rfl) hb; have hI := hb.1; exact same_any w1 _ A n c l (own_in hI) hsm (by omega))) ?_
      refine fl_mv 42 (by rfl) (by decide) (wanted_none (by rfl)) (by rw [hK.out]; rfl) (by rfl) _ (Or.inl (by rfl)) (.bool true) (by rfl) ?_
      refine fl_mv 43 (by rfl) (by decide) (wanted_if hops 2 true (by rfl) 42 (by rfl) true (by rfl)) (by rw [hK.out]; rfl) (by rfl) _ (Or.inl (by rfl)) (.slice A1 12 c1) (by rfl) ?_
      refine fl_call 44 (by rfl) (by decide) (wanted_if hops 2 true (by rfl) 42 (by rfl) true (by rfl)) (.bool true) (by rw [hK.out]; rfl) 8 _ _ (by rfl) [.slice A1 12 c1] (by rfl) k8 (fun kk w1 (hg : Just V _ w1) hb hf => calls_behind (by rfl) (by exact same_any w1 _ A1 12 c1 (raw.take 12) (hRw w1 hg) hRs (by omega))) ?_
      refine fl_pick 45 (by rfl) (by decide) (wanted_none (by rfl)) (by rw [hK.out]; rfl) (by rfl) _ _ _ (by rfl) true (by rfl) (.bool true) (by rfl) ?_
      refine fl_mv 46 (by rfl) (by decide) (wanted_none (by rfl)) (by rw [hK.out]; rfl) (by rfl) _ (Or.inl (by rfl)) (.bool true) (by rfl) ?_
      refine fl_mv 47 (by rfl) (by decide) (wanted_if hops 6 true (by rfl) 46 (by rfl) true (by rfl)) (by rw [hK.out]; rfl) (by rfl) _ (Or.inl (by rfl)) (.slice A n c) (by rfl) ?_
      refine fl_mv 48 (by rfl) (by decide) (wanted_if hops 6 true (by rfl) 46 (by rfl) true (by rfl)) (by rw [hK.out]; rfl) (by rfl) _ (Or.inl (by rfl)) (.slice A1 12 c1) (by rfl) ?_
      refine fl_any2 49 (by rfl) (by decide) (wanted_if hops 6 true (by rfl) 46 (by rfl) true (by rfl)) (Once (OwnF B 25 2 (n + 12) (lcells l ++ lcells (raw.take 12)))) (by rw [hK.out]; rfl) (.tmp 47) (.tmp 48) (.slice A n c) (.slice A1 12 c1) (by rfl) (by rfl) (fun ρ h1 h2 kk w1 (hg : Just V _ w1) hb hf => by obtain rfl := before_some 0 (by rfl) hb; have hI := hb.1; refine upon_turnAny (φ := Once (OwnF B 25 2 (n + 12) (lcells l ++ lcells (raw.take 12)))) 0 (by rfl) ?_; exact app_stage labelE hI h1 h2 (hRw w1 hg).reads (lcells_one (raw.take 12)) (by omega) (HV w1 hg) rfl 0) (fun v49 => ?_)
      refine fl_call 50 (by rfl) (by decide) (wanted_if hops 6 true (by rfl) 46 (by rfl) true (by rfl)) (.bool true) (by rw [hK.out]; rfl) 8 _ _ (by rfl) [v49] (by rfl) k8 (fun kk w1 (hg : Just V _ w1) hb hf => calls_behind (by rfl) (by obtain rfl := before_some 1 (by rfl) hb; have hI := hb.1; exact same_of (show OwnF B 25 2 (n + 12) (lcells l ++ lcells (raw.take 12)) v49 w1 from (facts_take hf (by rw [hA'.out]; kernel_rfl))) hsm hRs (by omega))) ?_
      refine fl_pick 51 (by rfl) (by decide) (wanted_none (by rfl)) (by rw [hK.out]; rfl) (by rfl) _ _ _ (by rfl) true (by rfl) (.bool true) (by rfl) ?_
      refine fl_mv 52 (by rfl) (by decide) (wanted_none (by rfl)) (by rw [hK.out]; rfl) (by rfl) _ (Or.inl (by rfl)) (.bool true) (by rfl) ?_
      refine fl_mv 53 (by rfl) (by decide) (wanted_if hops 12 true (by rfl) 52 (by rfl) true (by rfl)) (by rw [hK.out]; rfl) (by rfl) _ (Or.inl (by rfl)) (.string S) (by rfl) ?_
      refine fl_mv 54 (by rfl) (by decide) (wanted_if hops 12 true (by rfl) 52 (by rfl) true (by rfl)) (by rw [hK.out]; rfl) (by rfl) _ (Or.inl (by rfl)) (.int .i64 x3) (by rfl) ?_
      refine fl_call 55 (by rfl) (by decide) (wanted_if hops 12 true (by rfl) 52 (by rfl) true (by rfl)) (.bool true) (by rw [hK.out]; rfl) 9 _ _ (by rfl) [.string S, .int .i64 x3] (by rfl) k9 (fun kk w1 (hg : Just V _ w1) hb hf => calls_behind (by rfl) (by exact reads_any w1 S x3 hS hx3)) ?_
      refine fl_pick 56 (by rfl) (by decide) (wanted_none (by rfl)) (by rw [hK.out]; rfl) (by rfl) _ _ _ (by rfl) true (by rfl) (.bool true) (by rfl) ?_
      refine fl_mv 57 (by rfl) (by decide) (wanted_none (by rfl)) (by rw [hK.out]; rfl) (by rfl) _ (Or.inl (by rfl)) (.bool true) (by rfl) ?_
      refine fl_mv 58 (by rfl) (by decide) (wanted_if hops 17 true (by rfl) 57 (by rfl) true (by rfl)) (by rw [hK.out]; rfl) (by rfl) _ (Or.inl (by rfl)) (.string tx) (by rfl) ?_
      refine fl_mv 59 (by rfl) (by decide) (wanted_if hops 17 true (by rfl) 57 (by rfl) true (by rfl)) (by rw [hK.out]; rfl) (by rfl) _ (Or.inl (by rfl)) (.int .i64 x3) (by rfl) ?_
      refine fl_op2 60 (by rfl) (by decide) (wanted_if hops 17 true (by rfl) 57 (by rfl) true (by rfl)) (by rw [hK.out]; rfl) (by rfl) (.tmp 59) (.const (.int .i64 7)) (.int .i64 x3) (.int .i64 7) (by rfl) (by rfl) (.int .i64 (x3 % 8)) (fun ρ h1 h2 kk w1 (hg : Just V _ w1) hb hf => by have q := and7 x3; go_simp) ?_
      refine fl_call 61 (by rfl) (by decide) (wanted_if hops 17 true (by rfl) 57 (by rfl) true (by rfl)) (.bool true) (by rw [hK.out]; rfl) 9 _ _ (by rfl) [.string tx, .int .i64 (x3 % 8)] (by rfl) k9 (fun kk w1 (hg : Just V _ w1) hb hf => calls_behind (by rfl) (by exact reads_any w1 tx (x3 % 8) (by omega) (by omega))) ?_
      refine fl_pick 62 (by rfl) (by decide) (wanted_none (by rfl)) (by rw [hK.out]; rfl) (by rfl) _ _ _ (by rfl) true (by rfl) (.bool true) (by rfl) ?_
      refine fl_mv 63 (by rfl) (by decide) (wanted_none (by rfl)) (by rw [hK.out]; rfl) (by rfl) _ (Or.inl (by rfl)) (.bool true) (by rfl) ?_
      refine fl_mv 64 (by rfl) (by decide) (wanted_if hops 23 true (by rfl) 63 (by rfl) true (by rfl)) (by rw [hK.out]; rfl) (by rfl) _ (Or.inl (by rfl)) (.string tx) (by rfl) ?_
      refine fl_mv 65 (by rfl) (by decide) (wanted_if hops 23 true (by rfl) 63 (by rfl) true (by rfl)) (by rw [hK.out]; rfl) (by rfl) _ (Or.inl (by rfl)) (.int .i64 (k : Int)) (by rfl) ?_
      refine fl_op2 66 (by rfl) (by decide) (wanted_if hops 23 true (by rfl) 63 (by rfl) true (by rfl)) (by rw [hK.out]; rfl) (by rfl) (.tmp 64) (.tmp 65) (.string tx) (.int .i64 (k : Int)) (by rfl) (by rfl) (.string (tx.extract 0 k)) (fun ρ h1 h2 kk w1 (hg : Just V _ w1) hb hf => by go_simp) ?_
      refine fl_mv 67 (by rfl) (by decide) (wanted_if hops 23 true (by rfl) 63 (by rfl) true (by rfl)) (by rw [hK.out]; rfl) (by rfl) _ (Or.inl (by rfl)) (.string S) (by rfl) ?_
      refine fl_op2 68 (by rfl) (by decide) (wanted_if hops 23 true (by rfl) 63 (by rfl) true (by rfl)) (by rw [hK.out]; rfl) (by rfl) (.tmp 66) (.tmp 67) (.string (tx.extract 0 k)) (.string S) (by rfl) (by rfl) (.string (tx.extract 0 k ++ S)) (fun ρ h1 h2 kk w1 (hg : Just V _ w1) hb hf => by go_simp; try omega) ?_
      refine fl_mv 69 (by rfl) (by decide) (wanted_if hops 23 true (by rfl) 63 (by rfl) true (by rfl)) (by rw [hK.out]; rfl) (by rfl) _ (Or.inl (by rfl)) (.string tx) (by rfl) ?_
      refine fl_mv 70 (by rfl) (by decide) (wanted_if hops 23 true (by rfl) 63 (by rfl) true (by rfl)) (by rw [hK.out]; rfl) (by rfl) _ (Or.inl (by rfl)) (.int .i64 (k : Int)) (by rfl) ?_
      refine fl_op2 71 (by rfl) (by decide) (wanted_if hops 23 true (by rfl) 63 (by rfl) true (by rfl)) (by rw [hK.out]; rfl) (by rfl) (.tmp 69) (.tmp 70) (.string tx) (.int .i64 (k : Int)) (by rfl) (by rfl) (.string (tx.extract k tx.size)) (fun ρ h1 h2 kk w1 (hg : Just V _ w1) hb hf => by go_simp) ?_
      refine fl_op2 72 (by rfl) (by decide) (wanted_if hops 23 true (by rfl) 63 (by rfl) true (by rfl)) (by rw [hK.out]; rfl) (by rfl) (.tmp 68) (.tmp 71) (.string (tx.extract 0 k ++ S)) (.string (tx.extract k tx.size)) (by rfl) (by rfl) (.string (tx.extract 0 k ++ S ++ tx.extract k tx.size)) (fun ρ h1 h2 kk w1 (hg : Just V _ w1) hb hf => by go_simp; try omega) ?_
      refine fl_mv 73 (by rfl) (by decide) (wanted_if hops 23 true (by rfl) 63 (by rfl) true (by rfl)) (by rw [hK.out]; rfl) (by rfl) _ (Or.inl (by rfl)) (.int .i64 x3) (by rfl) ?_
      refine fl_call 74 (by rfl) (by decide) (wanted_if hops 23 true (by rfl) 63 (by rfl) true (by rfl)) (.bool true) (by rw [hK.out]; rfl) 9 _ _ (by rfl) [.string (tx.extract 0 k ++ S ++ tx.extract k tx.size), .int .i64 x3] (by rfl) k9 (fun kk w1 (hg : Just V _ w1) hb hf => calls_behind (by rfl) (by exact reads_any w1 (tx.extract 0 k ++ S ++ tx.extract k tx.size) x3 hmid hx3)) ?_
      refine fl_pick 75 (by rfl) (by decide) (wanted_none (by rfl)) (by rw [hK.out]; rfl) (by rfl) _ _ _ (by rfl) true (by rfl) (.bool true) (by rfl) ?_
      refine fl_mv 76 (by rfl) (by decide) (wanted_none (by rfl)) (by rw [hK.out]; rfl) (by rfl) _ (Or.inl (by rfl)) (.bool true) (by rfl) ?_
      refine fl_mv 77 (by rfl) (by decide) (wanted_if hops 36 true (by rfl) 76 (by rfl) true (by rfl)) (by rw [hK.out]; rfl) (by rfl) _ (Or.inl (by rfl)) (.string tx) (by rfl) ?_
      refine fl_mv 78 (by rfl) (by decide) (wanted_if hops 36 true (by rfl) 76 (by rfl) true (by rfl)) (by rw [hK.out]; rfl) (by rfl) _ (Or.inl (by rfl)) (.int .i64 (k : Int)) (by rfl) ?_
      refine fl_op2 79 (by rfl) (by decide) (wanted_if hops 36 true (by rfl) 76 (by rfl) true (by rfl)) (by rw [hK.out]; rfl) (by rfl) (.tmp 77) (.tmp 78) (.string tx) (.int .i64 (k : Int)) (by rfl) (by rfl) (.string (tx.extract 0 k)) (fun ρ h1 h2 kk w1 (hg : Just V _ w1) hb hf => by go_simp) ?_
      refine fl_call 80 (by rfl) (by decide) (wanted_if hops 36 true (by rfl) 76 (by rfl) true (by rfl)) (.bool true) (by rw [hK.out]; rfl) 9 _ _ (by rfl) [.string (tx.extract 0 k), .int .i64 3] (by rfl) k9 (fun kk w1 (hg : Just V _ w1) hb hf => calls_behind (by rfl) (by exact reads_any w1 (tx.extract 0 k) 3 hcut (by omega))) ?_
      refine fl_pick 81 (by rfl) (by decide) (wanted_none (by rfl)) (by rw [hK.out]; rfl) (by rfl) _ _ _ (by rfl) true (by rfl) (.bool true) (by rfl) ?_
      refine fl_mv 82 (by rfl) (by decide) (wanted_none (by rfl)) (by rw [hK.out]; rfl) (by rfl) _ (Or.inl (by rfl)) (.bool true) (by rfl) ?_
      refine fl_call 83 (by rfl) (by decide) (wanted_if hops 42 true (by rfl) 82 (by rfl) true (by rfl)) (.bool true) (by rw [hK.out]; rfl) 10 _ _ (by rfl) [] (by rfl) k10 (fun kk w1 (hg : Just V _ w1) hb hf => calls_behind (by rfl) (by exact known_any w1)) ?_
      refine fl_pick 84 (by rfl) (by decide) (wanted_none (by rfl)) (by rw [hK.out]; rfl) (by rfl) _ _ _ (by rfl) true (by rfl) (.bool true) (by rfl) ?_
      refine fl_mv 10 (by rfl) (by decide) (wanted_none (by rfl)) (by rw [hK.out]; rfl) (by rfl) _ (Or.inr (by rfl)) (.bool true) (by rfl) ?_
      refine fl_end (fun _ _ w1 (hg : Just V _ w1) hend hfacts => hT _ _ ?_)
      clear hops hA' hK hT
      simp only [putsL, Act.put, List.setIfInBounds_toArray, List.set_cons_zero, List.set_cons_succ]
      clear hfacts hend
      refine reg_end ?_
      go_wp2_with fail
      go_ret
      exact ⟨rfl, Below.trans (below_trans hg2 hg3 hs2) (hg.below (B := w.heap.size) (fun b hb => by have := (hVB b hb).1; omega) (by omega))⟩
    · skip
      have h12 : decide ((12 : Int) < (n1 : Int)) = true := decide_eq_true (by omega)
      have h60 : decide ((60 : Int) < (s.size : Int)) = false := decide_eq_false (by omega)
      have hc12 : ¬ c1 < 12 := by omega
      have hR' : In w (fun b => b < w.heap.size) 2 A1 12 (lcells (raw.take 12)) := by
        have := hR.take (k := 12) (by omega)
        rwa [show (lcells raw).take (12 * 2) = lcells (raw.take 12) from by unfold lcells; rw [flat_take lcell 2 lcell_len]] at this
      have hRs : ∀ d ∈ raw.take 12, d.1.size ≤ maxLen ∧ d.2.size ≤ maxLen := fun d hd => hRs d (List.mem_of_mem_take hd)
      go_wp2_with fail
      refine hTx.mono ?_
      rintro e w3 ⟨rfl, hg3⟩
      clear hTx
      obtain ⟨S, HS⟩ : ∃ S : ByteArray, Hid (S = s) := ⟨_, rfl⟩
      have hSz : S.size ≤ 60 := by rw [HS.out]; omega
      rw [← HS.out]
      go_wp2_with fail
      refine (within_nat w3 x4 0 (tx.size : Int) hx4 (by omega) (by omega) (by omega)).mono ?_
      rintro e w' ⟨k, _, hk, rfl, rfl⟩
      have hktx : ¬ tx.size < k := by omega
      have hs3 := hg3.size
      have hO3 : Own w3 V 25 2 (.slice A n c) n (lcells l) := hO2.grows hg3
      have hRw : ∀ w1, Just V w3 w1 → In w1 (fun b => b < w.heap.size) 2 A1 12 (lcells (raw.take 12)) := fun w1 hj => In.just (((hR'.grow hg2).grow hg3)) hj fun b hb hv => by have := hVB b hv; omega
      have HV : ∀ w1, Just V w3 w1 → (∀ b, V b → B ≤ b ∧ b < w1.heap.size) ∧ B ≤ w1.heap.size := fun w1 hj => ⟨fun b hv => ⟨(hVB b hv).1, by have := (hVB b hv).2; have := hj.size; omega⟩, by have := hj.size; omega⟩
      have hS : S.size ≤ 1000000 := by omega
      have hcut : (tx.extract 0 k).size ≤ 1000000 := by rw [ByteArray.size_extract]; omega
      have hmid : (tx.extract 0 k ++ S ++ tx.extract k tx.size).size ≤ 1000000 := by rw [ByteArray.size_append, ByteArray.size_append, ByteArray.size_extract, ByteArray.size_extract]; omega
      go_wp2_with fail
      refine wp_region_reg rfl ?_
      refine reg_flow (AppSt V 25 2 (.slice A n c) n (lcells l) 9 [(1, 0), (10, 1)]) appSt_ok 0 46 85 [(1, .inl (.bool true)), (4, .inl (.bool true)), (9, .inr (Once (OwnF B 25 2 (n + 12) (lcells l ++ lcells (raw.take 12))))), (10, .inl (.bool true)), (15, .inl (.bool true)), (21, .inl (.bool true)), (34, .inl (.bool true)), (40, .inl (.bool true)), (43, .inl (.bool true))] rfl (by kernel_rfl) (by kernel_rfl) (by kernel_rfl) ?_ (Just.of_grow (Grow.refl _).drew) hO3 ?_
      · intro x hx φ he
        simp only [List.mem_cons, List.not_mem_nil, or_false] at hx
        rcases hx with rfl | rfl | rfl | rfl | rfl | rfl | rfl | rfl | rfl <;> cases he
        all_goals first | exact lasts_quiet (lasting_bytes _) | exact once_lasts (ownF_lasting _ _ _ _ _)
      intro ops' A' K' T hops hA' hK hT
      refine fl_mv 40 (by rfl) (by decide) (wanted_none (by rfl)) (by rw [hK.out]; rfl) (by rfl) _ (Or.inl (by rfl)) (.slice A n c) (by rfl) ?_
      refine fl_call 41 (by rfl) (by decide) (wanted_none (by rfl)) (.bool true) (by rw [hK.out]; rfl) 8 _ _ (by rfl) [.slice A n c] (by rfl) k8 (fun kk w1 (hg : Just V _ w1) hb hf => calls_behind (by rfl) (by obtain rfl := before_some 0 (by rfl) hb; have hI := hb.1; exact same_any w1 _ A n c l (own_in hI) hsm (by omega))) ?_
      refine fl_mv 42 (by rfl) (by decide) (wanted_none (by rfl)) (by rw [hK.out]; rfl) (by rfl) _ (Or.inl (by rfl)) (.bool true) (by rfl) ?_
      refine fl_mv 43 (by rfl) (by decide) (wanted_if hops 2 true (by rfl) 42 (by rfl) true (by rfl)) (by rw [hK.out]; rfl) (by rfl) _ (Or.inl (by rfl)) (.slice A1 12 c1) (by rfl) ?_
      refine fl_call 44 (by rfl) (by decide) (wanted_if hops 2 true (by rfl) 42 (by rfl) true (by rfl)) (.bool true) (by rw [hK.out]; rfl) 8 _ _ (by rfl) [.slice A1 12 c1] (by rfl) k8 (fun kk w1 (hg : Just V _ w1) hb hf => calls_behind (by rfl) (by exact same_any w1 _ A1 12 c1 (raw.take 12) (hRw w1 hg) hRs (by omega))) ?_
      refine fl_pick 45 (by rfl) (by decide) (wanted_none (by rfl)) (by rw [hK.out]; rfl) (by rfl) _ _ _ (by rfl) true (by rfl) (.bool true) (by rfl) ?_
      refine fl_mv 46 (by rfl) (by decide) (wanted_none (by rfl)) (by rw [hK.out]; rfl) (by rfl) _ (Or.inl (by rfl)) (.bool true) (by rfl) ?_
      refine fl_mv 47 (by rfl) (by decide) (wanted_if hops 6 true (by rfl) 46 (by rfl) true (by rfl)) (by rw [hK.out]; rfl) (by rfl) _ (Or.inl (by rfl)) (.slice A n c) (by rfl) ?_
      refine fl_mv 48 (by rfl) (by decide) (wanted_if hops 6 true (by rfl) 46 (by rfl) true (by rfl)) (by rw [hK.out]; rfl) (by rfl) _ (Or.inl (by rfl)) (.slice A1 12 c1) (by rfl) ?_
      refine fl_any2 49 (by rfl) (by decide) (wanted_if hops 6 true (by rfl) 46 (by rfl) true (by rfl)) (Once (OwnF B 25 2 (n + 12) (lcells l ++ lcells (raw.take 12)))) (by rw [hK.out]; rfl) (.tmp 47) (.tmp 48) (.slice A n c) (.slice A1 12 c1) (by rfl) (by rfl) (fun ρ h1 h2 kk w1 (hg : Just V _ w1) hb hf => by obtain rfl := before_some 0 (by rfl) hb; have hI := hb.1; refine upon_turnAny (φ := Once (OwnF B 25 2 (n + 12) (lcells l ++ lcells (raw.take 12)))) 0 (by rfl) ?_; exact app_stage labelE hI h1 h2 (hRw w1 hg).reads (lcells_one (raw.take 12)) (by omega) (HV w1 hg) rfl 0) (fun v49 => ?_)
      refine fl_call 50 (by rfl) (by decide) (wanted_if hops 6 true (by rfl) 46 (by rfl) true (by rfl)) (.bool true) (by rw [hK.out]; rfl) 8 _ _ (by rfl) [v49] (by rfl) k8 (fun kk w1 (hg : Just V _ w1) hb hf => calls_behind (by rfl) (by obtain rfl := before_some 1 (by rfl) hb; have hI := hb.1; exact same_of (show OwnF B 25 2 (n + 12) (lcells l ++ lcells (raw.take 12)) v49 w1 from (facts_take hf (by rw [hA'.out]; kernel_rfl))) hsm hRs (by omega))) ?_
      refine fl_pick 51 (by rfl) (by decide) (wanted_none (by rfl)) (by rw [hK.out]; rfl) (by rfl) _ _ _ (by rfl) true (by rfl) (.bool true) (by rfl) ?_
      refine fl_mv 52 (by rfl) (by decide) (wanted_none (by rfl)) (by rw [hK.out]; rfl) (by rfl) _ (Or.inl (by rfl)) (.bool true) (by rfl) ?_
      refine fl_mv 53 (by rfl) (by decide) (wanted_if hops 12 true (by rfl) 52 (by rfl) true (by rfl)) (by rw [hK.out]; rfl) (by rfl) _ (Or.inl (by rfl)) (.string S) (by rfl) ?_
      refine fl_mv 54 (by rfl) (by decide) (wanted_if hops 12 true (by rfl) 52 (by rfl) true (by rfl)) (by rw [hK.out]; rfl) (by rfl) _ (Or.inl (by rfl)) (.int .i64 x3) (by rfl) ?_
      refine fl_call 55 (by rfl) (by decide) (wanted_if hops 12 true (by rfl) 52 (by rfl) true (by rfl)) (.bool true) (by rw [hK.out]; rfl) 9 _ _ (by rfl) [.string S, .int .i64 x3] (by rfl) k9 (fun kk w1 (hg : Just V _ w1) hb hf => calls_behind (by rfl) (by exact reads_any w1 S x3 hS hx3)) ?_
      refine fl_pick 56 (by rfl) (by decide) (wanted_none (by rfl)) (by rw [hK.out]; rfl) (by rfl) _ _ _ (by rfl) true (by rfl) (.bool true) (by rfl) ?_
      refine fl_mv 57 (by rfl) (by decide) (wanted_none (by rfl)) (by rw [hK.out]; rfl) (by rfl) _ (Or.inl (by rfl)) (.bool true) (by rfl) ?_
      refine fl_mv 58 (by rfl) (by decide) (wanted_if hops 17 true (by rfl) 57 (by rfl) true (by rfl)) (by rw [hK.out]; rfl) (by rfl) _ (Or.inl (by rfl)) (.string tx) (by rfl) ?_
      refine fl_mv 59 (by rfl) (by decide) (wanted_if hops 17 true (by rfl) 57 (by rfl) true (by rfl)) (by rw [hK.out]; rfl) (by rfl) _ (Or.inl (by rfl)) (.int .i64 x3) (by rfl) ?_
      refine fl_op2 60 (by rfl) (by decide) (wanted_if hops 17 true (by rfl) 57 (by rfl) true (by rfl)) (by rw [hK.out]; rfl) (by rfl) (.tmp 59) (.const (.int .i64 7)) (.int .i64 x3) (.int .i64 7) (by rfl) (by rfl) (.int .i64 (x3 % 8)) (fun ρ h1 h2 kk w1 (hg : Just V _ w1) hb hf => by have q := and7 x3; go_simp) ?_
      refine fl_call 61 (by rfl) (by decide) (wanted_if hops 17 true (by rfl) 57 (by rfl) true (by rfl)) (.bool true) (by rw [hK.out]; rfl) 9 _ _ (by rfl) [.string tx, .int .i64 (x3 % 8)] (by rfl) k9 (fun kk w1 (hg : Just V _ w1) hb hf => calls_behind (by rfl) (by exact reads_any w1 tx (x3 % 8) (by omega) (by omega))) ?_
      refine fl_pick 62 (by rfl) (by decide) (wanted_none (by rfl)) (by rw [hK.out]; rfl) (by rfl) _ _ _ (by rfl) true (by rfl) (.bool true) (by rfl) ?_
      refine fl_mv 63 (by rfl) (by decide) (wanted_none (by rfl)) (by rw [hK.out]; rfl) (by rfl) _ (Or.inl (by rfl)) (.bool true) (by rfl) ?_
      refine fl_mv 64 (by rfl) (by decide) (wanted_if hops 23 true (by rfl) 63 (by rfl) true (by rfl)) (by rw [hK.out]; rfl) (by rfl) _ (Or.inl (by rfl)) (.string tx) (by rfl) ?_
      refine fl_mv 65 (by rfl) (by decide) (wanted_if hops 23 true (by rfl) 63 (by rfl) true (by rfl)) (by rw [hK.out]; rfl) (by rfl) _ (Or.inl (by rfl)) (.int .i64 (k : Int)) (by rfl) ?_
      refine fl_op2 66 (by rfl) (by decide) (wanted_if hops 23 true (by rfl) 63 (by rfl) true (by rfl)) (by rw [hK.out]; rfl) (by rfl) (.tmp 64) (.tmp 65) (.string tx) (.int .i64 (k : Int)) (by rfl) (by rfl) (.string (tx.extract 0 k)) (fun ρ h1 h2 kk w1 (hg : Just V _ w1) hb hf => by go_simp) ?_
      refine fl_mv 67 (by rfl) (by decide) (wanted_if hops 23 true (by rfl) 63 (by rfl) true (by rfl)) (by rw [hK.out]; rfl) (by rfl) _ (Or.inl (by rfl)) (.string S) (by rfl) ?_
      refine fl_op2 68 (by rfl) (by decide) (wanted_if hops 23 true (by rfl) 63 (by rfl) true (by rfl)) (by rw [hK.out]; rfl) (by rfl) (.tmp 66) (.tmp 67) (.string (tx.extract 0 k)) (.string S) (by rfl) (by rfl) (.string (tx.extract 0 k ++ S)) (fun ρ h1 h2 kk w1 (hg : Just V _ w1) hb hf => by go_simp; try omega) ?_
      refine fl_mv 69 (by rfl) (by decide) (wanted_if hops 23 true (by rfl) 63 (by rfl) true (by rfl)) (by rw [hK.out]; rfl) (by rfl) _ (Or.inl (by rfl)) (.string tx) (by rfl) ?_
      refine fl_mv 70 (by rfl) (by decide) (wanted_if hops 23 true (by rfl) 63 (by rfl) true (by rfl)) (by rw [hK.out]; rfl) (by rfl) _ (Or.inl (by rfl)) (.int .i64 (k : Int)) (by rfl) ?_
      refine fl_op2 71 (by rfl) (by decide) (wanted_if hops 23 true (by rfl) 63 (by rfl) true (by rfl)) (by rw [hK.out]; rfl) (by rfl) (.tmp 69) (.tmp 70) (.string tx) (.int .i64 (k : Int)) (by rfl) (by rfl) (.string (tx.extract k tx.size)) (fun ρ h1 h2 kk w1 (hg : Just V _ w1) hb hf => by go_simp) ?_
      refine fl_op2 72 (by rfl) (by decide) (wanted_if hops 23 true (by rfl) 63 (by rfl) true (by rfl)) (by rw [hK.out]; rfl) (by rfl) (.tmp 68) (.tmp 71) (.string (tx.extract 0 k ++ S)) (.string (tx.extract k tx.size)) (by rfl) (by rfl) (.string (tx.extract 0 k ++ S ++ tx.extract k tx.size)) (fun ρ h1 h2 kk w1 (hg : Just V _ w1) hb hf => by go_simp; try omega) ?_
      refine fl_mv 73 (by rfl) (by decide) (wanted_if hops 23 true (by rfl) 63 (by rfl) true (by rfl)) (by rw [hK.out]; rfl) (by rfl) _ (Or.inl (by rfl)) (.int .i64 x3) (by rfl) ?_
      refine fl_call 74 (by rfl) (by decide) (wanted_if hops 23 true (by rfl) 63 (by rfl) true (by rfl)) (.bool true) (by rw [hK.out]; rfl) 9 _ _ (by rfl) [.string (tx.extract 0 k ++ S ++ tx.extract k tx.size), .int .i64 x3] (by rfl) k9 (fun kk w1 (hg : Just V _ w1) hb hf => calls_behind (by rfl) (by exact reads_any w1 (tx.extract 0 k ++ S ++ tx.extract k tx.size) x3 hmid hx3)) ?_
      refine fl_pick 75 (by rfl) (by decide) (wanted_none (by rfl)) (by rw [hK.out]; rfl) (by rfl) _ _ _ (by rfl) true (by rfl) (.bool true) (by rfl) ?_
      refine fl_mv 76 (by rfl) (by decide) (wanted_none (by rfl)) (by rw [hK.out]; rfl) (by rfl) _ (Or.inl (by rfl)) (.bool true) (by rfl) ?_
      refine fl_mv 77 (by rfl) (by decide) (wanted_if hops 36 true (by rfl) 76 (by rfl) true (by rfl)) (by rw [hK.out]; rfl) (by rfl) _ (Or.inl (by rfl)) (.string tx) (by rfl) ?_
      refine fl_mv 78 (by rfl) (by decide) (wanted_if hops 36 true (by rfl) 76 (by rfl) true (by rfl)) (by rw [hK.out]; rfl) (by rfl) _ (Or.inl (by rfl)) (.int .i64 (k : Int)) (by rfl) ?_
      refine fl_op2 79 (by rfl) (by decide) (wanted_if hops 36 true (by rfl) 76 (by rfl) true (by rfl)) (by rw [hK.out]; rfl) (by rfl) (.tmp 77) (.tmp 78) (.string tx) (.int .i64 (k : Int)) (by rfl) (by rfl) (.string (tx.extract 0 k)) (fun ρ h1 h2 kk w1 (hg : Just V _ w1) hb hf => by go_simp) ?_
      refine fl_call 80 (by rfl) (by decide) (wanted_if hops 36 true (by rfl) 76 (by rfl) true (by rfl)) (.bool true) (by rw [hK.out]; rfl) 9 _ _ (by rfl) [.string (tx.extract 0 k), .int .i64 3] (by rfl) k9 (fun kk w1 (hg : Just V _ w1) hb hf => calls_behind (by rfl) (by exact reads_any w1 (tx.extract 0 k) 3 hcut (by omega))) ?_
      refine fl_pick 81 (by rfl) (by decide) (wanted_none (by rfl)) (by rw [hK.out]; rfl) (by rfl) _ _ _ (by rfl) true (by rfl) (.bool true) (by rfl) ?_
      refine fl_mv 82 (by rfl) (by decide) (wanted_none (by rfl)) (by rw [hK.out]; rfl) (by rfl) _ (Or.inl (by rfl)) (.bool true) (by rfl) ?_
      refine fl_call 83 (by rfl) (by decide) (wanted_if hops 42 true (by rfl) 82 (by rfl) true (by rfl)) (.bool true) (by rw [hK.out]; rfl) 10 _ _ (by rfl) [] (by rfl) k10 (fun kk w1 (hg : Just V _ w1) hb hf => calls_behind (by rfl) (by exact known_any w1)) ?_
      refine fl_pick 84 (by rfl) (by decide) (wanted_none (by rfl)) (by rw [hK.out]; rfl) (by rfl) _ _ _ (by rfl) true (by rfl) (.bool true) (by rfl) ?_
      refine fl_mv 10 (by rfl) (by decide) (wanted_none (by rfl)) (by rw [hK.out]; rfl) (by rfl) _ (Or.inr (by rfl)) (.bool true) (by rfl) ?_
      refine fl_end (fun _ _ w1 (hg : Just V _ w1) hend hfacts => hT _ _ ?_)
      clear hops hA' hK hT
      simp only [putsL, Act.put, List.setIfInBounds_toArray, List.set_cons_zero, List.set_cons_succ]
      clear hfacts hend
      refine reg_end ?_
      go_wp2_with fail
      go_ret
      exact ⟨rfl, Below.trans (below_trans hg2 hg3 hs2) (hg.below (B := w.heap.size) (fun b hb => by have := (hVB b hb).1; omega) (by omega))⟩
  · by_cases hb : 60 < s.size
    · skip
      have h12 : decide ((12 : Int) < (n1 : Int)) = false := decide_eq_false (by omega)
      have h60 : decide ((60 : Int) < (s.size : Int)) = true := decide_eq_true (by omega)
      have hR' := hR
      have hs60 : ¬ s.size < 60 := by omega
      go_wp2_with fail
      refine hTx.mono ?_
      rintro e w3 ⟨rfl, hg3⟩
      clear hTx
      obtain ⟨S, HS⟩ : ∃ S : ByteArray, Hid (S = s.extract 0 60) := ⟨_, rfl⟩
      have hSz : S.size ≤ 60 := by rw [HS.out, ByteArray.size_extract]; omega
      rw [← HS.out]
      go_wp2_with fail
      refine (within_nat w3 x4 0 (tx.size : Int) hx4 (by omega) (by omega) (by omega)).mono ?_
      rintro e w' ⟨k, _, hk, rfl, rfl⟩
      have hktx : ¬ tx.size < k := by omega
      have hs3 := hg3.size
      have hO3 : Own w3 V 25 2 (.slice A n c) n (lcells l) := hO2.grows hg3
      have hRw : ∀ w1, Just V w3 w1 → In w1 (fun b => b < w.heap.size) 2 A1 n1 (lcells raw) := fun w1 hj => In.just (((hR'.grow hg2).grow hg3)) hj fun b hb hv => by have := hVB b hv; omega
      have HV : ∀ w1, Just V w3 w1 → (∀ b, V b → B ≤ b ∧ b < w1.heap.size) ∧ B ≤ w1.heap.size := fun w1 hj => ⟨fun b hv => ⟨(hVB b hv).1, by have := (hVB b hv).2; have := hj.size; omega⟩, by have := hj.size; omega⟩
      have hS : S.size ≤ 1000000 := by omega
      have hcut : (tx.extract 0 k).size ≤ 1000000 := by rw [ByteArray.size_extract]; omega
      have hmid : (tx.extract 0 k ++ S ++ tx.extract k tx.size).size ≤ 1000000 := by rw [ByteArray.size_append, ByteArray.size_append, ByteArray.size_extract, ByteArray.size_extract]; omega
      go_wp2_with fail
      refine wp_region_reg rfl ?_
      refine reg_flow (AppSt V 25 2 (.slice A n c) n (lcells l) 9 [(1, 0), (10, 1)]) appSt_ok 0 46 85 [(1, .inl (.bool true)), (4, .inl (.bool true)), (9, .inr (Once (OwnF B 25 2 (n + n1) (lcells l ++ lcells raw)))), (10, .inl (.bool true)), (15, .inl (.bool true)), (21, .inl (.bool true)), (34, .inl (.bool true)), (40, .inl (.bool true)), (43, .inl (.bool true))] rfl (by kernel_rfl) (by kernel_rfl) (by kernel_rfl) ?_ (Just.of_grow (Grow.refl _).drew) hO3 ?_
      · intro x hx φ he
        simp only [List.mem_cons, List.not_mem_nil, or_false] at hx
        rcases hx with rfl | rfl | rfl | rfl | rfl | rfl | rfl | rfl | rfl <;> cases he
        all_goals first | exact lasts_quiet (lasting_bytes _) | exact once_lasts (ownF_lasting _ _ _ _ _)
      intro ops' A' K' T hops hA' hK hT
      refine fl_mv 40 (by rfl) (by decide) (wanted_none (by rfl)) (by rw [hK.out]; rfl) (by rfl) _ (Or.inl (by rfl)) (.slice A n c) (by rfl) ?_
      refine fl_call 41 (by rfl) (by decide) (wanted_none (by rfl)) (.bool true) (by rw [hK.out]; rfl) 8 _ _ (by rfl) [.slice A n c] (by rfl) k8 (fun kk w1 (hg : Just V _ w1) hb hf => calls_behind (by rfl) (by obtain rfl := before_some 0 (by rfl) hb; have hI := hb.1; exact same_any w1 _ A n c l (own_in hI) hsm (by omega))) ?_
      refine fl_mv 42 (by rfl) (by decide) (wanted_none (by rfl)) (by rw [hK.out]; rfl) (by rfl) _ (Or.inl (by rfl)) (.bool true) (by rfl) ?_
      refine fl_mv 43 (by rfl) (by decide) (wanted_if hops 2 true (by rfl) 42 (by rfl) true (by rfl)) (by rw [hK.out]; rfl) (by rfl) _ (Or.inl (by rfl)) (.slice A1 n1 c1) (by rfl) ?_
      refine fl_call 44 (by rfl) (by decide) (wanted_if hops 2 true (by rfl) 42 (by rfl) true (by rfl)) (.bool true) (by rw [hK.out]; rfl) 8 _ _ (by rfl) [.slice A1 n1 c1] (by rfl) k8 (fun kk w1 (hg : Just V _ w1) hb hf => calls_behind (by rfl) (by exact same_any w1 _ A1 n1 c1 raw (hRw w1 hg) hRs (by omega))) ?_
      refine fl_pick 45 (by rfl) (by decide) (wanted_none (by rfl)) (by rw [hK.out]; rfl) (by rfl) _ _ _ (by rfl) true (by rfl) (.bool true) (by rfl) ?_
      refine fl_mv 46 (by rfl) (by decide) (wanted_none (by rfl)) (by rw [hK.out]; rfl) (by rfl) _ (Or.inl (by rfl)) (.bool true) (by rfl) ?_
      refine fl_mv 47 (by rfl) (by decide) (wanted_if hops 6 true (by rfl) 46 (by rfl) true (by rfl)) (by rw [hK.out]; rfl) (by rfl) _ (Or.inl (by rfl)) (.slice A n c) (by rfl) ?_
      refine fl_mv 48 (by rfl) (by decide) (wanted_if hops 6 true (by rfl) 46 (by rfl) true (by rfl)) (by rw [hK.out]; rfl) (by rfl) _ (Or.inl (by rfl)) (.slice A1 n1 c1) (by rfl) ?_
      refine fl_any2 49 (by rfl) (by decide) (wanted_if hops 6 true (by rfl) 46 (by rfl) true (by rfl)) (Once (OwnF B 25 2 (n + n1) (lcells l ++ lcells raw))) (by rw [hK.out]; rfl) (.tmp 47) (.tmp 48) (.slice A n c) (.slice A1 n1 c1) (by rfl) (by rfl) (fun ρ h1 h2 kk w1 (hg : Just V _ w1) hb hf => by obtain rfl := before_some 0 (by rfl) hb; have hI := hb.1; refine upon_turnAny (φ := Once (OwnF B 25 2 (n + n1) (lcells l ++ lcells raw))) 0 (by rfl) ?_; exact app_stage labelE hI h1 h2 (hRw w1 hg).reads (lcells_one raw) (by omega) (HV w1 hg) rfl 0) (fun v49 => ?_)
      refine fl_call 50 (by rfl) (by decide) (wanted_if hops 6 true (by rfl) 46 (by rfl) true (by rfl)) (.bool true) (by rw [hK.out]; rfl) 8 _ _ (by rfl) [v49] (by rfl) k8 (fun kk w1 (hg : Just V _ w1) hb hf => calls_behind (by rfl) (by obtain rfl := before_some 1 (by rfl) hb; have hI := hb.1; exact same_of (show OwnF B 25 2 (n + n1) (lcells l ++ lcells raw) v49 w1 from (facts_take hf (by rw [hA'.out]; kernel_rfl))) hsm hRs (by omega))) ?_
      refine fl_pick 51 (by rfl) (by decide) (wanted_none (by rfl)) (by rw [hK.out]; rfl) (by rfl) _ _ _ (by rfl) true (by rfl) (.bool true) (by rfl) ?_
      refine fl_mv 52 (by rfl) (by decide) (wanted_none (by rfl)) (by rw [hK.out]; rfl) (by rfl) _ (Or.inl (by rfl)) (.bool true) (by rfl) ?_
      refine fl_mv 53 (by rfl) (by decide) (wanted_if hops 12 true (by rfl) 52 (by rfl) true (by rfl)) (by rw [hK.out]; rfl) (by rfl) _ (Or.inl (by rfl)) (.string S) (by rfl) ?_
      refine fl_mv 54 (by rfl) (by decide) (wanted_if hops 12 true (by rfl) 52 (by rfl) true (by rfl)) (by rw [hK.out]; rfl) (by rfl) _ (Or.inl (by rfl)) (.int .i64 x3) (by rfl) ?_
      refine fl_call 55 (by rfl) (by decide) (wanted_if hops 12 true (by rfl) 52 (by rfl) true (by rfl)) (.bool true) (by rw [hK.out]; rfl) 9 _ _ (by rfl) [.string S, .int .i64 x3] (by rfl) k9 (fun kk w1 (hg : Just V _ w1) hb hf => calls_behind (by rfl) (by exact reads_any w1 S x3 hS hx3)) ?_
      refine fl_pick 56 (by rfl) (by decide) (wanted_none (by rfl)) (by rw [hK.out]; rfl) (by rfl) _ _ _ (by rfl) true (by rfl) (.bool true) (by rfl) ?_
      refine fl_mv 57 (by rfl) (by decide) (wanted_none (by rfl)) (by rw [hK.out]; rfl) (by rfl) _ (Or.inl (by rfl)) (.bool true) (by rfl) ?_
      refine fl_mv 58 (by rfl) (by decide) (wanted_if hops 17 true (by rfl) 57 (by rfl) true (by rfl)) (by rw [hK.out]; rfl) (by rfl) _ (Or.inl (by rfl)) (.string tx) (by rfl) ?_
      refine fl_mv 59 (by rfl) (by decide) (wanted_if hops 17 true (by rfl) 57 (by rfl) true (by rfl)) (by rw [hK.out]; rfl) (by rfl) _ (Or.inl (by rfl)) (.int .i64 x3) (by rfl) ?_
      refine fl_op2 60 (by rfl) (by decide) (wanted_if hops 17 true (by rfl) 57 (by rfl) true (by rfl)) (by rw [hK.out]; rfl) (by rfl) (.tmp 59) (.const (.int .i64 7)) (.int .i64 x3) (.int .i64 7) (by rfl) (by rfl) (.int .i64 (x3 % 8)) (fun ρ h1 h2 kk w1 (hg : Just V _ w1) hb hf => by have q := and7 x3; go_simp) ?_
      refine fl_call 61 (by rfl) (by decide) (wanted_if hops 17 true (by rfl) 57 (by rfl) true (by rfl)) (.bool true) (by rw [hK.out]; rfl) 9 _ _ (by rfl) [.string tx, .int .i64 (x3 % 8)] (by rfl) k9 (fun kk w1 (hg : Just V _ w1) hb hf => calls_behind (by rfl) (by exact reads_any w1 tx (x3 % 8) (by omega) (by omega))) ?_
      refine fl_pick 62 (by rfl) (by decide) (wanted_none (by rfl)) (by rw [hK.out]; rfl) (by rfl) _ _ _ (by rfl) true (by rfl) (.bool true) (by rfl) ?_
      refine fl_mv 63 (by rfl) (by decide) (wanted_none (by rfl)) (by rw [hK.out]; rfl) (by rfl) _ (Or.inl (by rfl)) (.bool true) (by rfl) ?_
      refine fl_mv 64 (by rfl) (by decide) (wanted_if hops 23 true (by rfl) 63 (by rfl) true (by rfl)) (by rw [hK.out]; rfl) (by rfl) _ (Or.inl (by rfl)) (.string tx) (by rfl) ?_
      refine fl_mv 65 (by rfl) (by decide) (wanted_if hops 23 true (by rfl) 63 (by rfl) true (by rfl)) (by rw [hK.out]; rfl) (by rfl) _ (Or.inl (by rfl)) (.int .i64 (k : Int)) (by rfl) ?_
      refine fl_op2 66 (by rfl) (by decide) (wanted_if hops 23 true (by rfl) 63 (by rfl) true (by rfl)) (by rw [hK.out]; rfl) (by rfl) (.tmp 64) (.tmp 65) (.string tx) (.int .i64 (k : Int)) (by rfl) (by rfl) (.string (tx.extract 0 k)) (fun ρ h1 h2 kk w1 (hg : Just V _ w1) hb hf => by go_simp) ?_
      refine fl_mv 67 (by rfl) (by decide) (wanted_if hops 23 true (by rfl) 63 (by rfl) true (by rfl)) (by rw [hK.out]; rfl) (by rfl) _ (Or.inl (by rfl)) (.string S) (by rfl) ?_
      refine fl_op2 68 (by rfl) (by decide) (wanted_if hops 23 true (by rfl) 63 (by rfl) true (by rfl)) (by rw [hK.out]; rfl) (by rfl) (.tmp 66) (.tmp 67) (.string (tx.extract 0 k)) (.string S) (by rfl) (by rfl) (.string (tx.extract 0 k ++ S)) (fun ρ h1 h2 kk w1 (hg : Just V _ w1) hb hf => by go_simp; try omega) ?_
      refine fl_mv 69 (by rfl) (by decide) (wanted_if hops 23 true (by rfl) 63 (by rfl) true (by rfl)) (by rw [hK.out]; rfl) (by rfl) _ (Or.inl (by rfl)) (.string tx) (by rfl) ?_
      refine fl_mv 70 (by rfl) (by decide) (wanted_if hops 23 true (by rfl) 63 (by rfl) true (by rfl)) (by rw [hK.out]; rfl) (by rfl) _ (Or.inl (by rfl)) (.int .i64 (k : Int)) (by rfl) ?_
      refine fl_op2 71 (by rfl) (by decide) (wanted_if hops 23 true (by rfl) 63 (by rfl) true (by rfl)) (by rw [hK.out]; rfl) (by rfl) (.tmp 69) (.tmp 70) (.string tx) (.int .i64 (k : Int)) (by rfl) (by rfl) (.string (tx.extract k tx.size)) (fun ρ h1 h2 kk w1 (hg : Just V _ w1) hb hf => by go_simp) ?_
      refine fl_op2 72 (by rfl) (by decide) (wanted_if hops 23 true (by rfl) 63 (by rfl) true (by rfl)) (by rw [hK.out]; rfl) (by rfl) (.tmp 68) (.tmp 71) (.string (tx.extract 0 k ++ S)) (.string (tx.extract k tx.size)) (by rfl) (by rfl) (.string (tx.extract 0 k ++ S ++ tx.extract k tx.size)) (fun ρ h1 h2 kk w1 (hg : Just V _ w1) hb hf => by go_simp; try omega) ?_
      refine fl_mv 73 (by rfl) (by decide) (wanted_if hops 23 true (by rfl) 63 (by rfl) true (by rfl)) (by rw [hK.out]; rfl) (by rfl) _ (Or.inl (by rfl)) (.int .i64 x3) (by rfl) ?_
      refine fl_call 74 (by rfl) (by decide) (wanted_if hops 23 true (by rfl) 63 (by rfl) true (by rfl)) (.bool true) (by rw [hK.out]; rfl) 9 _ _ (by rfl) [.string (tx.extract 0 k ++ S ++ tx.extract k tx.size), .int .i64 x3] (by rfl) k9 (fun kk w1 (hg : Just V _ w1) hb hf => calls_behind (by rfl) (by exact reads_any w1 (tx.extract 0 k ++ S ++ tx.extract k tx.size) x3 hmid hx3)) ?_
      refine fl_pick 75 (by rfl) (by decide) (wanted_none (by rfl)) (by rw [hK.out]; rfl) (by rfl) _ _ _ (by rfl) true (by rfl) (.bool true) (by rfl) ?_
      refine fl_mv 76 (by rfl) (by decide) (wanted_none (by rfl)) (by rw [hK.out]; rfl) (by rfl) _ (Or.inl (by rfl)) (.bool true) (by rfl) ?_
      refine fl_mv 77 (by rfl) (by decide) (wanted_if hops 36 true (by rfl) 76 (by rfl) true (by rfl)) (by rw [hK.out]; rfl) (by rfl) _ (Or.inl (by rfl)) (.string tx) (by rfl) ?_
      refine fl_mv 78 (by rfl) (by decide) (wanted_if hops 36 true (by rfl) 76 (by rfl) true (by rfl)) (by rw [hK.out]; rfl) (by rfl) _ (Or.inl (by rfl)) (.int .i64 (k : Int)) (by rfl) ?_
      refine fl_op2 79 (by rfl) (by decide) (wanted_if hops 36 true (by rfl) 76 (by rfl) true (by rfl)) (by rw [hK.out]; rfl) (by rfl) (.tmp 77) (.tmp 78) (.string tx) (.int .i64 (k : Int)) (by rfl) (by rfl) (.string (tx.extract 0 k)) (fun ρ h1 h2 kk w1 (hg : Just V _ w1) hb hf => by go_simp) ?_
      refine fl_call 80 (by rfl) (by decide) (wanted_if hops 36 true (by rfl) 76 (by rfl) true (by rfl)) (.bool true) (by rw [hK.out]; rfl) 9 _ _ (by rfl) [.string (tx.extract 0 k), .int .i64 3] (by rfl) k9 (fun kk w1 (hg : Just V _ w1) hb hf => calls_behind (by rfl) (by exact reads_any w1 (tx.extract 0 k) 3 hcut (by omega))) ?_
      refine fl_pick 81 (by rfl) (by decide) (wanted_none (by rfl)) (by rw [hK.out]; rfl) (by rfl) _ _ _ (by rfl) true (by rfl) (.bool true) (by rfl) ?_
      refine fl_mv 82 (by rfl) (by decide) (wanted_none (by rfl)) (by rw [hK.out]; rfl) (by rfl) _ (Or.inl (by rfl)) (.bool true) (by rfl) ?_
      refine fl_call 83 (by rfl) (by decide) (wanted_if hops 42 true (by rfl) 82 (by rfl) true (by rfl)) (.bool true) (by rw [hK.out]; rfl) 10 _ _ (by rfl) [] (by rfl) k10 (fun kk w1 (hg : Just V _ w1) hb hf => calls_behind (by rfl) (by exact known_any w1)) ?_
      refine fl_pick 84 (by rfl) (by decide) (wanted_none (by rfl)) (by rw [hK.out]; rfl) (by rfl) _ _ _ (by rfl) true (by rfl) (.bool true) (by rfl) ?_
      refine fl_mv 10 (by rfl) (by decide) (wanted_none (by rfl)) (by rw [hK.out]; rfl) (by rfl) _ (Or.inr (by rfl)) (.bool true) (by rfl) ?_
      refine fl_end (fun _ _ w1 (hg : Just V _ w1) hend hfacts => hT _ _ ?_)
      clear hops hA' hK hT
      simp only [putsL, Act.put, List.setIfInBounds_toArray, List.set_cons_zero, List.set_cons_succ]
      clear hfacts hend
      refine reg_end ?_
      go_wp2_with fail
      go_ret
      exact ⟨rfl, Below.trans (below_trans hg2 hg3 hs2) (hg.below (B := w.heap.size) (fun b hb => by have := (hVB b hb).1; omega) (by omega))⟩
    · skip
      have h12 : decide ((12 : Int) < (n1 : Int)) = false := decide_eq_false (by omega)
      have h60 : decide ((60 : Int) < (s.size : Int)) = false := decide_eq_false (by omega)
      have hR' := hR
      go_wp2_with fail
      refine hTx.mono ?_
      rintro e w3 ⟨rfl, hg3⟩
      clear hTx
      obtain ⟨S, HS⟩ : ∃ S : ByteArray, Hid (S = s) := ⟨_, rfl⟩
      have hSz : S.size ≤ 60 := by rw [HS.out]; omega
      rw [← HS.out]
      go_wp2_with fail
      refine (within_nat w3 x4 0 (tx.size : Int) hx4 (by omega) (by omega) (by omega)).mono ?_
      rintro e w' ⟨k, _, hk, rfl, rfl⟩
      have hktx : ¬ tx.size < k := by omega
      have hs3 := hg3.size
      have hO3 : Own w3 V 25 2 (.slice A n c) n (lcells l) := hO2.grows hg3
      have hRw : ∀ w1, Just V w3 w1 → In w1 (fun b => b < w.heap.size) 2 A1 n1 (lcells raw) := fun w1 hj => In.just (((hR'.grow hg2).grow hg3)) hj fun b hb hv => by have := hVB b hv; omega
      have HV : ∀ w1, Just V w3 w1 → (∀ b, V b → B ≤ b ∧ b < w1.heap.size) ∧ B ≤ w1.heap.size := fun w1 hj => ⟨fun b hv => ⟨(hVB b hv).1, by have := (hVB b hv).2; have := hj.size; omega⟩, by have := hj.size; omega⟩
      have hS : S.size ≤ 1000000 := by omega
      have hcut : (tx.extract 0 k).size ≤ 1000000 := by rw [ByteArray.size_extract]; omega
      have hmid : (tx.extract 0 k ++ S ++ tx.extract k tx.size).size ≤ 1000000 := by rw [ByteArray.size_append, ByteArray.size_append, ByteArray.size_extract, ByteArray.size_extract]; omega
      go_wp2_with fail
      refine wp_region_reg rfl ?_
      refine reg_flow (AppSt V 25 2 (.slice A n c) n (lcells l) 9 [(1, 0), (10, 1)]) appSt_ok 0 46 85 [(1, .inl (.bool true)), (4, .inl (.bool true)), (9, .inr (Once (OwnF B 25 2 (n + n1) (lcells l ++ lcells raw)))), (10, .inl (.bool true)), (15, .inl (.bool true)), (21, .inl (.bool true)), (34, .inl (.bool true)), (40, .inl (.bool true)), (43, .inl (.bool true))] rfl (by kernel_rfl) (by kernel_rfl) (by kernel_rfl) ?_ (Just.of_grow (Grow.refl _).drew) hO3 ?_
      · intro x hx φ he
        simp only [List.mem_cons, List.not_mem_nil, or_false] at hx
        rcases hx with rfl | rfl | rfl | rfl | rfl | rfl | rfl | rfl | rfl <;> cases he
        all_goals first | exact lasts_quiet (lasting_bytes _) | exact once_lasts (ownF_lasting _ _ _ _ _)
      intro ops' A' K' T hops hA' hK hT
      refine fl_mv 40 (by rfl) (by decide) (wanted_none (by rfl)) (by rw [hK.out]; rfl) (by rfl) _ (Or.inl (by rfl)) (.slice A n c) (by rfl) ?_
      refine fl_call 41 (by rfl) (by decide) (wanted_none (by rfl)) (.bool true) (by rw [hK.out]; rfl) 8 _ _ (by rfl) [.slice A n c] (by rfl) k8 (fun kk w1 (hg : Just V _ w1) hb hf => calls_behind (by rfl) (by obtain rfl := before_some 0 (by rfl) hb; have hI := hb.1; exact same_any w1 _ A n c l (own_in hI) hsm (by omega))) ?_
      refine fl_mv 42 (by rfl) (by decide) (wanted_none (by rfl)) (by rw [hK.out]; rfl) (by rfl) _ (Or.inl (by rfl)) (.bool true) (by rfl) ?_
      refine fl_mv 43 (by rfl) (by decide) (wanted_if hops 2 true (by rfl) 42 (by rfl) true (by rfl)) (by rw [hK.out]; rfl) (by rfl) _ (Or.inl (by rfl)) (.slice A1 n1 c1) (by rfl) ?_
      refine fl_call 44 (by rfl) (by decide) (wanted_if hops 2 true (by rfl) 42 (by rfl) true (by rfl)) (.bool true) (by rw [hK.out]; rfl) 8 _ _ (by rfl) [.slice A1 n1 c1] (by rfl) k8 (fun kk w1 (hg : Just V _ w1) hb hf => calls_behind (by rfl) (by exact same_any w1 _ A1 n1 c1 raw (hRw w1 hg) hRs (by omega))) ?_
      refine fl_pick 45 (by rfl) (by decide) (wanted_none (by rfl)) (by rw [hK.out]; rfl) (by rfl) _ _ _ (by rfl) true (by rfl) (.bool true) (by rfl) ?_
      refine fl_mv 46 (by rfl) (by decide) (wanted_none (by rfl)) (by rw [hK.out]; rfl) (by rfl) _ (Or.inl (by rfl)) (.bool true) (by rfl) ?_
      refine fl_mv 47 (by rfl) (by decide) (wanted_if hops 6 true (by rfl) 46 (by rfl) true (by rfl)) (by rw [hK.out]; rfl) (by rfl) _ (Or.inl (by rfl)) (.slice A n c) (by rfl) ?_
      refine fl_mv 48 (by rfl) (by decide) (wanted_if hops 6 true (by rfl) 46 (by rfl) true (by rfl)) (by rw [hK.out]; rfl) (by rfl) _ (Or.inl (by rfl)) (.slice A1 n1 c1) (by rfl) ?_
      refine fl_any2 49 (by rfl) (by decide) (wanted_if hops 6 true (by rfl) 46 (by rfl) true (by rfl)) (Once (OwnF B 25 2 (n + n1) (lcells l ++ lcells raw))) (by rw [hK.out]; rfl) (.tmp 47) (.tmp 48) (.slice A n c) (.slice A1 n1 c1) (by rfl) (by rfl) (fun ρ h1 h2 kk w1 (hg : Just V _ w1) hb hf => by obtain rfl := before_some 0 (by rfl) hb; have hI := hb.1; refine upon_turnAny (φ := Once (OwnF B 25 2 (n + n1) (lcells l ++ lcells raw))) 0 (by rfl) ?_; exact app_stage labelE hI h1 h2 (hRw w1 hg).reads (lcells_one raw) (by omega) (HV w1 hg) rfl 0) (fun v49 => ?_)
      refine fl_call 50 (by rfl) (by decide) (wanted_if hops 6 true (by rfl) 46 (by rfl) true (by rfl)) (.bool true) (by rw [hK.out]; rfl) 8 _ _ (by rfl) [v49] (by rfl) k8 (fun kk w1 (hg : Just V _ w1) hb hf => calls_behind (by rfl) (by obtain rfl := before_some 1 (by rfl) hb; have hI := hb.1; exact same_of (show OwnF B 25 2 (n + n1) (lcells l ++ lcells raw) v49 w1 from (facts_take hf (by rw [hA'.out]; kernel_rfl))) hsm hRs (by omega))) ?_
      refine fl_pick 51 (by rfl) (by decide) (wanted_none (by rfl)) (by rw [hK.out]; rfl) (by rfl) _ _ _ (by rfl) true (by rfl) (.bool true) (by rfl) ?_
      refine fl_mv 52 (by rfl) (by decide) (wanted_none (by rfl)) (by rw [hK.out]; rfl) (by rfl) _ (Or.inl (by rfl)) (.bool true) (by rfl) ?_
      refine fl_mv 53 (by rfl) (by decide) (wanted_if hops 12 true (by rfl) 52 (by rfl) true (by rfl)) (by rw [hK.out]; rfl) (by rfl) _ (Or.inl (by rfl)) (.string S) (by rfl) ?_
      refine fl_mv 54 (by rfl) (by decide) (wanted_if hops 12 true (by rfl) 52 (by rfl) true (by rfl)) (by rw [hK.out]; rfl) (by rfl) _ (Or.inl (by rfl)) (.int .i64 x3) (by rfl) ?_
      refine fl_call 55 (by rfl) (by decide) (wanted_if hops 12 true (by rfl) 52 (by rfl) true (by rfl)) (.bool true) (by rw [hK.out]; rfl) 9 _ _ (by rfl) [.string S, .int .i64 x3] (by rfl) k9 (fun kk w1 (hg : Just V _ w1) hb hf => calls_behind (by rfl) (by exact reads_any w1 S x3 hS hx3)) ?_
      refine fl_pick 56 (by rfl) (by decide) (wanted_none (by rfl)) (by rw [hK.out]; rfl) (by rfl) _ _ _ (by rfl) true (by rfl) (.bool true) (by rfl) ?_
      refine fl_mv 57 (by rfl) (by decide) (wanted_none (by rfl)) (by rw [hK.out]; rfl) (by rfl) _ (Or.inl (by rfl)) (.bool true) (by rfl) ?_
      refine fl_mv 58 (by rfl) (by decide) (wanted_if hops 17 true (by rfl) 57 (by rfl) true (by rfl)) (by rw [hK.out]; rfl) (by rfl) _ (Or.inl (by rfl)) (.string tx) (by rfl) ?_
      refine fl_mv 59 (by rfl) (by decide) (wanted_if hops 17 true (by rfl) 57 (by rfl) true (by rfl)) (by rw [hK.out]; rfl) (by rfl) _ (Or.inl (by rfl)) (.int .i64 x3) (by rfl) ?_
      refine fl_op2 60 (by rfl) (by decide) (wanted_if hops 17 true (by rfl) 57 (by rfl) true (by rfl)) (by rw [hK.out]; rfl) (by rfl) (.tmp 59) (.const (.int .i64 7)) (.int .i64 x3) (.int .i64 7) (by rfl) (by rfl) (.int .i64 (x3 % 8)) (fun ρ h1 h2 kk w1 (hg : Just V _ w1) hb hf => by have q := and7 x3; go_simp) ?_
      refine fl_call 61 (by rfl) (by decide) (wanted_if hops 17 true (by rfl) 57 (by rfl) true (by rfl)) (.bool true) (by rw [hK.out]; rfl) 9 _ _ (by rfl) [.string tx, .int .i64 (x3 % 8)] (by rfl) k9 (fun kk w1 (hg : Just V _ w1) hb hf => calls_behind (by rfl) (by exact reads_any w1 tx (x3 % 8) (by omega) (by omega))) ?_
      refine fl_pick 62 (by rfl) (by decide) (wanted_none (by rfl)) (by rw [hK.out]; rfl) (by rfl) _ _ _ (by rfl) true (by rfl) (.bool true) (by rfl) ?_
      refine fl_mv 63 (by rfl) (by decide) (wanted_none (by rfl)) (by rw [hK.out]; rfl) (by rfl) _ (Or.inl (by rfl)) (.bool true) (by rfl) ?_
      refine fl_mv 64 (by rfl) (by decide) (wanted_if hops 23 true (by rfl) 63 (by rfl) true (by rfl)) (by rw [hK.out]; rfl) (by rfl) _ (Or.inl (by rfl)) (.string tx) (by rfl) ?_
      refine fl_mv 65 (by rfl) (by decide) (wanted_if hops 23 true (by rfl) 63 (by rfl) true (by rfl)) (by rw [hK.out]; rfl) (by rfl) _ (Or.inl (by rfl)) (.int .i64 (k : Int)) (by rfl) ?_
      refine fl_op2 66 (by rfl) (by decide) (wanted_if hops 23 true (by rfl) 63 (by rfl) true (by rfl)) (by rw [hK.out]; rfl) (by rfl) (.tmp 64) (.tmp 65) (.string tx) (.int .i64 (k : Int)) (by rfl) (by rfl) (.string (tx.extract 0 k)) (fun ρ h1 h2 kk w1 (hg : Just V _ w1) hb hf => by go_simp) ?_
      refine fl_mv 67 (by rfl) (by decide) (wanted_if hops 23 true (by rfl) 63 (by rfl) true (by rfl)) (by rw [hK.out]; rfl) (by rfl) _ (Or.inl (by rfl)) (.string S) (by rfl) ?_
      refine fl_op2 68 (by rfl) (by decide) (wanted_if hops 23 true (by rfl) 63 (by rfl) true (by rfl)) (by rw [hK.out]; rfl) (by rfl) (.tmp 66) (.tmp 67) (.string (tx.extract 0 k)) (.string S) (by rfl) (by rfl) (.string (tx.extract 0 k ++ S)) (fun ρ h1 h2 kk w1 (hg : Just V _ w1) hb hf => by go_simp; try omega) ?_
      refine fl_mv 69 (by rfl) (by decide) (wanted_if hops 23 true (by rfl) 63 (by rfl) true (by rfl)) (by rw [hK.out]; rfl) (by rfl) _ (Or.inl (by rfl)) (.string tx) (by rfl) ?_
      refine fl_mv 70 (by rfl) (by decide) (wanted_if hops 23 true (by rfl) 63 (by rfl) true (by rfl)) (by rw [hK.out]; rfl) (by rfl) _ (Or.inl (by rfl)) (.int .i64 (k : Int)) (by rfl) ?_
      refine fl_op2 71 (by rfl) (by decide) (wanted_if hops 23 true (by rfl) 63 (by rfl) true (by rfl)) (by rw [hK.out]; rfl) (by rfl) (.tmp 69) (.tmp 70) (.string tx) (.int .i64 (k : Int)) (by rfl) (by rfl) (.string (tx.extract k tx.size)) (fun ρ h1 h2 kk w1 (hg : Just V _ w1) hb hf => by go_simp) ?_
      refine fl_op2 72 (by rfl) (by decide) (wanted_if hops 23 true (by rfl) 63 (by rfl) true (by rfl)) (by rw [hK.out]; rfl) (by rfl) (.tmp 68) (.tmp 71) (.string (tx.extract 0 k ++ S)) (.string (tx.extract k tx.size)) (by rfl) (by rfl) (.string (tx.extract 0 k ++ S ++ tx.extract k tx.size)) (fun ρ h1 h2 kk w1 (hg : Just V _ w1) hb hf => by go_simp; try omega) ?_
      refine fl_mv 73 (by rfl) (by decide) (wanted_if hops 23 true (by rfl) 63 (by rfl) true (by rfl)) (by rw [hK.out]; rfl) (by rfl) _ (Or.inl (by rfl)) (.int .i64 x3) (by rfl) ?_
      refine fl_call 74 (by rfl) (by decide) (wanted_if hops 23 true (by rfl) 63 (by rfl) true (by rfl)) (.bool true) (by rw [hK.out]; rfl) 9 _ _ (by rfl) [.string (tx.extract 0 k ++ S ++ tx.extract k tx.size), .int .i64 x3] (by rfl) k9 (fun kk w1 (hg : Just V _ w1) hb hf => calls_behind (by rfl) (by exact reads_any w1 (tx.extract 0 k ++ S ++ tx.extract k tx.size) x3 hmid hx3)) ?_
      refine fl_pick 75 (by rfl) (by decide) (wanted_none (by rfl)) (by rw [hK.out]; rfl) (by rfl) _ _ _ (by rfl) true (by rfl) (.bool true) (by rfl) ?_
      refine fl_mv 76 (by rfl) (by decide) (wanted_none (by rfl)) (by rw [hK.out]; rfl) (by rfl) _ (Or.inl (by rfl)) (.bool true) (by rfl) ?_
      refine fl_mv 77 (by rfl) (by decide) (wanted_if hops 36 true (by rfl) 76 (by rfl) true (by rfl)) (by rw [hK.out]; rfl) (by rfl) _ (Or.inl (by rfl)) (.string tx) (by rfl) ?_
      refine fl_mv 78 (by rfl) (by decide) (wanted_if hops 36 true (by rfl) 76 (by rfl) true (by rfl)) (by rw [hK.out]; rfl) (by rfl) _ (Or.inl (by rfl)) (.int .i64 (k : Int)) (by rfl) ?_
      refine fl_op2 79 (by rfl) (by decide) (wanted_if hops 36 true (by rfl) 76 (by rfl) true (by rfl)) (by rw [hK.out]; rfl) (by rfl) (.tmp 77) (.tmp 78) (.string tx) (.int .i64 (k : Int)) (by rfl) (by rfl) (.string (tx.extract 0 k)) (fun ρ h1 h2 kk w1 (hg : Just V _ w1) hb hf => by go_simp) ?_
      refine fl_call 80 (by rfl) (by decide) (wanted_if hops 36 true (by rfl) 76 (by rfl) true (by rfl)) (.bool true) (by rw [hK.out]; rfl) 9 _ _ (by rfl) [.string (tx.extract 0 k), .int .i64 3] (by rfl) k9 (fun kk w1 (hg : Just V _ w1) hb hf => calls_behind (by rfl) (by exact reads_any w1 (tx.extract 0 k) 3 hcut (by omega))) ?_
      refine fl_pick 81 (by rfl) (by decide) (wanted_none (by rfl)) (by rw [hK.out]; rfl) (by rfl) _ _ _ (by rfl) true (by rfl) (.bool true) (by rfl) ?_
      refine fl_mv 82 (by rfl) (by decide) (wanted_none (by rfl)) (by rw [hK.out]; rfl) (by rfl) _ (Or.inl (by rfl)) (.bool true) (by rfl) ?_
      refine fl_call 83 (by rfl) (by decide) (wanted_if hops 42 true (by rfl) 82 (by rfl) true (by rfl)) (.bool true) (by rw [hK.out]; rfl) 10 _ _ (by rfl) [] (by rfl) k10 (fun kk w1 (hg : Just V _ w1) hb hf => calls_behind (by rfl) (by exact known_any w1)) ?_
      refine fl_pick 84 (by rfl) (by decide) (wanted_none (by rfl)) (by rw [hK.out]; rfl) (by rfl) _ _ _ (by rfl) true (by rfl) (.bool true) (by rfl) ?_
      refine fl_mv 10 (by rfl) (by decide) (wanted_none (by rfl)) (by rw [hK.out]; rfl) (by rfl) _ (Or.inr (by rfl)) (.bool true) (by rfl) ?_
      refine fl_end (fun _ _ w1 (hg : Just V _ w1) hend hfacts => hT _ _ ?_)
      clear hops hA' hK hT
      simp only [putsL, Act.put, List.setIfInBounds_toArray, List.set_cons_zero, List.set_cons_succ]
      clear hfacts hend
      refine reg_end ?_
      go_wp2_with fail
      go_ret
      exact ⟨rfl, Below.trans (below_trans hg2 hg3 hs2) (hg.below (B := w.heap.size) (fun b hb => by have := (hVB b hb).1; omega) (by omega))⟩
end Go.Proofs.YthkkfdnechmddaaDoor
