/- WindowOnce: its walk. -/
import Derived.Test.YtcllbjgblhpjiaaWithin
import Derived.Test.YtcllbjgblhpjiaaMember
import Derived.Maps.OwnOps
import Derived.Maps.Views
import Derived.Maps.OwnSet
namespace Go.Proofs.Ytcllbjgblhpjiaa
open Go.RowKit Go.Hop
theorem and65535 (z : Int) : bits .and .i64 z 65535 = z % 65536 := by
  have h127 : (BitVec.ofInt 64 65535).toNat = 2 ^ 16 - 1 := by decide
  have key : (BitVec.ofInt 64 z &&& BitVec.ofInt 64 65535).toNat = (z % ((2 ^ 64 : Nat) : Int)).toNat % 2 ^ 16 := by
    rw [BitVec.toNat_and, BitVec.toNat_ofInt, h127, Nat.and_two_pow_sub_one_eq_mod]
  show IntKind.i64.wrap ((BitVec.ofInt 64 z &&& BitVec.ofInt 64 65535).toNat : Nat) = z % 65536
  rw [key, IntKind.wrap_i64]
  omega
open Go.Maps Go.ChangeMaps
theorem intK : Keyed Try.prog 2 := int_keyed Try.underlying2
theorem zeroInt (w : World) : (zeroValue 3).run Try.prog w = .ok (.int .i64 0) w := by go_simp
/-- the map counts: under x lies f x -/
def Counts (w : World) (b n : Nat) (f : Int → Int) : Prop := ∃ D : DataW Unit, w.ownsMap Try.prog 2 (plainElem Try.prog 3) b n D ∧ ∀ x, D.atKey (.int .i64 x) (.lit (.int .i64 0)) = .lit (.int .i64 (f x))
theorem Counts.look {w : World} {b n : Nat} {f : Int → Int} (h : Counts w b n f) {x : Int} (hx : (Lit.int .i64 x).wf = true) : (Instr.lookup 25 (.map (some b)) (.int .i64 x) false).run Try.prog w = .ok (.int .i64 (f x)) w := by
  obtain ⟨D, hown, hat⟩ := h
  obtain ⟨c, hrun, hc, _⟩ := hown.lookup_int intK Try.underlying25 Try.underlying3 (zeroInt w) (keyOf_int_mk Try.underlying2 hx)
  rw [hat] at hc
  injection hc with hc; injection hc with _ hc
  rw [hc]; exact hrun
theorem Counts.kept {w w' : World} {b n : Nat} {f : Int → Int} (h : Counts w b n f) {row : Option Nat} (hg : w.grownBy w' row) (hne : some b ≠ row) : Counts w' b n f := by
  obtain ⟨D, hown, hat⟩ := h
  exact ⟨D, hown.kept hg hne, hat⟩
theorem Counts.set {w : World} {b n : Nat} {f : Int → Int} (h : Counts w b n f) (hn : n < maxLen) {x v : Int} (hx : (Lit.int .i64 x).wf = true) (hv : (Lit.int .i64 v).wf = true) :
    ∃ w', (Instr.mapUpdate 25 (.map (some b)) (.int .i64 x) (.int .i64 v)).run Try.prog w = .ok () w' ∧ Counts w' b (n + 1) (fun y => if y = x then v else f y) ∧ w.grownBy w' (some b) := by
  obtain ⟨D, hown, hat⟩ := h
  obtain ⟨w', hrun, hown', hg⟩ := hown.update intK Try.underlying25 hn (keyOf_int_mk Try.underlying2 hx) (plainElem_int Try.underlying3 hv)
  refine ⟨w', hrun, ⟨_, hown', fun y => ?_⟩, hg⟩
  show _ = DataW.lit (.int .i64 (if y = x then v else f y))
  by_cases hy : y = x
  · rw [if_pos hy, hy, atKey_put_same hown.isMap (show WideAt.IsKeyLit (.int .i64 x) from trivial)]
  · rw [if_neg hy, atKey_put_other (fun e => hy (by injection e)), hat]
theorem Counts.just {w w' : World} {b n g : Nat} {f : Int → Int} (h : Counts w b n f) (hg : Just (fun b => b = g) w w') (hne : b ≠ g) : Counts w' b n f :=
  h.kept (row := some g) ⟨hg.os, hg.tape, hg.output, hg.size, fun k hk hv => hg.block k hk (fun e => hv (by rw [e]))⟩ (fun e => hne (by injection e))
theorem wf_in {x : Int} (h : -9223372036854775808 ≤ x ∧ x ≤ 9223372036854775807) : (Lit.int .i64 x).wf = true := by
  simp [Lit.wf, IntKind.min, IntKind.max, IntKind.signed, IntKind.bits]; omega
def S10 (g : Nat) (F : Int) (M : Nat) (F1 : Int) (M1 : Nat) : Stages where
  G := Just fun b => b = g
  T := fun _ => Just fun b => b = g
  I := fun k w => match k with
    | 0 => Blk w g 36 #[.int .i64 F, .int .u64 (M : Int)]
    | _ => Blk w g 36 #[.int .i64 F1, .int .u64 (M1 : Int)]
  muts := [2]
  stage := fun j => if j = 2 then some 0 else none
theorem s10_ok (g : Nat) (F : Int) (M : Nat) (F1 : Int) (M1 : Nat) : (S10 g F M F1 M1).Ok := by
  refine ⟨fun _ _ _ => Just.trans, fun _ _ h => Just.of_grow h, fun _ _ _ h => h, fun k a b h hg => ?_⟩
  rcases k with _ | k <;> exact Blk.grow h hg
theorem add_one (w : World) (g : Nat) (F : Int) (M : Nat) (n : Int) (h : Blk w g 36 #[.int .i64 F, .int .u64 (M : Int)]) (hI : WInv F M) (hn : -9223372036854775808 ≤ n ∧ n ≤ 9223372036854775807) :
    Calls Try.prog 9 #[.pointer (some ⟨g, 0, none⟩), .int .i64 n] w fun e w' => e = .returned (.bool (addB F M n)) ∧ (S10 g F M (addS F M n).1 (addS F M n).2).T 0 w w' ∧ (S10 g F M (addS F M n).1 (addS F M n).2).I 1 w' :=
  (add_any w g F M n h hI hn).mono fun _ _ ⟨h1, h2, h3⟩ => ⟨h1, Just.of_only h3 rfl, h2⟩
set_option maxRecDepth 100000 in
set_option maxHeartbeats 4000000 in
theorem once_any (w : World) (A : Option Addr) (n c : Nat) (l : List Int) (hr : Reads w w.heap.size 1 A n (l.map (Value.int .i64))) (hl : ∀ z ∈ l, -9223372036854775808 ≤ z ∧ z ≤ 9223372036854775807) (nn : Int) (hnn : -9223372036854775808 ≤ nn ∧ nn ≤ 9223372036854775807) :
    Calls Try.prog 3 #[.slice A n c, .int .i64 nn] w fun e w' => e = .returned (.bool true) ∧ Grow w w' := by
  have k9 : ∀ (vs : Array Value) (w : World), (callFunc 9 vs).run Try.prog w = .ok (.enter 9 vs) w := fun vs w => by go_simp
  have hmm := @run_makeMap Try.prog
  go_enter Try.func3, Try.ntmps3
  go_wp2_with (first
    | (go_at_call 7; refine (new_any _).mono ?_; rintro e w1 ⟨rfl, hB0, hg0⟩)
    | (go_at_call 8; refine (within_any _ nn 1 60 hnn (by omega) (by omega) (by omega)).mono ?_; rintro e w2 ⟨k, hk1, hk60, rfl, rfl⟩))
  have hmb := (World.ownsMap_made w1 Try.prog 2 (plainElem (H := Unit) Try.prog 3))
  have hBg0 := hB0.alloc (.map #[] 0)
  have hlt := hB0.lt
  have hb0 : Below w.heap.size w (w1.alloc (.map #[] 0)) := below_trans hg0 ((Below.refl _ _).alloc (Nat.le_refl _) _) hg0.size
  obtain ⟨g, HG⟩ : ∃ g : Nat, Hid (g = w.heap.size) := ⟨_, rfl⟩
  obtain ⟨b, HB⟩ : ∃ b : Nat, Hid (b = w1.heap.size) := ⟨_, rfl⟩
  have hgb : b ≠ g := by have := HG.out; have := HB.out; omega
  have hgw : w.heap.size ≤ g := by have := HG.out; omega
  have hbw : w.heap.size ≤ b := by have := HB.out; omega
  rw [← HG.out, ← HB.out]
  rw [← HG.out] at hBg0
  rw [← HB.out] at hmb
  clear hmm
  go_loopw [8, 9] (fun i _ wr => ∃ (j : Nat) (F : Int) (M : Nat) (f : Int → Int), j ≤ 100 ∧ j ≤ n ∧ i = .int .i64 j ∧ Low k F M ∧ Blk wr g 36 #[.int .i64 F, .int .u64 (M : Int)] ∧ Counts wr b j f ∧ (∀ x, 0 ≤ f x ∧ f x ≤ j) ∧ (∀ x, 1 ≤ x → x ≤ k → (f x = 0 ↔ mem F M x = false)) ∧ Below w.heap.size w wr) (fun i _ _ => 100 - (intOf i).toNat)
  case atStart => exact ⟨0, 0, 0, fun _ => 0, by omega, by omega, rfl, Low.none (by omega), hBg0, ⟨_, hmb, fun _ => rfl⟩, by simp, fun x h1 _ => by unfold mem; simp; omega, hb0⟩
  case round =>
    obtain ⟨j, F, M, f, hj100, hjn, rfl, hL, hBg, hC, hf, hfm, hb⟩ := hrel
    by_cases hk : j < n
    · by_cases hk100 : j < 100
      · obtain ⟨ad, z, rfl, hzr, hcell⟩ := reads_num hr hk hl hb
        have ea := and65535 z
        have hm1 := Int.emod_nonneg (z % 65536) (show k ≠ 0 by omega)
        have hm2 := Int.emod_lt_of_pos (z % 65536) (show 0 < k by omega)
        go_wp2_with fail
        obtain ⟨m, hm⟩ : ∃ m : Int, m = 1 + z % 65536 % k := ⟨_, rfl⟩
        rw [← hm]
        have hmk : 1 ≤ m ∧ m ≤ k := by omega
        have hm64 : -9223372036854775808 ≤ m ∧ m ≤ 9223372036854775807 := by omega
        have hwf : (Lit.int .i64 m).wf = true := wf_in hm64
        clear hm hm1 hm2 ea hcell
        have hE : decide (f m = 0) = addB F M m := by
          rw [hL.addB hk60 (by omega)]
          have := hfm m hmk.1 hmk.2
          cases hmm : mem F M m with
          | true => rw [hmm] at this; simpa using this
          | false => rw [hmm] at this; simpa using this
        have HE := Lib.hid hE
        clear hE
        refine wp_region_reg rfl ?_
        refine reg_flow (S10 g F M (addS F M m).1 (addS F M m).2) (s10_ok _ _ _ _ _) 0 8 84 [(2, .inl (.bool (addB F M m)))] rfl (by kernel_rfl) (by kernel_rfl) (by kernel_rfl) ?_ (Just.of_grow (Grow.refl _).drew) hBg ?_
        · intro x hx φ he
          simp only [List.mem_cons, List.not_mem_nil, or_false] at hx
          rcases hx with rfl <;> cases he
        intro ops' A' K' T hops hA' hK hT
        refine fl_mv 35 (by rfl) (by decide) (wanted_none (by rfl)) (by rw [hK.out]; rfl) (by rfl) _ (Or.inl (by rfl)) (.pointer (some ⟨g, 0, none⟩)) (by rfl) ?_
        refine fl_mv 36 (by rfl) (by decide) (wanted_none (by rfl)) (by rw [hK.out]; rfl) (by rfl) _ (Or.inl (by rfl)) (.int .i64 m) (by rfl) ?_
        refine fl_call 37 (by rfl) (by decide) (wanted_none (by rfl)) (.bool (addB F M m)) (by rw [hK.out]; rfl) 9 _ _ (by rfl) [.pointer (some ⟨g, 0, none⟩), .int .i64 m] (by rfl) k9 (fun kk w1 (hg : Just (fun b => b = g) _ w1) hb hf => calls_turn 0 (by rfl) (by obtain rfl := before_some 0 (by rfl) hb; have hI := hb.1; exact add_one w1 g F M m hI hL.inv hm64)) ?_
        refine fl_mv 38 (by rfl) (by decide) (wanted_none (by rfl)) (by rw [hK.out]; rfl) (by rfl) _ (Or.inl (by rfl)) (.map (some b)) (by rfl) ?_
        refine fl_mv 39 (by rfl) (by decide) (wanted_none (by rfl)) (by rw [hK.out]; rfl) (by rfl) _ (Or.inl (by rfl)) (.int .i64 m) (by rfl) ?_
        refine fl_op2 40 (by rfl) (by decide) (wanted_none (by rfl)) (by rw [hK.out]; rfl) (by rfl) (.tmp 38) (.tmp 39) (.map (some b)) (.int .i64 m) (by rfl) (by rfl) (.int .i64 (f m)) (fun ρ h1 h2 kk w1 (hg : Just (fun b => b = g) _ w1) hb hf => by have hrun := (Counts.just hC hg hgb).look hwf; go_simp) ?_
        refine fl_op2 41 (by rfl) (by decide) (wanted_none (by rfl)) (by rw [hK.out]; rfl) (by rfl) (.tmp 40) (.const (.int .i64 0)) (.int .i64 (f m)) (.int .i64 0) (by rfl) (by rfl) (.bool (addB F M m)) (fun ρ h1 h2 kk w1 (hg : Just (fun b => b = g) _ w1) hb hf => by go_simp; exact HE.out) ?_
        refine fl_op2 42 (by rfl) (by decide) (wanted_none (by rfl)) (by rw [hK.out]; rfl) (by rfl) (.tmp 37) (.tmp 41) (.bool (addB F M m)) (.bool (addB F M m)) (by rfl) (by rfl) (.bool false) (fun ρ h1 h2 kk w1 (hg : Just (fun b => b = g) _ w1) hb hf => by go_simp) ?_
        refine fl_end (fun _ _ w1 (hg : Just (fun b => b = g) _ w1) hend hfacts => hT _ _ ?_)
        clear hops hA' hK hT
        simp only [putsL, Act.put, List.setIfInBounds_toArray, List.set_cons_zero, List.set_cons_succ]

        refine reg_end ?_
        obtain ⟨hL1, hm1⟩ := hL.add hk60 hmk.2
        have hB1 : Blk w1 g 36 #[.int .i64 (addS F M m).1, .int .u64 ((addS F M m).2 : Int)] := hend
        have hC1 := Counts.just hC hg hgb
        have hbb := hb.trans (Just.below hg (B := w.heap.size) (fun b hb' => by rw [hb']; exact hgw) hb.size)
        have hfm64 := hf m
        obtain ⟨w2, hupd, hC2, hg2⟩ := hC1.set (show j < maxLen by unfold maxLen; omega) hwf (v := f m + 1) (wf_in (by omega))
        have hlook := hC1.look hwf
        have hB2 : Blk w2 g 36 #[.int .i64 (addS F M m).1, .int .u64 ((addS F M m).2 : Int)] := hB1.kept hg2 (fun e => hgb (by injection e with e; exact e.symm))
        have hb2 := hbb.trans (Below.grown (Below.refl w.heap.size w1) hg2 hbb.size (fun k' hk' => by injection hk' with hk'; omega))
        have hf1 : ∀ x, 0 ≤ (fun y => if y = m then f m + 1 else f y) x ∧ (fun y => if y = m then f m + 1 else f y) x ≤ ((j + 1 : Nat) : Int) := fun x => by
          have := hf x
          simp only
          split <;> omega
        have hfm1 : ∀ x, 1 ≤ x → x ≤ k → ((fun y => if y = m then f m + 1 else f y) x = 0 ↔ mem (addS F M m).1 (addS F M m).2 x = false) := fun x h1 h2 => by
          rw [hm1]
          simp only
          by_cases hx : x = m
          · rw [if_pos hx, decide_eq_true hx, Bool.or_true]
            have := (hf m).1
            constructor
            · intro h; omega
            · intro h; cases h
          · rw [if_neg hx, decide_eq_false hx, Bool.or_false]
            exact hfm x h1 h2
        have HF1 := Lib.hid hf1
        have HFM1 := Lib.hid hfm1
        clear hf1 hfm1 hm1 hfm hf HE hC hC1 hend hfacts hB1 hBg
        generalize (fun y => if y = m then f m + 1 else f y) = f1 at HF1 HFM1 hC2
        generalize addS F M m = FM at hL1 hB2 HFM1
        go_wp2_with fail
        go_roundw
        case rel => exact ⟨j + 1, FM.1, FM.2, f1, by omega, by omega, by go_num, hL1, hB2, hC2, HF1.out, HFM1.out, hb2⟩
        case measure => simp [intOf]; omega
      · skip
        go_wp2_with fail
        go_loopw [10] (fun i wx => ∃ (q : Nat) (F2 : Int) (M2 : Nat), q ≤ 60 ∧ (q : Int) ≤ k ∧ i = .int .i64 ((q : Int) + 1) ∧ Low k F2 M2 ∧ (∀ x, 1 ≤ x → x ≤ (q : Int) → mem F2 M2 x = true) ∧ Blk wx g 36 #[.int .i64 F2, .int .u64 (M2 : Int)] ∧ Below w.heap.size w wx) (fun i _ => 61 - (intOf i).toNat)
        case atStart => exact ⟨0, F, M, by omega, by omega, rfl, hL, fun x h1 h2 => by omega, hBg, hb⟩
        case round =>
          obtain ⟨q, F2, M2, hq60, hqk, rfl, hL2, hall, hBg2, hb2⟩ := hrel
          have hq64 : -9223372036854775808 ≤ (q : Int) + 1 ∧ (q : Int) + 1 ≤ 9223372036854775807 := by omega
          by_cases hqlt : (q : Int) + 1 ≤ k
          · obtain ⟨hL3, hm3⟩ := hL2.add hk60 hqlt
            have hs3 := hL3.seen hk60 (n := (q : Int) + 1) (by omega)
            rw [hm3, decide_eq_true (show (q : Int) + 1 = (q : Int) + 1 from rfl), Bool.or_true] at hs3
            have hall3 : ∀ x, 1 ≤ x → x ≤ ((q + 1 : Nat) : Int) → mem (addS F2 M2 ((q : Int) + 1)).1 (addS F2 M2 ((q : Int) + 1)).2 x = true := fun x h1 h2 => by
              rw [hm3]
              by_cases hx : x = (q : Int) + 1
              · rw [decide_eq_true hx, Bool.or_true]
              · rw [hall x h1 (by push_cast at h2; omega)]; rfl
            have HS3 := Lib.hid hs3
            have HALL := Lib.hid hall3
            clear hs3 hm3 hall3 hall
            go_wp2_with fail
            go_at_call 9
            refine (add_any _ g F2 M2 ((q : Int) + 1) hBg2 hL2.inv hq64).mono ?_
            rintro e w5 ⟨rfl, hB5, hO5⟩
            have hb5 := hb2.trans (hO5.below (B := w.heap.size) hgw hb2.size)
            generalize addS F2 M2 ((q : Int) + 1) = FM at hB5 hL3 HS3 HALL
            go_wp2_with (go_at_call 10; refine (seen_is _ g FM.1 FM.2 ((q : Int) + 1) true hB5 hL3.inv hq64 HS3.out).mono ?_; rintro e w6 ⟨rfl, hg6⟩)
            go_roundw
            case rel => exact ⟨q + 1, FM.1, FM.2, by omega, by omega, by go_num, hL3, HALL.out, hB5.grow hg6, below_trans hb5 hg6 hb5.size⟩
            case measure => simp [intOf]; omega
          · obtain rfl : k = (q : Int) := by omega
            obtain ⟨rfl, rfl⟩ := hL2.full hall
            have hI2 := hL2.inv
            have s1 : seen (q : Int) 0 ((q : Int) + 1) = false := by rw [hL2.seen hk60 (by omega)]; unfold mem; rw [decide_eq_false (show ¬ ((q : Int) + 1 ≤ q) by omega), Nat.zero_testBit, Bool.and_false]; rfl
            have a1 : addB (q : Int) 0 (q : Int) = false := by rw [hL2.addB hk60 (by omega)]; unfold mem; simp
            have S1 := Lib.hid s1
            have A1 := Lib.hid a1
            clear s1 a1 hall
            have hq640 : -9223372036854775808 ≤ (q : Int) ∧ (q : Int) ≤ 9223372036854775807 := by omega
            go_wp2_with (first
              | (go_at_call 11; refine (floor_any _ g _ 0 hBg2).mono ?_; rintro e w9 ⟨rfl, rfl⟩)
              | (go_at_call 12; refine (mask_any _ g _ 0 hBg2).mono ?_; rintro e w9 ⟨rfl, rfl⟩)
              | (go_at_call 10; refine (seen_is _ g _ 0 _ false hBg2 hI2 hq64 S1.out).mono ?_; rintro e w9 ⟨rfl, hg9⟩)
              | (go_at_call 9; refine (add_any _ g _ 0 _ (hBg2.grow hg9) hI2 hq640).mono ?_; rintro e wa ⟨rfl, hBa, hOa⟩; rw [A1.out])
              | (go_at_call 13; refine (known_any _).mono ?_; rintro e wk ⟨rfl, hgk⟩))
            go_ret
            have hb9 := below_trans hb2 hg9 hb2.size
            exact ⟨rfl, below_trans (hb9.trans (hOa.below (B := w.heap.size) hgw hb9.size)) hgk (by have := hb9.size; have := hOa.size; omega)⟩
    · skip
      go_wp2_with fail
      go_loopw [10] (fun i wx => ∃ (q : Nat) (F2 : Int) (M2 : Nat), q ≤ 60 ∧ (q : Int) ≤ k ∧ i = .int .i64 ((q : Int) + 1) ∧ Low k F2 M2 ∧ (∀ x, 1 ≤ x → x ≤ (q : Int) → mem F2 M2 x = true) ∧ Blk wx g 36 #[.int .i64 F2, .int .u64 (M2 : Int)] ∧ Below w.heap.size w wx) (fun i _ => 61 - (intOf i).toNat)
      case atStart => exact ⟨0, F, M, by omega, by omega, rfl, hL, fun x h1 h2 => by omega, hBg, hb⟩
      case round =>
        obtain ⟨q, F2, M2, hq60, hqk, rfl, hL2, hall, hBg2, hb2⟩ := hrel
        have hq64 : -9223372036854775808 ≤ (q : Int) + 1 ∧ (q : Int) + 1 ≤ 9223372036854775807 := by omega
        by_cases hqlt : (q : Int) + 1 ≤ k
        · obtain ⟨hL3, hm3⟩ := hL2.add hk60 hqlt
          have hs3 := hL3.seen hk60 (n := (q : Int) + 1) (by omega)
          rw [hm3, decide_eq_true (show (q : Int) + 1 = (q : Int) + 1 from rfl), Bool.or_true] at hs3
          have hall3 : ∀ x, 1 ≤ x → x ≤ ((q + 1 : Nat) : Int) → mem (addS F2 M2 ((q : Int) + 1)).1 (addS F2 M2 ((q : Int) + 1)).2 x = true := fun x h1 h2 => by
            rw [hm3]
            by_cases hx : x = (q : Int) + 1
            · rw [decide_eq_true hx, Bool.or_true]
            · rw [hall x h1 (by push_cast at h2; omega)]; rfl
          have HS3 := Lib.hid hs3
          have HALL := Lib.hid hall3
          clear hs3 hm3 hall3 hall
          go_wp2_with fail
          go_at_call 9
          refine (add_any _ g F2 M2 ((q : Int) + 1) hBg2 hL2.inv hq64).mono ?_
          rintro e w5 ⟨rfl, hB5, hO5⟩
          have hb5 := hb2.trans (hO5.below (B := w.heap.size) hgw hb2.size)
          generalize addS F2 M2 ((q : Int) + 1) = FM at hB5 hL3 HS3 HALL
          go_wp2_with (go_at_call 10; refine (seen_is _ g FM.1 FM.2 ((q : Int) + 1) true hB5 hL3.inv hq64 HS3.out).mono ?_; rintro e w6 ⟨rfl, hg6⟩)
          go_roundw
          case rel => exact ⟨q + 1, FM.1, FM.2, by omega, by omega, by go_num, hL3, HALL.out, hB5.grow hg6, below_trans hb5 hg6 hb5.size⟩
          case measure => simp [intOf]; omega
        · obtain rfl : k = (q : Int) := by omega
          obtain ⟨rfl, rfl⟩ := hL2.full hall
          have hI2 := hL2.inv
          have s1 : seen (q : Int) 0 ((q : Int) + 1) = false := by rw [hL2.seen hk60 (by omega)]; unfold mem; rw [decide_eq_false (show ¬ ((q : Int) + 1 ≤ q) by omega), Nat.zero_testBit, Bool.and_false]; rfl
          have a1 : addB (q : Int) 0 (q : Int) = false := by rw [hL2.addB hk60 (by omega)]; unfold mem; simp
          have S1 := Lib.hid s1
          have A1 := Lib.hid a1
          clear s1 a1 hall
          have hq640 : -9223372036854775808 ≤ (q : Int) ∧ (q : Int) ≤ 9223372036854775807 := by omega
          go_wp2_with (first
            | (go_at_call 11; refine (floor_any _ g _ 0 hBg2).mono ?_; rintro e w9 ⟨rfl, rfl⟩)
            | (go_at_call 12; refine (mask_any _ g _ 0 hBg2).mono ?_; rintro e w9 ⟨rfl, rfl⟩)
            | (go_at_call 10; refine (seen_is _ g _ 0 _ false hBg2 hI2 hq64 S1.out).mono ?_; rintro e w9 ⟨rfl, hg9⟩)
            | (go_at_call 9; refine (add_any _ g _ 0 _ (hBg2.grow hg9) hI2 hq640).mono ?_; rintro e wa ⟨rfl, hBa, hOa⟩; rw [A1.out])
            | (go_at_call 13; refine (known_any _).mono ?_; rintro e wk ⟨rfl, hgk⟩))
          go_ret
          have hb9 := below_trans hb2 hg9 hb2.size
          exact ⟨rfl, below_trans (hb9.trans (hOa.below (B := w.heap.size) hgw hb9.size)) hgk (by have := hb9.size; have := hOa.size; omega)⟩
end Go.Proofs.Ytcllbjgblhpjiaa
