/- Playing numbers to both windows. -/
import Derived.Test.YtcllbjgblhpjiaaKnown
namespace Go.Proofs.Ytcllbjgblhpjiaa
open Go.RowKit Go.Hop
/-- two windows side by side: first the one is added to, then the other -/
def S5 (g x : Nat) (F : Int) (M : Nat) (F1 : Int) (M1 : Nat) : Stages where
  G := Just fun b => b = g ∨ b = x
  T := fun _ => Just fun b => b = g ∨ b = x
  I := fun k w => match k with
    | 0 => Blk w g 36 #[.int .i64 F, .int .u64 (M : Int)] ∧ Blk w x 41 #[.int .i64 F, .int .u64 (M : Int)]
    | 1 => Blk w g 36 #[.int .i64 F1, .int .u64 (M1 : Int)] ∧ Blk w x 41 #[.int .i64 F, .int .u64 (M : Int)]
    | _ => Blk w g 36 #[.int .i64 F1, .int .u64 (M1 : Int)] ∧ Blk w x 41 #[.int .i64 F1, .int .u64 (M1 : Int)]
  muts := [18, 24]
  stage := fun j => if j = 9 then some 0 else if j = 18 then some 0 else if j = 24 then some 1 else if j = 35 then some 2 else none
theorem s5_ok (g x : Nat) (F : Int) (M : Nat) (F1 : Int) (M1 : Nat) : (S5 g x F M F1 M1).Ok := by
  refine ⟨fun _ _ _ => Just.trans, fun _ _ h => Just.of_grow h, fun _ _ _ h => h, fun k a b h hg => ?_⟩
  rcases k with _ | _ | k <;> exact ⟨h.1.grow hg, h.2.grow hg⟩
/-- a copy of the one, a new one like the other: both are added to -/
def S8 (N c : Nat) (F : Int) (M : Nat) : Stages where
  G := Just fun b => b = c ∨ N ≤ b
  T := fun k => match k with
    | 0 => Just fun b => b = c
    | _ => Just fun b => N ≤ b
  I := fun k w => match k with
    | 0 => Blk w c 36 #[.int .i64 F, .int .u64 (M : Int)]
    | _ => True
  muts := [13, 29]
  stage := fun j => if j = 13 then some 0 else if j = 29 then some 1 else none
theorem s8_ok (N c : Nat) (F : Int) (M : Nat) : (S8 N c F M).Ok := by
  refine ⟨fun _ _ _ => Just.trans, fun _ _ h => Just.of_grow h, fun k a b h => ?_, fun k a b h hg => ?_⟩
  · rcases k with _ | k
    · exact Just.imp h fun _ => .inl
    · exact Just.imp h fun _ => .inr
  · rcases k with _ | k
    · exact Blk.grow h hg
    · trivial
/-- the new one, till it is added to -/
def Fresh (N c : Nat) (F : Int) (M : Nat) : Fact := fun k u w => ∃ p, u = .pointer (some ⟨p, 0, none⟩) ∧ N ≤ p ∧ p ≠ c ∧ p < w.heap.size ∧ (k ≤ 1 → Blk w p 41 #[.int .i64 F, .int .u64 (M : Int)])
theorem fresh_lasts (N c : Nat) (F : Int) (M : Nat) : Lasts (S8 N c F M) (Fresh N c F M) := by
  rintro k u w w' ⟨p, rfl, h1, h2, h3, h4⟩
  refine ⟨fun hg => ⟨p, rfl, h1, h2, Nat.lt_of_lt_of_le h3 hg.size, fun hk => (h4 hk).grow hg⟩, fun _ ht => ?_⟩
  rcases k with _ | k
  · have ht' : Just (fun b => b = c) w w' := ht
    exact ⟨p, rfl, h1, h2, Nat.lt_of_lt_of_le h3 ht'.size, fun _ => ht'.blk (h4 (by omega)) h2⟩
  · have ht' : Just (fun b => N ≤ b) w w' := ht
    exact ⟨p, rfl, h1, h2, Nat.lt_of_lt_of_le h3 ht'.size, fun hk => by omega⟩

theorem wrap_range (x : Int) : -9223372036854775808 ≤ IntKind.i64.wrap x ∧ IntKind.i64.wrap x ≤ 9223372036854775807 := by
  rw [IntKind.wrap_i64]; omega
theorem tmod7 (k : Nat) : ((k : Int).tmod 7) = ((k % 7 : Nat) : Int) := by
  rw [Int.tmod_eq_emod_of_nonneg (by omega)]; omega
theorem add_turn (w : World) (g x : Nat) (F : Int) (M : Nat) (n : Int) (h : Blk w g 36 #[.int .i64 F, .int .u64 (M : Int)]) (h' : Blk w x 41 #[.int .i64 F, .int .u64 (M : Int)]) (hI : WInv F M) (hn : -9223372036854775808 ≤ n ∧ n ≤ 9223372036854775807) (hgx : x ≠ g) :
    Calls Try.prog 9 #[.pointer (some ⟨g, 0, none⟩), .int .i64 n] w fun e w' => e = .returned (.bool (addB F M n)) ∧ Just (fun b => b = g ∨ b = x) w w' ∧ Blk w' g 36 #[.int .i64 (addS F M n).1, .int .u64 ((addS F M n).2 : Int)] ∧ Blk w' x 41 #[.int .i64 F, .int .u64 (M : Int)] :=
  (add_any w g F M n h hI hn).mono fun _ _ ⟨h1, h2, h3⟩ => ⟨h1, Just.of_only h3 (.inl rfl), h2, h3.blk h' hgx⟩
theorem radd_turn (w : World) (g x : Nat) (F : Int) (M : Nat) (n : Int) {F1 : Int} {M1 : Nat} (h : Blk w g 36 #[.int .i64 F1, .int .u64 (M1 : Int)]) (h' : Blk w x 41 #[.int .i64 F, .int .u64 (M : Int)]) (hI : WInv F M) (hn : -9223372036854775808 ≤ n ∧ n ≤ 9223372036854775807) (hgx : x ≠ g) :
    Calls Try.prog 19 #[.pointer (some ⟨x, 0, none⟩), .int .i64 n] w fun e w' => e = .returned (.bool (addB F M n)) ∧ Just (fun b => b = g ∨ b = x) w w' ∧ Blk w' g 36 #[.int .i64 F1, .int .u64 (M1 : Int)] ∧ Blk w' x 41 #[.int .i64 (addS F M n).1, .int .u64 ((addS F M n).2 : Int)] :=
  (radd_any w x F M n h' hI hn).mono fun _ _ ⟨h1, h2, h3⟩ => ⟨h1, Just.of_only h3 (.inr rfl), h3.blk h (Ne.symm hgx), h2⟩
theorem add_copy (w : World) (N g : Nat) (F : Int) (M : Nat) (n : Int) (h : Blk w g 36 #[.int .i64 F, .int .u64 (M : Int)]) (hI : WInv F M) (hn : -9223372036854775808 ≤ n ∧ n ≤ 9223372036854775807) :
    Calls Try.prog 9 #[.pointer (some ⟨g, 0, none⟩), .int .i64 n] w fun e w' => e = .returned (.bool (addB F M n)) ∧ (S8 N g F M).T 0 w w' ∧ (S8 N g F M).I 1 w' :=
  (add_any w g F M n h hI hn).mono fun _ _ ⟨h1, _, h3⟩ => ⟨h1, Just.of_only h3 rfl, trivial⟩
theorem radd_fresh (w : World) (N g : Nat) (F : Int) (M : Nat) (n : Int) (u : Value) (h : Fresh N g F M 1 u w) (hI : WInv F M) (hn : -9223372036854775808 ≤ n ∧ n ≤ 9223372036854775807) :
    Calls Try.prog 19 #[u, .int .i64 n] w fun e w' => e = .returned (.bool (addB F M n)) ∧ (S8 N g F M).T 1 w w' ∧ (S8 N g F M).I 2 w' := by
  obtain ⟨p, rfl, h1, _, _, h2⟩ := h
  exact (radd_any w p F M n (h2 (by omega)) hI hn).mono fun _ _ ⟨h1', _, h3⟩ => ⟨h1', Just.of_only h3 h1, trivial⟩
theorem fresh_made (w0 w : World) (c : Nat) (F : Int) (M : Nat) (o : Oper) (ρ : Operand → Value) {x : Operand} (h1 : ρ x = .agg #[.int .i64 F, .int .u64 (M : Int)]) (ho : o.op = .box 41 x) (hs : w0.heap.size ≤ w.heap.size) (hc : c < w0.heap.size) {k : Nat} :
    flowUpon Try.prog (fun u w' => Grow w w' ∧ Fresh w0.heap.size c F M k u w') ((execOp ρ o).run Try.prog w) := by
  obtain ⟨dst, op, ty, pos, after, guard⟩ := o
  simp only at ho
  subst ho
  refine flowUpon_value (u := .pointer (some ⟨w.heap.size, 0, none⟩)) (w := w.alloc (.cells #[.int .i64 F, .int .u64 (M : Int)] 41)) ?_ ⟨(Below.refl _ w).alloc (Nat.le_refl _) _, w.heap.size, rfl, hs, by omega, ?_, fun _ => Blk.made w 41 _⟩
  · go_simp
  · exact (Blk.made w 41 _).lt
set_option maxRecDepth 100000 in
set_option maxHeartbeats 4000000 in
theorem play_any (w : World) (A : Option Addr) (n c : Nat) (l : List Int) (hr : Reads w w.heap.size 1 A n (l.map (Value.int .i64))) (hl : ∀ z ∈ l, -9223372036854775808 ≤ z ∧ z ≤ 9223372036854775807) (hc : n ≤ c ∧ c ≤ maxLen) :
    Calls Try.prog 14 #[.slice A n c] w fun e w' => e = .returned (.bool true) ∧ Grow w w' := by
  unfold maxLen at hc
  have k18 : ∀ (vs : Array Value) (w : World), (callFunc 18 vs).run Try.prog w = .ok (.enter 18 vs) w := fun vs w => by go_simp
  have k9 : ∀ (vs : Array Value) (w : World), (callFunc 9 vs).run Try.prog w = .ok (.enter 9 vs) w := fun vs w => by go_simp
  have k19 : ∀ (vs : Array Value) (w : World), (callFunc 19 vs).run Try.prog w = .ok (.enter 19 vs) w := fun vs w => by go_simp

  go_enter Try.func14, Try.ntmps14
  go_wp2_with (go_at_call 7; refine (new_any _).mono ?_; rintro e w1 ⟨rfl, hB0, hg0⟩)
  have hBg0 := hB0.alloc (.cells #[.int .i64 0, .int .u64 0] 41)
  have hBx0 := Blk.made w1 41 #[.int .i64 0, .int .u64 0]
  have hlt := hB0.lt
  have hb0 : Below w.heap.size w (w1.alloc (.cells #[.int .i64 0, .int .u64 0] 41)) := below_trans hg0 ((Below.refl _ _).alloc (Nat.le_refl _) _) hg0.size
  obtain ⟨g, HG⟩ : ∃ g : Nat, Hid (g = w.heap.size) := ⟨_, rfl⟩
  obtain ⟨x, HX⟩ : ∃ x : Nat, Hid (x = w1.heap.size) := ⟨_, rfl⟩
  have hgx : x ≠ g := by have := HG.out; have := HX.out; omega
  have hgw : w.heap.size ≤ g := by have := HG.out; omega
  have hxw : w.heap.size ≤ x := by have := HX.out; omega
  rw [← HG.out, ← HX.out]
  rw [← HG.out] at hBg0
  rw [← HX.out] at hBx0
  go_loopw [5, 6] (fun i _ wr => ∃ (k : Nat) (F : Int) (M : Nat), k ≤ 300 ∧ k ≤ n ∧ i = .int .i64 k ∧ WInv F M ∧ Blk wr g 36 #[.int .i64 F, .int .u64 (M : Int)] ∧ Blk wr x 41 #[.int .i64 F, .int .u64 (M : Int)] ∧ Below w.heap.size w wr) (fun i _ _ => 300 - (intOf i).toNat)
  case atStart => exact ⟨0, 0, 0, by omega, by omega, rfl, WInv.none, hBg0, hBx0, hb0⟩
  case round =>
    obtain ⟨k, F, M, hk3, hkn, rfl, hW, hBg, hBx, hb⟩ := hrel
    by_cases hk : k < n
    · by_cases hk300 : k < 300
      · obtain ⟨ad, u, rfl, hadB, hx0, hcell⟩ := hr.at_ hk
        have hlk : k < l.length := by
          have := hr.1; simpa using (by simpa using this : l.length = n) ▸ hk
        rw [List.getElem?_map, List.getElem?_eq_getElem hlk] at hx0
        obtain ⟨z, HZ⟩ : ∃ z : Int, Hid (z = l[k]) := ⟨l[k], rfl⟩
        have hzr := hl _ (List.getElem_mem hlk)
        rw [← HZ.out] at hzr hx0
        injection hx0 with hx0
        subst hx0
        have hz : ∀ w1, Just (fun b => b = g ∨ b = x) wr w1 → w1.cell? (ad.add k) = some (.int .i64 z) := fun w1 hj => by
          rw [World.cell?_of_block ((hj.below (B := w.heap.size) (fun b hb' => by rcases hb' with rfl | rfl <;> omega) hb.size).block (ad.add k).block (by rw [block_add]; exact hadB))]
          rw [hb.cell (by rw [block_add]; exact hadB)]
          exact hcell
        obtain ⟨q, HQ⟩ : ∃ q : Int, Hid (q = IntKind.i64.wrap (z + 1)) := ⟨_, rfl⟩
        have hqr : -9223372036854775808 ≤ q ∧ q ≤ 9223372036854775807 := by rw [HQ.out]; exact wrap_range _
        go_wp2_with fail
        refine wp_region_reg rfl ?_
        refine reg_flow (S5 g x F M (addS F M z).1 (addS F M z).2) (s5_ok _ _ _ _ _ _) 0 38 106 [(9, .inl (.bool true)), (18, .inl (.bool (addB F M z))), (24, .inl (.bool (addB F M z))), (35, .inl (.bool true))] rfl (by kernel_rfl) (by kernel_rfl) (by kernel_rfl) ?_ (Just.of_grow (Grow.refl _).drew) ⟨hBg, hBx⟩ ?_
        · intro x hx φ he
          simp only [List.mem_cons, List.not_mem_nil, or_false] at hx
          rcases hx with rfl | rfl | rfl | rfl <;> cases he
        intro ops' A' K' T hops hA' hK hT
        refine fl_mv 20 (by rfl) (by decide) (wanted_none (by rfl)) (by rw [hK.out]; rfl) (by rfl) _ (Or.inl (by rfl)) (.pointer (some ⟨g, 0, none⟩)) (by rfl) ?_
        refine fl_op2 21 (by rfl) (by decide) (wanted_none (by rfl)) (by rw [hK.out]; rfl) (by rfl) (.tmp 20) (.const (.pointer none)) (.pointer (some ⟨g, 0, none⟩)) (.pointer none) (by rfl) (by rfl) (.bool false) (fun ρ h1 h2 kk w1 (hg : Just (fun b => b = g ∨ b = x) _ w1) hb hf => by go_simp) ?_
        refine fl_mv 22 (by rfl) (by decide) (wanted_none (by rfl)) (by rw [hK.out]; rfl) (by rfl) _ (Or.inl (by rfl)) (.bool false) (by rfl) ?_
        refine fl_mv 23 (by rfl) (by decide) (wanted_if hops 2 false (by rfl) 22 (by rfl) false (by rfl)) (by rw [hK.out]; rfl) (by rfl) _ (Or.inl (by rfl)) (.pointer (some ⟨g, 0, none⟩)) (by rfl) ?_
        refine fl_mv 24 (by rfl) (by decide) (wanted_if hops 2 false (by rfl) 22 (by rfl) false (by rfl)) (by rw [hK.out]; rfl) (by rfl) _ (Or.inl (by rfl)) (.pointer (some ⟨x, 0, none⟩)) (by rfl) ?_
        refine fl_mv 25 (by rfl) (by decide) (wanted_if hops 2 false (by rfl) 22 (by rfl) false (by rfl)) (by rw [hK.out]; rfl) (by rfl) _ (Or.inl (by rfl)) (.slice (some ad) n c) (by rfl) ?_
        refine fl_mv 26 (by rfl) (by decide) (wanted_if hops 2 false (by rfl) 22 (by rfl) false (by rfl)) (by rw [hK.out]; rfl) (by rfl) _ (Or.inl (by rfl)) (.int .i64 (k : Int)) (by rfl) ?_
        refine fl_op2 27 (by rfl) (by decide) (wanted_if hops 2 false (by rfl) 22 (by rfl) false (by rfl)) (by rw [hK.out]; rfl) (by rfl) (.tmp 25) (.tmp 26) (.slice (some ad) n c) (.int .i64 (k : Int)) (by rfl) (by rfl) (.pointer (some (ad.add k))) (fun ρ h1 h2 kk w1 (hg : Just (fun b => b = g ∨ b = x) _ w1) hb hf => by go_simp) ?_
        refine fl_op1 28 (by rfl) (by decide) (wanted_if hops 2 false (by rfl) 22 (by rfl) false (by rfl)) (by rw [hK.out]; rfl) (by rfl) (.tmp 27) (.pointer (some (ad.add k))) (by rfl) (.int .i64 z) (fun ρ h1 kk w1 (hg : Just (fun b => b = g ∨ b = x) _ w1) hb hf => by have c := hz _ hg; go_simp) ?_
        refine fl_call 29 (by rfl) (by decide) (wanted_if hops 2 false (by rfl) 22 (by rfl) false (by rfl)) (.bool true) (by rw [hK.out]; rfl) 18 _ _ (by rfl) [.pointer (some ⟨g, 0, none⟩), .pointer (some ⟨x, 0, none⟩), .int .i64 z] (by rfl) k18 (fun kk w1 (hg : Just (fun b => b = g ∨ b = x) _ w1) hb hf => calls_behind (by rfl) (by obtain rfl := before_some 0 (by rfl) hb; have hI := hb.1; exact same_any w1 g x F M z hI.1 hI.2 hW hzr)) ?_
        refine fl_op1 30 (by rfl) (by decide) (wanted_if hops 2 false (by rfl) 22 (by rfl) false (by rfl)) (by rw [hK.out]; rfl) (by rfl) (.tmp 29) (.bool true) (by rfl) (.bool false) (fun ρ h1 kk w1 (hg : Just (fun b => b = g ∨ b = x) _ w1) hb hf => by go_simp) ?_
        refine fl_pick 31 (by rfl) (by decide) (wanted_none (by rfl)) (by rw [hK.out]; rfl) (by rfl) _ _ _ (by rfl) false (by rfl) (.bool false) (by rfl) ?_
        refine fl_mv 32 (by rfl) (by decide) (wanted_none (by rfl)) (by rw [hK.out]; rfl) (by rfl) _ (Or.inl (by rfl)) (.bool false) (by rfl) ?_
        refine fl_mv 33 (by rfl) (by decide) (wanted_if hops 12 false (by rfl) 32 (by rfl) false (by rfl)) (by rw [hK.out]; rfl) (by rfl) _ (Or.inl (by rfl)) (.pointer (some ⟨g, 0, none⟩)) (by rfl) ?_
        refine fl_mv 34 (by rfl) (by decide) (wanted_if hops 12 false (by rfl) 32 (by rfl) false (by rfl)) (by rw [hK.out]; rfl) (by rfl) _ (Or.inl (by rfl)) (.slice (some ad) n c) (by rfl) ?_
        refine fl_mv 35 (by rfl) (by decide) (wanted_if hops 12 false (by rfl) 32 (by rfl) false (by rfl)) (by rw [hK.out]; rfl) (by rfl) _ (Or.inl (by rfl)) (.int .i64 (k : Int)) (by rfl) ?_
        refine fl_op2 36 (by rfl) (by decide) (wanted_if hops 12 false (by rfl) 32 (by rfl) false (by rfl)) (by rw [hK.out]; rfl) (by rfl) (.tmp 34) (.tmp 35) (.slice (some ad) n c) (.int .i64 (k : Int)) (by rfl) (by rfl) (.pointer (some (ad.add k))) (fun ρ h1 h2 kk w1 (hg : Just (fun b => b = g ∨ b = x) _ w1) hb hf => by go_simp) ?_
        refine fl_op1 37 (by rfl) (by decide) (wanted_if hops 12 false (by rfl) 32 (by rfl) false (by rfl)) (by rw [hK.out]; rfl) (by rfl) (.tmp 36) (.pointer (some (ad.add k))) (by rfl) (.int .i64 z) (fun ρ h1 kk w1 (hg : Just (fun b => b = g ∨ b = x) _ w1) hb hf => by have c := hz _ hg; go_simp) ?_
        refine fl_call 38 (by rfl) (by decide) (wanted_if hops 12 false (by rfl) 32 (by rfl) false (by rfl)) (.bool (addB F M z)) (by rw [hK.out]; rfl) 9 _ _ (by rfl) [.pointer (some ⟨g, 0, none⟩), .int .i64 z] (by rfl) k9 (fun kk w1 (hg : Just (fun b => b = g ∨ b = x) _ w1) hb hf => calls_turn 0 (by rfl) (by obtain rfl := before_some 0 (by rfl) hb; have hI := hb.1; exact (add_turn w1 g x F M z hI.1 hI.2 hW hzr hgx))) ?_
        refine fl_mv 39 (by rfl) (by decide) (wanted_if hops 12 false (by rfl) 32 (by rfl) false (by rfl)) (by rw [hK.out]; rfl) (by rfl) _ (Or.inl (by rfl)) (.pointer (some ⟨x, 0, none⟩)) (by rfl) ?_
        refine fl_mv 40 (by rfl) (by decide) (wanted_if hops 12 false (by rfl) 32 (by rfl) false (by rfl)) (by rw [hK.out]; rfl) (by rfl) _ (Or.inl (by rfl)) (.slice (some ad) n c) (by rfl) ?_
        refine fl_mv 41 (by rfl) (by decide) (wanted_if hops 12 false (by rfl) 32 (by rfl) false (by rfl)) (by rw [hK.out]; rfl) (by rfl) _ (Or.inl (by rfl)) (.int .i64 (k : Int)) (by rfl) ?_
        refine fl_op2 42 (by rfl) (by decide) (wanted_if hops 12 false (by rfl) 32 (by rfl) false (by rfl)) (by rw [hK.out]; rfl) (by rfl) (.tmp 40) (.tmp 41) (.slice (some ad) n c) (.int .i64 (k : Int)) (by rfl) (by rfl) (.pointer (some (ad.add k))) (fun ρ h1 h2 kk w1 (hg : Just (fun b => b = g ∨ b = x) _ w1) hb hf => by go_simp) ?_
        refine fl_op1 43 (by rfl) (by decide) (wanted_if hops 12 false (by rfl) 32 (by rfl) false (by rfl)) (by rw [hK.out]; rfl) (by rfl) (.tmp 42) (.pointer (some (ad.add k))) (by rfl) (.int .i64 z) (fun ρ h1 kk w1 (hg : Just (fun b => b = g ∨ b = x) _ w1) hb hf => by have c := hz _ hg; go_simp) ?_
        refine fl_call 44 (by rfl) (by decide) (wanted_if hops 12 false (by rfl) 32 (by rfl) false (by rfl)) (.bool (addB F M z)) (by rw [hK.out]; rfl) 19 _ _ (by rfl) [.pointer (some ⟨x, 0, none⟩), .int .i64 z] (by rfl) k19 (fun kk w1 (hg : Just (fun b => b = g ∨ b = x) _ w1) hb hf => calls_turn 1 (by rfl) (by obtain rfl := before_some 1 (by rfl) hb; have hI := hb.1; exact (radd_turn w1 g x F M z hI.1 hI.2 hW hzr hgx))) ?_
        refine fl_op2 45 (by rfl) (by decide) (wanted_if hops 12 false (by rfl) 32 (by rfl) false (by rfl)) (by rw [hK.out]; rfl) (by rfl) (.tmp 38) (.tmp 44) (.bool (addB F M z)) (.bool (addB F M z)) (by rfl) (by rfl) (.bool false) (fun ρ h1 h2 kk w1 (hg : Just (fun b => b = g ∨ b = x) _ w1) hb hf => by go_simp) ?_
        refine fl_pick 46 (by rfl) (by decide) (wanted_none (by rfl)) (by rw [hK.out]; rfl) (by rfl) _ _ _ (by rfl) false (by rfl) (.bool false) (by rfl) ?_
        refine fl_mv 47 (by rfl) (by decide) (wanted_none (by rfl)) (by rw [hK.out]; rfl) (by rfl) _ (Or.inl (by rfl)) (.bool false) (by rfl) ?_
        refine fl_mv 48 (by rfl) (by decide) (wanted_if hops 27 false (by rfl) 47 (by rfl) false (by rfl)) (by rw [hK.out]; rfl) (by rfl) _ (Or.inl (by rfl)) (.pointer (some ⟨g, 0, none⟩)) (by rfl) ?_
        refine fl_mv 49 (by rfl) (by decide) (wanted_if hops 27 false (by rfl) 47 (by rfl) false (by rfl)) (by rw [hK.out]; rfl) (by rfl) _ (Or.inl (by rfl)) (.pointer (some ⟨x, 0, none⟩)) (by rfl) ?_
        refine fl_mv 50 (by rfl) (by decide) (wanted_if hops 27 false (by rfl) 47 (by rfl) false (by rfl)) (by rw [hK.out]; rfl) (by rfl) _ (Or.inl (by rfl)) (.slice (some ad) n c) (by rfl) ?_
        refine fl_mv 51 (by rfl) (by decide) (wanted_if hops 27 false (by rfl) 47 (by rfl) false (by rfl)) (by rw [hK.out]; rfl) (by rfl) _ (Or.inl (by rfl)) (.int .i64 (k : Int)) (by rfl) ?_
        refine fl_op2 52 (by rfl) (by decide) (wanted_if hops 27 false (by rfl) 47 (by rfl) false (by rfl)) (by rw [hK.out]; rfl) (by rfl) (.tmp 50) (.tmp 51) (.slice (some ad) n c) (.int .i64 (k : Int)) (by rfl) (by rfl) (.pointer (some (ad.add k))) (fun ρ h1 h2 kk w1 (hg : Just (fun b => b = g ∨ b = x) _ w1) hb hf => by go_simp) ?_
        refine fl_op1 53 (by rfl) (by decide) (wanted_if hops 27 false (by rfl) 47 (by rfl) false (by rfl)) (by rw [hK.out]; rfl) (by rfl) (.tmp 52) (.pointer (some (ad.add k))) (by rfl) (.int .i64 z) (fun ρ h1 kk w1 (hg : Just (fun b => b = g ∨ b = x) _ w1) hb hf => by have c := hz _ hg; go_simp) ?_
        refine fl_op2 54 (by rfl) (by decide) (wanted_if hops 27 false (by rfl) 47 (by rfl) false (by rfl)) (by rw [hK.out]; rfl) (by rfl) (.tmp 53) (.const (.int .i64 1)) (.int .i64 z) (.int .i64 1) (by rfl) (by rfl) (.int .i64 q) (fun ρ h1 h2 kk w1 (hg : Just (fun b => b = g ∨ b = x) _ w1) hb hf => by go_simp; rw [HQ.out]) ?_
        refine fl_call 55 (by rfl) (by decide) (wanted_if hops 27 false (by rfl) 47 (by rfl) false (by rfl)) (.bool true) (by rw [hK.out]; rfl) 18 _ _ (by rfl) [.pointer (some ⟨g, 0, none⟩), .pointer (some ⟨x, 0, none⟩), .int .i64 q] (by rfl) k18 (fun kk w1 (hg : Just (fun b => b = g ∨ b = x) _ w1) hb hf => calls_behind (by rfl) (by obtain rfl := before_some 2 (by rfl) hb; have hI := hb.1; exact same_any w1 g x _ _ q hI.1 hI.2 (hW.add hzr.2) hqr)) ?_
        refine fl_op1 56 (by rfl) (by decide) (wanted_if hops 27 false (by rfl) 47 (by rfl) false (by rfl)) (by rw [hK.out]; rfl) (by rfl) (.tmp 55) (.bool true) (by rfl) (.bool false) (fun ρ h1 kk w1 (hg : Just (fun b => b = g ∨ b = x) _ w1) hb hf => by go_simp) ?_
        refine fl_pick 57 (by rfl) (by decide) (wanted_none (by rfl)) (by rw [hK.out]; rfl) (by rfl) _ _ _ (by rfl) false (by rfl) (.bool false) (by rfl) ?_
        refine fl_end (fun _ _ w1 (hg : Just (fun b => b = g ∨ b = x) _ w1) hend hfacts => hT _ _ ?_)
        clear hops hA' hK hT
        simp only [putsL, Act.put, List.setIfInBounds_toArray, List.set_cons_zero, List.set_cons_succ]

        refine reg_end ?_
        have hW1 := hW.add hzr.2
        have hbw := hb.trans (hg.below (B := w.heap.size) (fun b hb' => by rcases hb' with rfl | rfl <;> omega) hb.size)
        obtain ⟨hBg1, hBx1⟩ := hend
        clear hz hg hBg hBx hb hcell hfacts
        generalize addS F M z = FM at hBg1 hBx1 hW1
        obtain ⟨F1, M1⟩ := FM
        simp only at hBg1 hBx1 hW1
        go_wp2_with (go_at_call 15; refine (copy_any _ g F1 M1 hBg1).mono ?_; rintro e wc2 ⟨rfl, hBc, hgc⟩)
        have hBg2 := hBg1.grow hgc
        have hBx2 := hBx1.grow hgc
        obtain ⟨cc, HC⟩ : ∃ cc : Nat, Hid (cc = w1.heap.size) := ⟨_, rfl⟩
        rw [← HC.out] at hBc ⊢
        have hcn := hBc.lt
        have hxn : ¬ (x = cc ∨ wc2.heap.size ≤ x) := by have := HC.out; have := hBx1.lt; have := hBx2.lt; omega
        have hgn : ¬ (g = cc ∨ wc2.heap.size ≤ g) := by have := HC.out; have := hBg1.lt; have := hBg2.lt; omega
        have hcw : w.heap.size ≤ cc := by have := HC.out; have := hbw.size; omega
        have hb2 : Below w.heap.size w wc2 := below_trans hbw hgc hbw.size
        obtain ⟨q2, HQ2⟩ : ∃ q : Int, Hid (q = IntKind.i64.wrap (F1 + 2)) := ⟨_, rfl⟩
        have hq2r : -9223372036854775808 ≤ q2 ∧ q2 ≤ 9223372036854775807 := by rw [HQ2.out]; exact wrap_range _
        obtain ⟨R, HR⟩ : ∃ R : Nat, Hid (R = k % 7) := ⟨_, rfl⟩
        have HT : Hid ((k : Int).tmod 7 = (R : Int)) := Lib.hid (by rw [HR.out]; exact tmod7 k)
        by_cases h7 : R = 0
        · have HT0 : Hid ((k : Int).tmod 7 = 0) := Lib.hid (by rw [HT.out, h7]; rfl)
          go_wp2_with fail
          refine wp_region_reg rfl ?_
          refine reg_flow (S8 wc2.heap.size cc F1 M1) (s8_ok _ _ _ _) 0 44 106 [(13, .inl (.bool (addB F1 M1 q2))), (23, .inr (Fresh wc2.heap.size cc F1 M1)), (29, .inl (.bool (addB F1 M1 q2))), (39, .inl (.bool true))] rfl (by kernel_rfl) (by kernel_rfl) (by kernel_rfl) ?_ (Just.of_grow (Grow.refl _).drew) hBc ?_
          · intro x hx φ he
            simp only [List.mem_cons, List.not_mem_nil, or_false] at hx
            rcases hx with rfl | rfl | rfl | rfl <;> cases he
            all_goals first | exact lasts_quiet (lasting_bytes _) | exact fresh_lasts _ _ _ _
          intro ops' A' K' T hops hA' hK hT
          refine fl_mv 60 (by rfl) (by decide) (wanted_none (by rfl)) (by rw [hK.out]; rfl) (by rfl) _ (Or.inl (by rfl)) (.pointer (some ⟨cc, 0, none⟩)) (by rfl) ?_
          refine fl_op2 61 (by rfl) (by decide) (wanted_none (by rfl)) (by rw [hK.out]; rfl) (by rfl) (.tmp 60) (.const (.pointer none)) (.pointer (some ⟨cc, 0, none⟩)) (.pointer none) (by rfl) (by rfl) (.bool false) (fun ρ h1 h2 kk w1 (hg : Just (fun b => b = cc ∨ wc2.heap.size ≤ b) _ w1) hb hf => by go_simp) ?_
          refine fl_mv 62 (by rfl) (by decide) (wanted_none (by rfl)) (by rw [hK.out]; rfl) (by rfl) _ (Or.inl (by rfl)) (.bool false) (by rfl) ?_
          refine fl_mv 63 (by rfl) (by decide) (wanted_if hops 2 false (by rfl) 62 (by rfl) false (by rfl)) (by rw [hK.out]; rfl) (by rfl) _ (Or.inl (by rfl)) (.int .i64 (k : Int)) (by rfl) ?_
          refine fl_op2 64 (by rfl) (by decide) (wanted_if hops 2 false (by rfl) 62 (by rfl) false (by rfl)) (by rw [hK.out]; rfl) (by rfl) (.tmp 63) (.const (.int .i64 7)) (.int .i64 (k : Int)) (.int .i64 7) (by rfl) (by rfl) (.int .i64 0) (fun ρ h1 h2 kk w1 (hg : Just (fun b => b = cc ∨ wc2.heap.size ≤ b) _ w1) hb hf => by go_simp; exact HT0.out) ?_
          refine fl_op2 65 (by rfl) (by decide) (wanted_if hops 2 false (by rfl) 62 (by rfl) false (by rfl)) (by rw [hK.out]; rfl) (by rfl) (.tmp 64) (.const (.int .i64 0)) (.int .i64 0) (.int .i64 0) (by rfl) (by rfl) (.bool true) (fun ρ h1 h2 kk w1 (hg : Just (fun b => b = cc ∨ wc2.heap.size ≤ b) _ w1) hb hf => by go_simp <;> omega) ?_
          refine fl_mv 66 (by rfl) (by decide) (wanted_if hops 2 false (by rfl) 62 (by rfl) false (by rfl)) (by rw [hK.out]; rfl) (by rfl) _ (Or.inl (by rfl)) (.bool true) (by rfl) ?_
          refine fl_mv 67 (by rfl) (by decide) (wanted_if hops 6 true (by rfl) 66 (by rfl) true (by rfl)) (by rw [hK.out]; rfl) (by rfl) _ (Or.inl (by rfl)) (.pointer (some ⟨cc, 0, none⟩)) (by rfl) ?_
          refine fl_mv 68 (by rfl) (by decide) (wanted_if hops 6 true (by rfl) 66 (by rfl) true (by rfl)) (by rw [hK.out]; rfl) (by rfl) _ (Or.inl (by rfl)) (.pointer (some ⟨x, 0, none⟩)) (by rfl) ?_
          refine fl_op1 69 (by rfl) (by decide) (wanted_if hops 6 true (by rfl) 66 (by rfl) true (by rfl)) (by rw [hK.out]; rfl) (by rfl) (.tmp 68) (.pointer (some ⟨x, 0, none⟩)) (by rfl) (.pointer (some ⟨x, 0, none⟩)) (fun ρ h1 kk w1 (hg : Just (fun b => b = cc ∨ wc2.heap.size ≤ b) _ w1) hb hf => by go_simp) ?_
          refine fl_op1 70 (by rfl) (by decide) (wanted_if hops 6 true (by rfl) 66 (by rfl) true (by rfl)) (by rw [hK.out]; rfl) (by rfl) (.tmp 69) (.pointer (some ⟨x, 0, none⟩)) (by rfl) (.pointer (some ⟨x, 0, none⟩)) (fun ρ h1 kk w1 (hg : Just (fun b => b = cc ∨ wc2.heap.size ≤ b) _ w1) hb hf => by go_simp) ?_
          refine fl_op1 71 (by rfl) (by decide) (wanted_if hops 6 true (by rfl) 66 (by rfl) true (by rfl)) (by rw [hK.out]; rfl) (by rfl) (.tmp 70) (.pointer (some ⟨x, 0, none⟩)) (by rfl) (.int .i64 F1) (fun ρ h1 kk w1 (hg : Just (fun b => b = cc ∨ wc2.heap.size ≤ b) _ w1) hb hf => by have c := (Just.blk hg hBx2 hxn).cell 0; go_simp) ?_
          refine fl_op2 72 (by rfl) (by decide) (wanted_if hops 6 true (by rfl) 66 (by rfl) true (by rfl)) (by rw [hK.out]; rfl) (by rfl) (.tmp 71) (.const (.int .i64 2)) (.int .i64 F1) (.int .i64 2) (by rfl) (by rfl) (.int .i64 q2) (fun ρ h1 h2 kk w1 (hg : Just (fun b => b = cc ∨ wc2.heap.size ≤ b) _ w1) hb hf => by go_simp; rw [HQ2.out]) ?_
          refine fl_call 73 (by rfl) (by decide) (wanted_if hops 6 true (by rfl) 66 (by rfl) true (by rfl)) (.bool (addB F1 M1 q2)) (by rw [hK.out]; rfl) 9 _ _ (by rfl) [.pointer (some ⟨cc, 0, none⟩), .int .i64 q2] (by rfl) k9 (fun kk w1 (hg : Just (fun b => b = cc ∨ wc2.heap.size ≤ b) _ w1) hb hf => calls_turn 0 (by rfl) (by obtain rfl := before_some 0 (by rfl) hb; have hI := hb.1; exact add_copy w1 wc2.heap.size cc F1 M1 q2 hI hW1 hq2r)) ?_
          refine fl_mv 74 (by rfl) (by decide) (wanted_if hops 6 true (by rfl) 66 (by rfl) true (by rfl)) (by rw [hK.out]; rfl) (by rfl) _ (Or.inl (by rfl)) (.pointer (some ⟨x, 0, none⟩)) (by rfl) ?_
          refine fl_op1 75 (by rfl) (by decide) (wanted_if hops 6 true (by rfl) 66 (by rfl) true (by rfl)) (by rw [hK.out]; rfl) (by rfl) (.tmp 74) (.pointer (some ⟨x, 0, none⟩)) (by rfl) (.pointer (some ⟨x, 0, none⟩)) (fun ρ h1 kk w1 (hg : Just (fun b => b = cc ∨ wc2.heap.size ≤ b) _ w1) hb hf => by go_simp) ?_
          refine fl_op1 76 (by rfl) (by decide) (wanted_if hops 6 true (by rfl) 66 (by rfl) true (by rfl)) (by rw [hK.out]; rfl) (by rfl) (.tmp 75) (.pointer (some ⟨x, 0, none⟩)) (by rfl) (.pointer (some ⟨x, 0, none⟩)) (fun ρ h1 kk w1 (hg : Just (fun b => b = cc ∨ wc2.heap.size ≤ b) _ w1) hb hf => by go_simp) ?_
          refine fl_op1 77 (by rfl) (by decide) (wanted_if hops 6 true (by rfl) 66 (by rfl) true (by rfl)) (by rw [hK.out]; rfl) (by rfl) (.tmp 76) (.pointer (some ⟨x, 0, none⟩)) (by rfl) (.int .i64 F1) (fun ρ h1 kk w1 (hg : Just (fun b => b = cc ∨ wc2.heap.size ≤ b) _ w1) hb hf => by have c := (Just.blk hg hBx2 hxn).cell 0; go_simp) ?_
          refine fl_mv 78 (by rfl) (by decide) (wanted_if hops 6 true (by rfl) 66 (by rfl) true (by rfl)) (by rw [hK.out]; rfl) (by rfl) _ (Or.inl (by rfl)) (.pointer (some ⟨x, 0, none⟩)) (by rfl) ?_
          refine fl_op1 79 (by rfl) (by decide) (wanted_if hops 6 true (by rfl) 66 (by rfl) true (by rfl)) (by rw [hK.out]; rfl) (by rfl) (.tmp 78) (.pointer (some ⟨x, 0, none⟩)) (by rfl) (.pointer (some ⟨x, 0, none⟩)) (fun ρ h1 kk w1 (hg : Just (fun b => b = cc ∨ wc2.heap.size ≤ b) _ w1) hb hf => by go_simp) ?_
          refine fl_op1 80 (by rfl) (by decide) (wanted_if hops 6 true (by rfl) 66 (by rfl) true (by rfl)) (by rw [hK.out]; rfl) (by rfl) (.tmp 79) (.pointer (some ⟨x, 0, none⟩)) (by rfl) (.pointer (some ⟨x, 1, none⟩)) (fun ρ h1 kk w1 (hg : Just (fun b => b = cc ∨ wc2.heap.size ≤ b) _ w1) hb hf => by go_simp) ?_
          refine fl_op1 81 (by rfl) (by decide) (wanted_if hops 6 true (by rfl) 66 (by rfl) true (by rfl)) (by rw [hK.out]; rfl) (by rfl) (.tmp 80) (.pointer (some ⟨x, 1, none⟩)) (by rfl) (.int .u64 (M1 : Int)) (fun ρ h1 kk w1 (hg : Just (fun b => b = cc ∨ wc2.heap.size ≤ b) _ w1) hb hf => by have c := (Just.blk hg hBx2 hxn).cell 1; go_simp) ?_
          refine fl_op2 82 (by rfl) (by decide) (wanted_if hops 6 true (by rfl) 66 (by rfl) true (by rfl)) (by rw [hK.out]; rfl) (by rfl) (.tmp 77) (.tmp 81) (.int .i64 F1) (.int .u64 (M1 : Int)) (by rfl) (by rfl) (.agg #[.int .i64 F1, .int .u64 (M1 : Int)]) (fun ρ h1 h2 kk w1 (hg : Just (fun b => b = cc ∨ wc2.heap.size ≤ b) _ w1) hb hf => by go_simp) ?_
          refine fl_any1 83 (by rfl) (by decide) (wanted_if hops 6 true (by rfl) 66 (by rfl) true (by rfl)) (Fresh wc2.heap.size cc F1 M1) (by rw [hK.out]; rfl) (.tmp 82) (.agg #[.int .i64 F1, .int .u64 (M1 : Int)]) (by rfl) (fun ρ h1 kk w1 (hg : Just (fun b => b = cc ∨ wc2.heap.size ≤ b) _ w1) hb hf => by refine upon_behindAny (by rfl) ?_; exact fresh_made _ _ _ _ _ _ _ h1 (by rfl) hg.size hcn) (fun u83 => ?_)
          refine fl_mv 84 (by rfl) (by decide) (wanted_if hops 6 true (by rfl) 66 (by rfl) true (by rfl)) (by rw [hK.out]; rfl) (by rfl) _ (Or.inl (by rfl)) (.pointer (some ⟨x, 0, none⟩)) (by rfl) ?_
          refine fl_op1 85 (by rfl) (by decide) (wanted_if hops 6 true (by rfl) 66 (by rfl) true (by rfl)) (by rw [hK.out]; rfl) (by rfl) (.tmp 84) (.pointer (some ⟨x, 0, none⟩)) (by rfl) (.pointer (some ⟨x, 0, none⟩)) (fun ρ h1 kk w1 (hg : Just (fun b => b = cc ∨ wc2.heap.size ≤ b) _ w1) hb hf => by go_simp) ?_
          refine fl_op1 86 (by rfl) (by decide) (wanted_if hops 6 true (by rfl) 66 (by rfl) true (by rfl)) (by rw [hK.out]; rfl) (by rfl) (.tmp 85) (.pointer (some ⟨x, 0, none⟩)) (by rfl) (.pointer (some ⟨x, 0, none⟩)) (fun ρ h1 kk w1 (hg : Just (fun b => b = cc ∨ wc2.heap.size ≤ b) _ w1) hb hf => by go_simp) ?_
          refine fl_op1 87 (by rfl) (by decide) (wanted_if hops 6 true (by rfl) 66 (by rfl) true (by rfl)) (by rw [hK.out]; rfl) (by rfl) (.tmp 86) (.pointer (some ⟨x, 0, none⟩)) (by rfl) (.int .i64 F1) (fun ρ h1 kk w1 (hg : Just (fun b => b = cc ∨ wc2.heap.size ≤ b) _ w1) hb hf => by have c := (Just.blk hg hBx2 hxn).cell 0; go_simp) ?_
          refine fl_op2 88 (by rfl) (by decide) (wanted_if hops 6 true (by rfl) 66 (by rfl) true (by rfl)) (by rw [hK.out]; rfl) (by rfl) (.tmp 87) (.const (.int .i64 2)) (.int .i64 F1) (.int .i64 2) (by rfl) (by rfl) (.int .i64 q2) (fun ρ h1 h2 kk w1 (hg : Just (fun b => b = cc ∨ wc2.heap.size ≤ b) _ w1) hb hf => by go_simp; rw [HQ2.out]) ?_
          refine fl_call 89 (by rfl) (by decide) (wanted_if hops 6 true (by rfl) 66 (by rfl) true (by rfl)) (.bool (addB F1 M1 q2)) (by rw [hK.out]; rfl) 19 _ _ (by rfl) [u83, .int .i64 q2] (by rfl) k19 (fun kk w1 (hg : Just (fun b => b = cc ∨ wc2.heap.size ≤ b) _ w1) hb hf => calls_turn 1 (by rfl) (by obtain rfl := before_some 1 (by rfl) hb; have hI := hb.1; exact radd_fresh w1 wc2.heap.size cc F1 M1 q2 _ (facts_take hf (by rw [hA'.out]; kernel_rfl)) hW1 hq2r)) ?_
          refine fl_op2 90 (by rfl) (by decide) (wanted_if hops 6 true (by rfl) 66 (by rfl) true (by rfl)) (by rw [hK.out]; rfl) (by rfl) (.tmp 73) (.tmp 89) (.bool (addB F1 M1 q2)) (.bool (addB F1 M1 q2)) (by rfl) (by rfl) (.bool false) (fun ρ h1 h2 kk w1 (hg : Just (fun b => b = cc ∨ wc2.heap.size ≤ b) _ w1) hb hf => by go_simp) ?_
          refine fl_mv 91 (by rfl) (by decide) (wanted_if hops 6 true (by rfl) 66 (by rfl) true (by rfl)) (by rw [hK.out]; rfl) (by rfl) _ (Or.inl (by rfl)) (.bool false) (by rfl) ?_
          refine fl_mv 92 (by rfl) (by decide) (wanted_if hops 31 false (by rfl) 91 (by rfl) false (by rfl)) (by rw [hK.out]; rfl) (by rfl) _ (Or.inl (by rfl)) (.pointer (some ⟨g, 0, none⟩)) (by rfl) ?_
          refine fl_mv 93 (by rfl) (by decide) (wanted_if hops 31 false (by rfl) 91 (by rfl) false (by rfl)) (by rw [hK.out]; rfl) (by rfl) _ (Or.inl (by rfl)) (.pointer (some ⟨x, 0, none⟩)) (by rfl) ?_
          refine fl_mv 94 (by rfl) (by decide) (wanted_if hops 31 false (by rfl) 91 (by rfl) false (by rfl)) (by rw [hK.out]; rfl) (by rfl) _ (Or.inl (by rfl)) (.pointer (some ⟨x, 0, none⟩)) (by rfl) ?_
          refine fl_op1 95 (by rfl) (by decide) (wanted_if hops 31 false (by rfl) 91 (by rfl) false (by rfl)) (by rw [hK.out]; rfl) (by rfl) (.tmp 94) (.pointer (some ⟨x, 0, none⟩)) (by rfl) (.pointer (some ⟨x, 0, none⟩)) (fun ρ h1 kk w1 (hg : Just (fun b => b = cc ∨ wc2.heap.size ≤ b) _ w1) hb hf => by go_simp) ?_
          refine fl_op1 96 (by rfl) (by decide) (wanted_if hops 31 false (by rfl) 91 (by rfl) false (by rfl)) (by rw [hK.out]; rfl) (by rfl) (.tmp 95) (.pointer (some ⟨x, 0, none⟩)) (by rfl) (.pointer (some ⟨x, 0, none⟩)) (fun ρ h1 kk w1 (hg : Just (fun b => b = cc ∨ wc2.heap.size ≤ b) _ w1) hb hf => by go_simp) ?_
          refine fl_op1 97 (by rfl) (by decide) (wanted_if hops 31 false (by rfl) 91 (by rfl) false (by rfl)) (by rw [hK.out]; rfl) (by rfl) (.tmp 96) (.pointer (some ⟨x, 0, none⟩)) (by rfl) (.int .i64 F1) (fun ρ h1 kk w1 (hg : Just (fun b => b = cc ∨ wc2.heap.size ≤ b) _ w1) hb hf => by have c := (Just.blk hg hBx2 hxn).cell 0; go_simp) ?_
          refine fl_op2 98 (by rfl) (by decide) (wanted_if hops 31 false (by rfl) 91 (by rfl) false (by rfl)) (by rw [hK.out]; rfl) (by rfl) (.tmp 97) (.const (.int .i64 2)) (.int .i64 F1) (.int .i64 2) (by rfl) (by rfl) (.int .i64 q2) (fun ρ h1 h2 kk w1 (hg : Just (fun b => b = cc ∨ wc2.heap.size ≤ b) _ w1) hb hf => by go_simp; rw [HQ2.out]) ?_
          refine fl_call 99 (by rfl) (by decide) (wanted_if hops 31 false (by rfl) 91 (by rfl) false (by rfl)) (.bool true) (by rw [hK.out]; rfl) 18 _ _ (by rfl) [.pointer (some ⟨g, 0, none⟩), .pointer (some ⟨x, 0, none⟩), .int .i64 q2] (by rfl) k18 (fun kk w1 (hg : Just (fun b => b = cc ∨ wc2.heap.size ≤ b) _ w1) hb hf => calls_behind (by rfl) (by exact same_any w1 g x F1 M1 q2 (Just.blk hg hBg2 hgn) (Just.blk hg hBx2 hxn) hW1 hq2r)) ?_
          refine fl_op1 100 (by rfl) (by decide) (wanted_if hops 31 false (by rfl) 91 (by rfl) false (by rfl)) (by rw [hK.out]; rfl) (by rfl) (.tmp 99) (.bool true) (by rfl) (.bool false) (fun ρ h1 kk w1 (hg : Just (fun b => b = cc ∨ wc2.heap.size ≤ b) _ w1) hb hf => by go_simp) ?_
          refine fl_pick 101 (by rfl) (by decide) (wanted_if hops 6 true (by rfl) 66 (by rfl) true (by rfl)) (by rw [hK.out]; rfl) (by rfl) _ _ _ (by rfl) false (by rfl) (.bool false) (by rfl) ?_
          refine fl_pick 102 (by rfl) (by decide) (wanted_if hops 2 false (by rfl) 62 (by rfl) false (by rfl)) (by rw [hK.out]; rfl) (by rfl) _ _ _ (by rfl) true (by rfl) (.bool false) (by rfl) ?_
          refine fl_pick 103 (by rfl) (by decide) (wanted_none (by rfl)) (by rw [hK.out]; rfl) (by rfl) _ _ _ (by rfl) false (by rfl) (.bool false) (by rfl) ?_
          refine fl_end (fun _ _ w1 (hg : Just (fun b => b = cc ∨ wc2.heap.size ≤ b) _ w1) hend hfacts => hT _ _ ?_)
          clear hops hA' hK hT
          simp only [putsL, Act.put, List.setIfInBounds_toArray, List.set_cons_zero, List.set_cons_succ]

          refine reg_end ?_
          go_wp2_with fail
          go_roundw
          case rel => exact ⟨k + 1, F1, M1, by omega, by omega, by go_num, hW1, Just.blk hg hBg2 hgn, Just.blk hg hBx2 hxn, hb2.trans (Just.below hg (B := w.heap.size) (fun b hb' => by have := hb2.size; rcases hb' with rfl | hb' <;> omega) hb2.size)⟩
          case measure => simp [intOf]; omega
        · go_wp2_with fail
          refine wp_region_reg rfl ?_
          refine reg_flow quiet quiet_ok 0 44 106 [] rfl (by kernel_rfl) (by kernel_rfl) (by kernel_rfl) ?_ (Grow.refl _).drew trivial ?_
          · intro x hx φ he
            cases hx
          intro ops' A' K' T hops hA' hK hT
          refine fl_mv 60 (by rfl) (by decide) (wanted_none (by rfl)) (by rw [hK.out]; rfl) (by rfl) _ (Or.inl (by rfl)) (.pointer (some ⟨cc, 0, none⟩)) (by rfl) ?_
          refine fl_op2 61 (by rfl) (by decide) (wanted_none (by rfl)) (by rw [hK.out]; rfl) (by rfl) (.tmp 60) (.const (.pointer none)) (.pointer (some ⟨cc, 0, none⟩)) (.pointer none) (by rfl) (by rfl) (.bool false) (fun ρ h1 h2 kk w1 (hg : Grow _ w1) hb hf => by go_simp) ?_
          refine fl_mv 62 (by rfl) (by decide) (wanted_none (by rfl)) (by rw [hK.out]; rfl) (by rfl) _ (Or.inl (by rfl)) (.bool false) (by rfl) ?_
          refine fl_mv 63 (by rfl) (by decide) (wanted_if hops 2 false (by rfl) 62 (by rfl) false (by rfl)) (by rw [hK.out]; rfl) (by rfl) _ (Or.inl (by rfl)) (.int .i64 (k : Int)) (by rfl) ?_
          refine fl_op2 64 (by rfl) (by decide) (wanted_if hops 2 false (by rfl) 62 (by rfl) false (by rfl)) (by rw [hK.out]; rfl) (by rfl) (.tmp 63) (.const (.int .i64 7)) (.int .i64 (k : Int)) (.int .i64 7) (by rfl) (by rfl) (.int .i64 (R : Int)) (fun ρ h1 h2 kk w1 (hg : Grow _ w1) hb hf => by go_simp; exact HT.out) ?_
          refine fl_op2 65 (by rfl) (by decide) (wanted_if hops 2 false (by rfl) 62 (by rfl) false (by rfl)) (by rw [hK.out]; rfl) (by rfl) (.tmp 64) (.const (.int .i64 0)) (.int .i64 (R : Int)) (.int .i64 0) (by rfl) (by rfl) (.bool false) (fun ρ h1 h2 kk w1 (hg : Grow _ w1) hb hf => by go_simp <;> omega) ?_
          refine fl_mv 66 (by rfl) (by decide) (wanted_if hops 2 false (by rfl) 62 (by rfl) false (by rfl)) (by rw [hK.out]; rfl) (by rfl) _ (Or.inl (by rfl)) (.bool false) (by rfl) ?_
          refine fl_skip 67 (by rfl) (by decide) (wanted_if hops 6 true (by rfl) 66 (by rfl) false (by rfl)) (by rfl) ?_
          refine fl_skip 68 (by rfl) (by decide) (wanted_if hops 6 true (by rfl) 66 (by rfl) false (by rfl)) (by rfl) ?_
          refine fl_skip 69 (by rfl) (by decide) (wanted_if hops 6 true (by rfl) 66 (by rfl) false (by rfl)) (by rfl) ?_
          refine fl_skip 70 (by rfl) (by decide) (wanted_if hops 6 true (by rfl) 66 (by rfl) false (by rfl)) (by rfl) ?_
          refine fl_skip 71 (by rfl) (by decide) (wanted_if hops 6 true (by rfl) 66 (by rfl) false (by rfl)) (by rfl) ?_
          refine fl_skip 72 (by rfl) (by decide) (wanted_if hops 6 true (by rfl) 66 (by rfl) false (by rfl)) (by rfl) ?_
          refine fl_skip 73 (by rfl) (by decide) (wanted_if hops 6 true (by rfl) 66 (by rfl) false (by rfl)) (by rfl) ?_
          refine fl_skip 74 (by rfl) (by decide) (wanted_if hops 6 true (by rfl) 66 (by rfl) false (by rfl)) (by rfl) ?_
          refine fl_skip 75 (by rfl) (by decide) (wanted_if hops 6 true (by rfl) 66 (by rfl) false (by rfl)) (by rfl) ?_
          refine fl_skip 76 (by rfl) (by decide) (wanted_if hops 6 true (by rfl) 66 (by rfl) false (by rfl)) (by rfl) ?_
          refine fl_skip 77 (by rfl) (by decide) (wanted_if hops 6 true (by rfl) 66 (by rfl) false (by rfl)) (by rfl) ?_
          refine fl_skip 78 (by rfl) (by decide) (wanted_if hops 6 true (by rfl) 66 (by rfl) false (by rfl)) (by rfl) ?_
          refine fl_skip 79 (by rfl) (by decide) (wanted_if hops 6 true (by rfl) 66 (by rfl) false (by rfl)) (by rfl) ?_
          refine fl_skip 80 (by rfl) (by decide) (wanted_if hops 6 true (by rfl) 66 (by rfl) false (by rfl)) (by rfl) ?_
          refine fl_skip 81 (by rfl) (by decide) (wanted_if hops 6 true (by rfl) 66 (by rfl) false (by rfl)) (by rfl) ?_
          refine fl_skip 82 (by rfl) (by decide) (wanted_if hops 6 true (by rfl) 66 (by rfl) false (by rfl)) (by rfl) ?_
          refine fl_skip 83 (by rfl) (by decide) (wanted_if hops 6 true (by rfl) 66 (by rfl) false (by rfl)) (by rfl) ?_
          refine fl_skip 84 (by rfl) (by decide) (wanted_if hops 6 true (by rfl) 66 (by rfl) false (by rfl)) (by rfl) ?_
          refine fl_skip 85 (by rfl) (by decide) (wanted_if hops 6 true (by rfl) 66 (by rfl) false (by rfl)) (by rfl) ?_
          refine fl_skip 86 (by rfl) (by decide) (wanted_if hops 6 true (by rfl) 66 (by rfl) false (by rfl)) (by rfl) ?_
          refine fl_skip 87 (by rfl) (by decide) (wanted_if hops 6 true (by rfl) 66 (by rfl) false (by rfl)) (by rfl) ?_
          refine fl_skip 88 (by rfl) (by decide) (wanted_if hops 6 true (by rfl) 66 (by rfl) false (by rfl)) (by rfl) ?_
          refine fl_skip 89 (by rfl) (by decide) (wanted_if hops 6 true (by rfl) 66 (by rfl) false (by rfl)) (by rfl) ?_
          refine fl_skip 90 (by rfl) (by decide) (wanted_if hops 6 true (by rfl) 66 (by rfl) false (by rfl)) (by rfl) ?_
          refine fl_skip 91 (by rfl) (by decide) (wanted_if hops 6 true (by rfl) 66 (by rfl) false (by rfl)) (by rfl) ?_
          refine fl_skip 92 (by rfl) (by decide) (wanted_out hops 31 false (by rfl) 91 (by rfl) (by rfl)) (by rfl) ?_
          refine fl_skip 93 (by rfl) (by decide) (wanted_out hops 31 false (by rfl) 91 (by rfl) (by rfl)) (by rfl) ?_
          refine fl_skip 94 (by rfl) (by decide) (wanted_out hops 31 false (by rfl) 91 (by rfl) (by rfl)) (by rfl) ?_
          refine fl_skip 95 (by rfl) (by decide) (wanted_out hops 31 false (by rfl) 91 (by rfl) (by rfl)) (by rfl) ?_
          refine fl_skip 96 (by rfl) (by decide) (wanted_out hops 31 false (by rfl) 91 (by rfl) (by rfl)) (by rfl) ?_
          refine fl_skip 97 (by rfl) (by decide) (wanted_out hops 31 false (by rfl) 91 (by rfl) (by rfl)) (by rfl) ?_
          refine fl_skip 98 (by rfl) (by decide) (wanted_out hops 31 false (by rfl) 91 (by rfl) (by rfl)) (by rfl) ?_
          refine fl_skip 99 (by rfl) (by decide) (wanted_out hops 31 false (by rfl) 91 (by rfl) (by rfl)) (by rfl) ?_
          refine fl_skip 100 (by rfl) (by decide) (wanted_out hops 31 false (by rfl) 91 (by rfl) (by rfl)) (by rfl) ?_
          refine fl_skip 101 (by rfl) (by decide) (wanted_if hops 6 true (by rfl) 66 (by rfl) false (by rfl)) (by rfl) ?_
          refine fl_pick 102 (by rfl) (by decide) (wanted_if hops 2 false (by rfl) 62 (by rfl) false (by rfl)) (by rw [hK.out]; rfl) (by rfl) _ _ _ (by rfl) false (by rfl) (.bool false) (by rfl) ?_
          refine fl_pick 103 (by rfl) (by decide) (wanted_none (by rfl)) (by rw [hK.out]; rfl) (by rfl) _ _ _ (by rfl) false (by rfl) (.bool false) (by rfl) ?_
          refine fl_end (fun _ _ w1 (hg : Grow _ w1) hend hfacts => hT _ _ ?_)
          clear hops hA' hK hT
          simp only [putsL, Act.put, List.setIfInBounds_toArray, List.set_cons_zero, List.set_cons_succ]

          refine reg_end ?_
          go_wp2_with fail
          go_roundw
          case rel => exact ⟨k + 1, F1, M1, by omega, by omega, by go_num, hW1, hBg2.grow hg, hBx2.grow hg, below_trans hb2 hg hb2.size⟩
          case measure => simp [intOf]; omega
      · go_wp2_with fail
        go_ret
        exact ⟨rfl, hb⟩
    · go_wp2_with fail
      go_ret
      exact ⟨rfl, hb⟩
end Go.Proofs.Ytcllbjgblhpjiaa
