/- Bytes, letters: what they read as; clones. -/
import Derived.Test.YtacigekkfgeipaaMore
import Derived.Test.YtacigekkfgeipaaKit
namespace Go.Proofs.Ytacigekkfgeipaa
open Go.RowKit Go.Hop
theorem info_parts {e size bytes : Nat} {z : Value} (h : (Try.prog.info? e).map (fun i => (i.zero, i.size, i.bytes)) = some (some z, size, bytes)) : ∃ i, Try.prog.info? e = some i ∧ i.zero = some z ∧ i.size = size ∧ i.bytes = bytes := by
  cases hi : Try.prog.info? e with
  | none => rw [hi] at h; cases h
  | some i => rw [hi] at h; injection h with h; injection h with h1 h2; injection h2 with h2 h3; exact ⟨i, rfl, h1, h2, h3⟩
theorem u8_info : (Try.prog.info? 5).map (fun i => (i.zero, i.size, i.bytes)) = some (some (.int .u8 0), 1, 1) := by kernel_rfl
theorem u8E : Elem Try.prog 23 5 1 1 (.int .u8 0) := ⟨Try.underlying23, info_parts u8_info, rfl, by decide, by decide⟩
/-- bytes, in blocks of V -/
def BIn (w : World) (V : Nat → Prop) (A : Option Addr) (n : Nat) (l : List UInt8) : Prop := In w V 1 A n (u8s l)
theorem BIn.len {w : World} {V : Nat → Prop} {A : Option Addr} {n : Nat} {l : List UInt8} (h : BIn w V A n l) : l.length = n := by
  have := h.1; simpa using this
theorem clone_any (w : World) (V : Nat → Prop) (A : Option Addr) (n c : Nat) (l : List UInt8) (h : BIn w V A n l) (hn : n ≤ 1048576) :
    Calls Try.prog 31 #[.slice A n c] w fun e w' => ∃ A' c', e = .returned (.slice A' n c') ∧ BIn w' (New w w') A' n l ∧ n ≤ c' ∧ c' ≤ maxLen ∧ Grow w w' := by
  have hnil := fun (w' : World) => Lib.run_eql_slice_nil (P := Try.prog) w' 23 5 A n c 0 0 Try.underlying23
  cases A with
  | none =>
    have hn0 : n = 0 := by
      rcases Nat.eq_zero_or_pos n with h0 | h0
      · exact h0
      · obtain ⟨_, e, _⟩ := h.2 h0; cases e
    subst hn0
    obtain rfl : l = [] := List.eq_nil_of_length_eq_zero h.len
    go_enter Try.func31, Try.ntmps31
    go_wp2_with fail
    go_ret
    exact ⟨_, _, rfl, In.nil, Nat.le_refl _, Nat.zero_le _, Grow.refl _⟩
  | some ad =>
    go_enter Try.func31, Try.ntmps31
    go_wp2_with (at_builtin; refine stay ?_)
    refine stay_out ?_
    refine wpList_own (V := fun b => b = w.heap.size) u8E _ rfl (.tmp 5) (.tmp 6) rfl (.slice (some ⟨w.heap.size, 0, none⟩) 0 0) 0 [] rfl (made_own w _ _) w.heap.size (some ad) n c (u8s l) rfl (Reads.alloc (In.reads h) (Nat.le_refl _) _) u8s_one (by omega) ?_
    intro v1 w1 hO1 hj1
    simp only [Nat.zero_add, List.nil_append] at hO1
    obtain ⟨hO2, hg1⟩ := own_new hO1 hj1
    obtain ⟨A2, c2, rfl, hI, hnc, hm⟩ := hO2.in_
    go_wp2_with fail
    go_ret
    exact ⟨A2, c2, rfl, hI, hnc, hm, hg1⟩
/-- from, to, bytes -/
abbrev Lb := Int × Int × List UInt8
/-- a letter, as it lies in memory -/
structure Lt where
  f : Int
  t : Int
  A : Option Addr
  m : Nat
  c : Nat
  bs : List UInt8
def Lt.cells (b : Lt) : List Value := [.int .i64 b.f, .int .i64 b.t, .slice b.A b.m b.c]
def Lt.abs (b : Lt) : Lb := (b.f, b.t, b.bs)
theorem lt_len (b : Lt) : b.cells.length = 3 := rfl
theorem lt_one (b : Lt) : ∀ u ∈ b.cells, u.oneCell' = true := by
  intro u hu
  simp only [Lt.cells, List.mem_cons, List.not_mem_nil, or_false] at hu
  rcases hu with rfl | rfl | rfl <;> rfl
theorem lts_one (q : List Lt) : ∀ u ∈ q.flatMap Lt.cells, u.oneCell' = true := by
  intro u hu
  obtain ⟨b, _, hb⟩ := List.mem_flatMap.1 hu
  exact lt_one b u hb
theorem lts_len (q : List Lt) : (q.flatMap Lt.cells).length = q.length * 3 := flat_length Lt.cells 3 lt_len q
structure LtIn (w : World) (V : Nat → Prop) (b : Lt) : Prop where
  bs : BIn w V b.A b.m b.bs
  le : b.m ≤ b.c
  max : b.c ≤ maxLen
  small : b.m ≤ 1048576
theorem LtIn.mono {w : World} {V V' : Nat → Prop} {b : Lt} (h : LtIn w V b) (hV : ∀ b, V b → V' b) : LtIn w V' b := ⟨In.mono h.bs hV, h.le, h.max, h.small⟩
theorem LtIn.keep {w w' : World} {V : Nat → Prop} {b : Lt} (h : LtIn w V b) (hk : ∀ b, V b → b < w.heap.size → w'.heap[b]? = w.heap[b]?) : LtIn w' V b := ⟨In.keep h.bs hk, h.le, h.max, h.small⟩
theorem LtIn.grow {w w' : World} {V : Nat → Prop} {b : Lt} (h : LtIn w V b) (hg : Grow w w') : LtIn w' V b := ⟨In.grow h.bs hg, h.le, h.max, h.small⟩
theorem LtIn.just {w w' : World} {V U : Nat → Prop} {b : Lt} (h : LtIn w V b) (hj : Just U w w') (hd : ∀ b, V b → ¬ U b) : LtIn w' V b := ⟨In.just h.bs hj hd, h.le, h.max, h.small⟩
theorem letter_info : (Try.prog.info? 35).map (fun i => (i.zero, i.size, i.bytes)) = some (some (.agg #[.int .i64 0, .int .i64 0, .slice none 0 0]), 3, 40) := by kernel_rfl
theorem letterE : Elem Try.prog 40 35 3 40 (.agg #[.int .i64 0, .int .i64 0, .slice none 0 0]) := ⟨Try.underlying40, info_parts letter_info, rfl, by decide, by decide⟩
theorem own_any (w : World) (V : Nat → Prop) (b : Lt) (h : LtIn w V b) :
    Calls Try.prog 26 #[.agg #[.int .i64 b.f, .int .i64 b.t, .slice b.A b.m b.c]] w fun e w' => ∃ A' c', e = .returned (.agg #[.int .i64 b.f, .int .i64 b.t, .slice A' b.m c']) ∧ LtIn w' (New w w') ⟨b.f, b.t, A', b.m, c', b.bs⟩ ∧ Grow w w' := by
  obtain ⟨f, t, A, m, c, bs⟩ := b
  obtain ⟨hd, hle, hmx, hsm⟩ := h
  dsimp only at hd hle hmx hsm ⊢
  have hg0 : Grow w ((w.alloc (.cells #[.int .i64 f, .int .i64 t, .slice A m c] 35)).alloc (.cells #[.int .i64 0, .int .i64 0, .slice none 0 0] 35)) := ((Below.refl _ _).alloc (Nat.le_refl _) _).alloc (by simp) _
  have hB0 := (Blk.made w 35 #[.int .i64 f, .int .i64 t, .slice A m c]).alloc (.cells #[.int .i64 0, .int .i64 0, .slice none 0 0] 35)
  have hB1 := Blk.made (w.alloc (.cells #[.int .i64 f, .int .i64 t, .slice A m c] 35)) 35 #[.int .i64 0, .int .i64 0, .slice none 0 0]
  obtain ⟨x, HX⟩ : ∃ x : Nat, Hid (x = w.heap.size) := ⟨_, rfl⟩
  have hx1 : (w.alloc (.cells #[.int .i64 f, .int .i64 t, .slice A m c] 35)).heap.size = x + 1 := by rw [HX.out]; simp
  rw [hx1] at hB1
  rw [← HX.out] at hB0
  obtain ⟨wa, HA⟩ : ∃ wa : World, Hid (wa = (w.alloc (.cells #[.int .i64 f, .int .i64 t, .slice A m c] 35)).alloc (.cells #[.int .i64 0, .int .i64 0, .slice none 0 0] 35)) := ⟨_, rfl⟩
  rw [← HA.out] at hB0 hB1 hg0
  have c1 := hB0.cell 2
  have hsz : wa.heap.size = x + 2 := by rw [HA.out, HX.out]; simp
  go_enter Try.func26, Try.ntmps26
  go_wp2_with fail
  rw [← HA.out, ← HX.out]
  refine (clone_any wa V A m c bs (In.grow hd hg0) (by omega)).mono ?_
  rintro e w1 ⟨A1, c1', rfl, hd1, hn1, hm1, hg1⟩
  have hC0 := hB0.grow hg1
  have hC1 := hB1.grow hg1
  have hxs := hC1.lt
  have hk0 := (hC0.put 2 (.slice A1 m c1')).cell 0
  have hk1 := (hC0.put 2 (.slice A1 m c1')).cell 1
  have hk2 := (hC0.put 2 (.slice A1 m c1')).cell 2
  have f2 := hC0.frozen 2
  have c12 := hC0.cell 2
  have hD := (hC1.far (p := ⟨x, 2, none⟩) (show x + 1 ≠ x by omega) (.slice A1 m c1'))
  have d0 := hD.cell 0
  have d1 := hD.cell 1
  have d2 := hD.cell 2
  have g0 := hD.frozen 0
  have g1 := hD.frozen 1
  have g2 := hD.frozen 2
  go_wp2_with fail
  have hE := ((hD.put 0 (.int .i64 f)).put 1 (.int .i64 t)).put 2 (.slice A1 m c1')
  have e0 := hE.cell 0
  have e1 := hE.cell 1
  have e2 := hE.cell 2
  have hj : Just (fun b => b = x ∨ b = x + 1) w1 ((((w1.setCell ⟨x, 2, none⟩ (.slice A1 m c1')).setCell ⟨x + 1, 0, none⟩ (.int .i64 f)).setCell ⟨x + 1, 1, none⟩ (.int .i64 t)).setCell ⟨x + 1, 2, none⟩ (.slice A1 m c1')) :=
    ((((Just.of_grow (Grow.refl w1)).put (V := fun b => b = x ∨ b = x + 1) (.inl rfl) 2 _).put (.inr rfl) 0 _).put (.inr rfl) 1 _).put (.inr rfl) 2 _
  have hgw : Grow w ((((w1.setCell ⟨x, 2, none⟩ (.slice A1 m c1')).setCell ⟨x + 1, 0, none⟩ (.int .i64 f)).setCell ⟨x + 1, 1, none⟩ (.int .i64 t)).setCell ⟨x + 1, 2, none⟩ (.slice A1 m c1')) :=
    Below.trans (hg0.trans hg1) (hj.below (B := w.heap.size) (fun b hb => by have := HX.out; omega) (hg0.trans hg1).size)
  refine bodyPost_ret (v := .agg #[.int .i64 f, .int .i64 t, .slice A1 m c1']) (by simp [results, Try.results26, go_sem, e0, e1, e2]) rfl ⟨A1, c1', rfl, ⟨?_, hn1, hm1, hsm⟩, hgw⟩
  refine In.mono (V := New wa w1) (In.just hd1 hj fun b hb => by have := hb.1; omega) fun b hb => ⟨by have := hb.1; have := hg0.size; omega, by have := hb.2; simpa [World.setCell] using this⟩
end Go.Proofs.Ytacigekkfgeipaa
