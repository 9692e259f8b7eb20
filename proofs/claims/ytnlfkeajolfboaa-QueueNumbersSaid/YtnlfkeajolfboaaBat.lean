/- Batches: what they read as; queue.own. -/
import Derived.Test.YtnlfkeajolfboaaDclone
namespace Go.Proofs.Ytnlfkeajolfboaa
open Go.RowKit Go.Hop
/-- a batch, as it lies in memory -/
structure Bat where
  seq : Int
  A : Option Addr
  m : Nat
  c : Nat
  ds : List Dl
def Bat.cells (b : Bat) : List Value := [.int .i64 b.seq, .slice b.A b.m b.c]
def Bat.abs (b : Bat) : Int × List Dl := (b.seq, b.ds)
theorem bat_len (b : Bat) : b.cells.length = 2 := rfl
theorem bat_one (b : Bat) : ∀ u ∈ b.cells, u.oneCell' = true := by
  intro u hu
  simp only [Bat.cells, List.mem_cons, List.not_mem_nil, or_false] at hu
  rcases hu with rfl | rfl <;> rfl
theorem bats_one (q : List Bat) : ∀ u ∈ q.flatMap Bat.cells, u.oneCell' = true := by
  intro u hu
  obtain ⟨b, _, hb⟩ := List.mem_flatMap.1 hu
  exact bat_one b u hb
theorem bats_len (q : List Bat) : (q.flatMap Bat.cells).length = q.length * 2 := flat_length Bat.cells 2 bat_len q
/-- its deltas lie in V -/
structure BatIn (w : World) (V : Nat → Prop) (b : Bat) : Prop where
  ds : DIn w V b.A b.m b.ds
  le : b.m ≤ b.c
  max : b.c ≤ maxLen
  small : b.m ≤ 8
theorem BatIn.mono {w : World} {V V' : Nat → Prop} {b : Bat} (h : BatIn w V b) (hV : ∀ b, V b → V' b) : BatIn w V' b := ⟨In.mono h.ds hV, h.le, h.max, h.small⟩
theorem BatIn.grow {w w' : World} {V : Nat → Prop} {b : Bat} (h : BatIn w V b) (hg : Grow w w') : BatIn w' V b := ⟨In.grow h.ds hg, h.le, h.max, h.small⟩
theorem BatIn.just {w w' : World} {V U : Nat → Prop} {b : Bat} (h : BatIn w V b) (hj : Just U w w') (hd : ∀ b, V b → ¬ U b) : BatIn w' V b := ⟨In.just h.ds hj hd, h.le, h.max, h.small⟩
theorem batch_info : (Try.prog.info? 32).map (fun i => (i.zero, i.size, i.bytes)) = some (some (.agg #[.int .i64 0, .slice none 0 0]), 2, 32) := by kernel_rfl
theorem batchE : Elem Try.prog 43 32 2 32 (.agg #[.int .i64 0, .slice none 0 0]) := ⟨Try.underlying43, info_parts batch_info, rfl, by decide, by decide⟩
theorem own_any (w : World) (V : Nat → Prop) (b : Bat) (h : BatIn w V b) :
    Calls Try.prog 17 #[.agg #[.int .i64 b.seq, .slice b.A b.m b.c]] w fun e w' => ∃ A', e = .returned (.agg #[.int .i64 b.seq, .slice A' b.m b.m]) ∧ BatIn w' (New w w') ⟨b.seq, A', b.m, b.m, b.ds⟩ ∧ Grow w w' := by
  obtain ⟨sq, A, m, c, ds⟩ := b
  obtain ⟨hd, hle, hmx, hsm⟩ := h
  dsimp only at hd hle hmx hsm ⊢
  have hg0 : Grow w ((w.alloc (.cells #[.int .i64 sq, .slice A m c] 32)).alloc (.cells #[.int .i64 0, .slice none 0 0] 32)) := ((Below.refl _ _).alloc (Nat.le_refl _) _).alloc (by simp) _
  have hB0 := (Blk.made w 32 #[.int .i64 sq, .slice A m c]).alloc (.cells #[.int .i64 0, .slice none 0 0] 32)
  have hB1 := Blk.made (w.alloc (.cells #[.int .i64 sq, .slice A m c] 32)) 32 #[.int .i64 0, .slice none 0 0]
  obtain ⟨x, HX⟩ : ∃ x : Nat, Hid (x = w.heap.size) := ⟨_, rfl⟩
  have hx1 : (w.alloc (.cells #[.int .i64 sq, .slice A m c] 32)).heap.size = x + 1 := by rw [HX.out]; simp
  rw [hx1] at hB1
  rw [← HX.out] at hB0
  obtain ⟨wa, HA⟩ : ∃ wa : World, Hid (wa = (w.alloc (.cells #[.int .i64 sq, .slice A m c] 32)).alloc (.cells #[.int .i64 0, .slice none 0 0] 32)) := ⟨_, rfl⟩
  rw [← HA.out] at hB0 hB1 hg0
  have c1 := hB0.cell 1
  have hsz : wa.heap.size = x + 2 := by rw [HA.out, HX.out]; simp
  go_enter Try.func17, Try.ntmps17
  go_wp2_with fail
  rw [← HA.out, ← HX.out]
  refine (clone_any wa V A m c ds (In.grow hd hg0) (by omega)).mono ?_
  rintro e w1 ⟨A1, c1', rfl, hd1, hn1, hm1, hg1⟩
  have hC0 := hB0.grow hg1
  have hC1 := hB1.grow hg1
  have hxs := hC1.lt
  have hk0 : ∀ u, (w1.setCell ⟨x, 1, none⟩ u).cell? ⟨x, 0, none⟩ = some (.int .i64 sq) := fun u => (hC0.put 1 u).cell 0
  have hk1 : ∀ u, (w1.setCell ⟨x, 1, none⟩ u).cell? ⟨x, 1, none⟩ = some u := fun u => (hC0.put 1 u).cell 1
  have f1 := hC0.frozen 1
  have c10 := hC0.cell 1
  have hD := (hC1.far (p := ⟨x, 1, none⟩) (show x + 1 ≠ x by omega) (.slice A1 m m))
  have d0 := hD.cell 0
  have d1 := hD.cell 1
  have g0 := hD.frozen 0
  have g1 := hD.frozen 1
  go_wp2_with (go_at_call 26; refine (clip_any _ A1 m c1' hn1).mono ?_; rintro e w2 ⟨rfl, rfl⟩)
  have hE := (hD.put 0 (.int .i64 sq)).put 1 (.slice A1 m m)
  have e0 := hE.cell 0
  have e1 := hE.cell 1
  have hj : Just (fun b => b = x ∨ b = x + 1) w1 (((w1.setCell ⟨x, 1, none⟩ (.slice A1 m m)).setCell ⟨x + 1, 0, none⟩ (.int .i64 sq)).setCell ⟨x + 1, 1, none⟩ (.slice A1 m m)) :=
    (((Just.of_grow (Grow.refl w1)).put (V := fun b => b = x ∨ b = x + 1) (.inl rfl) 1 _).put (.inr rfl) 0 _).put (.inr rfl) 1 _
  have hgw : Grow w (((w1.setCell ⟨x, 1, none⟩ (.slice A1 m m)).setCell ⟨x + 1, 0, none⟩ (.int .i64 sq)).setCell ⟨x + 1, 1, none⟩ (.slice A1 m m)) :=
    Below.trans (hg0.trans hg1) (hj.below (B := w.heap.size) (fun b hb => by have := HX.out; omega) (hg0.trans hg1).size)
  refine bodyPost_ret (v := .agg #[.int .i64 sq, .slice A1 m m]) (by simp [results, Try.results17, go_sem, e0, e1]) rfl ⟨A1, rfl, ⟨?_, Nat.le_refl _, by dsimp only; omega, hsm⟩, hgw⟩
  refine In.mono (V := New wa w1) (In.just hd1 hj fun b hb => by have := hb.1; omega) fun b hb => ⟨by have := hb.1; have := hg0.size; omega, by have := hb.2; simpa [World.setCell] using this⟩
end Go.Proofs.Ytnlfkeajolfboaa
