/- What the answer's queue takes in. -/
import Derived.Test.YtnlfkeajolfboaaRq
namespace Go.Proofs.Ytnlfkeajolfboaa
open Go.RowKit Go.Hop
theorem rAdd_ok (w : World) (Z : Nat → Prop) (g : Nat) (l : List Ab) (last seq : Int) (A : Option Addr) (m c : Nat) (ds : List Dl) (hd0 : DIn w Z A m ds) (hZ : ∀ b, Z b → b ≠ g) (ha : ¬ seq < 1) (hb : ¬ seq ≤ last) (hc : ¬ m < 1) (hd : ¬ 8 < m) (he : ¬ 16 ≤ l.length) :
    Turns Try.prog 22 #[.pointer (some ⟨g, 0, none⟩), .int .i64 seq, .slice A m c] (fun e => e = .returned (.int .i64 0)) (RQAt g l last) (RQAt g (l ++ [(seq, ds)]) seq) w := by
  intro V ⟨h1, A0, c0, ps, D, hl, h3, hB, hI, hnc, hcm, h8, h9⟩ hV
  have hps : ps.length < 16 := by rw [← hl, List.length_map] at he; omega
  have cc0 := hB.cell 0
  have cc1 := hB.cell 1
  have f1 := hB.frozen 1
  obtain ⟨w1, HW1⟩ : ∃ w1 : World, Hid (w1 = w.setCell ⟨g, 1, none⟩ (.int .i64 seq)) := ⟨_, rfl⟩
  have hj1 : Just (fun b => b = g) w w1 := HW1.out ▸ just_at w g 1 _
  have hB1 : Blk w1 g 57 #[.slice A0 ps.length c0, .int .i64 seq] := HW1.out ▸ hB.put 1 _
  have hI1 := hI.just hj1 fun b hb => (h9 b hb).2
  have hd1 : DIn w1 Z A m ds := In.just hd0 hj1 hZ
  have h81 : ∀ x ∈ ps, PBIn w1 D x := fun x hx => (h8 x hx).just hj1 fun b hb => (h9 b hb).2
  have cd0 : ((w.setCell ⟨g, 1, none⟩ (.int .i64 seq)).alloc (.cells #[] 65)).cell? ⟨g, 0, none⟩ = some (.slice A0 ps.length c0) := HW1.out ▸ (hB1.alloc (.cells #[] 65)).cell 0
  have hs1 := hj1.size
  have hz1 : w1.heap.size = w.heap.size := by rw [HW1.out, setCell_size]
  have hm8 : m ≤ 8 := by omega
  have hm1 : 1 ≤ m := by omega
  clear hc hd
  have hc : ¬ m < 1 := by omega
  have hd : ¬ 8 < m := by omega
  have HLL := Lib.hid hl
  clear hd0 hI h8 hl
  go_enter Try.func22, Try.ntmps22
  go_wp2_with (at_builtin; refine stay ?_)
  refine stay_out ?_
  rw [← setCell_size w ⟨g, 1, none⟩ (.int .i64 seq), ← HW1.out]
  refine wpList_own (V := fun b => b = w1.heap.size) ptrE _ rfl (.tmp 38) (.tmp 42) rfl (.slice (some ⟨w1.heap.size, 0, none⟩) 0 0) 0 [] rfl (made_own w1 _ _) w1.heap.size A0 ps.length c0 _ rfl (Reads.alloc hI1.reads (Nat.le_refl _) _) (pbs_one ps) (by omega) ?_
  intro v3 w3 hO3 hj3
  simp only [Nat.zero_add, List.nil_append] at hO3
  obtain ⟨hO3, hg3⟩ := own_new hO3 hj3
  obtain ⟨A3, c3, rfl, hI3, hn3, hm3⟩ := hO3.in_
  have hs3 := hg3.size
  go_wp2_with (at_builtin; refine stay ?_)
  refine stay_out ?_
  refine wpList_own (V := fun b => b = w3.heap.size) deltaE _ rfl (.tmp 45) (.tmp 46) rfl (.slice (some ⟨w3.heap.size, 0, none⟩) 0 0) 0 [] rfl (made_own w3 _ _) w3.heap.size A m c (dcells ds) rfl (Reads.alloc (In.reads (In.grow hd1 hg3)) (Nat.le_refl _) _) (dcells_one ds) (by omega) ?_
  intro v5 w5 hO5 hj5
  simp only [Nat.zero_add, List.nil_append] at hO5
  obtain ⟨hO5, hg5⟩ := own_new hO5 hj5
  obtain ⟨A5, c5, rfl, hI5, hn5, hm5⟩ := hO5.in_
  have hs5 := hg5.size
  have hgp : Grow w5 (w5.alloc (.cells #[.int .i64 seq, .slice A5 m c5, .bool false, .int .i64 0, .int .i64 0] 64)) := (Below.refl _ _).alloc (Nat.le_refl _) _
  have hBp := Blk.made w5 64 #[.int .i64 seq, .slice A5 m c5, .bool false, .int .i64 0, .int .i64 0]
  obtain ⟨p, HP⟩ : ∃ p : Nat, Hid (p = w5.heap.size) := ⟨_, rfl⟩
  obtain ⟨w6, HW6⟩ : ∃ w6 : World, Hid (w6 = w5.alloc (.cells #[.int .i64 seq, .slice A5 m c5, .bool false, .int .i64 0, .int .i64 0] 64)) := ⟨_, rfl⟩
  have hz6 : w6.heap.size = w5.heap.size + 1 := by rw [HW6.out]; simp
  rw [← HW6.out] at hgp hBp
  rw [← HP.out] at hBp
  have hgr : Grow w6 (w6.alloc (.cells #[.pointer (some ⟨p, 0, none⟩)] 65)) := (Below.refl _ _).alloc (Nat.le_refl _) _
  have hz7 : (w6.alloc (.cells #[.pointer (some ⟨p, 0, none⟩)] 65)).heap.size = w6.heap.size + 1 := by simp
  have hg67 := (hg5.trans hgp).trans hgr
  clear cd0 cc0 cc1 f1
  go_wp2_with (at_builtin; refine stay ?_)
  refine stay_out ?_
  rw [← HP.out, ← HW6.out]
  refine wpList_own (V := New w1 w3) ptrE _ rfl (.tmp 43) (.tmp 50) rfl (.slice A3 ps.length c3) ps.length (ps.flatMap PB.cells) rfl ((hO3.grow (fun b hb => hb.2) hg67)) (p + 1 + 1) (some ⟨p + 1, 0, none⟩) 1 1 [.pointer (some ⟨p, 0, none⟩)] rfl (reads_laid w6 _ 65 _ rfl (p + 1) (by rw [hz6, HP.out])) (by simp [Value.oneCell']) (by omega) ?_
  intro v8 w8 hO8 hj8
  have hs8 := hj8.size
  rw [hz7] at hs8
  obtain ⟨A8, c8, rfl, hI8, hn8, hm8'⟩ := hO8.in_
  have hnew : ∀ b, Ext (New w1 w3) (w6.alloc (.cells #[.pointer (some ⟨p, 0, none⟩)] 65)) w8 b → w.heap.size ≤ b ∧ b < w8.heap.size := fun b hb => by
    rcases hb with hb | hb
    · exact ⟨by have := hb.1; omega, by have := hb.2; omega⟩
    · have h := hb.1; rw [hz7] at h; exact ⟨by omega, hb.2⟩
  have hgB := hB.lt
  have hold : Just (New w1 w3) w1 w8 := (Just.of_grow (hg3.trans hg67)).trans hj8
  have hB8 := hold.blk hB1 (fun h => by have := h.1; omega)
  have f8 := hB8.frozen 0
  have c80 := hB8.cell 0
  clear hO8 hI3 hO3
  go_wp2_with fail
  go_ret
  have hjw := (Just.of_grow (V := fun b => b = g) (Grow.refl w8)).put (V := fun b => b = g) rfl 0 (.slice A8 (ps.length + 1) c8)
  have hjall : Just V w (w8.setCell ⟨g, 0, none⟩ (.slice A8 (ps.length + 1) c8)) := by
    refine (hj1.imp fun b hb => by rw [show b = g from hb]; exact h1).trans (Just.trans ?_ (hjw.imp fun b hb => by rw [show b = g from hb]; exact h1))
    refine ⟨hold.os, hold.tape, hold.output, hold.size, fun k hk hv => hold.block k hk fun h => by have := h.1; omega⟩
  have hDn : ∀ b, D b → ¬ New w1 w3 b := fun b hb h => by have := hV b (h9 b hb).1; have := h.1; omega
  have hDg : ∀ b, D b → ¬ b = g := fun b hb => (h9 b hb).2
  have hpg : p ≠ g := by rw [HP.out]; omega
  refine ⟨rfl, ⟨.inl h1, A8, c8, ps ++ [⟨p, ⟨seq, A5, m, c5, ds⟩⟩], fun b => D b ∨ (w.heap.size ≤ b ∧ b < w8.heap.size), ?_, ?_, ?_, ?_, ?_, hm8', fun x hx => ?_, fun b hb => ?_⟩, hjall⟩
  · rw [List.map_append, HLL.out]; rfl
  · rw [List.length_append, List.length_singleton]; omega
  · rw [List.length_append, List.length_singleton]; exact hB8.put 0 _
  · rw [List.length_append, List.length_singleton, List.flatMap_append]
    refine (In.mono (V := Ext (New w1 w3) (w6.alloc (.cells #[.pointer (some ⟨p, 0, none⟩)] 65)) w8) ?_ fun b hb => .inr (hnew b hb))
    exact In.just hI8 hjw fun b hb h => by have := (hnew b hb).1; rw [show b = g from h] at this; omega
  · rw [List.length_append, List.length_singleton]; exact hn8
  · rcases List.mem_append.1 hx with hx | hx
    · exact (((h81 x hx).just hold hDn).just hjw hDg).mono fun _ => .inl
    · rw [List.mem_singleton.1 hx]
      have hp8 : p < w8.heap.size := by rw [HP.out]; omega
      have hpw : w.heap.size ≤ p := by rw [HP.out]; omega
      refine ⟨.inr ⟨hpw, hp8⟩, ?_, ⟨?_, hn5, hm5, hm8⟩⟩
      · exact hjw.blk (hj8.blk (hBp.alloc _) (fun h => by have h2 : p < w3.heap.size := h.2; rw [HP.out] at h2; omega)) hpg
      · refine In.mono (V := New w3 w5) ?_ fun b hb => .inr ⟨by have := hb.1; omega, by have := hb.2; omega⟩
        exact In.just (In.just (In.grow hI5 (hgp.trans hgr)) hj8 fun b hb h => by have := hb.1; have := h.2; omega) hjw fun b hb h => by have := hb.1; rw [show b = g from h] at this; omega
  · rcases hb with hb | hb
    · exact ⟨.inl (h9 b hb).1, (h9 b hb).2⟩
    · exact ⟨.inr ⟨hb.1, by rw [setCell_size]; exact hb.2⟩, by omega⟩
end Go.Proofs.Ytnlfkeajolfboaa
