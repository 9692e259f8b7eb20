/- QueuePlays: its walk. -/
import Derived.Test.YtnlfkeajolfboaaPlay
import Derived.Test.YtnlfkeajolfboaaSeqs
import Derived.Test.YtnlfkeajolfboaaWithin
namespace Go.Proofs.Ytnlfkeajolfboaa
open Go.RowKit Go.Hop
theorem ask_info : (Try.prog.info? 39).map (fun i => (i.zero, i.size, i.bytes)) = some (some (.agg #[.int .i64 0, .int .i64 0, .slice none 0 0]), 3, 40) := by kernel_rfl
theorem askE : Elem Try.prog 37 39 3 40 (.agg #[.int .i64 0, .int .i64 0, .slice none 0 0]) := ⟨Try.underlying37, info_parts ask_info, rfl, by decide, by decide⟩
/-- a row of asks that is being made; D: where those that came in hold their deltas -/
def Rel (w : World) (D : Nat → Prop) (s : Value) (k : Nat) (wr : World) : Prop := ∃ (qs : List Ask) (R D' : Nat → Prop), Own wr R 39 3 s k (qs.flatMap Ask.cells) ∧ (∀ a ∈ qs, AskIn wr D' a) ∧ (∀ b, R b → New w wr b ∧ ¬ D' b) ∧ (∀ b, D' b → b < wr.heap.size) ∧ (∀ b, D b → D' b) ∧ Grow w wr
theorem rel_next {w wr wf wg w3 : World} {D R D' : Nat → Prop} {v : Value} {k : Nat} {qs : List Ask} {a : Ask} (hR : ∀ b, R b → New w wr b ∧ ¬ D' b) (hDl : ∀ b, D' b → b < wr.heap.size) (hDD : ∀ b, D b → D' b) (hgw : Grow w wr) (hin : ∀ a ∈ qs, AskIn wr D' a)
    (hgf : Grow wr wf) (hai : AskIn wf (fun b => D b ∨ (wr.heap.size ≤ b ∧ b < wf.heap.size)) a) (hgB : Grow wf wg) (hO : Own w3 (Ext R wg w3) 39 3 v (k + 1) (qs.flatMap Ask.cells ++ a.cells)) (hj : Just R wg w3) : Rel w D v (k + 1) w3 := by
  have hs1 := hgw.size
  have hs2 := hgf.size
  have hs3 := hgB.size
  have hs4 := hj.size
  have hoff : ∀ b, (D' b ∨ (wr.heap.size ≤ b ∧ b < wf.heap.size)) → ¬ R b := fun b hb h => by
    rcases hb with hb | hb
    · exact (hR b h).2 hb
    · have := (hR b h).1.2; omega
  refine ⟨qs ++ [a], Ext R wg w3, fun b => D' b ∨ (wr.heap.size ≤ b ∧ b < wf.heap.size), ?_, fun a' ha => ?_, fun b hb => ?_, fun b hb => ?_, fun b hb => .inl (hDD b hb), ?_⟩
  · rw [List.flatMap_append, List.flatMap_cons, List.flatMap_nil, List.append_nil]; exact hO
  · rcases List.mem_append.1 ha with h | h
    · exact ((((hin a' h).grow (hgf.trans hgB)).mono fun b hb => Or.inl hb).just (U := R) (D := fun b => D' b ∨ (wr.heap.size ≤ b ∧ b < wf.heap.size)) hj hoff)
    · rw [List.mem_singleton.1 h]
      refine ((hai.grow hgB).mono fun b hb => ?_).just (D := fun b => D' b ∨ (wr.heap.size ≤ b ∧ b < wf.heap.size)) hj hoff
      rcases hb with hb | hb
      · exact .inl (hDD b hb)
      · exact .inr hb
  · rcases hb with hb | hb
    · exact ⟨⟨(hR b hb).1.1, by have := (hR b hb).1.2; omega⟩, fun h => hoff b h hb⟩
    · have h1 := hb.1
      refine ⟨⟨by omega, hb.2⟩, fun h => ?_⟩
      rcases h with h | h
      · have := hDl b h; omega
      · omega
  · rcases hb with hb | hb
    · have := hDl b hb; omega
    · omega
  · exact Below.trans ((hgw.trans hgf).trans hgB) (hj.below (B := w.heap.size) (fun b hb => (hR b hb).1.1) (by omega))
set_option maxRecDepth 100000 in
set_option maxHeartbeats 4000000 in
theorem plays_any (w : World) (V D : Nat → Prop) (A : Option Addr) (n c : Nat) (q : List Ask) (hq : Asks w V D A n q) (hV : ∀ b, V b → b < w.heap.size) (hD : ∀ b, D b → b < w.heap.size) (hn : n ≤ 1048576) :
    Calls Try.prog 5 #[.slice A n c] w fun e w' => e = .returned (.bool true) ∧ Grow w w' := by
  go_enter Try.func5, Try.ntmps5
  go_wp2_with fail
  go_loopw [3, 4, 9] (fun s a i wr => ∃ (k : Nat) (at_ : Int), k ≤ n ∧ i = .int .i64 k ∧ a = .int .i64 at_ ∧ (0 ≤ at_ ∧ at_ ≤ (k : Int)) ∧ Rel w D s k wr) (fun _ _ i _ => n - (intOf i).toNat)
  case atStart => exact ⟨0, 0, by omega, rfl, rfl, by omega, [], fun _ => False, D, Own.nil, by simp, fun _ h => h.elim, hD, fun _ h => h, Grow.refl _⟩
  case round =>
    obtain ⟨k, at_, hkn, rfl, rfl, hat, qs, R, D', hO, hin, hR, hDl, hDD, hgw⟩ := hrel
    obtain ⟨A1, c1, rfl, hI1, hn1, hm1⟩ := hO.in_
    by_cases hk : k < n
    · obtain ⟨ad, hqk, rfl, hVa, hba, e0, e12⟩ := (hq.row.grow hgw).rec_ (by omega) ask_len hk
      have hai0 := hq.all _ (List.getElem_mem hqk)
      have e0 := e0 _ rfl
      have e1 := e12 0 _ rfl
      have e2 := e12 1 _ rfl
      clear e12
      generalize q[k] = a at hai0 e0 e1 e2
      obtain ⟨kd, sq, Ab, mb, cb, ds⟩ := a
      obtain ⟨hds, hle, hmx, hkd, hsq⟩ := hai0
      dsimp only at hds hle hmx hkd hsq e0 e1 e2
      unfold I64 at hkd hsq
      have hga : Grow wr (wr.alloc (.cells #[.int .i64 kd, .int .i64 sq, .slice Ab mb cb] 39)) := (Below.refl wr.heap.size wr).alloc (Nat.le_refl _) _
      have hBx0 := Blk.made wr 39 #[.int .i64 kd, .int .i64 sq, .slice Ab mb cb]
      obtain ⟨x, HX⟩ : ∃ x : Nat, Hid (x = wr.heap.size) := ⟨_, rfl⟩
      have hxr : wr.heap.size ≤ x ∧ x ≤ wr.heap.size := by have := HX.out; omega
      obtain ⟨wa, HA⟩ : ∃ wa : World, Hid (wa = wr.alloc (.cells #[.int .i64 kd, .int .i64 sq, .slice Ab mb cb] 39)) := ⟨_, rfl⟩
      have hwx : wa.heap.size = x + 1 := by rw [HA.out, HX.out]; simp
      rw [← HA.out] at hga
      have hBx : Blk wa x 39 #[.int .i64 kd, .int .i64 sq, .slice Ab mb cb] := by rw [HA.out, HX.out]; exact hBx0
      clear hBx0
      have hRlt : ∀ b, R b → b < wr.heap.size := fun b hb => (hR b hb).1.2
      have ea := and7 sq
      have c00 := hBx.cell 0
      go_wp2_with fail
      rw [← HA.out, ← HX.out]
      go_at_call 14
      refine (within_any wa kd 0 3 hkd (by omega) (by omega) (by omega)).mono ?_
      rintro e w4 ⟨v, hv0, hv3, rfl, hw4⟩
      subst hw4
      clear c00
      by_cases hz : mb = 0
      · have hz1 : mb ≤ 0 := by omega
        have hz2 : ((mb : Int) == 0) = true := beq_iff_eq.2 (by omega)
        clear hz
        by_cases h3 : v < 3
        · skip
          have hlt : v < 3 := by omega
          have hB1 := hBx.put 0 (.int .i64 v)
          have hB2 := hB1.put 1 (.int .i64 (at_ + 1))
          have c00 := hBx.cell 0
          have c01 := hBx.cell 1
          have f00 := hBx.frozen 0
          have c10 := hB1.cell 0
          have c11 := hB1.cell 1
          have f11 := hB1.frozen 1
          have c22 := hB2.cell 2
          have hj2 : Just (fun b => b = x) wa ((wa.setCell ⟨x, 0, none⟩ (.int .i64 v)).setCell ⟨x, 1, none⟩ (.int .i64 (at_ + 1))) := ((Just.of_grow (Grow.refl wa)).put (V := fun b => b = x) rfl 0 _).put rfl 1 _
          have hB3 := hB2.alloc (.cells #[.string ⟨#[97, 61, 49]⟩, .int .u64 1] 29)
          have c32 := hB3.cell 2
          have f32 := hB3.frozen 2
          have f22 := hB2.frozen 2
          have hB4 := (hB2.put 2 (.slice (some ⟨x + 1, 0, none⟩) 1 1)).alloc (.cells #[.string ⟨#[97, 61, 49]⟩, .int .u64 1] 29)
          have k0 := hB4.cell 0
          have k1 := hB4.cell 1
          have k2 := hB4.cell 2
          have hzf : (((wa.setCell ⟨x, 0, none⟩ (.int .i64 v)).setCell ⟨x, 1, none⟩ (.int .i64 (at_ + 1))).setCell ⟨x, 2, none⟩ (.slice (some ⟨x + 1, 0, none⟩) 1 1)).heap.size = x + 1 := by rw [setCell_size, setCell_size, setCell_size, hwx]
          have hgf : Grow wr ((((wa.setCell ⟨x, 0, none⟩ (.int .i64 v)).setCell ⟨x, 1, none⟩ (.int .i64 (at_ + 1))).setCell ⟨x, 2, none⟩ (.slice (some ⟨x + 1, 0, none⟩) 1 1)).alloc (.cells #[.string ⟨#[97, 61, 49]⟩, .int .u64 1] 29)) := Below.trans hga (Below.trans ((hj2.put (V := fun b => b = x) rfl 2 _).below (B := wr.heap.size) (fun b h => by rw [h]; omega) hga.size) ((Below.refl _ _).alloc (by rw [hzf]; omega) _))
          have hai : AskIn ((((wa.setCell ⟨x, 0, none⟩ (.int .i64 v)).setCell ⟨x, 1, none⟩ (.int .i64 (at_ + 1))).setCell ⟨x, 2, none⟩ (.slice (some ⟨x + 1, 0, none⟩) 1 1)).alloc (.cells #[.string ⟨#[97, 61, 49]⟩, .int .u64 1] 29)) (fun b => D b ∨ (wr.heap.size ≤ b ∧ b < ((((wa.setCell ⟨x, 0, none⟩ (.int .i64 v)).setCell ⟨x, 1, none⟩ (.int .i64 (at_ + 1))).setCell ⟨x, 2, none⟩ (.slice (some ⟨x + 1, 0, none⟩) 1 1)).alloc (.cells #[.string ⟨#[97, 61, 49]⟩, .int .u64 1] 29)).heap.size)) ⟨v, (at_ + 1), some ⟨x + 1, 0, none⟩, 1, 1, [da]⟩ := ⟨In.mono (V := fun b => b = x + 1) (delta_laid (((wa.setCell ⟨x, 0, none⟩ (.int .i64 v)).setCell ⟨x, 1, none⟩ (.int .i64 (at_ + 1))).setCell ⟨x, 2, none⟩ (.slice (some ⟨x + 1, 0, none⟩) 1 1)) _ 1 (x + 1) hzf) fun b hb => .inr ⟨by rw [hb]; omega, by rw [hb, alloc_size, hzf]; omega⟩, Nat.le_refl _, by show 1 ≤ maxLen; unfold maxLen; omega, by show I64 v; unfold I64; omega, by show I64 (at_ + 1); unfold I64; omega⟩
          have hsf : wr.heap.size ≤ ((((wa.setCell ⟨x, 0, none⟩ (.int .i64 v)).setCell ⟨x, 1, none⟩ (.int .i64 (at_ + 1))).setCell ⟨x, 2, none⟩ (.slice (some ⟨x + 1, 0, none⟩) 1 1)).alloc (.cells #[.string ⟨#[97, 61, 49]⟩, .int .u64 1] 29)).heap.size := hgf.size
          have hgB : Grow ((((wa.setCell ⟨x, 0, none⟩ (.int .i64 v)).setCell ⟨x, 1, none⟩ (.int .i64 (at_ + 1))).setCell ⟨x, 2, none⟩ (.slice (some ⟨x + 1, 0, none⟩) 1 1)).alloc (.cells #[.string ⟨#[97, 61, 49]⟩, .int .u64 1] 29)) (((((wa.setCell ⟨x, 0, none⟩ (.int .i64 v)).setCell ⟨x, 1, none⟩ (.int .i64 (at_ + 1))).setCell ⟨x, 2, none⟩ (.slice (some ⟨x + 1, 0, none⟩) 1 1)).alloc (.cells #[.string ⟨#[97, 61, 49]⟩, .int .u64 1] 29)).alloc (.cells #[.int .i64 v, .int .i64 (at_ + 1), .slice (some ⟨x + 1, 0, none⟩) 1 1] 39)) := (Below.refl _ _).alloc (Nat.le_refl _) _
          obtain ⟨wf, HWF⟩ : ∃ wf : World, Hid (wf = ((((wa.setCell ⟨x, 0, none⟩ (.int .i64 v)).setCell ⟨x, 1, none⟩ (.int .i64 (at_ + 1))).setCell ⟨x, 2, none⟩ (.slice (some ⟨x + 1, 0, none⟩) 1 1)).alloc (.cells #[.string ⟨#[97, 61, 49]⟩, .int .u64 1] 29))) := ⟨_, rfl⟩
          go_wp2_with (at_builtin; refine stay ?_)
          refine stay_out ?_
          rw [← HWF.out]
          rw [← HWF.out] at hgf hai hsf hgB
          refine wpList_own (V := R) askE _ rfl (.tmp 40) (.tmp 42) rfl (.slice A1 k c1) k (qs.flatMap Ask.cells) rfl ((hO.grow hRlt hgf).grow (fun b hb => by have := hRlt b hb; omega) hgB) (wf.heap.size + 1) (some ⟨wf.heap.size, 0, none⟩) 1 1 (Ask.cells ⟨v, (at_ + 1), some ⟨x + 1, 0, none⟩, 1, 1, [da]⟩) ?_ (reads_laid wf _ 39 _ rfl _ rfl) (ask_one _) (by omega) ?_
          · first | rfl | (rw [HWF.out]; simp only [setCell_size, alloc_size, hwx]; rfl)
          intro v3 w3 hO3 hj3
          have hrel := rel_next (a := ⟨v, (at_ + 1), some ⟨x + 1, 0, none⟩, 1, 1, [da]⟩) hR hDl hDD hgw hin hgf hai hgB hO3 hj3
          clear hO3 hj3 hO hin hgB hai
          go_wp2_with fail
          go_roundw
          case rel => exact ⟨k + 1, at_ + 1, by omega, by go_num, rfl, by omega, hrel⟩
          case measure => simp [intOf]; omega
        · skip
          have hlt : ¬ v < 3 := by omega
          have hB1 := hBx.put 0 (.int .i64 v)
          have hB2 := hB1.put 1 (.int .i64 (at_ - sq % 8))
          have c00 := hBx.cell 0
          have c01 := hBx.cell 1
          have f00 := hBx.frozen 0
          have c10 := hB1.cell 0
          have c11 := hB1.cell 1
          have f11 := hB1.frozen 1
          have c22 := hB2.cell 2
          have hj2 : Just (fun b => b = x) wa ((wa.setCell ⟨x, 0, none⟩ (.int .i64 v)).setCell ⟨x, 1, none⟩ (.int .i64 (at_ - sq % 8))) := ((Just.of_grow (Grow.refl wa)).put (V := fun b => b = x) rfl 0 _).put rfl 1 _
          have hB3 := hB2.alloc (.cells #[.string ⟨#[97, 61, 49]⟩, .int .u64 1] 29)
          have c32 := hB3.cell 2
          have f32 := hB3.frozen 2
          have f22 := hB2.frozen 2
          have hB4 := (hB2.put 2 (.slice (some ⟨x + 1, 0, none⟩) 1 1)).alloc (.cells #[.string ⟨#[97, 61, 49]⟩, .int .u64 1] 29)
          have k0 := hB4.cell 0
          have k1 := hB4.cell 1
          have k2 := hB4.cell 2
          have hzf : (((wa.setCell ⟨x, 0, none⟩ (.int .i64 v)).setCell ⟨x, 1, none⟩ (.int .i64 (at_ - sq % 8))).setCell ⟨x, 2, none⟩ (.slice (some ⟨x + 1, 0, none⟩) 1 1)).heap.size = x + 1 := by rw [setCell_size, setCell_size, setCell_size, hwx]
          have hgf : Grow wr ((((wa.setCell ⟨x, 0, none⟩ (.int .i64 v)).setCell ⟨x, 1, none⟩ (.int .i64 (at_ - sq % 8))).setCell ⟨x, 2, none⟩ (.slice (some ⟨x + 1, 0, none⟩) 1 1)).alloc (.cells #[.string ⟨#[97, 61, 49]⟩, .int .u64 1] 29)) := Below.trans hga (Below.trans ((hj2.put (V := fun b => b = x) rfl 2 _).below (B := wr.heap.size) (fun b h => by rw [h]; omega) hga.size) ((Below.refl _ _).alloc (by rw [hzf]; omega) _))
          have hai : AskIn ((((wa.setCell ⟨x, 0, none⟩ (.int .i64 v)).setCell ⟨x, 1, none⟩ (.int .i64 (at_ - sq % 8))).setCell ⟨x, 2, none⟩ (.slice (some ⟨x + 1, 0, none⟩) 1 1)).alloc (.cells #[.string ⟨#[97, 61, 49]⟩, .int .u64 1] 29)) (fun b => D b ∨ (wr.heap.size ≤ b ∧ b < ((((wa.setCell ⟨x, 0, none⟩ (.int .i64 v)).setCell ⟨x, 1, none⟩ (.int .i64 (at_ - sq % 8))).setCell ⟨x, 2, none⟩ (.slice (some ⟨x + 1, 0, none⟩) 1 1)).alloc (.cells #[.string ⟨#[97, 61, 49]⟩, .int .u64 1] 29)).heap.size)) ⟨v, (at_ - sq % 8), some ⟨x + 1, 0, none⟩, 1, 1, [da]⟩ := ⟨In.mono (V := fun b => b = x + 1) (delta_laid (((wa.setCell ⟨x, 0, none⟩ (.int .i64 v)).setCell ⟨x, 1, none⟩ (.int .i64 (at_ - sq % 8))).setCell ⟨x, 2, none⟩ (.slice (some ⟨x + 1, 0, none⟩) 1 1)) _ 1 (x + 1) hzf) fun b hb => .inr ⟨by rw [hb]; omega, by rw [hb, alloc_size, hzf]; omega⟩, Nat.le_refl _, by show 1 ≤ maxLen; unfold maxLen; omega, by show I64 v; unfold I64; omega, by show I64 (at_ - sq % 8); unfold I64; omega⟩
          have hsf : wr.heap.size ≤ ((((wa.setCell ⟨x, 0, none⟩ (.int .i64 v)).setCell ⟨x, 1, none⟩ (.int .i64 (at_ - sq % 8))).setCell ⟨x, 2, none⟩ (.slice (some ⟨x + 1, 0, none⟩) 1 1)).alloc (.cells #[.string ⟨#[97, 61, 49]⟩, .int .u64 1] 29)).heap.size := hgf.size
          have hgB : Grow ((((wa.setCell ⟨x, 0, none⟩ (.int .i64 v)).setCell ⟨x, 1, none⟩ (.int .i64 (at_ - sq % 8))).setCell ⟨x, 2, none⟩ (.slice (some ⟨x + 1, 0, none⟩) 1 1)).alloc (.cells #[.string ⟨#[97, 61, 49]⟩, .int .u64 1] 29)) (((((wa.setCell ⟨x, 0, none⟩ (.int .i64 v)).setCell ⟨x, 1, none⟩ (.int .i64 (at_ - sq % 8))).setCell ⟨x, 2, none⟩ (.slice (some ⟨x + 1, 0, none⟩) 1 1)).alloc (.cells #[.string ⟨#[97, 61, 49]⟩, .int .u64 1] 29)).alloc (.cells #[.int .i64 v, .int .i64 (at_ - sq % 8), .slice (some ⟨x + 1, 0, none⟩) 1 1] 39)) := (Below.refl _ _).alloc (Nat.le_refl _) _
          obtain ⟨wf, HWF⟩ : ∃ wf : World, Hid (wf = ((((wa.setCell ⟨x, 0, none⟩ (.int .i64 v)).setCell ⟨x, 1, none⟩ (.int .i64 (at_ - sq % 8))).setCell ⟨x, 2, none⟩ (.slice (some ⟨x + 1, 0, none⟩) 1 1)).alloc (.cells #[.string ⟨#[97, 61, 49]⟩, .int .u64 1] 29))) := ⟨_, rfl⟩
          go_wp2_with (at_builtin; refine stay ?_)
          refine stay_out ?_
          rw [← HWF.out]
          rw [← HWF.out] at hgf hai hsf hgB
          refine wpList_own (V := R) askE _ rfl (.tmp 40) (.tmp 42) rfl (.slice A1 k c1) k (qs.flatMap Ask.cells) rfl ((hO.grow hRlt hgf).grow (fun b hb => by have := hRlt b hb; omega) hgB) (wf.heap.size + 1) (some ⟨wf.heap.size, 0, none⟩) 1 1 (Ask.cells ⟨v, (at_ - sq % 8), some ⟨x + 1, 0, none⟩, 1, 1, [da]⟩) ?_ (reads_laid wf _ 39 _ rfl _ rfl) (ask_one _) (by omega) ?_
          · first | rfl | (rw [HWF.out]; simp only [setCell_size, alloc_size, hwx]; rfl)
          intro v3 w3 hO3 hj3
          have hrel := rel_next (a := ⟨v, (at_ - sq % 8), some ⟨x + 1, 0, none⟩, 1, 1, [da]⟩) hR hDl hDD hgw hin hgf hai hgB hO3 hj3
          clear hO3 hj3 hO hin hgB hai
          go_wp2_with fail
          go_roundw
          case rel => exact ⟨k + 1, at_, by omega, by go_num, rfl, by omega, hrel⟩
          case measure => simp [intOf]; omega
      · have hz1 : 0 < mb := by omega
        have hz2 : ((mb : Int) == 0) = false := beq_eq_false_iff_ne.2 (by omega)
        by_cases h3 : v < 3
        · skip
          have hlt : v < 3 := by omega
          have hB1 := hBx.put 0 (.int .i64 v)
          have hB2 := hB1.put 1 (.int .i64 (at_ + 1))
          have c00 := hBx.cell 0
          have c01 := hBx.cell 1
          have f00 := hBx.frozen 0
          have c10 := hB1.cell 0
          have c11 := hB1.cell 1
          have f11 := hB1.frozen 1
          have c22 := hB2.cell 2
          have hj2 : Just (fun b => b = x) wa ((wa.setCell ⟨x, 0, none⟩ (.int .i64 v)).setCell ⟨x, 1, none⟩ (.int .i64 (at_ + 1))) := ((Just.of_grow (Grow.refl wa)).put (V := fun b => b = x) rfl 0 _).put rfl 1 _
          have k0 := hB2.cell 0
          have k1 := hB2.cell 1
          have hgf : Grow wr ((wa.setCell ⟨x, 0, none⟩ (.int .i64 v)).setCell ⟨x, 1, none⟩ (.int .i64 (at_ + 1))) := Below.trans hga (hj2.below (B := wr.heap.size) (fun b h => by rw [h]; omega) hga.size)
          have hai : AskIn ((wa.setCell ⟨x, 0, none⟩ (.int .i64 v)).setCell ⟨x, 1, none⟩ (.int .i64 (at_ + 1))) (fun b => D b ∨ (wr.heap.size ≤ b ∧ b < ((wa.setCell ⟨x, 0, none⟩ (.int .i64 v)).setCell ⟨x, 1, none⟩ (.int .i64 (at_ + 1))).heap.size)) ⟨v, (at_ + 1), Ab, mb, cb, ds⟩ := ⟨In.mono (V := D) (In.grow (In.grow hds hgw) hgf) fun b hb => .inl hb, hle, hmx, by show I64 v; unfold I64; omega, by show I64 (at_ + 1); unfold I64; omega⟩
          have hsf : wr.heap.size ≤ ((wa.setCell ⟨x, 0, none⟩ (.int .i64 v)).setCell ⟨x, 1, none⟩ (.int .i64 (at_ + 1))).heap.size := hgf.size
          have hgB : Grow ((wa.setCell ⟨x, 0, none⟩ (.int .i64 v)).setCell ⟨x, 1, none⟩ (.int .i64 (at_ + 1))) (((wa.setCell ⟨x, 0, none⟩ (.int .i64 v)).setCell ⟨x, 1, none⟩ (.int .i64 (at_ + 1))).alloc (.cells #[.int .i64 v, .int .i64 (at_ + 1), .slice Ab mb cb] 39)) := (Below.refl _ _).alloc (Nat.le_refl _) _
          obtain ⟨wf, HWF⟩ : ∃ wf : World, Hid (wf = ((wa.setCell ⟨x, 0, none⟩ (.int .i64 v)).setCell ⟨x, 1, none⟩ (.int .i64 (at_ + 1)))) := ⟨_, rfl⟩
          go_wp2_with (at_builtin; refine stay ?_)
          refine stay_out ?_
          rw [← HWF.out]
          rw [← HWF.out] at hgf hai hsf hgB
          refine wpList_own (V := R) askE _ rfl (.tmp 40) (.tmp 42) rfl (.slice A1 k c1) k (qs.flatMap Ask.cells) rfl ((hO.grow hRlt hgf).grow (fun b hb => by have := hRlt b hb; omega) hgB) (wf.heap.size + 1) (some ⟨wf.heap.size, 0, none⟩) 1 1 (Ask.cells ⟨v, (at_ + 1), Ab, mb, cb, ds⟩) ?_ (reads_laid wf _ 39 _ rfl _ rfl) (ask_one _) (by omega) ?_
          · first | rfl | (rw [HWF.out]; simp only [setCell_size, alloc_size, hwx]; rfl)
          intro v3 w3 hO3 hj3
          have hrel := rel_next (a := ⟨v, (at_ + 1), Ab, mb, cb, ds⟩) hR hDl hDD hgw hin hgf hai hgB hO3 hj3
          clear hO3 hj3 hO hin hgB hai
          go_wp2_with fail
          go_roundw
          case rel => exact ⟨k + 1, at_ + 1, by omega, by go_num, rfl, by omega, hrel⟩
          case measure => simp [intOf]; omega
        · skip
          have hlt : ¬ v < 3 := by omega
          have hB1 := hBx.put 0 (.int .i64 v)
          have hB2 := hB1.put 1 (.int .i64 (at_ - sq % 8))
          have c00 := hBx.cell 0
          have c01 := hBx.cell 1
          have f00 := hBx.frozen 0
          have c10 := hB1.cell 0
          have c11 := hB1.cell 1
          have f11 := hB1.frozen 1
          have c22 := hB2.cell 2
          have hj2 : Just (fun b => b = x) wa ((wa.setCell ⟨x, 0, none⟩ (.int .i64 v)).setCell ⟨x, 1, none⟩ (.int .i64 (at_ - sq % 8))) := ((Just.of_grow (Grow.refl wa)).put (V := fun b => b = x) rfl 0 _).put rfl 1 _
          have k0 := hB2.cell 0
          have k1 := hB2.cell 1
          have hgf : Grow wr ((wa.setCell ⟨x, 0, none⟩ (.int .i64 v)).setCell ⟨x, 1, none⟩ (.int .i64 (at_ - sq % 8))) := Below.trans hga (hj2.below (B := wr.heap.size) (fun b h => by rw [h]; omega) hga.size)
          have hai : AskIn ((wa.setCell ⟨x, 0, none⟩ (.int .i64 v)).setCell ⟨x, 1, none⟩ (.int .i64 (at_ - sq % 8))) (fun b => D b ∨ (wr.heap.size ≤ b ∧ b < ((wa.setCell ⟨x, 0, none⟩ (.int .i64 v)).setCell ⟨x, 1, none⟩ (.int .i64 (at_ - sq % 8))).heap.size)) ⟨v, (at_ - sq % 8), Ab, mb, cb, ds⟩ := ⟨In.mono (V := D) (In.grow (In.grow hds hgw) hgf) fun b hb => .inl hb, hle, hmx, by show I64 v; unfold I64; omega, by show I64 (at_ - sq % 8); unfold I64; omega⟩
          have hsf : wr.heap.size ≤ ((wa.setCell ⟨x, 0, none⟩ (.int .i64 v)).setCell ⟨x, 1, none⟩ (.int .i64 (at_ - sq % 8))).heap.size := hgf.size
          have hgB : Grow ((wa.setCell ⟨x, 0, none⟩ (.int .i64 v)).setCell ⟨x, 1, none⟩ (.int .i64 (at_ - sq % 8))) (((wa.setCell ⟨x, 0, none⟩ (.int .i64 v)).setCell ⟨x, 1, none⟩ (.int .i64 (at_ - sq % 8))).alloc (.cells #[.int .i64 v, .int .i64 (at_ - sq % 8), .slice Ab mb cb] 39)) := (Below.refl _ _).alloc (Nat.le_refl _) _
          obtain ⟨wf, HWF⟩ : ∃ wf : World, Hid (wf = ((wa.setCell ⟨x, 0, none⟩ (.int .i64 v)).setCell ⟨x, 1, none⟩ (.int .i64 (at_ - sq % 8)))) := ⟨_, rfl⟩
          go_wp2_with (at_builtin; refine stay ?_)
          refine stay_out ?_
          rw [← HWF.out]
          rw [← HWF.out] at hgf hai hsf hgB
          refine wpList_own (V := R) askE _ rfl (.tmp 40) (.tmp 42) rfl (.slice A1 k c1) k (qs.flatMap Ask.cells) rfl ((hO.grow hRlt hgf).grow (fun b hb => by have := hRlt b hb; omega) hgB) (wf.heap.size + 1) (some ⟨wf.heap.size, 0, none⟩) 1 1 (Ask.cells ⟨v, (at_ - sq % 8), Ab, mb, cb, ds⟩) ?_ (reads_laid wf _ 39 _ rfl _ rfl) (ask_one _) (by omega) ?_
          · first | rfl | (rw [HWF.out]; simp only [setCell_size, alloc_size, hwx]; rfl)
          intro v3 w3 hO3 hj3
          have hrel := rel_next (a := ⟨v, (at_ - sq % 8), Ab, mb, cb, ds⟩) hR hDl hDD hgw hin hgf hai hgB hO3 hj3
          clear hO3 hj3 hO hin hgB hai
          go_wp2_with fail
          go_roundw
          case rel => exact ⟨k + 1, at_, by omega, by go_num, rfl, by omega, hrel⟩
          case measure => simp [intOf]; omega
    · obtain rfl : k = n := by omega
      have hAs : Asks wr R D' A1 k qs := ⟨hI1, hin⟩
      have hp1 := play_any wr V D A k c q (hq.grow hgw) (fun b hb => Nat.lt_of_lt_of_le (hV b hb) hgw.size) (fun b hb => Nat.lt_of_lt_of_le (hD b hb) hgw.size)
      clear hO hI1 hin
      go_wp2_with fail
      go_at_call 13
      refine hp1.mono ?_
      rintro e w7 ⟨rfl, hg7⟩
      clear hp1
      have hp2 := play_any w7 R D' A1 k c1 qs (hAs.grow hg7) (fun b hb => Nat.lt_of_lt_of_le (hR b hb).1.2 hg7.size) (fun b hb => Nat.lt_of_lt_of_le (hDl b hb) hg7.size)
      clear hAs
      go_wp2_with fail
      go_at_call 13
      refine hp2.mono ?_
      rintro e w8 ⟨rfl, hg8⟩
      clear hp2
      go_wp2_with (go_at_call 12; refine (known_any _).mono ?_; rintro e w9 ⟨rfl, hg9⟩)
      go_ret
      exact ⟨rfl, ((hgw.trans hg7).trans hg8).trans hg9⟩
end Go.Proofs.Ytnlfkeajolfboaa
