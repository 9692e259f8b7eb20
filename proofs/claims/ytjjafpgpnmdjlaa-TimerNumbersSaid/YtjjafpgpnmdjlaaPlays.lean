/- TimerPlays: its walk. -/
import Derived.Test.YtjjafpgpnmdjlaaPlay
import Derived.Test.YtjjafpgpnmdjlaaWithin
namespace Go.Proofs.Ytjjafpgpnmdjlaa
open Go.RowKit Go.Hop
def IsAsk (a : Ask) (u : Value) (w : World) : Prop := ∃ A, u = .slice A 1 1 ∧ Reads w w.heap.size 3 A 1 a.cells
theorem isAsk_lasting (a : Ask) : Lasting (IsAsk a) := fun _ w w' ⟨A, h1, h2⟩ hg => ⟨A, h1, (h2.below hg).more hg.size⟩
theorem ask_made {w : World} {a : Ask} {o : Oper} {ρ : Operand → Value} {x : Operand} (ho : o.op = .buildSlice 22 1 #[(0, x)]) (hx : ρ x = .agg #[.int .i64 a.kind, .int .i64 a.key, .int .i64 a.at_]) :
    flowUpon Try.prog (fun u w' => Grow w w' ∧ IsAsk a u w') ((execOp ρ o).run Try.prog w) := by
  obtain ⟨dst, op, ty, pos, after, guard⟩ := o
  simp only at ho
  subst ho
  refine flowUpon_value (u := .slice (some ⟨w.heap.size, 0, none⟩) 1 1) (w := w.alloc (.cells #[.int .i64 a.kind, .int .i64 a.key, .int .i64 a.at_] 24)) ?_ ⟨(Below.refl _ w).alloc (Nat.le_refl _) _, _, rfl, (reads_laid w _ _ _ rfl _ rfl).more (by simp)⟩
  go_simp
/-- a row of asks that is being made -/
def Rel (w : World) (s : Value) (k : Nat) (wr : World) : Prop := ∃ (qs : List Ask), Own wr (New w wr) 24 3 s k (qs.flatMap Ask.cells) ∧ (∀ a ∈ qs, AskOk a) ∧ Grow w wr
theorem rel_next {w wr wg w3 : World} {v : Value} {k m : Nat} {qs zs : List Ask} (hgw : Grow w wr) (hgB : Grow wr wg) (hin : ∀ a ∈ qs, AskOk a) (hzs : ∀ a ∈ zs, AskOk a)
    (hO : Own w3 (Ext (New w wr) wg w3) 24 3 v (k + m) (qs.flatMap Ask.cells ++ zs.flatMap Ask.cells)) (hj : Just (New w wr) wg w3) : Rel w v (k + m) w3 := by
  have hs1 := hgw.size
  have hs2 := hgB.size
  have hs3 := hj.size
  refine ⟨qs ++ zs, ?_, fun a ha => ?_, Below.trans (hgw.trans hgB) (hj.below (B := w.heap.size) (fun b hb => hb.1) (by omega))⟩
  · rw [List.flatMap_append]
    refine hO.mono fun b hb => ?_
    rcases hb with hb | hb
    · exact ⟨hb.1, by have := hb.2; omega⟩
    · exact ⟨by have := hb.1; omega, hb.2⟩
  · rcases List.mem_append.1 ha with h | h
    · exact hin a h
    · exact hzs a h
theorem in64_emod (z : Int) (m : Int) (h0 : 0 < m) (h1 : m ≤ 1000) : in64 (z % m) := by
  have := Int.emod_nonneg z (show m ≠ 0 by omega)
  have := Int.emod_lt_of_pos z h0
  unfold in64
  omega
theorem in64_within (z lo hi : Int) (h : lo ≤ hi) (h0 : -1000 ≤ lo) (h1 : hi ≤ 1000) : in64 (withinF z lo hi) := by
  have := withinF_in (n := z) h
  unfold in64
  omega
set_option maxRecDepth 100000 in
set_option maxHeartbeats 4000000 in
theorem plays_any (w : World) (V : Nat → Prop) (A : Option Addr) (n c : Nat) (q : List Ask) (hq : Asks w V A n q) (hV : ∀ b, V b → b < w.heap.size) (hn : n ≤ 1048576) :
    Calls Try.prog 4 #[.slice A n c] w fun e w' => e = .returned (.bool true) ∧ Grow w w' := by
  have k9 : ∀ (vs : Array Value) (w : World), (callFunc 9 vs).run Try.prog w = .ok (.enter 9 vs) w := fun vs w => by go_simp
  go_enter Try.func4, Try.ntmps4
  go_wp2_with fail
  go_loopw [3, 7] (fun s i wr => ∃ k : Nat, k ≤ n ∧ i = .int .i64 k ∧ Rel w s k wr) (fun _ i _ => n - (intOf i).toNat)
  case atStart => exact ⟨0, by omega, rfl, [], Own.nil, by simp, Grow.refl _⟩
  case round =>
    obtain ⟨k, hkn, rfl, qs, hO, hin, hgw⟩ := hrel
    obtain ⟨A1, c1, rfl, hI1, hn1, hm1⟩ := hO.in_
    by_cases hk : k < n
    · obtain ⟨ad, hqk, rfl, hVa, hba, e0, e12⟩ := (hq.row.grow hgw).rec_ (by omega) ask_len hk
      obtain ⟨hkd, hky, htm⟩ := hq.all _ (List.getElem_mem hqk)
      generalize q[k] = a at hkd hky htm e0 e12
      obtain ⟨kd, key, tm⟩ := a
      dsimp only at hkd hky htm
      have hf0 : ∀ w2, Grow wr w2 → w2.cell? (ad.add (k * 3)) = some (.int .i64 kd) := fun w2 hg => (hg.cell (by rw [block_add]; exact hba)).trans (e0 _ rfl)
      have hf1 : ∀ w2, Grow wr w2 → w2.cell? ⟨(ad.add (k * 3)).block, (ad.add (k * 3)).off + 1, none⟩ = some (.int .i64 key) := fun w2 hg => (hg.cell (p := ⟨(ad.add (k * 3)).block, (ad.add (k * 3)).off + 1, none⟩) (show (ad.add (k * 3)).block < _ by rw [block_add]; exact hba)).trans (e12 0 _ rfl)
      have hf2 : ∀ w2, Grow wr w2 → w2.cell? ⟨(ad.add (k * 3)).block, (ad.add (k * 3)).off + 2, none⟩ = some (.int .i64 tm) := fun w2 hg => (hg.cell (p := ⟨(ad.add (k * 3)).block, (ad.add (k * 3)).off + 2, none⟩) (show (ad.add (k * 3)).block < _ by rw [block_add]; exact hba)).trans (e12 1 _ rfl)
      go_wp2_with fail
      refine wp_region_flow 21 42 [(6, .inl (.int .i64 (withinF kd 0 4))), (20, .inr (fun _ u w => IsAsk ⟨withinF kd 0 4, key % 16, tm % 64⟩ u w))] rfl rfl (by kernel_rfl) (by kernel_rfl) (by kernel_rfl) ?_ ?_
      · intro x hx φ he
        simp only [List.mem_cons, List.not_mem_nil, or_false] at hx
        rcases hx with rfl | rfl <;> cases he
        all_goals first | exact lasts_quiet (lasting_bytes _) | exact lasts_quiet (isAsk_lasting _)
      intro ops' A' K' T hops hA' hK hT
      refine fl_mv 10 (by rfl) (by decide) (wanted_none (by rfl)) (by rw [hK.out]; rfl) (by rfl) _ (Or.inl (by rfl)) (.slice A1 k c1) (by rfl) ?_
      refine fl_mv 11 (by rfl) (by decide) (wanted_none (by rfl)) (by rw [hK.out]; rfl) (by rfl) _ (Or.inl (by rfl)) (.slice (some ad) n c) (by rfl) ?_
      refine fl_mv 12 (by rfl) (by decide) (wanted_none (by rfl)) (by rw [hK.out]; rfl) (by rfl) _ (Or.inl (by rfl)) (.int .i64 (k : Int)) (by rfl) ?_
      refine fl_op2 13 (by rfl) (by decide) (wanted_none (by rfl)) (by rw [hK.out]; rfl) (by rfl) (.tmp 11) (.tmp 12) (.slice (some ad) n c) (.int .i64 (k : Int)) (by rfl) (by rfl) (.pointer (some (ad.add (k * 3)))) (fun ρ h1 h2 kk w1 (hg : Grow _ w1) hb hf => by go_simp; try (intro hlt; omega)) ?_
      refine fl_op1 14 (by rfl) (by decide) (wanted_none (by rfl)) (by rw [hK.out]; rfl) (by rfl) (.tmp 13) (.pointer (some (ad.add (k * 3)))) (by rfl) (.pointer (some (ad.add (k * 3)))) (fun ρ h1 kk w1 (hg : Grow _ w1) hb hf => by go_simp) ?_
      refine fl_op1 15 (by rfl) (by decide) (wanted_none (by rfl)) (by rw [hK.out]; rfl) (by rfl) (.tmp 14) (.pointer (some (ad.add (k * 3)))) (by rfl) (.int .i64 kd) (fun ρ h1 kk w1 (hg : Grow _ w1) hb hf => by have c := hf0 w1 hg; go_simp) ?_
      refine fl_call 16 (by rfl) (by decide) (wanted_none (by rfl)) (.int .i64 (withinF kd 0 4)) (by rw [hK.out]; rfl) 9 _ _ (by rfl) [.int .i64 kd, .int .i64 0, .int .i64 4] (by rfl) k9 (fun kk w1 (hg : Grow _ w1) hb hf => calls_behind (by rfl) (by exact grew_same (within_is w1 kd 0 4 hkd (by omega) (by omega) (by omega)))) ?_
      refine fl_mv 17 (by rfl) (by decide) (wanted_none (by rfl)) (by rw [hK.out]; rfl) (by rfl) _ (Or.inl (by rfl)) (.slice (some ad) n c) (by rfl) ?_
      refine fl_mv 18 (by rfl) (by decide) (wanted_none (by rfl)) (by rw [hK.out]; rfl) (by rfl) _ (Or.inl (by rfl)) (.int .i64 (k : Int)) (by rfl) ?_
      refine fl_op2 19 (by rfl) (by decide) (wanted_none (by rfl)) (by rw [hK.out]; rfl) (by rfl) (.tmp 17) (.tmp 18) (.slice (some ad) n c) (.int .i64 (k : Int)) (by rfl) (by rfl) (.pointer (some (ad.add (k * 3)))) (fun ρ h1 h2 kk w1 (hg : Grow _ w1) hb hf => by go_simp; try (intro hlt; omega)) ?_
      refine fl_op1 20 (by rfl) (by decide) (wanted_none (by rfl)) (by rw [hK.out]; rfl) (by rfl) (.tmp 19) (.pointer (some (ad.add (k * 3)))) (by rfl) (.pointer (some ⟨(ad.add (k * 3)).block, (ad.add (k * 3)).off + 1, none⟩)) (fun ρ h1 kk w1 (hg : Grow _ w1) hb hf => by go_simp) ?_
      refine fl_op1 21 (by rfl) (by decide) (wanted_none (by rfl)) (by rw [hK.out]; rfl) (by rfl) (.tmp 20) (.pointer (some ⟨(ad.add (k * 3)).block, (ad.add (k * 3)).off + 1, none⟩)) (by rfl) (.int .i64 key) (fun ρ h1 kk w1 (hg : Grow _ w1) hb hf => by have c := hf1 w1 hg; go_simp) ?_
      refine fl_op2 22 (by rfl) (by decide) (wanted_none (by rfl)) (by rw [hK.out]; rfl) (by rfl) (.tmp 21) (.const (.int .i64 15)) (.int .i64 key) (.int .i64 15) (by rfl) (by rfl) (.int .i64 (key % 16)) (fun ρ h1 h2 kk w1 (hg : Grow _ w1) hb hf => by have e15 := and_low key 15 4 (by decide) (by decide); go_simp) ?_
      refine fl_mv 23 (by rfl) (by decide) (wanted_none (by rfl)) (by rw [hK.out]; rfl) (by rfl) _ (Or.inl (by rfl)) (.slice (some ad) n c) (by rfl) ?_
      refine fl_mv 24 (by rfl) (by decide) (wanted_none (by rfl)) (by rw [hK.out]; rfl) (by rfl) _ (Or.inl (by rfl)) (.int .i64 (k : Int)) (by rfl) ?_
      refine fl_op2 25 (by rfl) (by decide) (wanted_none (by rfl)) (by rw [hK.out]; rfl) (by rfl) (.tmp 23) (.tmp 24) (.slice (some ad) n c) (.int .i64 (k : Int)) (by rfl) (by rfl) (.pointer (some (ad.add (k * 3)))) (fun ρ h1 h2 kk w1 (hg : Grow _ w1) hb hf => by go_simp; try (intro hlt; omega)) ?_
      refine fl_op1 26 (by rfl) (by decide) (wanted_none (by rfl)) (by rw [hK.out]; rfl) (by rfl) (.tmp 25) (.pointer (some (ad.add (k * 3)))) (by rfl) (.pointer (some ⟨(ad.add (k * 3)).block, (ad.add (k * 3)).off + 2, none⟩)) (fun ρ h1 kk w1 (hg : Grow _ w1) hb hf => by go_simp) ?_
      refine fl_op1 27 (by rfl) (by decide) (wanted_none (by rfl)) (by rw [hK.out]; rfl) (by rfl) (.tmp 26) (.pointer (some ⟨(ad.add (k * 3)).block, (ad.add (k * 3)).off + 2, none⟩)) (by rfl) (.int .i64 tm) (fun ρ h1 kk w1 (hg : Grow _ w1) hb hf => by have c := hf2 w1 hg; go_simp) ?_
      refine fl_op2 28 (by rfl) (by decide) (wanted_none (by rfl)) (by rw [hK.out]; rfl) (by rfl) (.tmp 27) (.const (.int .i64 63)) (.int .i64 tm) (.int .i64 63) (by rfl) (by rfl) (.int .i64 (tm % 64)) (fun ρ h1 h2 kk w1 (hg : Grow _ w1) hb hf => by have e63 := and_low tm 63 6 (by decide) (by decide); go_simp) ?_
      refine fl_op3 29 (by rfl) (by decide) (wanted_none (by rfl)) (by rw [hK.out]; rfl) (by rfl) (.tmp 16) (.tmp 22) (.tmp 28) (.int .i64 (withinF kd 0 4)) (.int .i64 (key % 16)) (.int .i64 (tm % 64)) (by rfl) (by rfl) (by rfl) (.agg #[.int .i64 (withinF kd 0 4), .int .i64 (key % 16), .int .i64 (tm % 64)]) (fun ρ h1 h2 h3 kk w1 (hg : Grow _ w1) hb hf => by go_simp) ?_
      refine fl_any1 30 (by rfl) (by decide) (wanted_none (by rfl)) (fun _ u w => IsAsk ⟨withinF kd 0 4, key % 16, tm % 64⟩ u w) (by rw [hK.out]; rfl) (.tmp 29) (.agg #[.int .i64 (withinF kd 0 4), .int .i64 (key % 16), .int .i64 (tm % 64)]) (by rfl) (fun ρ h1 kk w1 (hg : Grow _ w1) hb hf => by refine upon_behindAny (φ := fun _ u w => IsAsk ⟨withinF kd 0 4, key % 16, tm % 64⟩ u w) (by rfl) ?_; exact ask_made rfl h1) (fun v30 => ?_)
      refine fl_end (fun _ _ w1 (hg : Grow _ w1) _ hfacts => hT _ _ ?_)
      clear hops hA' hK hT
      simp only [putsL, Act.put, List.setIfInBounds_toArray, List.set_cons_zero, List.set_cons_succ, List.drop_succ_cons, List.drop_zero]
      have hIA : IsAsk ⟨withinF kd 0 4, key % 16, tm % 64⟩ v30 w1 := hfacts.1
      clear hfacts
      obtain ⟨A9, rfl, hR9⟩ := hIA
      have hz1 : AskOk ⟨withinF kd 0 4, key % 16, tm % 64⟩ := ⟨in64_within _ _ _ (by omega) (by omega) (by omega), in64_emod _ _ (by omega) (by omega), in64_emod _ _ (by omega) (by omega)⟩
      have hs1 := hg.size
      refine wpList_own (V := New w wr) askE _ rfl (.tmp 10) (.tmp 30) rfl (.slice A1 k c1) k (qs.flatMap Ask.cells) rfl (hO.grow (fun b hb => hb.2) hg) w1.heap.size A9 1 1 ([(⟨withinF kd 0 4, key % 16, tm % 64⟩ : Ask)].flatMap Ask.cells) rfl hR9 (ask_one _) (by omega) ?_
      intro v3 w3 hO3 hj3
      have hrel := rel_next (zs := [⟨withinF kd 0 4, key % 16, tm % 64⟩]) hgw hg hin (fun a ha => by rw [List.mem_singleton.1 ha]; exact hz1) hO3 hj3
      clear hO3 hj3 hO hin
      go_wp2_with fail
      go_roundw
      case rel => exact ⟨k + 1, by omega, by go_num, hrel⟩
      case measure => simp [intOf]; omega
    · obtain rfl : k = n := by omega
      have hAs : Asks wr (New w wr) A1 k qs := ⟨hI1, hin⟩
      have hp1 := play_any wr V A k c q (hq.grow hgw) (fun b hb => Nat.lt_of_lt_of_le (hV b hb) hgw.size)
      clear hO hI1 hin
      go_wp2_with fail
      go_at_call 7
      refine hp1.mono ?_
      rintro e w7 ⟨rfl, hg7⟩
      clear hp1
      have hp2 := play_any w7 _ A1 k c1 qs (hAs.grow hg7) (fun b hb => Nat.lt_of_lt_of_le hb.2 hg7.size)
      clear hAs
      go_wp2_with fail
      go_at_call 7
      refine hp2.mono ?_
      rintro e w8 ⟨rfl, hg8⟩
      clear hp2
      go_wp2_with (go_at_call 8; refine (known_any _).mono ?_; rintro e w9 ⟨rfl, hg9⟩)
      go_ret
      exact ⟨rfl, ((hgw.trans hg7).trans hg8).trans hg9⟩
end Go.Proofs.Ytjjafpgpnmdjlaa
