/- The two disks have the same bytes. -/
import Derived.Test.YtedpcdliadfhgaaDref
import Derived.Test.YtedpcdliadfhgaaDreads
namespace Go.Proofs.Ytedpcdliadfhgaa
open Go.RowKit Go.Hop
set_option maxRecDepth 100000 in
set_option maxHeartbeats 4000000 in
theorem same_any (w : World) (d r : Nat) (l : List UInt8) (k : Nat) (V U : Nat → Prop) (hD : DiskAt 45 d l k w V) (hV : ∀ b, V b → b < w.heap.size) (hE : DiskAt 42 r l k w U) :
    Calls Try.prog 23 #[.pointer (some ⟨d, 0, none⟩), .pointer (some ⟨r, 0, none⟩)] w fun e w' => e = .returned (.bool true) ∧ Grow w w' := by
  have hD1 : ∀ w1, Grow w w1 → DiskAt 45 d l k w1 V := fun w1 hg => DiskAt.framed _ d l k w w1 V hD fun b hb => hg.block b (hV b hb)
  obtain ⟨hr, hk, hl, v, hB, hO⟩ := hE
  obtain ⟨A1, c1, rfl, hR, hnc, hm⟩ := hO.reads
  have hRk : Bytes w w.heap.size A1 k (l.take k) := by
    have := hR.take hk
    unfold Bytes
    rw [u8s_take]; exact this
  have hsub : IntKind.i64.wrap ((l.length : Int) - (k : Int)) = (l.length : Int) - (k : Int) := by rw [IntKind.wrap_i64]; omega
  have hck : ¬ c1 < k := by omega
  have k14 : ∀ (vs : Array Value) (w : World), (callFunc 14 vs).run Try.prog w = .ok (.enter 14 vs) w := fun vs w => by go_simp
  have k17 : ∀ (vs : Array Value) (w : World), (callFunc 17 vs).run Try.prog w = .ok (.enter 17 vs) w := fun vs w => by go_simp
  have k15 : ∀ (vs : Array Value) (w : World), (callFunc 15 vs).run Try.prog w = .ok (.enter 15 vs) w := fun vs w => by go_simp
  go_enter Try.func23, Try.ntmps23
  go_wp2_with fail
  refine wp_region_flow 41 45 [(1, .inr (fun _ => IsBytes l)), (11, .inr (fun _ => IsBytes (l.take k))), (27, .inl (.int .i64 ((l.length : Int) - (k : Int))))] rfl rfl (by kernel_rfl) (by kernel_rfl) (by kernel_rfl) ?_ ?_
  · intro x hx φ he
    simp only [List.mem_cons, List.not_mem_nil, or_false] at hx
    rcases hx with rfl | rfl | rfl <;> cases he
    all_goals first | exact lasts_quiet (lasting_bytes _) | fail
  intro ops' A' K' T hops hA' hK hT
  refine fl_mv 5 (by rfl) (by decide) (wanted_none (by rfl)) (by rw [hK.out]; rfl) (by rfl) _ (Or.inl (by rfl)) (.pointer (some ⟨d, 0, none⟩)) (by rfl) ?_
  refine fl_callAny 6 (by rfl) (by decide) (wanted_none (by rfl)) (fun _ => IsBytes l) (by rw [hK.out]; rfl) 14 _ _ (by rfl) [.pointer (some ⟨d, 0, none⟩)] (by rfl) k14 (fun kk w1 (hg : Grow _ w1) hb hf => calls_behindAny (φ := fun _ => IsBytes l) (by rfl) (by exact All_is w1 d l k V (hD1 w1 hg))) (fun v6 => ?_)
  refine fl_op1 7 (by rfl) (by decide) (wanted_none (by rfl)) (by rw [hK.out]; rfl) (by rfl) (.tmp 6) (v6) (by rfl) (.string ⟨l.toArray⟩) (fun ρ h1 kk w1 (hg : Grow _ w1) hb hf => by have cv := conv_is w1 (facts_take hf (by rw [hA'.out]; kernel_rfl)); go_simp) ?_
  refine fl_mv 8 (by rfl) (by decide) (wanted_none (by rfl)) (by rw [hK.out]; rfl) (by rfl) _ (Or.inl (by rfl)) (.pointer (some ⟨r, 0, none⟩)) (by rfl) ?_
  refine fl_op1 9 (by rfl) (by decide) (wanted_none (by rfl)) (by rw [hK.out]; rfl) (by rfl) (.tmp 8) (.pointer (some ⟨r, 0, none⟩)) (by rfl) (.pointer (some ⟨r, 0, none⟩)) (fun ρ h1 kk w1 (hg : Grow _ w1) hb hf => by go_simp) ?_
  refine fl_op1 10 (by rfl) (by decide) (wanted_none (by rfl)) (by rw [hK.out]; rfl) (by rfl) (.tmp 9) (.pointer (some ⟨r, 0, none⟩)) (by rfl) (.pointer (some ⟨r, 0, none⟩)) (fun ρ h1 kk w1 (hg : Grow _ w1) hb hf => by go_simp) ?_
  refine fl_op1 11 (by rfl) (by decide) (wanted_none (by rfl)) (by rw [hK.out]; rfl) (by rfl) (.tmp 10) (.pointer (some ⟨r, 0, none⟩)) (by rfl) (.slice A1 l.length c1) (fun ρ h1 kk w1 (hg : Grow _ w1) hb hf => by have c := (hB.grow hg).cell 0; go_simp) ?_
  refine fl_op1 12 (by rfl) (by decide) (wanted_none (by rfl)) (by rw [hK.out]; rfl) (by rfl) (.tmp 11) (.slice A1 l.length c1) (by rfl) (.string ⟨l.toArray⟩) (fun ρ h1 kk w1 (hg : Grow _ w1) hb hf => by have cv := conv_bytes w1 (c := c1) (hR.below hg); go_simp) ?_
  refine fl_op2 13 (by rfl) (by decide) (wanted_none (by rfl)) (by rw [hK.out]; rfl) (by rfl) (.tmp 7) (.tmp 12) (.string ⟨l.toArray⟩) (.string ⟨l.toArray⟩) (by rfl) (by rfl) (.bool true) (fun ρ h1 h2 kk w1 (hg : Grow _ w1) hb hf => by go_simp) ?_
  refine fl_mv 14 (by rfl) (by decide) (wanted_none (by rfl)) (by rw [hK.out]; rfl) (by rfl) _ (Or.inl (by rfl)) (.bool true) (by rfl) ?_
  refine fl_mv 15 (by rfl) (by decide) (wanted_if hops 9 true (by rfl) 14 (by rfl) true (by rfl)) (by rw [hK.out]; rfl) (by rfl) _ (Or.inl (by rfl)) (.pointer (some ⟨d, 0, none⟩)) (by rfl) ?_
  refine fl_callAny 16 (by rfl) (by decide) (wanted_if hops 9 true (by rfl) 14 (by rfl) true (by rfl)) (fun _ => IsBytes (l.take k)) (by rw [hK.out]; rfl) 17 _ _ (by rfl) [.pointer (some ⟨d, 0, none⟩)] (by rfl) k17 (fun kk w1 (hg : Grow _ w1) hb hf => calls_behindAny (φ := fun _ => IsBytes (l.take k)) (by rfl) (by exact Lasts_is w1 d l k V (hD1 w1 hg))) (fun v16 => ?_)
  refine fl_op1 17 (by rfl) (by decide) (wanted_if hops 9 true (by rfl) 14 (by rfl) true (by rfl)) (by rw [hK.out]; rfl) (by rfl) (.tmp 16) (v16) (by rfl) (.string ⟨(l.take k).toArray⟩) (fun ρ h1 kk w1 (hg : Grow _ w1) hb hf => by have cv := conv_is w1 (facts_take hf (by rw [hA'.out]; kernel_rfl)); go_simp) ?_
  refine fl_mv 18 (by rfl) (by decide) (wanted_if hops 9 true (by rfl) 14 (by rfl) true (by rfl)) (by rw [hK.out]; rfl) (by rfl) _ (Or.inl (by rfl)) (.pointer (some ⟨r, 0, none⟩)) (by rfl) ?_
  refine fl_op1 19 (by rfl) (by decide) (wanted_if hops 9 true (by rfl) 14 (by rfl) true (by rfl)) (by rw [hK.out]; rfl) (by rfl) (.tmp 18) (.pointer (some ⟨r, 0, none⟩)) (by rfl) (.pointer (some ⟨r, 0, none⟩)) (fun ρ h1 kk w1 (hg : Grow _ w1) hb hf => by go_simp) ?_
  refine fl_op1 20 (by rfl) (by decide) (wanted_if hops 9 true (by rfl) 14 (by rfl) true (by rfl)) (by rw [hK.out]; rfl) (by rfl) (.tmp 19) (.pointer (some ⟨r, 0, none⟩)) (by rfl) (.pointer (some ⟨r, 0, none⟩)) (fun ρ h1 kk w1 (hg : Grow _ w1) hb hf => by go_simp) ?_
  refine fl_op1 21 (by rfl) (by decide) (wanted_if hops 9 true (by rfl) 14 (by rfl) true (by rfl)) (by rw [hK.out]; rfl) (by rfl) (.tmp 20) (.pointer (some ⟨r, 0, none⟩)) (by rfl) (.slice A1 l.length c1) (fun ρ h1 kk w1 (hg : Grow _ w1) hb hf => by have c := (hB.grow hg).cell 0; go_simp) ?_
  refine fl_mv 22 (by rfl) (by decide) (wanted_if hops 9 true (by rfl) 14 (by rfl) true (by rfl)) (by rw [hK.out]; rfl) (by rfl) _ (Or.inl (by rfl)) (.pointer (some ⟨r, 0, none⟩)) (by rfl) ?_
  refine fl_op1 23 (by rfl) (by decide) (wanted_if hops 9 true (by rfl) 14 (by rfl) true (by rfl)) (by rw [hK.out]; rfl) (by rfl) (.tmp 22) (.pointer (some ⟨r, 0, none⟩)) (by rfl) (.pointer (some ⟨r, 0, none⟩)) (fun ρ h1 kk w1 (hg : Grow _ w1) hb hf => by go_simp) ?_
  refine fl_op1 24 (by rfl) (by decide) (wanted_if hops 9 true (by rfl) 14 (by rfl) true (by rfl)) (by rw [hK.out]; rfl) (by rfl) (.tmp 23) (.pointer (some ⟨r, 0, none⟩)) (by rfl) (.pointer (some ⟨r, 1, none⟩)) (fun ρ h1 kk w1 (hg : Grow _ w1) hb hf => by go_simp) ?_
  refine fl_op1 25 (by rfl) (by decide) (wanted_if hops 9 true (by rfl) 14 (by rfl) true (by rfl)) (by rw [hK.out]; rfl) (by rfl) (.tmp 24) (.pointer (some ⟨r, 1, none⟩)) (by rfl) (.int .i64 (k : Int)) (fun ρ h1 kk w1 (hg : Grow _ w1) hb hf => by have c := (hB.grow hg).cell 1; go_simp) ?_
  refine fl_op2 26 (by rfl) (by decide) (wanted_if hops 9 true (by rfl) 14 (by rfl) true (by rfl)) (by rw [hK.out]; rfl) (by rfl) (.tmp 21) (.tmp 25) (.slice A1 l.length c1) (.int .i64 (k : Int)) (by rfl) (by rfl) (.slice A1 k c1) (fun ρ h1 h2 kk w1 (hg : Grow _ w1) hb hf => by go_simp) ?_
  refine fl_op1 27 (by rfl) (by decide) (wanted_if hops 9 true (by rfl) 14 (by rfl) true (by rfl)) (by rw [hK.out]; rfl) (by rfl) (.tmp 26) (.slice A1 k c1) (by rfl) (.string ⟨(l.take k).toArray⟩) (fun ρ h1 kk w1 (hg : Grow _ w1) hb hf => by have cv := conv_bytes w1 (c := c1) (hRk.below hg); go_simp) ?_
  refine fl_op2 28 (by rfl) (by decide) (wanted_if hops 9 true (by rfl) 14 (by rfl) true (by rfl)) (by rw [hK.out]; rfl) (by rfl) (.tmp 17) (.tmp 27) (.string ⟨(l.take k).toArray⟩) (.string ⟨(l.take k).toArray⟩) (by rfl) (by rfl) (.bool true) (fun ρ h1 h2 kk w1 (hg : Grow _ w1) hb hf => by go_simp) ?_
  refine fl_pick 29 (by rfl) (by decide) (wanted_none (by rfl)) (by rw [hK.out]; rfl) (by rfl) _ _ _ (by rfl) true (by rfl) (.bool true) (by rfl) ?_
  refine fl_mv 30 (by rfl) (by decide) (wanted_none (by rfl)) (by rw [hK.out]; rfl) (by rfl) _ (Or.inl (by rfl)) (.bool true) (by rfl) ?_
  refine fl_mv 31 (by rfl) (by decide) (wanted_if hops 25 true (by rfl) 30 (by rfl) true (by rfl)) (by rw [hK.out]; rfl) (by rfl) _ (Or.inl (by rfl)) (.pointer (some ⟨d, 0, none⟩)) (by rfl) ?_
  refine fl_call 32 (by rfl) (by decide) (wanted_if hops 25 true (by rfl) 30 (by rfl) true (by rfl)) (.int .i64 ((l.length : Int) - (k : Int))) (by rw [hK.out]; rfl) 15 _ _ (by rfl) [.pointer (some ⟨d, 0, none⟩)] (by rfl) k15 (fun kk w1 (hg : Grow _ w1) hb hf => calls_behind (by rfl) (by exact Waits_any w1 d l k V (hD1 w1 hg))) ?_
  refine fl_mv 33 (by rfl) (by decide) (wanted_if hops 25 true (by rfl) 30 (by rfl) true (by rfl)) (by rw [hK.out]; rfl) (by rfl) _ (Or.inl (by rfl)) (.pointer (some ⟨r, 0, none⟩)) (by rfl) ?_
  refine fl_op1 34 (by rfl) (by decide) (wanted_if hops 25 true (by rfl) 30 (by rfl) true (by rfl)) (by rw [hK.out]; rfl) (by rfl) (.tmp 33) (.pointer (some ⟨r, 0, none⟩)) (by rfl) (.pointer (some ⟨r, 0, none⟩)) (fun ρ h1 kk w1 (hg : Grow _ w1) hb hf => by go_simp) ?_
  refine fl_op1 35 (by rfl) (by decide) (wanted_if hops 25 true (by rfl) 30 (by rfl) true (by rfl)) (by rw [hK.out]; rfl) (by rfl) (.tmp 34) (.pointer (some ⟨r, 0, none⟩)) (by rfl) (.pointer (some ⟨r, 0, none⟩)) (fun ρ h1 kk w1 (hg : Grow _ w1) hb hf => by go_simp) ?_
  refine fl_op1 36 (by rfl) (by decide) (wanted_if hops 25 true (by rfl) 30 (by rfl) true (by rfl)) (by rw [hK.out]; rfl) (by rfl) (.tmp 35) (.pointer (some ⟨r, 0, none⟩)) (by rfl) (.slice A1 l.length c1) (fun ρ h1 kk w1 (hg : Grow _ w1) hb hf => by have c := (hB.grow hg).cell 0; go_simp) ?_
  refine fl_op1 37 (by rfl) (by decide) (wanted_if hops 25 true (by rfl) 30 (by rfl) true (by rfl)) (by rw [hK.out]; rfl) (by rfl) (.tmp 36) (.slice A1 l.length c1) (by rfl) (.int .i64 (l.length : Int)) (fun ρ h1 kk w1 (hg : Grow _ w1) hb hf => by go_simp) ?_
  refine fl_mv 38 (by rfl) (by decide) (wanted_if hops 25 true (by rfl) 30 (by rfl) true (by rfl)) (by rw [hK.out]; rfl) (by rfl) _ (Or.inl (by rfl)) (.pointer (some ⟨r, 0, none⟩)) (by rfl) ?_
  refine fl_op1 39 (by rfl) (by decide) (wanted_if hops 25 true (by rfl) 30 (by rfl) true (by rfl)) (by rw [hK.out]; rfl) (by rfl) (.tmp 38) (.pointer (some ⟨r, 0, none⟩)) (by rfl) (.pointer (some ⟨r, 0, none⟩)) (fun ρ h1 kk w1 (hg : Grow _ w1) hb hf => by go_simp) ?_
  refine fl_op1 40 (by rfl) (by decide) (wanted_if hops 25 true (by rfl) 30 (by rfl) true (by rfl)) (by rw [hK.out]; rfl) (by rfl) (.tmp 39) (.pointer (some ⟨r, 0, none⟩)) (by rfl) (.pointer (some ⟨r, 1, none⟩)) (fun ρ h1 kk w1 (hg : Grow _ w1) hb hf => by go_simp) ?_
  refine fl_op1 41 (by rfl) (by decide) (wanted_if hops 25 true (by rfl) 30 (by rfl) true (by rfl)) (by rw [hK.out]; rfl) (by rfl) (.tmp 40) (.pointer (some ⟨r, 1, none⟩)) (by rfl) (.int .i64 (k : Int)) (fun ρ h1 kk w1 (hg : Grow _ w1) hb hf => by have c := (hB.grow hg).cell 1; go_simp) ?_
  refine fl_op2 42 (by rfl) (by decide) (wanted_if hops 25 true (by rfl) 30 (by rfl) true (by rfl)) (by rw [hK.out]; rfl) (by rfl) (.tmp 37) (.tmp 41) (.int .i64 (l.length : Int)) (.int .i64 (k : Int)) (by rfl) (by rfl) (.int .i64 ((l.length : Int) - (k : Int))) (fun ρ h1 h2 kk w1 (hg : Grow _ w1) hb hf => by go_simp) ?_
  refine fl_op2 43 (by rfl) (by decide) (wanted_if hops 25 true (by rfl) 30 (by rfl) true (by rfl)) (by rw [hK.out]; rfl) (by rfl) (.tmp 32) (.tmp 42) (.int .i64 ((l.length : Int) - (k : Int))) (.int .i64 ((l.length : Int) - (k : Int))) (by rfl) (by rfl) (.bool true) (fun ρ h1 h2 kk w1 (hg : Grow _ w1) hb hf => by go_simp) ?_
  refine fl_pick 44 (by rfl) (by decide) (wanted_none (by rfl)) (by rw [hK.out]; rfl) (by rfl) _ _ _ (by rfl) true (by rfl) (.bool true) (by rfl) ?_
  refine fl_mv 4 (by rfl) (by decide) (wanted_none (by rfl)) (by rw [hK.out]; rfl) (by rfl) _ (Or.inr (by rfl)) (.bool true) (by rfl) ?_
  refine fl_end (fun _ _ w1 (hg : Grow _ w1) _ hfacts => hT _ _ ?_)
  clear hops hA' hK hT
  simp only [putsL, Act.put, List.setIfInBounds_toArray, List.set_cons_zero, List.set_cons_succ, List.drop_succ_cons, List.drop_zero]

  go_wp2_with fail
  go_ret
  exact ⟨rfl, hg⟩
end Go.Proofs.Ytedpcdliadfhgaa
