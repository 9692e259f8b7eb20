/- Are the sums those of the answer. -/
import Derived.Test.YtnijeemldhmkjaaCradd
import Derived.Test.YtnijeemldhmkjaaCall2
import Derived.Test.YtnijeemldhmkjaaCcopy
namespace Go.Proofs.Ytnijeemldhmkjaa
open Go.RowKit Go.Hop
theorem All_any (w : World) (s : Nat) (q : Sm) (V : Nat → Prop) (h : SumsAt s q w V) (hq : q.length ≤ 1048576) :
    Calls Try.prog 13 #[.pointer (some ⟨s, 0, none⟩)] w fun e w' => ∃ A, e = .returned (.slice A q.length q.length) ∧ In w' (New w w') 2 A q.length (dcells q) ∧ Grow w w' := All_some sort_none w s q V h hq
theorem All_read (w : World) (s : Nat) (q : Sm) (V : Nat → Prop) (h : SumsAt s q w V) (hq : q.length ≤ 1048576) :
    Calls Try.prog 13 #[.pointer (some ⟨s, 0, none⟩)] w fun e w' => ∃ u, e = .returned u ∧ Grow w w' ∧ ReadF 2 q.length (dcells q) u w' :=
  (All_any w s q V h hq).mono fun e w' ⟨A, he, hI, hg⟩ => ⟨_, he, hg, A, _, rfl, hI.reads⟩
set_option maxRecDepth 20000 in
theorem same_any (w : World) (s r : Nat) (q : Sm) (V1 V2 : Nat → Prop) (h1 : SumsAt s q w V1) (hV1 : ∀ b, V1 b → b < w.heap.size) (h2 : RSums r q w V2) (hq : q.length ≤ 1048576) :
    Calls Try.prog 25 #[.pointer (some ⟨s, 0, none⟩), .pointer (some ⟨r, 0, none⟩)] w fun e w' => e = .returned (.bool true) ∧ Grow w w' := by
  obtain ⟨_, _, _, v, hB0, hO0⟩ := h2
  obtain ⟨Aq, cq, rfl, hI0, _, _⟩ := hO0.in_
  have hS1 := fun w1 (hg : Grow w w1) => SumsAt.framed s q w w1 V1 h1 fun b hb => hg.block b (hV1 b hb)
  have k13 : ∀ (vs : Array Value) (w : World), (callFunc 13 vs).run Try.prog w = .ok (.enter 13 vs) w := fun vs w => by go_simp
  have k14 : ∀ (vs : Array Value) (w : World), (callFunc 14 vs).run Try.prog w = .ok (.enter 14 vs) w := fun vs w => by go_simp
  go_enter Try.func25, Try.ntmps25
  go_wp2_with fail
  refine wp_region_flow 8 12 [(1, .inr (fun _ => ReadF 2 q.length (dcells q))), (6, .inl (.bool true))] rfl rfl (by kernel_rfl) (by kernel_rfl) (by kernel_rfl) ?_ ?_
  · intro x hx φ he
    simp only [List.mem_cons, List.not_mem_nil, or_false] at hx
    rcases hx with rfl | rfl <;> cases he
    all_goals first | exact lasts_quiet (lasting_bytes _) | exact lasts_quiet (readF_lasting _ _ _)
  intro ops' A' K' T hops hA' hK hT
  refine fl_mv 5 (by rfl) (by decide) (wanted_none (by rfl)) (by rw [hK.out]; rfl) (by rfl) _ (Or.inl (by rfl)) (.pointer (some ⟨s, 0, none⟩)) (by rfl) ?_
  refine fl_callAny 6 (by rfl) (by decide) (wanted_none (by rfl)) (fun _ => ReadF 2 q.length (dcells q)) (by rw [hK.out]; rfl) 13 _ _ (by rfl) [.pointer (some ⟨s, 0, none⟩)] (by rfl) k13 (fun kk w1 (hg : Grow _ w1) hb hf => calls_behindAny (φ := fun _ => ReadF 2 q.length (dcells q)) (by rfl) (by exact (All_read w1 s q V1 (hS1 w1 hg) hq))) (fun v6 => ?_)
  refine fl_mv 7 (by rfl) (by decide) (wanted_none (by rfl)) (by rw [hK.out]; rfl) (by rfl) _ (Or.inl (by rfl)) (.pointer (some ⟨r, 0, none⟩)) (by rfl) ?_
  refine fl_op1 8 (by rfl) (by decide) (wanted_none (by rfl)) (by rw [hK.out]; rfl) (by rfl) (.tmp 7) (.pointer (some ⟨r, 0, none⟩)) (by rfl) (.pointer (some ⟨r, 0, none⟩)) (fun ρ h1 kk w1 (hg : Grow _ w1) hb hf => by go_simp) ?_
  refine fl_op1 9 (by rfl) (by decide) (wanted_none (by rfl)) (by rw [hK.out]; rfl) (by rfl) (.tmp 8) (.pointer (some ⟨r, 0, none⟩)) (by rfl) (.pointer (some ⟨r, 0, none⟩)) (fun ρ h1 kk w1 (hg : Grow _ w1) hb hf => by go_simp) ?_
  refine fl_op1 10 (by rfl) (by decide) (wanted_none (by rfl)) (by rw [hK.out]; rfl) (by rfl) (.tmp 9) (.pointer (some ⟨r, 0, none⟩)) (by rfl) (.slice Aq q.length cq) (fun ρ h1 kk w1 (hg : Grow _ w1) hb hf => by have c := (hB0.grow hg).cell 0; go_simp) ?_
  refine fl_call 11 (by rfl) (by decide) (wanted_none (by rfl)) (.bool true) (by rw [hK.out]; rfl) 14 _ _ (by rfl) [v6, .slice Aq q.length cq] (by rfl) k14 (fun kk w1 (hg : Grow _ w1) hb hf => calls_behind (by rfl) (by exact (by obtain ⟨A6, c6, e6, h6⟩ := (show ReadF 2 q.length (dcells q) v6 w1 from (facts_take hf (by rw [hA'.out]; kernel_rfl))); rw [e6]; exact SameDeltas_any w1 A6 Aq q.length c6 cq q (fun b => b < w1.heap.size) (fun b => V2 b ∧ b ≠ r) (Reads.in_ h6 (Nat.le_refl _) (fun _ h => h)) (hI0.grow hg) hq))) ?_
  refine fl_mv 4 (by rfl) (by decide) (wanted_none (by rfl)) (by rw [hK.out]; rfl) (by rfl) _ (Or.inr (by rfl)) (.bool true) (by rfl) ?_
  refine fl_end (fun _ _ w1 (hg : Grow _ w1) _ hfacts => hT _ _ ?_)
  clear hops hA' hK hT
  simp only [putsL, Act.put, List.setIfInBounds_toArray, List.set_cons_zero, List.set_cons_succ, List.drop_succ_cons, List.drop_zero]
  clear hfacts
  go_wp2_with fail
  go_ret
  exact ⟨rfl, hg⟩
theorem add_length {q : Sm} (hs : Srt q) (l : List Dl) : (add q l).length = q.length + news q (add [] l) := by
  have hsrt : ∀ (l : List Dl) (q : Sm), Srt q → Srt (add q l) := by
    intro l
    induction l with
    | nil => intro q h; exact h
    | cons a l ih => intro q h; rw [add_cons]; exact ih _ (put_srt h _ _)
  have hnd : ∀ q : Sm, Srt q → (q.map (·.1)).Nodup := fun q h => by
    unfold List.Nodup
    rw [List.pairwise_map]
    exact h.imp fun h e => by rw [e, slt_irr] at h; cases h
  have hmem : ∀ (q : Sm), Srt q → ∀ x : ByteArray, x ∈ q.map (·.1) ↔ (lk q x).isSome = true := fun q h x => by
    constructor
    · intro hx
      obtain ⟨d, hd, rfl⟩ := List.mem_map.1 hx
      rw [srt_lk h hd]; rfl
    · intro hx
      obtain ⟨v, hv⟩ := Option.isSome_iff_exists.1 hx
      exact List.mem_map.2 ⟨_, lk_mem hv, rfl⟩
  have h0 : Srt (add [] l) := hsrt l [] List.Pairwise.nil
  have hp : ((add q l).map (·.1)).Perm (q.map (·.1) ++ ((add [] l).filter fun d => (lk q d.1).isNone).map (·.1)) := by
    refine (List.perm_ext_iff_of_nodup (hnd _ (hsrt l q hs)) (List.nodup_append.2 ⟨hnd q hs, (hnd _ h0).sublist (List.Sublist.map _ List.filter_sublist), fun a ha b hb e => ?_⟩)).2 fun x => ?_
    · subst e
      obtain ⟨d, hd, rfl⟩ := List.mem_map.1 hb
      have h1 := (List.mem_filter.1 hd).2
      have h2 := (hmem q hs d.1).1 ha
      cases hl : lk q d.1 with
      | none => rw [hl] at h2; cases h2
      | some v => rw [hl] at h1; cases h1
    · rw [hmem _ (hsrt l q hs), List.mem_append, hmem q hs, lk_add]
      have h2 := lk_add [] l x
      rw [lk_nil, Option.isSome_none, Bool.false_or] at h2
      rw [← h2]
      constructor
      · intro h
        cases hq : (lk q x).isSome with
        | true => exact .inl rfl
        | false =>
          right
          rw [hq, Bool.false_or] at h
          obtain ⟨v, hv⟩ := Option.isSome_iff_exists.1 h
          refine List.mem_map.2 ⟨(x, v), List.mem_filter.2 ⟨lk_mem hv, ?_⟩, rfl⟩
          dsimp only
          cases hl : lk q x with
          | none => rfl
          | some v => rw [hl] at hq; cases hq
      · rintro (h | h)
        · rw [h]; rfl
        · obtain ⟨d, hd, rfl⟩ := List.mem_map.1 h
          rw [srt_lk h0 (List.mem_filter.1 hd).1]
          simp
  have := hp.length_eq
  simpa [news] using this
theorem addM_length {q : Sm} (hs : Srt q) (hq : q.length ≤ 16) (l : List Dl) : (addM q l).length ≤ 16 := by
  unfold addM
  split
  · rename_i h
    have hok := mayE_ok h
    unfold mayE at h
    rw [if_pos hok] at h
    rw [add_length hs]
    split at h
    · cases h
    · omega
  · exact hq
theorem addM_right {q : Sm} (hq : Right q) {l : List Dl} (hl : ∀ d ∈ l, d.1.size ≤ maxLen) : Right (addM q l) := by
  unfold addM
  split
  · rename_i h
    exact ok_right hq hl (mayE_ok h)
  · exact hq
end Go.Proofs.Ytnijeemldhmkjaa
