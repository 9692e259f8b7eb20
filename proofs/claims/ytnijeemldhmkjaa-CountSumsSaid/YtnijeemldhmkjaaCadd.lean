/- Add: its walk. -/
import Derived.Test.YtnijeemldhmkjaaCmay
namespace Go.Proofs.Ytnijeemldhmkjaa
open Go.RowKit Go.Hop
/-- what there is when l was to be added -/
def addM (q : Sm) (l : List Dl) : Sm := if mayE q l = 0 then add q l else q
theorem mayE_ok {q : Sm} {l : List Dl} (h : mayE q l = 0) : okRun q [] l = true := by
  unfold mayE at h
  split at h
  · assumption
  · cases h
theorem ok_fits {q : Sm} {l : List Dl} (h : okRun q [] l = true) {k : Nat} (hk : k < l.length) : gt (add q (l.take k)) l[k].1 + l[k].2 ≤ M64 := by
  have h1 := okRun_take h (k + 1)
  rw [List.take_succ_eq_append_getElem hk, okRun_append, Bool.and_eq_true, decide_eq_true_eq] at h1
  have h2 := h1.2
  rw [gt_add] at h2 ⊢
  have : gt ([] : Sm) l[k].1 = 0 := rfl
  omega
theorem ok_right {q : Sm} {l : List Dl} (hq : Right q) (ht : ∀ d ∈ l, d.1.size ≤ maxLen) (h : okRun q [] l = true) : Right (add q l) := by
  refine right_add hq ht fun k hk x => ?_
  rw [gt_add]
  have h1 := (okRun_is q (l.take k) []).1 (okRun_take h k)
  by_cases he : ∃ d ∈ l.take k, d.1 = x
  · obtain ⟨d, hd, rfl⟩ := he
    have := h1 d hd
    omega
  · have h0 : tot (l.take k) x = 0 := by
      unfold tot
      have : (l.take k).filter (fun e => decide (e.1 = x)) = [] := List.filter_eq_nil_iff.2 fun e hel h => he ⟨e, hel, of_decide_eq_true h⟩
      rw [this]; rfl
    rw [h0]
    exact hq.gt x
set_option maxRecDepth 100000 in
set_option maxHeartbeats 1000000 in
theorem Add_any (w : World) (s : Nat) (q : Sm) (V : Nat → Prop) (h : SumsAt s q w V) (hV : ∀ b, V b → b < w.heap.size) (A : Option Addr) (n c : Nat) (l : List Dl) (D : Nat → Prop) (hl : In w D 2 A n (dcells l)) (hDV : ∀ b, D b → ¬ V b) (hd : ∀ d ∈ l, d.1.size ≤ maxLen ∧ d.2 ≤ M64) (hn : n ≤ 1048576) (hq : q.length ≤ 1048576) :
    Calls Try.prog 10 #[.pointer (some ⟨s, 0, none⟩), .slice A n c] w fun e w' => e = .returned (.int .i64 (mayE q l)) ∧ SumsAt s (addM q l) w' (Ext V w w') ∧ Just V w w' := by
  have hln : l.length = n := by have := hl.1; rw [dcells_len] at this; omega
  have hm := May_any w s q V h A n c l D hl hd hn hq
  have hS1 := fun w1 (hg : Grow w w1) => SumsAt.framed s q w w1 V h fun b hb => hg.block b (hV b hb)
  obtain ⟨h1, h2, b, h3, h4, hB0, hM0⟩ := h
  have k19 : ∀ (vs : Array Value) (w : World), (callFunc 19 vs).run Try.prog w = .ok (.enter 19 vs) w := fun vs w => by go_simp
  obtain ⟨E, HE⟩ : ∃ E : Int, Hid (E = mayE q l) := ⟨_, rfl⟩
  have hE0 : E = 0 → addM q l = add q l := fun h => by unfold addM; rw [← HE.out, if_pos h]
  have hE1 : E ≠ 0 → addM q l = q := fun h => by unfold addM; rw [← HE.out, if_neg h]
  rw [← HE.out] at hm ⊢
  by_cases he : E = 0
  · have hok := mayE_ok (HE.out.symm.trans he)
    rw [hE0 he]
    subst he
    go_enter Try.func10, Try.ntmps10
    go_wp2_with fail
    refine hm.mono ?_
    rintro e w1 ⟨rfl, hg1⟩
    clear hm hS1 hE0 hE1
    have hl1 := hl.grow hg1
    have hM1 := hM0.grow hg1
    have hB1 := hB0.grow hg1
    have hbl := hM0.lt
    have hg1s := hg1.size
    go_wp2_with fail
    go_loopw [16] (fun i wr => ∃ k : Nat, k ≤ n ∧ i = .int .i64 (k : Int) ∧ MapQ wr b (add q (l.take k)) ∧ Just (fun c => c = b) w1 wr) (fun i _ => n - (intOf i).toNat)
    case atStart => exact ⟨0, by omega, rfl, hM1, Just.of_grow (Grow.refl _)⟩
    case round =>
      clear hM1
      obtain ⟨k, hkn, rfl, hM, hj⟩ := hrel
      have hlr : In wr D 2 A n (dcells l) := hl1.just hj fun c hc e => hDV c hc (by rw [e]; exact h3)
      have hBr := hj.blk hB1 (fun e => h4 e.symm)
      by_cases hk : k < n
      · have hkt : decide ((k : Int) < (n : Int)) = true := decide_eq_true (by omega)
        obtain ⟨ad, hqk, rfl, he0, he1⟩ := del_at hlr hk
        have hdk := hd _ (List.getElem_mem hqk)
        have hnext : add q (l.take (k + 1)) = put (add q (l.take k)) l[k].1 (gt (add q (l.take k)) l[k].1 + l[k].2) := by rw [List.take_succ_eq_append_getElem hqk, add_one]
        have hfit := ok_fits hok hqk
        have hlen : (add q (l.take k)).length < maxLen := by
          have := add_len (l.take k) q
          rw [List.length_take] at this
          unfold maxLen
          omega
        generalize l[k] = dk at he0 he1 hdk hnext hfit
        have f0 := he0 _ (Grow.refl _)
        have f1 := he1 _ (Grow.refl _)
        have hga : Grow wr (wr.alloc (.cells #[.string dk.1, .int .u64 (dk.2 : Int)] 34)) := (Below.refl _ wr).alloc (Nat.le_refl _) _
        have hBd0 := Blk.made wr 34 #[.string dk.1, .int .u64 (dk.2 : Int)]
        obtain ⟨wa, HA⟩ : ∃ wa : World, Hid (wa = wr.alloc (.cells #[.string dk.1, .int .u64 (dk.2 : Int)] 34)) := ⟨_, rfl⟩
        obtain ⟨x, HX⟩ : ∃ x : Nat, Hid (x = wr.heap.size) := ⟨_, rfl⟩
        have hgwa : Grow wr wa := HA.out ▸ hga
        have hBd : Blk wa x 34 #[.string dk.1, .int .u64 (dk.2 : Int)] := by rw [HA.out, HX.out]; exact hBd0
        have hBw := hBr.grow hgwa
        have hMa := hM.grow hgwa
        obtain ⟨gq, HGQ⟩ : ∃ gq : Nat, Hid (gq = gt (add q (l.take k)) dk.1) := ⟨_, rfl⟩
        rw [← HGQ.out] at hnext hfit
        have hlq : ∀ w1, Grow wa w1 → (Instr.lookup 43 (.map (some b)) (.string dk.1) false).run Try.prog w1 = .ok (.int .u64 (gq : Int)) w1 := fun w1 hg => by
          have := SMap.look1 smT (hMa.grow hg) dk.1 hdk.1
          rwa [fq_get, ← HGQ.out] at this
        have hadd : ∀ w1 : World, Calls Try.prog 19 #[.int .u64 (gq : Int), .int .u64 (dk.2 : Int)] w1 fun e w' => e = .returned (.int .u64 ((gq + dk.2 : Nat) : Int)) ∧ w1 = w' := fun w1 => by
          have := eAdd_any w1 gq dk.2 (by omega) (by omega)
          rwa [if_pos hfit] at this
        clear hga hBd0 hM
        go_wp2_with fail
        rw [← HA.out, ← HX.out]
        refine wp_region_flow 16 37 [(15, .inl (.int .u64 ((gq + dk.2 : Nat) : Int)))] rfl rfl (by kernel_rfl) (by kernel_rfl) (by kernel_rfl) ?_ ?_
        · intro x hx φ he
          simp only [List.mem_cons, List.not_mem_nil, or_false] at hx
          rcases hx with rfl <;> cases he
        intro ops' A' K' T hops hA' hK hT
        refine fl_mv 20 (by rfl) (by decide) (wanted_none (by rfl)) (by rw [hK.out]; rfl) (by rfl) _ (Or.inl (by rfl)) (.pointer (some ⟨s, 0, none⟩)) (by rfl) ?_
        refine fl_op1 21 (by rfl) (by decide) (wanted_none (by rfl)) (by rw [hK.out]; rfl) (by rfl) (.tmp 20) (.pointer (some ⟨s, 0, none⟩)) (by rfl) (.pointer (some ⟨s, 0, none⟩)) (fun ρ h1 kk w1 (hg : Grow _ w1) hb hf => by go_simp) ?_
        refine fl_op1 22 (by rfl) (by decide) (wanted_none (by rfl)) (by rw [hK.out]; rfl) (by rfl) (.tmp 21) (.pointer (some ⟨s, 0, none⟩)) (by rfl) (.pointer (some ⟨s, 0, none⟩)) (fun ρ h1 kk w1 (hg : Grow _ w1) hb hf => by go_simp) ?_
        refine fl_op1 23 (by rfl) (by decide) (wanted_none (by rfl)) (by rw [hK.out]; rfl) (by rfl) (.tmp 22) (.pointer (some ⟨s, 0, none⟩)) (by rfl) (.map (some b)) (fun ρ h1 kk w1 (hg : Grow _ w1) hb hf => by have c := (hBw.grow hg).cell 0; go_simp) ?_
        refine fl_op1 24 (by rfl) (by decide) (wanted_none (by rfl)) (by rw [hK.out]; rfl) (by rfl) (.tmp 7) (.pointer (some ⟨x, 0, none⟩)) (by rfl) (.pointer (some ⟨x, 0, none⟩)) (fun ρ h1 kk w1 (hg : Grow _ w1) hb hf => by go_simp) ?_
        refine fl_op1 25 (by rfl) (by decide) (wanted_none (by rfl)) (by rw [hK.out]; rfl) (by rfl) (.tmp 24) (.pointer (some ⟨x, 0, none⟩)) (by rfl) (.string dk.1) (fun ρ h1 kk w1 (hg : Grow _ w1) hb hf => by have c := (hBd.grow hg).cell 0; go_simp) ?_
        refine fl_mv 26 (by rfl) (by decide) (wanted_none (by rfl)) (by rw [hK.out]; rfl) (by rfl) _ (Or.inl (by rfl)) (.pointer (some ⟨s, 0, none⟩)) (by rfl) ?_
        refine fl_op1 27 (by rfl) (by decide) (wanted_none (by rfl)) (by rw [hK.out]; rfl) (by rfl) (.tmp 26) (.pointer (some ⟨s, 0, none⟩)) (by rfl) (.pointer (some ⟨s, 0, none⟩)) (fun ρ h1 kk w1 (hg : Grow _ w1) hb hf => by go_simp) ?_
        refine fl_op1 28 (by rfl) (by decide) (wanted_none (by rfl)) (by rw [hK.out]; rfl) (by rfl) (.tmp 27) (.pointer (some ⟨s, 0, none⟩)) (by rfl) (.pointer (some ⟨s, 0, none⟩)) (fun ρ h1 kk w1 (hg : Grow _ w1) hb hf => by go_simp) ?_
        refine fl_op1 29 (by rfl) (by decide) (wanted_none (by rfl)) (by rw [hK.out]; rfl) (by rfl) (.tmp 28) (.pointer (some ⟨s, 0, none⟩)) (by rfl) (.map (some b)) (fun ρ h1 kk w1 (hg : Grow _ w1) hb hf => by have c := (hBw.grow hg).cell 0; go_simp) ?_
        refine fl_op1 30 (by rfl) (by decide) (wanted_none (by rfl)) (by rw [hK.out]; rfl) (by rfl) (.tmp 7) (.pointer (some ⟨x, 0, none⟩)) (by rfl) (.pointer (some ⟨x, 0, none⟩)) (fun ρ h1 kk w1 (hg : Grow _ w1) hb hf => by go_simp) ?_
        refine fl_op1 31 (by rfl) (by decide) (wanted_none (by rfl)) (by rw [hK.out]; rfl) (by rfl) (.tmp 30) (.pointer (some ⟨x, 0, none⟩)) (by rfl) (.string dk.1) (fun ρ h1 kk w1 (hg : Grow _ w1) hb hf => by have c := (hBd.grow hg).cell 0; go_simp) ?_
        refine fl_op2 32 (by rfl) (by decide) (wanted_none (by rfl)) (by rw [hK.out]; rfl) (by rfl) (.tmp 29) (.tmp 31) (.map (some b)) (.string dk.1) (by rfl) (by rfl) (.int .u64 (gq : Int)) (fun ρ h1 h2 kk w1 (hg : Grow _ w1) hb hf => by have hl := hlq w1 hg; go_simp) ?_
        refine fl_op1 33 (by rfl) (by decide) (wanted_none (by rfl)) (by rw [hK.out]; rfl) (by rfl) (.tmp 7) (.pointer (some ⟨x, 0, none⟩)) (by rfl) (.pointer (some ⟨x, 1, none⟩)) (fun ρ h1 kk w1 (hg : Grow _ w1) hb hf => by go_simp) ?_
        refine fl_op1 34 (by rfl) (by decide) (wanted_none (by rfl)) (by rw [hK.out]; rfl) (by rfl) (.tmp 33) (.pointer (some ⟨x, 1, none⟩)) (by rfl) (.int .u64 (dk.2 : Int)) (fun ρ h1 kk w1 (hg : Grow _ w1) hb hf => by have c := (hBd.grow hg).cell 1; go_simp) ?_
        refine fl_call 35 (by rfl) (by decide) (wanted_none (by rfl)) (.int .u64 ((gq + dk.2 : Nat) : Int)) (by rw [hK.out]; rfl) 19 _ _ (by rfl) [.int .u64 (gq : Int), .int .u64 (dk.2 : Int)] (by rfl) k19 (fun kk w1 (hg : Grow _ w1) hb hf => calls_behind (by rfl) (by exact grew_same (hadd w1))) ?_
        refine fl_end (fun _ _ w1 (hg : Grow _ w1) _ hfacts => hT _ _ ?_)
        clear hops hA' hK hT
        simp only [putsL, Act.put, List.setIfInBounds_toArray, List.set_cons_zero, List.set_cons_succ, List.drop_succ_cons, List.drop_zero]
        clear hfacts hlq hadd
        obtain ⟨w5, hput, hm5, hj5⟩ := mapq_put (hMa.grow hg) hdk.1 hfit hlen
        rw [← hnext] at hm5
        rw [Int.natCast_add] at hput
        have hjj := hj.trans ((Just.of_grow (V := fun c => c = b) (hgwa.trans hg)).trans hj5)
        go_wp2_with fail
        go_roundw
        case rel => exact ⟨k + 1, by omega, by go_num, hm5, hjj⟩
        case measure => simp [intOf]; omega
      · obtain rfl : k = n := by omega
        have hkt : decide ((k : Int) < (k : Int)) = false := decide_eq_false (by omega)
        rw [List.take_of_length_le (by omega)] at hM
        go_wp2_with fail
        go_ret
        have hs := hj.size
        exact ⟨rfl, ⟨.inl h1, ok_right h2 (fun d hd' => (hd d hd').1) hok, b, .inl h3, h4, hBr, hM⟩, (Just.of_grow hg1).trans (hj.imp fun c hc => by rw [hc]; exact h3)⟩
  · rw [hE1 he]
    have heb : (E != 0) = true := by simpa using he
    go_enter Try.func10, Try.ntmps10
    go_wp2_with fail
    refine hm.mono ?_
    rintro e w1 ⟨rfl, hg1⟩
    have hS := hS1 w1 hg1
    clear hm hE0 hE1 hS1
    go_wp2_with fail
    go_ret
    exact ⟨rfl, hS.wide fun b hb => .inl hb, Just.of_grow hg1⟩
end Go.Proofs.Ytnijeemldhmkjaa
