/- The answer's Add. -/
import Derived.Test.YtnijeemldhmkjaaCrmay
import Derived.Test.YtnijeemldhmkjaaCadd
import Derived.Test.YtnijeemldhmkjaaMore
namespace Go.Proofs.Ytnijeemldhmkjaa
open Go.RowKit Go.Hop
theorem dread_made {w : World} {a : Dl} {o : Oper} {ρ : Operand → Value} {x : Operand} (ho : o.op = .buildSlice 27 1 #[(0, x)]) (hx : ρ x = .agg #[.string a.1, .int .u64 (a.2 : Int)]) :
    flowUpon Try.prog (fun u w' => Grow w w' ∧ ReadF 2 1 (dcell a) u w') ((execOp ρ o).run Try.prog w) := by
  obtain ⟨dst, op, ty, pos, after, guard⟩ := o
  simp only at ho
  subst ho
  have hg : Grow w (w.alloc (.cells #[.string a.1, .int .u64 (a.2 : Int)] 34)) := (Below.refl _ w).alloc (Nat.le_refl _) _
  refine flowUpon_value (u := .slice (some ⟨w.heap.size, 0, none⟩) 1 1) (w := w.alloc (.cells #[.string a.1, .int .u64 (a.2 : Int)] 34)) (by go_simp) ⟨hg, some ⟨w.heap.size, 0, none⟩, 1, rfl, ?_⟩
  exact Reads.more (reads_laid w #[.string a.1, .int .u64 (a.2 : Int)] 34 (0, 0) (n := 1) (size := 2) rfl _ rfl) (by simp)
def TwoStX (B m1 m2 : Nat) (st : List (Nat × Nat)) : Stages where
  G := Just (FromB B)
  T := fun _ => Just (FromB B)
  I := fun _ _ => True
  muts := [m1, m2]
  stage := fun j => if j = m1 then some 0 else if j = m2 then some 1 else st.lookup j
theorem twoStX_ok (B m1 m2 : Nat) (st : List (Nat × Nat)) : (TwoStX B m1 m2 st).Ok := ⟨fun _ _ _ => Just.trans, fun _ _ h => Just.of_grow h, fun _ _ _ h => h, fun _ _ _ _ _ => trivial⟩
theorem just_new {V U : Nat → Prop} {w wa wb : World} (hj : Just V w wa) (hk : Just U wa wb) (hU : ∀ b, U b → w.heap.size ≤ b ∨ V b) : Just V w wb :=
  ⟨hk.os.trans hj.os, hk.tape.trans hj.tape, hk.output.trans hj.output, Nat.le_trans hj.size hk.size, fun b hb hv => (hk.block b (Nat.lt_of_lt_of_le hb hj.size) (fun hu => (hU b hu).elim (fun h => by omega) hv)).trans (hj.block b hb hv)⟩
theorem put_in {q : Sm} (hs : Srt q) {x : ByteArray} {v C vj : Nat} (hC : q[C]? = some (x, vj)) : put q x v = q.set C (x, v) := by
  obtain ⟨hlt, e⟩ := List.getElem?_eq_some_iff.1 hC
  have hl : (lk q x).isSome = true := by
    have h := srt_lk hs (show (x, vj) ∈ q from e ▸ List.getElem_mem hlt)
    dsimp only at h
    rw [h]; rfl
  unfold put
  rw [if_pos hl]
  refine List.ext_getElem (by simp) fun i h1 h2 => ?_
  rw [List.getElem_map, List.getElem_set]
  have hil : i < q.length := by simpa using h1
  by_cases hi : C = i
  · subst hi
    rw [if_pos rfl, if_pos (by rw [e])]
  · rw [if_neg hi, if_neg]
    intro hx
    rcases Nat.lt_or_gt_of_ne hi with h | h
    · have := (List.pairwise_iff_getElem.1 hs) C i hlt hil h
      rw [e, hx, slt_irr] at this; cases this
    · have := (List.pairwise_iff_getElem.1 hs) i C hil hlt h
      rw [e, hx, slt_irr] at this; cases this
theorem put_out {q : Sm} {x : ByteArray} {v : Nat} (hx : lk q x = none) : put q x v = q.take (cutA q x).length ++ (x, v) :: q.drop (cutA q x).length := by
  have h := cut_all q x
  have key : ∀ a b : Sm, a ++ b = q → q.take a.length = a ∧ q.drop a.length = b := by
    rintro a b rfl
    exact ⟨List.take_left, List.drop_left⟩
  obtain ⟨h1, h2⟩ := key _ _ h
  unfold put
  rw [hx, h1, h2]
  rfl
set_option maxRecDepth 100000 in
set_option maxHeartbeats 2000000 in
theorem rAdd_any (w : World) (r : Nat) (q : Sm) (V : Nat → Prop) (h : RSums r q w V) (hV : ∀ b, V b → b < w.heap.size) (A : Option Addr) (n c : Nat) (l : List Dl) (D : Nat → Prop) (hl : In w D 2 A n (dcells l)) (hDl : ∀ b, D b → b < w.heap.size) (hDV : ∀ b, D b → ¬ V b) (hd : ∀ d ∈ l, d.1.size ≤ maxLen ∧ d.2 ≤ M64) (hn : n ≤ 1000000) (hq : q.length ≤ 16) :
    Calls Try.prog 26 #[.pointer (some ⟨r, 0, none⟩), .slice A n c] w fun e w' => e = .returned (.int .i64 (mayE q l)) ∧ RSums r (addM q l) w' (Ext V w w') ∧ Just V w w' := by
  have hln : l.length = n := by have := hl.1; rw [dcells_len] at this; omega
  have hm := rMay_any w r q V h hV A n c l D hl hDl hd (by omega) hq
  have hS1 := fun w1 (hg : Grow w w1) => RSums.framed r q w w1 V h fun b hb => hg.block b (hV b hb)
  have hVr := h.1
  have hrw := hV r hVr
  obtain ⟨E, HE⟩ : ∃ E : Int, Hid (E = mayE q l) := ⟨_, rfl⟩
  have hE0 : E = 0 → addM q l = add q l := fun h => by unfold addM; rw [← HE.out, if_pos h]
  have hE1 : E ≠ 0 → addM q l = q := fun h => by unfold addM; rw [← HE.out, if_neg h]
  rw [← HE.out] at hm ⊢
  by_cases he : E = 0
  · have hok := mayE_ok (HE.out.symm.trans he)
    rw [hE0 he]
    subst he
    go_enter Try.func26, Try.ntmps26
    go_wp2_with fail
    refine hm.mono ?_
    rintro e w1 ⟨rfl, hg1⟩
    clear hm hE0 hE1
    have hS0 := hS1 w1 hg1
    have hl1 := hl.grow hg1
    clear hS1
    go_wp2_with fail
    go_loopw [18] (fun i wr => ∃ k : Nat, k ≤ n ∧ i = .int .i64 (k : Int) ∧ RSums r (add q (l.take k)) wr (Ext V w wr) ∧ Just V w wr) (fun i _ => n - (intOf i).toNat)
    case atStart => exact ⟨0, by omega, rfl, hS0.wide fun b hb => .inl hb, Just.of_grow hg1⟩
    case round =>
      clear hS0 hl1 hg1
      obtain ⟨k, hkn, rfl, hS, hj⟩ := hrel
      have hlr : In wr D 2 A n (dcells l) := hl.just hj fun c hc e => hDV c hc e
      by_cases hk : k < n
      · have hkt : decide ((k : Int) < (n : Int)) = true := decide_eq_true (by omega)
        obtain ⟨ad0, hqk, rfl, he0, he1⟩ := del_at hlr hk
        have hdk := hd _ (List.getElem_mem hqk)
        have hnext : add q (l.take (k + 1)) = put (add q (l.take k)) l[k].1 (gt (add q (l.take k)) l[k].1 + l[k].2) := by rw [List.take_succ_eq_append_getElem hqk, add_one]
        have hfit := ok_fits hok hqk
        have hlen : (add q (l.take (k + 1))).length ≤ 1048576 := by
          have := add_len (l.take (k + 1)) q
          rw [List.length_take] at this
          omega
        generalize l[k] = dk at he0 he1 hdk hnext hfit
        rw [hnext] at hlen
        generalize add q (l.take k) = Q at hS hnext hfit hlen
        have f0 := he0 _ (Grow.refl _)
        have f1 := he1 _ (Grow.refl _)
        have hVr2 : ∀ b, Ext V w wr b → b < wr.heap.size := fun b hb => by
          rcases hb with hb | hb
          · exact Nat.lt_of_lt_of_le (hV b hb) hj.size
          · exact hb.2
        have hswr := hj.size
        have hga : Grow wr (wr.alloc (.cells #[.string dk.1, .int .u64 (dk.2 : Int)] 34)) := (Below.refl _ wr).alloc (Nat.le_refl _) _
        have hBd0 := Blk.made wr 34 #[.string dk.1, .int .u64 (dk.2 : Int)]
        obtain ⟨wa, HA⟩ : ∃ wa : World, Hid (wa = wr.alloc (.cells #[.string dk.1, .int .u64 (dk.2 : Int)] 34)) := ⟨_, rfl⟩
        obtain ⟨x, HX⟩ : ∃ x : Nat, Hid (x = wr.heap.size) := ⟨_, rfl⟩
        have hgwa : Grow wr wa := HA.out ▸ hga
        have hBd : Blk wa x 34 #[.string dk.1, .int .u64 (dk.2 : Int)] := by rw [HA.out, HX.out]; exact hBd0
        have hrx : r < x := by rw [HX.out]; exact hVr2 r (.inl hVr)
        have hSa : RSums r Q wa (Ext V w wr) := RSums.framed r Q wr wa _ hS fun b hb => hgwa.block b (hVr2 b hb)
        have hat := rAt_any wa r Q _ hSa dk.1
        have hcut := Lib.hid (cut_at hS.2.1.srt dk.1)
        have hQR := hS.2.1
        have hCle := cutA_le Q dk.1
        have hout := Lib.hid (put_out (q := Q) (x := dk.1) (v := gt Q dk.1 + dk.2))
        obtain ⟨C, HC⟩ : ∃ C : Nat, Hid (C = (cutA Q dk.1).length) := ⟨_, rfl⟩
        have hRn := hQR.put hdk.1 hfit
        rw [← hnext] at hRn
        rw [← HC.out] at hat hCle hout hcut
        have k0 := hBd.cell 0
        clear he0 he1 hS hga hBd0
        by_cases hin : (lk Q dk.1).isSome = true
        · obtain ⟨dj, hqj, hdx⟩ := hcut.out.1 hin
          obtain ⟨xj, vj⟩ := dj
          dsimp only at hdx
          have hgv : gt Q dk.1 = vj := by
            have := srt_lk hQR.srt (List.mem_of_getElem? hqj)
            rw [hdx] at this
            unfold Proofs.Ytnijeemldhmkjaa.gt
            rw [this]; rfl
          rw [hgv] at hfit hnext hlen
          rw [hdx] at hqj
          rw [put_in hQR.srt hqj] at hnext
          rw [hin] at hat
          clear hgv hdx hcut hout HC hin hlen
          go_wp2_with fail
          rw [← HA.out, ← HX.out]
          refine hat.mono ?_
          rintro e w2 ⟨rfl, hg2⟩
          have hS2 : RSums r Q w2 (Ext V w wr) := RSums.framed r Q wa w2 _ hSa fun b hb => hg2.block b (Nat.lt_of_lt_of_le (hVr2 b hb) hgwa.size)
          obtain ⟨_, _, hQl, v2, hB2, hO2⟩ := hS2
          obtain ⟨A2, c2, rfl, hI2, hn2, hm2⟩ := hO2.in_
          have hBd2 := hBd.grow hg2
          have hj2 : Just V w w2 := hj.trans (Just.of_grow (hgwa.trans hg2))
          clear hat hSa k0
          have cr2 := hB2.cell 0
          have hmo := made_own w2 34 2
          have hga2 : Grow w2 (w2.alloc (.cells #[] 34)) := (Below.refl _ w2).alloc (Nat.le_refl _) _
          have crA := (hB2.grow hga2).cell 0
          go_wp2_with (at_builtin; refine stay ?_)
          refine stay_out ?_
          refine wpList_own deltaE _ rfl (.tmp 31) (.tmp 35) rfl (.slice (some ⟨w2.heap.size, 0, none⟩) 0 0) 0 [] rfl hmo (w2.heap.size + 1) A2 Q.length c2 (dcells Q) rfl ((hI2.grow hga2).reads.more (by simp)) (dcells_one _) (by omega) ?_
          intro v5 w5 hO5 hj5
          obtain ⟨hO5, hg5⟩ := own_new hO5 hj5
          rw [Nat.zero_add, List.nil_append] at hO5
          clear hmo hj5 crA cr2 hga2
          obtain ⟨N, HN⟩ : ∃ N : Nat, Hid (N = Q.length) := ⟨_, rfl⟩
          obtain ⟨hCl, hqe⟩ := List.getElem?_eq_some_iff.1 hqj
          rw [← HN.out] at hO5 hQl hCl
          obtain ⟨A5, c9, rfl, hI5, hn5, hm5⟩ := hO5.in_
          obtain ⟨g, rfl, hgl, hgV, _⟩ := own_ptr hO5 (by omega)
          have hB5 := hB2.grow hg5
          have hBd5 := hBd2.grow hg5
          have fr5 := hB5.frozen 0
          have cr5 := hB5.cell 0
          have hrl2 := hB2.lt
          have hrg : r ≠ g := fun e => by have := hgV.1; omega
          have hxl := hBd2.lt
          have hxg : x ≠ g := fun e => by have := hgV.1; omega
          have hxr : x ≠ r := fun e => by omega
          go_wp2_with fail
          obtain ⟨w6, H6⟩ : ∃ w6 : World, Hid (w6 = w5.setCell ⟨r, 0, none⟩ (.slice (some ⟨g, 0, none⟩) N c9)) := ⟨_, rfl⟩
          have hB6 : Blk w6 r 58 #[.slice (some ⟨g, 0, none⟩) N c9] := by rw [H6.out]; exact hB5.put 0 _
          have hj6 : Just (fun b => b = r) w5 w6 := by rw [H6.out]; exact just_at w5 r 0 _
          have hBd6 : Blk w6 x 34 #[.string dk.1, .int .u64 (dk.2 : Int)] := hj6.blk hBd5 hxr
          have hO6 : Own w6 (New w2 w5) 34 2 (.slice (some ⟨g, 0, none⟩) N c9) N (dcells Q) := hO5.keep fun b hb => hj6.block b hb.2 (fun e => by have := hb.1; omega)
          have hs6 := hj6.size
          obtain ⟨_, _, e, _, f1⟩ := del_at (hI5.just hj6 (fun b hb e => by have := hb.1; omega)) hCl
          injection e with e
          subst e
          rw [hqe] at f1
          dsimp only at f1
          have f1 : ∀ w1, Grow w6 w1 → w1.cell? ⟨g, C * 2 + 1, none⟩ = some (.int .u64 (vj : Int)) := fun w1 hg => by
            have h := f1 w1 hg
            by_cases h0 : C * 2 = 0
            · simpa [Addr.add, h0] using h
            · simpa [Addr.add, h0] using h
          rw [← H6.out]
          unfold M64 at hfit
          have hsum := u64_add hfit
          have hCN : ¬ N ≤ C := by omega
          clear hqe hI5 hI2 hO2 hB2 hB5 hBd2 hBd5 fr5 cr5
          refine wp_region_flow 18 79 [] rfl rfl (by kernel_rfl) (by kernel_rfl) (by kernel_rfl) ?_ ?_
          · intro x hx φ he
            cases hx
          intro ops' A' K' T hops hA' hK hT
          refine fl_mv 39 (by rfl) (by decide) (wanted_none (by rfl)) (by rw [hK.out]; rfl) (by rfl) _ (Or.inl (by rfl)) (.pointer (some ⟨r, 0, none⟩)) (by rfl) ?_
          refine fl_op1 40 (by rfl) (by decide) (wanted_none (by rfl)) (by rw [hK.out]; rfl) (by rfl) (.tmp 39) (.pointer (some ⟨r, 0, none⟩)) (by rfl) (.pointer (some ⟨r, 0, none⟩)) (fun ρ h1 kk w1 (hg : Grow _ w1) hb hf => by go_simp) ?_
          refine fl_op1 41 (by rfl) (by decide) (wanted_none (by rfl)) (by rw [hK.out]; rfl) (by rfl) (.tmp 40) (.pointer (some ⟨r, 0, none⟩)) (by rfl) (.pointer (some ⟨r, 0, none⟩)) (fun ρ h1 kk w1 (hg : Grow _ w1) hb hf => by go_simp) ?_
          refine fl_op1 42 (by rfl) (by decide) (wanted_none (by rfl)) (by rw [hK.out]; rfl) (by rfl) (.tmp 41) (.pointer (some ⟨r, 0, none⟩)) (by rfl) (.slice (some ⟨g, 0, none⟩) N c9) (fun ρ h1 kk w1 (hg : Grow _ w1) hb hf => by have c := (hB6.grow hg).cell 0; go_simp) ?_
          refine fl_mv 43 (by rfl) (by decide) (wanted_none (by rfl)) (by rw [hK.out]; rfl) (by rfl) _ (Or.inl (by rfl)) (.int .i64 (C : Int)) (by rfl) ?_
          refine fl_mv 44 (by rfl) (by decide) (wanted_none (by rfl)) (by rw [hK.out]; rfl) (by rfl) _ (Or.inl (by rfl)) (.pointer (some ⟨r, 0, none⟩)) (by rfl) ?_
          refine fl_op1 45 (by rfl) (by decide) (wanted_none (by rfl)) (by rw [hK.out]; rfl) (by rfl) (.tmp 44) (.pointer (some ⟨r, 0, none⟩)) (by rfl) (.pointer (some ⟨r, 0, none⟩)) (fun ρ h1 kk w1 (hg : Grow _ w1) hb hf => by go_simp) ?_
          refine fl_op1 46 (by rfl) (by decide) (wanted_none (by rfl)) (by rw [hK.out]; rfl) (by rfl) (.tmp 45) (.pointer (some ⟨r, 0, none⟩)) (by rfl) (.pointer (some ⟨r, 0, none⟩)) (fun ρ h1 kk w1 (hg : Grow _ w1) hb hf => by go_simp) ?_
          refine fl_op1 47 (by rfl) (by decide) (wanted_none (by rfl)) (by rw [hK.out]; rfl) (by rfl) (.tmp 46) (.pointer (some ⟨r, 0, none⟩)) (by rfl) (.slice (some ⟨g, 0, none⟩) N c9) (fun ρ h1 kk w1 (hg : Grow _ w1) hb hf => by have c := (hB6.grow hg).cell 0; go_simp) ?_
          refine fl_mv 48 (by rfl) (by decide) (wanted_none (by rfl)) (by rw [hK.out]; rfl) (by rfl) _ (Or.inl (by rfl)) (.int .i64 (C : Int)) (by rfl) ?_
          refine fl_op2 49 (by rfl) (by decide) (wanted_none (by rfl)) (by rw [hK.out]; rfl) (by rfl) (.tmp 47) (.tmp 48) (.slice (some ⟨g, 0, none⟩) N c9) (.int .i64 (C : Int)) (by rfl) (by rfl) (.pointer (some ⟨g, C * 2, none⟩)) (fun ρ h1 h2 kk w1 (hg : Grow _ w1) hb hf => by go_simp; try (intro hlt; omega)) ?_
          refine fl_op1 50 (by rfl) (by decide) (wanted_none (by rfl)) (by rw [hK.out]; rfl) (by rfl) (.tmp 49) (.pointer (some ⟨g, C * 2, none⟩)) (by rfl) (.pointer (some ⟨g, C * 2 + 1, none⟩)) (fun ρ h1 kk w1 (hg : Grow _ w1) hb hf => by go_simp) ?_
          refine fl_op1 51 (by rfl) (by decide) (wanted_none (by rfl)) (by rw [hK.out]; rfl) (by rfl) (.tmp 50) (.pointer (some ⟨g, C * 2 + 1, none⟩)) (by rfl) (.int .u64 (vj : Int)) (fun ρ h1 kk w1 (hg : Grow _ w1) hb hf => by have e1 := f1 w1 hg; go_simp) ?_
          refine fl_op1 52 (by rfl) (by decide) (wanted_none (by rfl)) (by rw [hK.out]; rfl) (by rfl) (.tmp 7) (.pointer (some ⟨x, 0, none⟩)) (by rfl) (.pointer (some ⟨x, 1, none⟩)) (fun ρ h1 kk w1 (hg : Grow _ w1) hb hf => by go_simp) ?_
          refine fl_op1 53 (by rfl) (by decide) (wanted_none (by rfl)) (by rw [hK.out]; rfl) (by rfl) (.tmp 52) (.pointer (some ⟨x, 1, none⟩)) (by rfl) (.int .u64 (dk.2 : Int)) (fun ρ h1 kk w1 (hg : Grow _ w1) hb hf => by have c := (hBd6.grow hg).cell 1; go_simp) ?_
          refine fl_op2 54 (by rfl) (by decide) (wanted_none (by rfl)) (by rw [hK.out]; rfl) (by rfl) (.tmp 51) (.tmp 53) (.int .u64 (vj : Int)) (.int .u64 (dk.2 : Int)) (by rfl) (by rfl) (.int .u64 ((vj + dk.2 : Nat) : Int)) (fun ρ h1 h2 kk w1 (hg : Grow _ w1) hb hf => by go_simp) ?_
          refine fl_op2 55 (by rfl) (by decide) (wanted_none (by rfl)) (by rw [hK.out]; rfl) (by rfl) (.tmp 42) (.tmp 43) (.slice (some ⟨g, 0, none⟩) N c9) (.int .i64 (C : Int)) (by rfl) (by rfl) (.pointer (some ⟨g, C * 2, none⟩)) (fun ρ h1 h2 kk w1 (hg : Grow _ w1) hb hf => by go_simp; try (intro hlt; omega)) ?_
          refine fl_op1 56 (by rfl) (by decide) (wanted_none (by rfl)) (by rw [hK.out]; rfl) (by rfl) (.tmp 55) (.pointer (some ⟨g, C * 2, none⟩)) (by rfl) (.pointer (some ⟨g, C * 2 + 1, none⟩)) (fun ρ h1 kk w1 (hg : Grow _ w1) hb hf => by go_simp) ?_
          refine fl_end (fun _ _ w1 (hg : Grow _ w1) _ hfacts => hT _ _ ?_)
          clear hops hA' hK hT
          simp only [putsL, Act.put, List.setIfInBounds_toArray, List.set_cons_zero, List.set_cons_succ, List.drop_succ_cons, List.drop_zero]
          clear hfacts
          have hO7 := hO6.grow (fun b hb => Nat.lt_of_lt_of_le hb.2 hs6) hg
          obtain ⟨_, eg, _, _, hfz1⟩ := own_ptr hO7 (by omega)
          injection eg with eg
          injection eg with eg
          subst eg
          have hfz1 := hfz1 (C * 2 + 1)
          have hc1 := f1 w1 hg
          have hO8 := (own_set hO7 (j := C * 2 + 1) (by rw [dcells_len, ← HN.out]; omega) (.int .u64 ((vj + dk.2 : Nat) : Int))).1
          rw [← dcells_set Q C (dk.1, vj) (vj + dk.2) hqj] at hO8
          have hs1 := hg.size
          have hs5 := hg5.size
          have hj7 : Just V w w1 := (just_new (just_new hj2 (Just.of_grow (V := fun _ => False) hg5) (fun _ h => h.elim)) hj6 (fun b hb => .inr (by rw [hb]; exact hVr))).trans (Just.of_grow hg)
          have hs7 := hj7.size
          have hs2 := hj2.size
          have hj8 : Just V w (w1.setCell ⟨g, C * 2 + 1, none⟩ (.int .u64 ((vj + dk.2 : Nat) : Int))) := just_new hj7 (just_at w1 g _ _) (fun b hb => .inl (by rw [hb]; have := hgV.1; omega))
          have hB8 : Blk (w1.setCell ⟨g, C * 2 + 1, none⟩ (.int .u64 ((vj + dk.2 : Nat) : Int))) r 58 #[.slice (some ⟨g, 0, none⟩) N c9] := (just_at w1 g (C * 2 + 1) (.int .u64 ((vj + dk.2 : Nat) : Int))).blk (hB6.grow hg) hrg
          have hl8 : (Q.set C (dk.1, vj + dk.2)).length = N := List.length_set.trans HN.out.symm
          rw [← hl8] at hB8 hO8
          rw [← hnext] at hB8 hO8 hl8
          go_wp2_with fail
          go_roundw
          case rel =>
            refine ⟨k + 1, by omega, by go_num, ⟨.inl hVr, hRn, by omega, _, hB8, hO8.mono fun b hb => ⟨.inr ⟨by have := hb.1; omega, by rw [setCell_size]; have := hb.2; omega⟩, fun e => by have := hb.1; omega⟩⟩, hj8⟩
          case measure => simp [intOf]; omega
        · have hinf : (lk Q dk.1).isSome = false := by simpa using hin
          have hnone : lk Q dk.1 = none := by simpa using hin
          have hput := hout.out hnone
          have hg0 : gt Q dk.1 = 0 := by unfold Proofs.Ytnijeemldhmkjaa.gt; rw [hnone]; rfl
          rw [hg0, Nat.zero_add] at hput hfit hnext hlen
          rw [hinf] at hat
          clear hcut hout HC hin hinf hnone hg0
          go_wp2_with fail
          rw [← HA.out, ← HX.out]
          refine hat.mono ?_
          rintro e w2 ⟨rfl, hg2⟩
          have hS2 : RSums r Q w2 (Ext V w wr) := RSums.framed r Q wa w2 _ hSa fun b hb => hg2.block b (Nat.lt_of_lt_of_le (hVr2 b hb) hgwa.size)
          obtain ⟨_, _, hQl, v2, hB2, hO2⟩ := hS2
          obtain ⟨A0, c0, rfl, hI0, hnc, hcm⟩ := hO2.in_
          have hBd2 := hBd.grow hg2
          have hj2 : Just V w w2 := hj.trans (Just.of_grow (hgwa.trans hg2))
          have hs2 := hj2.size
          have hrl2 := hB2.lt
          have hxl := hBd2.lt
          clear hat hSa k0
          obtain ⟨N, HN⟩ : ∃ N : Nat, Hid (N = Q.length) := ⟨_, rfl⟩
          rw [← HN.out] at hB2 hO2 hI0 hnc hQl hCle
          obtain ⟨B, HBd⟩ : ∃ B : Nat, Hid (B = w2.heap.size) := ⟨_, rfl⟩
          have HB : ∀ w1, Just (FromB B) w2 w1 → B ≤ w1.heap.size := fun w1 h => HBd.out ▸ h.size
          have hrB : ¬ FromB B r := fun h => by have h2 : B ≤ r := h; have := HBd.out; omega
          have hxB : ¬ FromB B x := fun h => by have h2 : B ≤ x := h; have := HBd.out; omega
          have hsw2 : wr.heap.size ≤ w2.heap.size := (hgwa.trans hg2).size
          have hDB : ∀ b, (Ext V w wr b ∧ b ≠ r) → ¬ FromB B b := fun b hb h => by have := hVr2 b hb.1; have h2 : B ≤ b := h; have := HBd.out; omega
          obtain ⟨A2, HA2⟩ : ∃ A2 : Option Addr, Hid (A2 = if c0 = C then A0 else A0.map (·.add (C * 2))) := ⟨_, rfl⟩
          have hI2 : ∀ w1, Just (FromB B) w2 w1 → Reads w1 w1.heap.size 2 A2 (N - C) ((dcells Q).drop (C * 2)) := fun w1 hj => by
            have := (hI0.just hj hDB).reads.cut (k := C) (by omega) hnc
            rwa [← HA2.out] at this
          have hI1 : ∀ w1, Just (FromB B) w2 w1 → Reads w1 w1.heap.size 2 A0 C ((dcells Q).take (C * 2)) := fun w1 hj => ((hI0.just hj hDB).take (by omega)).reads
          have hone1 : ∀ u ∈ (dcells Q).take (C * 2), u.oneCell' = true := fun u hu => dcells_one Q u (List.mem_of_mem_take hu)
          have hone2 : ∀ u ∈ (dcells Q).drop (C * 2), u.oneCell' = true := fun u hu => dcells_one Q u (List.mem_of_mem_drop hu)
          have hck : ¬ c0 < C := by omega
          have hnk : ¬ N < C := by omega
          go_wp2_with fail
          refine wp_region_reg rfl ?_
          refine reg_flow (TwoStX B 11 18 [(8, 0)]) (twoStX_ok B 11 18 _) 0 21 79 [(1, .inr (KF 0 (EmptyF B 34 2))), (8, .inr (KF 0 (OwnF B 34 2 C ((dcells Q).take (C * 2))))), (10, .inr (KF 0 (ReadF 2 1 (dcell dk)))), (11, .inr (KF 1 (OwnF B 34 2 (C + 1) ((dcells Q).take (C * 2) ++ dcell dk)))), (18, .inr (KF 2 (OwnF B 34 2 (C + 1 + (N - C)) ((dcells Q).take (C * 2) ++ dcell dk ++ (dcells Q).drop (C * 2)))))] rfl (by kernel_rfl) (by kernel_rfl) (by kernel_rfl) ?_ (Just.of_grow (Grow.refl _).drew) trivial ?_
          · intro x hx φ he
            simp only [List.mem_cons, List.not_mem_nil, or_false] at hx
            rcases hx with rfl | rfl | rfl | rfl | rfl <;> cases he
            all_goals first | exact lasts_quiet (lasting_bytes _) | exact kf_lasts (ownF_lasting _ _ _ _ _) _ | exact kf_lasts (emptyF_lasting _ _ _) _ | exact kf_lasts (readF_lasting _ _ _) _
          intro ops' A' K' T hops hA' hK hT
          refine fl_mv 57 (by rfl) (by decide) (wanted_none (by rfl)) (by rw [hK.out]; rfl) (by rfl) _ (Or.inl (by rfl)) (.pointer (some ⟨r, 0, none⟩)) (by rfl) ?_
          refine fl_any 58 (by rfl) (by decide) (wanted_none (by rfl)) (KF 0 (EmptyF B 34 2)) (by rw [hK.out]; rfl) (fun kk w1 (hg : Just (FromB B) _ w1) hb hf => by refine upon_behindAny (φ := KF 0 (EmptyF B 34 2)) (by rfl) ?_; exact upon_imp (empty_made deltaE (HB w1 hg) rfl) fun u w2 h => ⟨h.1, early_of h.2⟩) (fun v58 => ?_)
          refine fl_mv 59 (by rfl) (by decide) (wanted_none (by rfl)) (by rw [hK.out]; rfl) (by rfl) _ (Or.inl (by rfl)) (.pointer (some ⟨r, 0, none⟩)) (by rfl) ?_
          refine fl_op1 60 (by rfl) (by decide) (wanted_none (by rfl)) (by rw [hK.out]; rfl) (by rfl) (.tmp 59) (.pointer (some ⟨r, 0, none⟩)) (by rfl) (.pointer (some ⟨r, 0, none⟩)) (fun ρ h1 kk w1 (hg : Just (FromB B) _ w1) hb hf => by go_simp) ?_
          refine fl_op1 61 (by rfl) (by decide) (wanted_none (by rfl)) (by rw [hK.out]; rfl) (by rfl) (.tmp 60) (.pointer (some ⟨r, 0, none⟩)) (by rfl) (.pointer (some ⟨r, 0, none⟩)) (fun ρ h1 kk w1 (hg : Just (FromB B) _ w1) hb hf => by go_simp) ?_
          refine fl_op1 62 (by rfl) (by decide) (wanted_none (by rfl)) (by rw [hK.out]; rfl) (by rfl) (.tmp 61) (.pointer (some ⟨r, 0, none⟩)) (by rfl) (.slice A0 N c0) (fun ρ h1 kk w1 (hg : Just (FromB B) _ w1) hb hf => by have c : w1.cell? ⟨r, 0, none⟩ = some (.slice A0 N c0) := (hg.blk hB2 (fun h => hrB h)).cell 0; go_simp) ?_
          refine fl_mv 63 (by rfl) (by decide) (wanted_none (by rfl)) (by rw [hK.out]; rfl) (by rfl) _ (Or.inl (by rfl)) (.int .i64 (C : Int)) (by rfl) ?_
          refine fl_op2 64 (by rfl) (by decide) (wanted_none (by rfl)) (by rw [hK.out]; rfl) (by rfl) (.tmp 62) (.tmp 63) (.slice A0 N c0) (.int .i64 (C : Int)) (by rfl) (by rfl) (.slice A0 C c0) (fun ρ h1 h2 kk w1 (hg : Just (FromB B) _ w1) hb hf => by go_simp) ?_
          refine fl_any2 65 (by rfl) (by decide) (wanted_none (by rfl)) (KF 0 (OwnF B 34 2 C ((dcells Q).take (C * 2)))) (by rw [hK.out]; rfl) (.tmp 58) (.tmp 64) (v58) (.slice A0 C c0) (by rfl) (by rfl) (fun ρ h1 h2 kk w1 (hg : Just (FromB B) _ w1) hb hf => by obtain rfl := before_some 0 (by rfl) hb; have hI := hb.1; refine upon_behindAny (φ := KF 0 (OwnF B 34 2 C ((dcells Q).take (C * 2)))) (by rfl) ?_; have q1 := (facts_take hf (by rw [hA'.out]; kernel_rfl)); have hu : EmptyF B 34 2 v58 w1 := q1; exact upon_imp (empty_app deltaE hu h1 h2 (hI1 w1 hg) hone1 (by omega) (HB w1 hg) rfl) fun u w2 h => ⟨h.1, early_of h.2⟩) (fun v65 => ?_)
          refine fl_op1 66 (by rfl) (by decide) (wanted_none (by rfl)) (by rw [hK.out]; rfl) (by rfl) (.tmp 7) (.pointer (some ⟨x, 0, none⟩)) (by rfl) (.agg #[.string dk.1, .int .u64 (dk.2 : Int)]) (fun ρ h1 kk w1 (hg : Just (FromB B) _ w1) hb hf => by have d0 := (hg.blk hBd2 (fun h => hxB h)).cell 0; have d1 := (hg.blk hBd2 (fun h => hxB h)).cell 1; go_simp) ?_
          refine fl_any1 67 (by rfl) (by decide) (wanted_none (by rfl)) (KF 0 (ReadF 2 1 (dcell dk))) (by rw [hK.out]; rfl) (.tmp 66) (.agg #[.string dk.1, .int .u64 (dk.2 : Int)]) (by rfl) (fun ρ h1 kk w1 (hg : Just (FromB B) _ w1) hb hf => by refine upon_behindAny (φ := KF 0 (ReadF 2 1 (dcell dk))) (by rfl) ?_; exact upon_imp (dread_made rfl h1) fun u w2 h => ⟨h.1, early_of h.2⟩) (fun v67 => ?_)
          refine fl_any2 68 (by rfl) (by decide) (wanted_none (by rfl)) (KF 1 (OwnF B 34 2 (C + 1) ((dcells Q).take (C * 2) ++ dcell dk))) (by rw [hK.out]; rfl) (.tmp 65) (.tmp 67) (v65) (v67) (by rfl) (by rfl) (fun ρ h1 h2 kk w1 (hg : Just (FromB B) _ w1) hb hf => by obtain rfl := before_some 0 (by rfl) hb; have hI := hb.1; refine upon_turnAny (φ := KF 1 (OwnF B 34 2 (C + 1) ((dcells Q).take (C * 2) ++ dcell dk))) 0 (by rfl) ?_; have q1 := (facts_take hf (by rw [hA'.out]; kernel_rfl)); have q2 := facts_take (facts_pass hf) (by rw [hA'.out]; kernel_rfl); have hr : ReadF 2 1 (dcell dk) v67 w1 := q1; have hu : OwnF B 34 2 C ((dcells Q).take (C * 2)) v65 w1 := q2; obtain ⟨A9, c9, hv9, hR9⟩ := hr; rw [hv9] at h2; exact two_app deltaE hu h1 h2 hR9 (fun u hu => dcells_one [dk] u (by simpa [dcells] using hu)) (by omega) (HB w1 hg) rfl) (fun v68 => ?_)
          refine fl_mv 69 (by rfl) (by decide) (wanted_none (by rfl)) (by rw [hK.out]; rfl) (by rfl) _ (Or.inl (by rfl)) (.pointer (some ⟨r, 0, none⟩)) (by rfl) ?_
          refine fl_op1 70 (by rfl) (by decide) (wanted_none (by rfl)) (by rw [hK.out]; rfl) (by rfl) (.tmp 69) (.pointer (some ⟨r, 0, none⟩)) (by rfl) (.pointer (some ⟨r, 0, none⟩)) (fun ρ h1 kk w1 (hg : Just (FromB B) _ w1) hb hf => by go_simp) ?_
          refine fl_op1 71 (by rfl) (by decide) (wanted_none (by rfl)) (by rw [hK.out]; rfl) (by rfl) (.tmp 70) (.pointer (some ⟨r, 0, none⟩)) (by rfl) (.pointer (some ⟨r, 0, none⟩)) (fun ρ h1 kk w1 (hg : Just (FromB B) _ w1) hb hf => by go_simp) ?_
          refine fl_op1 72 (by rfl) (by decide) (wanted_none (by rfl)) (by rw [hK.out]; rfl) (by rfl) (.tmp 71) (.pointer (some ⟨r, 0, none⟩)) (by rfl) (.slice A0 N c0) (fun ρ h1 kk w1 (hg : Just (FromB B) _ w1) hb hf => by have c : w1.cell? ⟨r, 0, none⟩ = some (.slice A0 N c0) := (hg.blk hB2 (fun h => hrB h)).cell 0; go_simp) ?_
          refine fl_mv 73 (by rfl) (by decide) (wanted_none (by rfl)) (by rw [hK.out]; rfl) (by rfl) _ (Or.inl (by rfl)) (.int .i64 (C : Int)) (by rfl) ?_
          refine fl_op2 74 (by rfl) (by decide) (wanted_none (by rfl)) (by rw [hK.out]; rfl) (by rfl) (.tmp 72) (.tmp 73) (.slice A0 N c0) (.int .i64 (C : Int)) (by rfl) (by rfl) (.slice A2 (N - C) (c0 - C)) (fun ρ h1 h2 kk w1 (hg : Just (FromB B) _ w1) hb hf => by have hA := HA2.out; go_simp) ?_
          refine fl_any2 75 (by rfl) (by decide) (wanted_none (by rfl)) (KF 2 (OwnF B 34 2 (C + 1 + (N - C)) ((dcells Q).take (C * 2) ++ dcell dk ++ (dcells Q).drop (C * 2)))) (by rw [hK.out]; rfl) (.tmp 68) (.tmp 74) (v68) (.slice A2 (N - C) (c0 - C)) (by rfl) (by rfl) (fun ρ h1 h2 kk w1 (hg : Just (FromB B) _ w1) hb hf => by obtain rfl := before_some 1 (by rfl) hb; have hI := hb.1; refine upon_turnAny (φ := KF 2 (OwnF B 34 2 (C + 1 + (N - C)) ((dcells Q).take (C * 2) ++ dcell dk ++ (dcells Q).drop (C * 2)))) 1 (by rfl) ?_; have q1 := (facts_take hf (by rw [hA'.out]; kernel_rfl)); have hu : OwnF B 34 2 (C + 1) ((dcells Q).take (C * 2) ++ dcell dk) v68 w1 := q1; exact two_app deltaE hu h1 h2 (hI2 w1 hg) hone2 (by omega) (HB w1 hg) rfl) (fun v75 => ?_)
          refine fl_op1 76 (by rfl) (by decide) (wanted_none (by rfl)) (by rw [hK.out]; rfl) (by rfl) (.tmp 57) (.pointer (some ⟨r, 0, none⟩)) (by rfl) (.pointer (some ⟨r, 0, none⟩)) (fun ρ h1 kk w1 (hg : Just (FromB B) _ w1) hb hf => by go_simp) ?_
          refine fl_op1 77 (by rfl) (by decide) (wanted_none (by rfl)) (by rw [hK.out]; rfl) (by rfl) (.tmp 76) (.pointer (some ⟨r, 0, none⟩)) (by rfl) (.pointer (some ⟨r, 0, none⟩)) (fun ρ h1 kk w1 (hg : Just (FromB B) _ w1) hb hf => by go_simp) ?_
          refine fl_end (fun _ _ w1 (hg : Just (FromB B) _ w1) hend hfacts => hT _ _ ?_)
          clear hops hA' hK hT
          simp only [putsL, Act.put, List.setIfInBounds_toArray, List.set_cons_zero, List.set_cons_succ]
          have hF : OwnF B 34 2 (C + 1 + (N - C)) ((dcells Q).take (C * 2) ++ dcell dk ++ (dcells Q).drop (C * 2)) v75 w1 := hfacts.1
          clear hend hfacts
          obtain ⟨A4, c4, hv4, hI4, hn4, hm4⟩ := Own.in_ hF
          subst hv4
          have hB1 := hg.blk hB2 (fun h => hrB h)
          have fz1 := hB1.frozen 0
          have cz1 := hB1.cell 0
          refine reg_line 21 22 (by kernel_rfl) (by kernel_rfl) ?_
          simp only [List.take_succ_cons, List.take_zero, List.drop_succ_cons, List.drop_zero]
          go_wp2_with fail
          refine reg_end ?_
          have hj7 : Just V w w1 := just_new hj2 hg (fun b hb => .inl (by have h2 : B ≤ b := hb; have := HBd.out; omega))
          have hj8 : Just V w (w1.setCell ⟨r, 0, none⟩ (.slice A4 (C + 1 + (N - C)) c4)) := just_new hj7 (just_at w1 r 0 _) (fun b hb => .inr (by rw [hb]; exact hVr))
          have hB8 := hB1.put 0 (.slice A4 (C + 1 + (N - C)) c4)
          have hO8 : Own (w1.setCell ⟨r, 0, none⟩ (.slice A4 (C + 1 + (N - C)) c4)) (fun b => B ≤ b ∧ b < w1.heap.size) 34 2 (.slice A4 (C + 1 + (N - C)) c4) (C + 1 + (N - C)) ((dcells Q).take (C * 2) ++ dcell dk ++ (dcells Q).drop (C * 2)) :=
            Own.keep hF fun b hb => (just_at w1 r 0 (.slice A4 (C + 1 + (N - C)) c4)).block b hb.2 (fun e => by have := hb.1; have := HBd.out; omega)
          have hkl : C + 1 + (N - C) = (add q (l.take (k + 1))).length := by
            rw [hnext, hput, List.length_append, List.length_cons, List.length_take, List.length_drop, ← HN.out]; omega
          have hcs : dcells (add q (l.take (k + 1))) = (dcells Q).take (C * 2) ++ dcell dk ++ (dcells Q).drop (C * 2) := by
            rw [hnext, hput]
            unfold dcells
            rw [List.flatMap_append, List.flatMap_cons, flat_take dcell 2 dcell_len, flat_drop dcell 2 dcell_len, List.append_assoc]
          rw [← hnext] at hlen
          have hlen2 := hlen
          have HKL := Lib.hid hkl
          have HCS := Lib.hid hcs
          clear hput hnext hkl hcs
          go_wp2_with fail
          go_roundw
          case rel =>
            refine ⟨k + 1, by omega, by go_num, ⟨.inl hVr, hRn, hlen2, .slice A4 (C + 1 + (N - C)) c4, hB8, ?_⟩, hj8⟩
            rw [← HKL.out, HCS.out]
            exact hO8.mono fun b hb => ⟨.inr ⟨by have := hb.1; have := HBd.out; omega, by rw [setCell_size]; exact hb.2⟩, fun e => by have := hb.1; have := HBd.out; omega⟩
          case measure => simp [intOf]; omega
      · obtain rfl : k = n := by omega
        have hkt : decide ((k : Int) < (k : Int)) = false := decide_eq_false (by omega)
        rw [List.take_of_length_le (by omega)] at hS
        go_wp2_with fail
        go_ret
        exact ⟨rfl, hS, hj⟩
  · rw [hE1 he]
    have he' : (E == 0) = false := beq_eq_false_iff_ne.2 he
    go_enter Try.func26, Try.ntmps26
    go_wp2_with fail
    refine hm.mono ?_
    rintro e w1 ⟨rfl, hg1⟩
    have hS2 := (hS1 w1 hg1).wide (V' := Ext V w w1) fun b hb => .inl hb
    clear hm hE0 hE1 hS1
    go_wp2_with fail
    go_ret
    exact ⟨rfl, hS2, Just.of_grow hg1⟩
end Go.Proofs.Ytnijeemldhmkjaa
