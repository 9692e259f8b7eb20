/- The answer's Parse: its walk. -/
import Derived.Test.YthkkfdnechmddaaDoorLparse
import Derived.Test.YthkkfdnechmddaaDoorLrsplit
import Derived.Test.YthkkfdnechmddaaDoorLrtext
namespace Go.Proofs.YthkkfdnechmddaaDoor
open Go.RowKit Go.Hop
theorem parse_no3 {s : ByteArray} {p : List UInt8} (hp : p ∈ cutAll 44 s.data.toList) (h : (cutAll 61 p).length ≠ 2) : parseE s = 12 ∧ parseL s = [] := by
  refine parse_no1 fun h0 => ?_
  have hf := (right_zero h0).2
  have hb : fineB (labelsOf s) = false := bad_one (d := labelOf p) (List.mem_map.2 ⟨p, hp, rfl⟩) (by unfold okL; rw [labelOf_not h, Bool.and_false])
  rw [hb] at hf; cases hf
theorem app_stage {P : Program} {t e : TypeId} {size bytes : Nat} {z : Value} (E : Elem P t e size bytes z) {V : Nat → Prop} {w : World} {B : Nat} {o : Oper} {ρ : Operand → Value} {x y : Operand} {v : Value} {n : Nat} {xs : List Value} (hI : Own w V e size v n xs) (hx : ρ x = v) {A : Option Addr} {m c Bd : Nat} {news : List Value} (hy : ρ y = .slice A m c) (hr : Reads w Bd size A m news)
    (h1 : ∀ u ∈ news, u.oneCell' = true) (hbytes : (n + m) * bytes ≤ 140737488355328) (hV : (∀ b, V b → B ≤ b ∧ b < w.heap.size) ∧ B ≤ w.heap.size) (ho : o.op = .call { callee := .builtin .append, args := #[x, y], argTypes := #[t, t] }) (k : Nat) :
    flowUpon P (fun u w' => Just V w w' ∧ Own w' V e size v n xs ∧ Once (OwnF B e size (n + m) (xs ++ news)) (k + 1) u w') ((execOp ρ o).run P w) := by
  obtain ⟨v', w', hrun, h2, h3, h4⟩ := run_append_Own2 E w o.type v n xs hI Bd A m c news hr h1 hbytes
  refine flowUpon_value (u := v') (w := w') ?_ ⟨h3, h4, show OwnF B e size (n + m) (xs ++ news) v' w' from h2.mono fun b hb => ?_⟩
  · unfold execOp
    simp only [ho, resolve, invoke, builtin, Sem.run_bind, Sem.run_pure, Result.andThen_ok, List.map_toArray, List.map_cons, List.map_nil, hx, hy, hrun]
  · rcases hb with hb | hb
    · exact ⟨(hV.1 b hb).1, Nat.lt_of_lt_of_le (hV.1 b hb).2 h3.size⟩
    · exact ⟨Nat.le_trans hV.2 hb.1, hb.2⟩
set_option maxRecDepth 20000 in
set_option maxHeartbeats 1000000 in
theorem rParse_any (w : World) (s : ByteArray) (hs : s.size ≤ 1000000) :
    Calls Tryd.prog 21 #[.string s] w fun e w' => ∃ A c, e = .returned (.tuple #[.slice A (parseL s).length c, .int .i64 (parseE s)]) ∧ In w' (New w w') 2 A (parseL s).length (lcells (parseL s)) ∧ Grow w w' := by
  have hsp := rsplit_any w s 44 hs
  rw [show (((44 : UInt8).toNat : Nat) : Int) = 44 from rfl] at hsp
  obtain ⟨P, HP⟩ : ∃ P, Hid (P = cutAll 44 s.data.toList) := ⟨_, rfl⟩
  have HL : Hid (labelsOf s = P.map labelOf) := Lib.hid (by rw [HP.out]; rfl)
  have hPl : P.length ≤ s.size + 1 := by rw [HP.out, ← data_len]; exact cutAll_len 44 _
  have hps : ∀ p ∈ P, p.length ≤ s.size := fun p hp => by
    have := piece_small 44 s.data.toList p (by rw [← HP.out]; exact hp)
    rwa [data_len] at this
  rw [← HP.out] at hsp
  obtain ⟨K, HK⟩ : ∃ K : Nat, Hid (K = P.length) := ⟨_, rfl⟩
  rw [← HK.out] at hsp hPl
  go_enter Tryd.func21, Tryd.ntmps21
  go_wp2_with fail
  refine hsp.mono ?_
  rintro e wB ⟨A, cp, rfl, hI, hg1⟩
  clear hsp
  go_wp2_with fail
  go_loopw [4, 13] (fun o i wr => ∃ k : Nat, k ≤ K ∧ i = .int .i64 (k : Int) ∧ Own wr (New wB wr) 25 2 o k (lcells ((P.take k).map labelOf)) ∧ Grow wB wr) (fun _ i _ => K - (intOf i).toNat)
  case atStart => exact ⟨0, by omega, rfl, Own.nil, Grow.refl _⟩
  case round =>
    obtain ⟨i, hiK, rfl, hO, hgr⟩ := hrel
    obtain ⟨Ab, cb, rfl, hIb, hnb, hmb⟩ := hO.in_
    have hsr := hgr.size
    have hgw := below_trans hg1 hgr hg1.size
    have hs1 := hg1.size
    by_cases hi : i < K
    · have hit : decide ((i : Int) < (K : Int)) = true := decide_eq_true (by omega)
      have hI' : In wr (New w wB) 1 A K ((P.map mk).map Value.string) := hI.grow hgr
      obtain ⟨ad, hqi, rfl, e0⟩ := str_at hI' hi
      have ce0 := e0 wr (Grow.refl _)
      rw [List.getElem_map] at ce0
      have hqP : i < P.length := by simpa using hqi
      have hpm0 := List.getElem_mem hqP
      have hpm := hps _ hpm0
      have htk : Hid (lcells ((P.take (i + 1)).map labelOf) = lcells ((P.take i).map labelOf) ++ lcells [labelOf P[i]]) := Lib.hid (by
        rw [List.take_succ_eq_append_getElem hqP, List.map_append]
        unfold lcells
        rw [List.flatMap_append]; rfl)
      generalize P[i] = p at ce0 hpm htk hpm0
      have hcu := rsplit_any wr (mk p) 61 (by show p.toArray.size ≤ _; rw [List.size_toArray]; omega)
      rw [show (((61 : UInt8).toNat : Nat) : Int) = 61 from rfl, mk_data] at hcu
      have hin2 : ¬ K ≤ i := by omega
      clear e0 hI' hIb
      by_cases h2 : (cutAll 61 p).length = 2
      · obtain ⟨x, y, hxy⟩ : ∃ x y, cutAll 61 p = [x, y] := by
          match hm : cutAll 61 p, h2 with
          | [x, y], _ => exact ⟨x, y, rfl⟩
        have hlo := Lib.hid (labelOf_two hxy)
        rw [hxy] at hcu
        clear h2 hxy
        go_wp2_with fail
        refine hcu.mono ?_
        rintro e w3 ⟨aw, cw, rfl, hIw, hg3⟩
        clear hcu ce0
        obtain ⟨aw, hq0, rfl, hx0⟩ := str_at hIw (k := 0) (by simp)
        obtain ⟨aw', hq1, e, hy0⟩ := str_at hIw (k := 1) (by simp)
        injection e with e
        subst e
        simp only [List.map_cons, List.map_nil, List.getElem_cons_zero, List.getElem_cons_succ, Nat.zero_add] at hx0 hy0
        obtain ⟨ad9, e9, hV9, hb9, _⟩ := hIw.2 (by simp)
        injection e9 with e9
        subst e9
        have hx1 := hx0 w3 (Grow.refl _)
        have hy1 := hy0 w3 (Grow.refl _)
        change w3.cell? aw = some (.string (mk x)) at hx1
        change w3.cell? ⟨aw.block, aw.off + 1, none⟩ = some (.string (mk y)) at hy1
        clear hx0 hy0
        have hx0 : ∀ w1, Just (New wB wr) w3 w1 → w1.cell? aw = some (.string (mk x)) := fun w1 hj => (World.cell?_of_block (a := aw) (hj.block aw.block hb9 fun hv => by have := hV9.1; have := hv.2; omega)).trans hx1
        have hy0 : ∀ w1, Just (New wB wr) w3 w1 → w1.cell? ⟨aw.block, aw.off + 1, none⟩ = some (.string (mk y)) := fun w1 hj => (World.cell?_of_block (a := ⟨aw.block, aw.off + 1, none⟩) (hj.block aw.block hb9 fun hv => by have := hV9.1; have := hv.2; omega)).trans hy1
        obtain ⟨B, HB⟩ : ∃ B : Nat, Hid (B = wB.heap.size) := ⟨_, rfl⟩
        have hs3 := hg3.size
        have hO3 := hO.grow (fun b hb => hb.2) hg3
        have HV : ∀ w1, Just (New wB wr) w3 w1 → (∀ b, New wB wr b → B ≤ b ∧ b < w1.heap.size) ∧ B ≤ w1.heap.size := fun w1 hj => by
          have h3 := hj.size
          exact ⟨fun b hb => by have := hb.1; have := hb.2; have := HB.out; omega, by have := HB.out; omega⟩
        clear hIw hx1 hy1 hV9 hb9
        go_wp2_with fail
        refine wp_region_reg rfl ?_
        refine reg_flow (AppSt (New wB wr) 25 2 (.slice Ab i cb) i (lcells ((P.take i).map labelOf)) 9 []) appSt_ok 0 11 46 [(8, .inr (Early (ReadF 2 1 (lcell (mk x, mk y))))), (9, .inr (Once (OwnF B 25 2 (i + 1) (lcells ((P.take i).map labelOf) ++ lcell (mk x, mk y)))))] rfl (by kernel_rfl) (by kernel_rfl) (by kernel_rfl) ?_ (Just.of_grow (Grow.refl _).drew) hO3 ?_
        · intro x hx φ he
          simp only [List.mem_cons, List.not_mem_nil, or_false] at hx
          rcases hx with rfl | rfl <;> cases he
          all_goals first | exact lasts_quiet (lasting_bytes _) | exact once_lasts (ownF_lasting _ _ _ _ _) | exact early_lasts (readF_lasting _ _ _)
        intro ops' A' K' T hops hA' hK hT
        refine fl_mv 22 (by rfl) (by decide) (wanted_none (by rfl)) (by rw [hK.out]; rfl) (by rfl) _ (Or.inl (by rfl)) (.slice Ab i cb) (by rfl) ?_
        refine fl_mv 23 (by rfl) (by decide) (wanted_none (by rfl)) (by rw [hK.out]; rfl) (by rfl) _ (Or.inl (by rfl)) (.slice (some aw) 2 cw) (by rfl) ?_
        refine fl_op2 24 (by rfl) (by decide) (wanted_none (by rfl)) (by rw [hK.out]; rfl) (by rfl) (.tmp 23) (.const (.int .i64 0)) (.slice (some aw) 2 cw) (.int .i64 0) (by rfl) (by rfl) (.pointer (some aw)) (fun ρ h1 h2 kk w1 (hg : Just (New wB wr) _ w1) hb hf => by go_simp) ?_
        refine fl_op1 25 (by rfl) (by decide) (wanted_none (by rfl)) (by rw [hK.out]; rfl) (by rfl) (.tmp 24) (.pointer (some aw)) (by rfl) (.string (mk x)) (fun ρ h1 kk w1 (hg : Just (New wB wr) _ w1) hb hf => by have c := hx0 w1 hg; go_simp) ?_
        refine fl_mv 26 (by rfl) (by decide) (wanted_none (by rfl)) (by rw [hK.out]; rfl) (by rfl) _ (Or.inl (by rfl)) (.slice (some aw) 2 cw) (by rfl) ?_
        refine fl_op2 27 (by rfl) (by decide) (wanted_none (by rfl)) (by rw [hK.out]; rfl) (by rfl) (.tmp 26) (.const (.int .i64 1)) (.slice (some aw) 2 cw) (.int .i64 1) (by rfl) (by rfl) (.pointer (some ⟨aw.block, aw.off + 1, none⟩)) (fun ρ h1 h2 kk w1 (hg : Just (New wB wr) _ w1) hb hf => by go_simp) ?_
        refine fl_op1 28 (by rfl) (by decide) (wanted_none (by rfl)) (by rw [hK.out]; rfl) (by rfl) (.tmp 27) (.pointer (some ⟨aw.block, aw.off + 1, none⟩)) (by rfl) (.string (mk y)) (fun ρ h1 kk w1 (hg : Just (New wB wr) _ w1) hb hf => by have c := hy0 w1 hg; go_simp) ?_
        refine fl_op2 29 (by rfl) (by decide) (wanted_none (by rfl)) (by rw [hK.out]; rfl) (by rfl) (.tmp 25) (.tmp 28) (.string (mk x)) (.string (mk y)) (by rfl) (by rfl) (.agg #[.string (mk x), .string (mk y)]) (fun ρ h1 h2 kk w1 (hg : Just (New wB wr) _ w1) hb hf => by go_simp) ?_
        refine fl_any1 30 (by rfl) (by decide) (wanted_none (by rfl)) (Early (ReadF 2 1 (lcell (mk x, mk y)))) (by rw [hK.out]; rfl) (.tmp 29) (.agg #[.string (mk x), .string (mk y)]) (by rfl) (fun ρ h1 kk w1 (hg : Just (New wB wr) _ w1) hb hf => by refine upon_behindAny (φ := Early (ReadF 2 1 (lcell (mk x, mk y)))) (by rfl) ?_; exact upon_imp (lread_made (a := (mk x, mk y)) rfl h1) fun u w2 h => ⟨h.1, early_of h.2⟩) (fun v30 => ?_)
        refine fl_any2 31 (by rfl) (by decide) (wanted_none (by rfl)) (Once (OwnF B 25 2 (i + 1) (lcells ((P.take i).map labelOf) ++ lcell (mk x, mk y)))) (by rw [hK.out]; rfl) (.tmp 22) (.tmp 30) (.slice Ab i cb) (v30) (by rfl) (by rfl) (fun ρ h1 h2 kk w1 (hg : Just (New wB wr) _ w1) hb hf => by obtain rfl := before_some 0 (by rfl) hb; have hI := hb.1; refine upon_turnAny (φ := Once (OwnF B 25 2 (i + 1) (lcells ((P.take i).map labelOf) ++ lcell (mk x, mk y)))) 0 (by rfl) ?_; have q1 := (facts_take hf (by rw [hA'.out]; kernel_rfl)); have hr : ReadF 2 1 (lcell (mk x, mk y)) v30 w1 := q1; obtain ⟨A9, c9, hv9, hR9⟩ := hr; rw [hv9] at h2; exact app_stage labelE hI h1 h2 hR9 (fun u hu => lcells_one [(mk x, mk y)] u (by simpa [lcells] using hu)) (by omega) (HV w1 hg) rfl 0) (fun v31 => ?_)
        refine fl_mv 4 (by rfl) (by decide) (wanted_none (by rfl)) (by rw [hK.out]; rfl) (by rfl) _ (Or.inr (by rfl)) (v31) (by rfl) ?_
        refine fl_end (fun _ _ w1 (hg : Just (New wB wr) _ w1) hend hfacts => hT _ _ ?_)
        clear hops hA' hK hT
        simp only [putsL, Act.put, List.setIfInBounds_toArray, List.set_cons_zero, List.set_cons_succ]
        have hO6 : OwnF B 25 2 (i + 1) (lcells ((P.take i).map labelOf) ++ lcell (mk x, mk y)) v31 w1 := hfacts.1
        clear hend hfacts
        refine reg_end ?_
        have e6 : lcells ((P.take i).map labelOf) ++ lcell (mk x, mk y) = lcells ((P.take (i + 1)).map labelOf) := by rw [htk.out, hlo.out]; rfl
        rw [e6] at hO6
        have hO7 : Own w1 (New wB w1) 25 2 v31 (i + 1) (lcells ((P.take (i + 1)).map labelOf)) := Own.mono hO6 fun b hb => ⟨by have := hb.1; have := HB.out; omega, hb.2⟩
        have hg6 : Grow wB w1 := Below.trans (below_trans hgr hg3 hsr) (hg.below (B := wB.heap.size) (fun b hb => hb.1) (by omega))
        clear hO6 hO hO3 e6 hx0 hy0 HV
        go_wp2_with fail
        go_roundw
        case rel => exact ⟨i + 1, by omega, by go_num, hO7, hg6⟩
        case measure => simp [intOf]; omega
      · have HY := Lib.hid (parse_no3 (s := s) (by rw [← HP.out]; exact hpm0) h2)
        obtain ⟨M, HM⟩ : ∃ M : Nat, Hid (M = (cutAll 61 p).length) := ⟨_, rfl⟩
        rw [← HM.out] at hcu h2
        have h2b : ((M : Int) == 2) = false := beq_eq_false_iff_ne.2 (by omega)
        go_wp2_with fail
        refine hcu.mono ?_
        rintro e w3 ⟨aw, cw, rfl, _, hg3⟩
        clear hcu ce0
        go_wp2_with fail
        go_ret2
        rw [HY.out.1, HY.out.2]
        exact ⟨none, 0, rfl, In.nil, below_trans hgw hg3 hgw.size⟩
    · obtain rfl : K = i := by omega
      have hit : decide ((K : Int) < (K : Int)) = false := decide_eq_false (by omega)
      have hPt : (P.take K).map labelOf = labelsOf s := by rw [HL.out, List.take_of_length_le (by have := HK.out; omega)]
      rw [hPt] at hIb
      have hls := labels_small hs
      have htx := rText_any wr _ Ab K cb (labelsOf s) hIb hls (by omega)
      have hKl : Hid ((labelsOf s).length = K) := Lib.hid (LIn.len hIb)
      clear hPt hO hls
      by_cases hR : rightE (labelsOf s) = 0
      · have hRb : (rightE (labelsOf s) == 0) = true := by rw [hR]; rfl
        by_cases hT : textOf (labelsOf s) = s
        · have HY := Lib.hid (parse_yes hR hT)
          rw [hR, hT] at htx
          clear hR hT hRb
          go_wp2_with fail
          refine htx.mono ?_
          rintro e w5 ⟨rfl, hg5⟩
          clear htx
          go_wp2_with fail
          go_ret2
          have hs5 := hg5.size
          rw [HY.out.1, HY.out.2, hKl.out]
          exact ⟨Ab, cb, rfl, (hIb.grow hg5).mono fun b hb => ⟨by have := hb.1; omega, by have := hb.2; omega⟩, below_trans hgw hg5 hgw.size⟩
        · have HY := Lib.hid (parse_no2 hT)
          rw [hR] at htx
          have hTb := str_eqb hT
          clear hR hT hRb
          generalize textOf (labelsOf s) = T at htx hTb
          go_wp2_with fail
          refine htx.mono ?_
          rintro e w5 ⟨rfl, hg5⟩
          clear htx
          go_wp2_with fail
          go_ret2
          rw [HY.out.1, HY.out.2]
          exact ⟨none, 0, rfl, In.nil, below_trans hgw hg5 hgw.size⟩
      · have HY := Lib.hid (parse_no1 hR)
        have hRb : (rightE (labelsOf s) == 0) = false := beq_eq_false_iff_ne.2 hR
        clear hIb
        generalize textOf (labelsOf s) = T at htx
        generalize rightE (labelsOf s) = R at htx hR hRb
        go_wp2_with fail
        refine htx.mono ?_
        rintro e w5 ⟨rfl, hg5⟩
        clear htx
        go_wp2_with fail
        go_ret2
        rw [HY.out.1, HY.out.2]
        exact ⟨none, 0, rfl, In.nil, below_trans hgw hg5 hgw.size⟩
end Go.Proofs.YthkkfdnechmddaaDoor
