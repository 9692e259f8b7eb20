/- Net.Deliver, where the row and the texts lie. -/
import Derived.Test.YtacigekkfgeipaaPlay
namespace Go.Proofs.Ytacigekkfgeipaa
open Go.RowKit Go.Hop
def NetRD (g : Nat) (nodes : Int) (l : List Lb) (P : Nat → Bool) (R D : Nat → Prop) (w : World) : Prop :=
  ∃ (v : Value) (q : List Lt), q.map Lt.abs = l ∧ q.length ≤ 64 ∧ (1 ≤ nodes ∧ nodes ≤ 8) ∧ (∀ a ∈ l, InN nodes a) ∧ Blk w g 57 (netc nodes v P) ∧ Row w R 35 3 v q.length (q.flatMap Lt.cells) ∧ (∀ b ∈ q, LtIn w D b) ∧ (∀ b, R b → b ≠ g ∧ ¬ D b) ∧ (∀ b, D b → b ≠ g)
theorem NetRD.keep {g : Nat} {nodes : Int} {l : List Lb} {P : Nat → Bool} {R D : Nat → Prop} {w w' : World} (h : NetRD g nodes l P R D w) (hk : ∀ b, (b = g ∨ R b ∨ D b) → w'.heap[b]? = w.heap[b]?) : NetRD g nodes l P R D w' := by
  obtain ⟨v, q, h2, h3, hn, hi, h4, h5, h6, h7, h8⟩ := h
  exact ⟨v, q, h2, h3, hn, hi, (hk g (.inl rfl)).trans h4, h5.keep fun b hb _ => hk b (.inr (.inl hb)), fun b hb => (h6 b hb).keep fun x hx _ => hk x (.inr (.inr hx)), h7, h8⟩
theorem NetAt.rd {g : Nat} {nodes : Int} {l : List Lb} {P : Nat → Bool} {w : World} {V : Nat → Prop} (h : NetAt g nodes l P w V) : ∃ R D : Nat → Prop, V g ∧ (∀ b, R b → V b) ∧ (∀ b, D b → V b) ∧ NetRD g nodes l P R D w := by
  obtain ⟨h1, v, q, R, D, h2, h3, hn, hi, h4, h5, h6, h7, h8⟩ := h
  exact ⟨R, D, h1, fun b hb => (h7 b hb).1, fun b hb => (h8 b hb).1, v, q, h2, h3, hn, hi, h4, h5, h6, fun b hb => (h7 b hb).2, fun b hb => (h8 b hb).2⟩
theorem NetRD.at_ {g : Nat} {nodes : Int} {l : List Lb} {P : Nat → Bool} {w : World} {R D : Nat → Prop} (h : NetRD g nodes l P R D w) : NetAt g nodes l P w fun b => b = g ∨ R b ∨ D b := by
  obtain ⟨v, q, h2, h3, hn, hi, h4, h5, h6, h7, h8⟩ := h
  exact ⟨.inl rfl, v, q, R, D, h2, h3, hn, hi, h4, h5, h6, fun b hb => ⟨.inr (.inl hb), h7 b hb⟩, fun b hb => ⟨.inr (.inr hb), h8 b hb⟩⟩
theorem net_minus_rd {g : Nat} {nodes : Int} {P : Nat → Bool} {w w1 w2 : World} {R D : Nat → Prop} {q : List Lt} {l : List Lb} {A0 : Option Addr} {c0 i : Nat} (hql : q.map Lt.abs = l) (h64 : q.length ≤ 64) (hN : 1 ≤ nodes ∧ nodes ≤ 8) (hInv : ∀ a ∈ l, InN nodes a)
    (hB1 : Blk w1 g 57 (netc nodes (.slice A0 q.length c0) P)) (h6 : ∀ b ∈ q, LtIn w1 D b) (h7 : ∀ b, R b → b ≠ g ∧ ¬ D b) (h8 : ∀ b, D b → b ≠ g) (hi : i < q.length) (hg : Grow w w1)
    (hR2 : Row w2 R 35 3 (.slice A0 (q.length - 1) c0) (q.length - 1) ((q.flatMap Lt.cells).take (i * 3) ++ (q.flatMap Lt.cells).drop ((i + 1) * 3))) (hj2 : Just R w1 w2) :
    NetRD g nodes (minus l i) P R D (w2.setCell ⟨g, 1, none⟩ (.slice A0 (q.length - 1) c0)) ∧ Just (fun b => b = g ∨ R b) w (w2.setCell ⟨g, 1, none⟩ (.slice A0 (q.length - 1) c0)) := by
  have hgR : ¬ R g := fun h => (h7 g h).1 rfl
  have hB2 := hj2.blk hB1 hgR
  have hql' : (q.take i ++ q.drop (i + 1)).length = q.length - 1 := by rw [List.length_append, List.length_take, List.length_drop]; omega
  have hcs : (q.take i ++ q.drop (i + 1)).flatMap Lt.cells = (q.flatMap Lt.cells).take (i * 3) ++ (q.flatMap Lt.cells).drop ((i + 1) * 3) := by
    rw [List.flatMap_append, flat_take Lt.cells 3 lt_len, flat_drop Lt.cells 3 lt_len]
  have hmem : ∀ b ∈ q.take i ++ q.drop (i + 1), b ∈ q := fun b hb => by
    rcases List.mem_append.1 hb with h | h
    · exact List.mem_of_mem_take h
    · exact List.mem_of_mem_drop h
  have hjs := just_at w2 g 1 (.slice A0 (q.length - 1) c0)
  refine ⟨⟨.slice A0 (q.length - 1) c0, q.take i ++ q.drop (i + 1), ?_, by omega, hN, fun a ha => hInv a ?_, ?_, ?_, fun b hb => ?_, h7, h8⟩, ?_⟩
  · rw [List.map_append, List.map_take, List.map_drop, hql]; rfl
  · unfold minus at ha
    rcases List.mem_append.1 ha with h | h
    · exact List.mem_of_mem_take h
    · exact List.mem_of_mem_drop h
  · have := hB2.put 1 (.slice A0 (q.length - 1) c0)
    rwa [netc_set1] at this
  · rw [hql', hcs]
    exact hR2.just hjs fun b hb e => hgR (by rw [← show b = g from e]; exact hb)
  · exact ((h6 b (hmem b hb)).just hj2 fun x hx hr => (h7 x hr).2 hx).just hjs fun x hx e => h8 x hx e
  · exact ((Just.of_grow hg).trans (hj2.imp fun x hx => .inr hx)).trans (hjs.imp fun x hx => .inl hx)
set_option maxRecDepth 20000 in
theorem Deliver_rd (w : World) (g : Nat) (nodes : Int) (l : List Lb) (P : Nat → Bool) (i : Nat) (h : i < l.length) (hp0 : P (l[i].1.toNat * 8 + l[i].2.1.toNat) = false) (R D : Nat → Prop) (hQ : NetRD g nodes l P R D w) (hRs : ∀ b, R b → b < w.heap.size) (hDs : ∀ b, D b → b < w.heap.size) :
    Calls Try.prog 13 #[.pointer (some ⟨g, 0, none⟩), .int .i64 (i : Int)] w fun e w' => ∃ j : Option Addr × Nat × Nat, e = .returned (.tuple #[.agg #[.int .i64 l[i].1, .int .i64 l[i].2.1, .slice j.1 j.2.1 j.2.2], .int .i64 0]) ∧ NetRD g nodes (minus l i) P R D w' ∧ BIn w' D j.1 j.2.1 l[i].2.2 ∧ Just (fun b => b = g ∨ R b) w w' := by
  obtain ⟨v, q, hql, h64, hN, hInv, hB, hRow, h6, h70, h80⟩ := hQ
  obtain ⟨V, HV⟩ : ∃ V : Nat → Prop, Hid (V = fun b => b = g ∨ R b ∨ D b) := ⟨_, rfl⟩
  have h1 : V g := by rw [HV.out]; exact .inl rfl
  have h7 : ∀ b, R b → V b ∧ b ≠ g ∧ ¬ D b := fun b hb => ⟨by rw [HV.out]; exact .inr (.inl hb), h70 b hb⟩
  have h8 : ∀ b, D b → V b ∧ b ≠ g := fun b hb => ⟨by rw [HV.out]; exact .inr (.inr hb), h80 b hb⟩
  have hV : ∀ b, V b → b < w.heap.size := fun b hb => by
    rw [HV.out] at hb
    rcases hb with hb | hb | hb
    · rw [hb]; exact hB.lt
    · exact hRs b hb
    · exact hDs b hb
  obtain ⟨A, c, rfl, hI, hnc, hcm⟩ := hRow.in_
  have hi : i < q.length := by rw [← hql, List.length_map] at h; exact h
  have hq : nodeB (q.length : Int) (i : Int) = true := nodeB_yes (by omega)
  obtain ⟨fa, ta, _, ef, et, hfa, hta, hab⟩ := net_at (g := g) (P := P) hql hN hInv hi
  rw [hab] at hp0 ⊢
  have hp : P (fa * 8 + ta) = false := by simpa using hp0
  have hgR : ¬ R g := fun h => (h7 g h).2.1 rfl
  obtain ⟨ad, hiq, rfl, _, _, e0, e12⟩ := hI.rec_ (by omega) lt_len hi
  have hin := h6 _ (List.getElem_mem hiq)
  have e0 := e0 _ rfl
  have e1 := e12 0 _ rfl
  have e2 := e12 1 _ rfl
  have HQL := Lib.hid hql
  clear e12 hab hp0 hql
  rw [ef] at e0
  rw [et] at e1
  have hbl : BIn w D q[i].A q[i].m q[i].bs := hin.bs
  have hble := hin.le
  have hbmx := hin.max
  clear ef et hin
  generalize q[i].bs = bs at hbl ⊢
  generalize q[i].A = Ab at hbl e2
  generalize q[i].m = mb at hbl e2 hble
  generalize q[i].c = cb at e2 hble hbmx
  have hga : Grow w (w.alloc (.cells #[.int .i64 0, .int .i64 0, .slice none 0 0] 35)) := (Below.refl w.heap.size w).alloc (Nat.le_refl _) _
  have hBx0 := Blk.made w 35 #[.int .i64 0, .int .i64 0, .slice none 0 0]
  obtain ⟨x, HX⟩ : ∃ x : Nat, Hid (x = w.heap.size) := ⟨_, rfl⟩
  obtain ⟨wa, HA⟩ : ∃ wa : World, Hid (wa = w.alloc (.cells #[.int .i64 0, .int .i64 0, .slice none 0 0] 35)) := ⟨_, rfl⟩
  have hwz : wa.heap.size = x + 1 := by rw [HA.out, HX.out]; simp
  have fa8 : ¬ (8 : Int) ≤ (fa : Int) := by omega
  have ta8 : ¬ (8 : Int) ≤ (ta : Int) := by omega
  rw [← HA.out] at hga
  have hBx : Blk wa x 35 #[.int .i64 0, .int .i64 0, .slice none 0 0] := by rw [HA.out, HX.out]; exact hBx0
  have hxw : w.heap.size ≤ x := by have := HX.out; omega
  have hgb : Grow wa (wa.alloc (.cells #[.int .i64 (fa : Int), .int .i64 (ta : Int), .slice Ab mb cb] 35)) := (Below.refl _ _).alloc (Nat.le_refl _) _
  have hBy0 := Blk.made wa 35 #[.int .i64 (fa : Int), .int .i64 (ta : Int), .slice Ab mb cb]
  obtain ⟨y, HY⟩ : ∃ y : Nat, Hid (y = wa.heap.size) := ⟨_, rfl⟩
  obtain ⟨wb, HWB⟩ : ∃ wb : World, Hid (wb = wa.alloc (.cells #[.int .i64 (fa : Int), .int .i64 (ta : Int), .slice Ab mb cb] 35)) := ⟨_, rfl⟩
  rw [← HWB.out] at hgb
  have hBy : Blk wb y 35 #[.int .i64 (fa : Int), .int .i64 (ta : Int), .slice Ab mb cb] := by rw [HWB.out, HY.out]; exact hBy0
  have hBxb := hBx.grow hgb
  have hgab := hga.trans hgb
  have hBq := hB.grow hgab
  have ce0 := (hga.cell (p := ad.add (i * 3)) (by rw [block_add]; assumption)).trans e0
  have ce1 := (hga.cell (p := ⟨(ad.add (i * 3)).block, (ad.add (i * 3)).off + 1, none⟩) (show (ad.add (i * 3)).block < _ by rw [block_add]; assumption)).trans e1
  have ce2 := (hga.cell (p := ⟨(ad.add (i * 3)).block, (ad.add (i * 3)).off + 2, none⟩) (show (ad.add (i * 3)).block < _ by rw [block_add]; assumption)).trans e2
  have c1 : wa.cell? ⟨g, 1, none⟩ = some (.slice (some ad) q.length c) := (hB.grow hga).cell 1
  clear hBx0 hBy0 e0 e1 e2
  go_enter Try.func13, Try.ntmps13
  go_wp2_with fail
  rw [← HA.out, ← HX.out]
  go_wp2_with (go_at_call 27; refine (there_any wa g nodes _ _ _ _ _ (hB.grow hga)).mono ?_; rintro e w2 ⟨rfl, hw2⟩; subst hw2)
  have hxy : x + 1 = y := by rw [HY.out, hwz]
  rw [hxy, ← HWB.out]
  have hyw : w.heap.size ≤ y := by omega
  clear ce0 ce1 ce2 c1 hxy hwz
  refine wp_region_flow 10 42 [] rfl rfl (by kernel_rfl) (by kernel_rfl) (by kernel_rfl) ?_ ?_
  · intro x hx φ he
    cases hx
  intro ops' A' K' T hops hA' hK hT
  refine fl_mv 19 (by rfl) (by decide) (wanted_none (by rfl)) (by rw [hK.out]; rfl) (by rfl) _ (Or.inl (by rfl)) (.pointer (some ⟨g, 0, none⟩)) (by rfl) ?_
  refine fl_op1 20 (by rfl) (by decide) (wanted_none (by rfl)) (by rw [hK.out]; rfl) (by rfl) (.tmp 6) (.pointer (some ⟨y, 0, none⟩)) (by rfl) (.pointer (some ⟨y, 0, none⟩)) (fun ρ h1 kk w1 (hg : Grow _ w1) hb hf => by go_simp) ?_
  refine fl_op1 21 (by rfl) (by decide) (wanted_none (by rfl)) (by rw [hK.out]; rfl) (by rfl) (.tmp 20) (.pointer (some ⟨y, 0, none⟩)) (by rfl) (.int .i64 (fa : Int)) (fun ρ h1 kk w1 (hg : Grow _ w1) hb hf => by have c := (hBy.grow hg).cell 0; go_simp) ?_
  refine fl_op1 22 (by rfl) (by decide) (wanted_none (by rfl)) (by rw [hK.out]; rfl) (by rfl) (.tmp 6) (.pointer (some ⟨y, 0, none⟩)) (by rfl) (.pointer (some ⟨y, 1, none⟩)) (fun ρ h1 kk w1 (hg : Grow _ w1) hb hf => by go_simp) ?_
  refine fl_op1 23 (by rfl) (by decide) (wanted_none (by rfl)) (by rw [hK.out]; rfl) (by rfl) (.tmp 22) (.pointer (some ⟨y, 1, none⟩)) (by rfl) (.int .i64 (ta : Int)) (fun ρ h1 kk w1 (hg : Grow _ w1) hb hf => by have c := (hBy.grow hg).cell 1; go_simp) ?_
  refine fl_op1 24 (by rfl) (by decide) (wanted_none (by rfl)) (by rw [hK.out]; rfl) (by rfl) (.tmp 19) (.pointer (some ⟨g, 0, none⟩)) (by rfl) (.pointer (some ⟨g, 0, none⟩)) (fun ρ h1 kk w1 (hg : Grow _ w1) hb hf => by go_simp) ?_
  refine fl_op1 25 (by rfl) (by decide) (wanted_none (by rfl)) (by rw [hK.out]; rfl) (by rfl) (.tmp 24) (.pointer (some ⟨g, 0, none⟩)) (by rfl) (.pointer (some ⟨g, 2, none⟩)) (fun ρ h1 kk w1 (hg : Grow _ w1) hb hf => by go_simp) ?_
  refine fl_op2 26 (by rfl) (by decide) (wanted_none (by rfl)) (by rw [hK.out]; rfl) (by rfl) (.tmp 25) (.tmp 21) (.pointer (some ⟨g, 2, none⟩)) (.int .i64 (fa : Int)) (by rfl) (by rfl) (.pointer (some ⟨g, 2 + fa * 8, none⟩)) (fun ρ h1 h2 kk w1 (hg : Grow _ w1) hb hf => by go_simp) ?_
  refine fl_op2 27 (by rfl) (by decide) (wanted_none (by rfl)) (by rw [hK.out]; rfl) (by rfl) (.tmp 26) (.tmp 23) (.pointer (some ⟨g, 2 + fa * 8, none⟩)) (.int .i64 (ta : Int)) (by rfl) (by rfl) (.pointer (some ⟨g, 2 + fa * 8 + ta, none⟩)) (fun ρ h1 h2 kk w1 (hg : Grow _ w1) hb hf => by go_simp) ?_
  refine fl_op1 28 (by rfl) (by decide) (wanted_none (by rfl)) (by rw [hK.out]; rfl) (by rfl) (.tmp 27) (.pointer (some ⟨g, 2 + fa * 8 + ta, none⟩)) (by rfl) (.bool false) (fun ρ h1 kk w1 (hg : Grow _ w1) hb hf => by have c := (hBq.grow hg).cell (2 + fa * 8 + ta); rw [Nat.add_assoc, netc_p _ _ _ (by omega), hp] at c; rw [← Nat.add_assoc] at c; go_simp) ?_
  refine fl_end (fun _ _ w1 (hg : Grow _ w1) _ hfacts => hT _ _ ?_)
  clear hops hA' hK hT
  simp only [putsL, Act.put, List.setIfInBounds_toArray, List.set_cons_zero, List.set_cons_succ, List.drop_succ_cons, List.drop_zero]
  have hg1 := hgab.trans hg
  have hB1 := hB.grow hg1
  have c1 : w1.cell? ⟨g, 1, none⟩ = some (.slice (some ad) q.length c) := hB1.cell 1
  go_wp2_with fail
  refine (delete_any w1 R (some ad) q.length c i _ (hRow.grow hg1) hi (by omega) (lts_one q)).mono ?_
  rintro e w2 ⟨rfl, hR2, hj2⟩
  have hB2 := hj2.blk hB1 hgR
  have f1 := hB2.frozen 1
  have c2 : w2.cell? ⟨g, 1, none⟩ = some (.slice (some ad) q.length c) := hB2.cell 1
  obtain ⟨hN3, hJ3⟩ := net_minus h1 HQL.out h64 hN hInv hB1 (fun b hb => (h6 b hb).grow hg1) h7 h8 hi hg1 hR2 hj2
  obtain ⟨hM3, hK3⟩ := net_minus_rd HQL.out h64 hN hInv hB1 (fun b hb => (h6 b hb).grow hg1) h70 h80 hi hg1 hR2 hj2
  have hjs := just_at w2 g 1 (.slice (some ad) (q.length - 1) c)
  have hbl2 : BIn (w2.setCell ⟨g, 1, none⟩ (.slice (some ad) (q.length - 1) c)) D Ab mb bs := In.just (In.just (In.grow hbl hg1) hj2 fun b hb hr => (h7 b hr).2.2 hb) hjs fun b hb e => (h8 b hb).2 e
  have hgx : g ≠ x := by have := hB.lt; omega
  have hgy : g ≠ y := by have := hB.lt; omega
  have hxR : ¬ R x := fun h => by have := hV x (h7 x h).1; omega
  have hyR : ¬ R y := fun h => by have := hV y (h7 y h).1; omega
  have hBx3 := (hj2.blk (hBxb.grow hg) hxR).far (p := ⟨g, 1, none⟩) hgx.symm (.slice (some ad) (q.length - 1) c)
  have hBy3 := (hj2.blk (hBy.grow hg) hyR).far (p := ⟨g, 1, none⟩) hgy.symm (.slice (some ad) (q.length - 1) c)
  have hs3 := setCell_size w2 ⟨g, 1, none⟩ (.slice (some ad) (q.length - 1) c)
  obtain ⟨w3, HW3⟩ : ∃ w3 : World, Hid (w3 = w2.setCell ⟨g, 1, none⟩ (.slice (some ad) (q.length - 1) c)) := ⟨_, rfl⟩
  have y0 := hBy3.cell 0
  have y1 := hBy3.cell 1
  have y2 := hBy3.cell 2
  have x0 := hBx3.cell 0
  have x1 := hBx3.cell 1
  have x2 := hBx3.cell 2
  have f30 := hBx3.frozen 0
  have f31 := hBx3.frozen 1
  have f32 := hBx3.frozen 2
  go_wp2_with fail
  rw [← HW3.out] at hN3 hJ3 hM3 hK3 hbl2 hBx3 hs3 ⊢
  have hE := ((hBx3.put 0 (.int .i64 (fa : Int))).put 1 (.int .i64 (ta : Int))).put 2 (.slice Ab mb cb)
  have e0 := hE.cell 0
  have e1 := hE.cell 1
  have e2 := hE.cell 2
  have hj : Just (fun b => b = x) w3 (((w3.setCell ⟨x, 0, none⟩ (.int .i64 (fa : Int))).setCell ⟨x, 1, none⟩ (.int .i64 (ta : Int))).setCell ⟨x, 2, none⟩ (.slice Ab mb cb)) :=
    (((Just.of_grow (Grow.refl w3)).put (V := fun b => b = x) rfl 0 _).put rfl 1 _).put rfl 2 _
  have hsz : ((((w3.setCell ⟨x, 0, none⟩ (.int .i64 (fa : Int))).setCell ⟨x, 1, none⟩ (.int .i64 (ta : Int))).setCell ⟨x, 2, none⟩ (.slice Ab mb cb))).heap.size = w3.heap.size := by rw [setCell_size, setCell_size, setCell_size]
  refine bodyPost_ret (v := .tuple #[.agg #[.int .i64 (fa : Int), .int .i64 (ta : Int), .slice Ab mb cb], .int .i64 0]) (by simp [results, Try.results13, go_sem, e0, e1, e2]) rfl ⟨(Ab, mb, cb), rfl, NetRD.keep hM3 fun b hb => hj.block b ?_ fun h => ?_, In.just hbl2 hj fun b hb h => ?_, ?_⟩
  · have := hJ3.size
    have : b < w.heap.size := by
      rcases hb with hb | hb | hb
      · rw [hb]; exact hB.lt
      · exact hRs b hb
      · exact hDs b hb
    omega
  · have : b < w.heap.size := by
      rcases hb with hb | hb | hb
      · rw [hb]; exact hB.lt
      · exact hRs b hb
      · exact hDs b hb
    rw [show b = x from h] at this; omega
  · have := hDs b hb; rw [show b = x from h] at this; omega
  · exact ⟨hj.os.trans hK3.os, hj.tape.trans hK3.tape, hj.output.trans hK3.output, Nat.le_trans hK3.size hj.size, fun k hk hv => (hj.block k (Nat.lt_of_lt_of_le hk hK3.size) (fun h => by rw [show k = x from h] at hk; omega)).trans (hK3.block k hk hv)⟩
end Go.Proofs.Ytacigekkfgeipaa
