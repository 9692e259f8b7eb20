/- known: its walk. -/
import Derived.Test.YtidkhokecekpgaaDoorCsame
namespace Go.Proofs.YtidkhokecekpgaaDoor
open Go.RowKit Go.Hop
theorem in_laid (w : World) (cs : Array Value) (e : Nat) {n size : Nat} (h : cs.size = n * size) : In (w.alloc (.cells cs e)) (fun b => b = w.heap.size) size (some ⟨w.heap.size, 0, none⟩) n cs.toList :=
  ⟨by simp [h], fun _ => ⟨_, rfl, rfl, by simp, fun j u hu => by rw [Addr.add_lit, Nat.zero_add]; exact ((Blk.made w e cs).cell j).trans (by simpa using hu)⟩⟩
def q3 : List Dl := [({ data := #[97, 61, 49] }, 5), ({ data := #[97, 61, 49, 44, 98, 61, 120] }, 7), ({ data := #[97, 61, 50] }, 7)]
def q2 : List Dl := [({ data := #[97, 61, 49] }, 18446744073709551615), ({ data := #[97, 61, 50] }, 1)]
def r3 : List Dl := [({ data := #[97, 61, 49, 44, 98, 61, 120] }, 7), ({ data := #[97, 61, 50] }, 7), ({ data := #[97, 61, 49] }, 5)]
def b3 : List Dl := [({ data := #[49] }, 12), ({ data := #[50] }, 7)]
theorem q3_names : ∀ d ∈ q3, ∃ L, (d.1, L) ∈ tabL := by
  intro d hd
  refine tab_of ?_
  have : ∀ d ∈ q3, (nameL.any fun x => decide (x = d.1)) = true := by decide +kernel
  obtain ⟨x, hx, he⟩ := List.any_eq_true.1 (this d hd)
  rw [← of_decide_eq_true he]; exact hx
theorem tab_parse {s : ByteArray} {L : List Lb} (h : (tabL.any fun p => decide (p = (s, L))) = true) : parseE s = 0 ∧ parseL s = L := by
  obtain ⟨p, hp, he⟩ := List.any_eq_true.1 h
  have := of_decide_eq_true he
  subst this
  exact tab_ok _ hp
theorem pa1 : parseE { data := #[97, 61, 49] } = 0 ∧ parseL { data := #[97, 61, 49] } = [({ data := #[97] }, { data := #[49] })] := tab_parse (by decide +kernel)
theorem pab : parseE { data := #[97, 61, 49, 44, 98, 61, 120] } = 0 ∧ parseL { data := #[97, 61, 49, 44, 98, 61, 120] } = [({ data := #[97] }, { data := #[49] }), ({ data := #[98] }, { data := #[120] })] := tab_parse (by decide +kernel)
theorem pa2 : parseE { data := #[97, 61, 50] } = 0 ∧ parseL { data := #[97, 61, 50] } = [({ data := #[97] }, { data := #[50] })] := tab_parse (by decide +kernel)
def la1 : List Lb := [({ data := #[97] }, { data := #[49] })]
theorem tot_q3 : totG la1 q3 0 = some 12 := by
  have m1 : matchB { data := #[97, 61, 49] } la1 = true := by unfold matchB; rw [pa1.1, pa1.2]; decide +kernel
  have m2 : matchB { data := #[97, 61, 49, 44, 98, 61, 120] } la1 = true := by unfold matchB; rw [pab.1, pab.2]; decide +kernel
  have m3 : matchB { data := #[97, 61, 50] } la1 = false := by unfold matchB; rw [pa2.1, pa2.2]; decide +kernel
  unfold q3
  rw [totG, if_pos m1, if_neg (by decide +kernel), totG, if_pos m2, if_neg (by decide +kernel), totG, if_neg (by rw [m3]; decide), totG]
  rfl
theorem tot_q2 : totG [] q2 0 = none := by
  have m1 : matchB { data := #[97, 61, 49] } [] = true := by unfold matchB; rw [pa1.1]; rfl
  have m3 : matchB { data := #[97, 61, 50] } [] = true := by unfold matchB; rw [pa2.1]; rfl
  unfold q2
  rw [totG, if_pos m1, if_neg (by decide +kernel), totG, if_pos m3, if_pos (by decide +kernel)]
theorem top_q3 {r : List Dl} (h : TopD r q3) : r = r3 := by
  have h3 : TopD r3 q3 := by
    refine ⟨?_, ?_⟩
    · exact List.perm_append_comm (l₁ := r3.take 2) (l₂ := r3.drop 2)
    · have : ∀ (i j : Fin 3), i < j → aheadB (r3[j.val]'(by have := j.isLt; exact this)) (r3[i.val]'(by have := i.isLt; exact this)) = false := by decide +kernel
      exact List.pairwise_iff_getElem.2 fun i j hi hj hij => this ⟨i, hi⟩ ⟨j, hj⟩ hij
  exact h.one h3 (List.Perm.refl _)
theorem by_q3 : joinD (byM { data := #[97] } q3) = b3 := by
  have e : byM { data := #[97] } q3 = [({ data := #[49] }, 5), ({ data := #[49] }, 7), ({ data := #[50] }, 7)] := by
    unfold byM q3
    simp only [List.filter_cons, List.filter_nil, pa1.1, pab.1, pa2.1, decide_true, if_true, List.map_cons, List.map_nil]
    unfold byV
    rw [pa1.2, pab.2, pa2.2]
    decide +kernel
  rw [e]
  decide +kernel
theorem by_r {r : List Dl} (h : ByD r (byM { data := #[97] } q3)) : r = b3 := by
  have hs : sumN (byM { data := #[97] } q3) ≤ M64 := by
    have : ∀ q : List Dl, sumN (byM { data := #[97] } q) ≤ sumN q := fun q => by
      unfold byM sumN
      rw [List.map_map]
      exact sumN_filter _ q
    exact Nat.le_trans (this q3) (by decide +kernel)
  refine ByD.one h ⟨by rw [by_q3], ?_⟩ (List.Perm.refl _) hs
  have : ∀ (i j : Fin 2), i < j → slt (b3[j.val]'(by have := j.isLt; exact this)).1 (b3[i.val]'(by have := i.isLt; exact this)).1 = false := by decide +kernel
  exact List.pairwise_iff_getElem.2 fun i j hi hj hij => this ⟨i, hi⟩ ⟨j, hj⟩ hij
theorem fit_q3 : Fit q3 := by unfold Fit M64; decide +kernel
theorem fit_q2 : Fit q2 := by unfold Fit M64; decide +kernel
theorem match_x : matchB { data := #[120] } [] = false := by
  have e : parseE { data := #[120] } = 12 := (parse_no1 (s := { data := #[120] }) (by decide +kernel)).1
  unfold matchB
  rw [e]; rfl
set_option maxRecDepth 100000 in
set_option maxHeartbeats 1000000 in
theorem known_any (w : World) : Calls Tryd.prog 11 #[] w fun e w' => e = .returned (.bool true) ∧ Grow w w' := by
  obtain ⟨g, HG⟩ : ∃ g : Nat, Hid (g = w.heap.size) := ⟨_, rfl⟩
  obtain ⟨wa, HWA⟩ : ∃ wa : World, Hid (wa = w.alloc (.cells #[.string { data := #[97, 61, 49] }, .int .u64 5, .string { data := #[97, 61, 49, 44, 98, 61, 120] }, .int .u64 7, .string { data := #[97, 61, 50] }, .int .u64 7] 30)) := ⟨_, rfl⟩
  have hga : Grow w wa := by rw [HWA.out]; exact (Below.refl _ _).alloc (Nat.le_refl _) _
  have hIa : In wa (fun b => b = g) 2 (some ⟨g, 0, none⟩) 3 (dcells q3) := by rw [HWA.out, HG.out]; exact in_laid w #[.string { data := #[97, 61, 49] }, .int .u64 5, .string { data := #[97, 61, 49, 44, 98, 61, 120] }, .int .u64 7, .string { data := #[97, 61, 50] }, .int .u64 7] 30 rfl
  obtain ⟨wb, HWB⟩ : ∃ wb : World, Hid (wb = wa.alloc (.cells #[.string { data := #[97] }, .string { data := #[49] }] 36)) := ⟨_, rfl⟩
  have hgb : Grow wa wb := by rw [HWB.out]; exact (Below.refl _ _).alloc (Nat.le_refl _) _
  obtain ⟨gl, HGL⟩ : ∃ gl : Nat, Hid (gl = wa.heap.size) := ⟨_, rfl⟩
  have hsz : gl = w.heap.size + 1 := by rw [HGL.out, HWA.out]; simp
  have hIb : In wb (fun b => b = gl) 2 (some ⟨gl, 0, none⟩) 1 (lcells la1) := by rw [HWB.out, HGL.out]; exact in_laid wa #[.string { data := #[97] }, .string { data := #[49] }] 36 rfl
  have hT1 := Total_any wb _ _ (some ⟨g, 0, none⟩) (some ⟨gl, 0, none⟩) 3 3 1 1 q3 la1 (hIa.grow hgb) (by omega) fit_q3 hIb (by omega)
  rw [tot_q3] at hT1
  have hTop := fun w1 (hg : Grow wa w1) => Top_any w1 _ (some ⟨g, 0, none⟩) 3 3 q3 (hIa.grow hg) (by omega)
  have hBy := fun w1 (hg : Grow wa w1) => By_any w1 _ (some ⟨g, 0, none⟩) 3 3 q3 (hIa.grow hg) (by omega) fit_q3 { data := #[97] }
  have hM1 := fun w1 => Match_any w1 { data := #[97, 61, 49] } (by decide +kernel) (fun _ => False) none 0 0 [] In.nil (by omega)
  have hM2 := fun w1 => Match_any w1 { data := #[120] } (by decide +kernel) (fun _ => False) none 0 0 [] In.nil (by omega)
  rw [match_x] at hM2
  rw [match_nil (List.mem_of_getElem? (i := 0) rfl)] at hM1
  clear hIa hIb
  go_enter Tryd.func11, Tryd.ntmps11
  go_wp2_with fail
  rw [← HWA.out, ← HWB.out, ← hsz, ← HG.out]
  clear hsz
  refine hT1.mono ?_
  rintro e wc ⟨rfl, hgc⟩
  clear hT1
  have hg1 := hgb.trans hgc
  have hT2 := Total_any (wc.alloc (.cells #[.string { data := #[97, 61, 49] }, .int .u64 18446744073709551615, .string { data := #[97, 61, 50] }, .int .u64 1] 30)) _ (fun _ => False) (some ⟨wc.heap.size, 0, none⟩) none 2 2 0 0 q2 [] (in_laid wc #[.string { data := #[97, 61, 49] }, .int .u64 18446744073709551615, .string { data := #[97, 61, 50] }, .int .u64 1] 30 rfl) (by omega) fit_q2 In.nil (by omega)
  rw [tot_q2] at hT2
  have hgd : Grow wc (wc.alloc (.cells #[.string { data := #[97, 61, 49] }, .int .u64 18446744073709551615, .string { data := #[97, 61, 50] }, .int .u64 1] 30)) := (Below.refl _ _).alloc (Nat.le_refl _) _
  unfold totV at hT2 ⊢
  go_wp2_with fail
  refine hT2.mono ?_
  rintro e we ⟨rfl, hge⟩
  clear hT2
  have hg2 := hg1.trans (hgd.trans hge)
  clear hg1 hgd hge
  go_wp2_with fail
  refine (hTop we hg2 2 (by omega)).mono ?_
  rintro e wf ⟨A6, r6, rfl, hr6, hI6, hgf⟩
  rw [top_q3 hr6] at hI6
  change In wf (New we wf) 2 A6 2 (dcells [({ data := #[97, 61, 49, 44, 98, 61, 120] }, 7), ({ data := #[97, 61, 50] }, 7)]) at hI6
  have hg3 := hg2.trans hgf
  clear hr6 hg2 hgf
  go_wp2_with fail
  refine (hBy wf hg3).mono ?_
  rintro e wh ⟨A7, r7, rfl, hr7, hI7, hgh⟩
  have e7 := by_r hr7
  subst e7
  change In wh (New wf wh) 2 A7 2 (dcells b3) at hI7
  have hg4 := hg3.trans hgh
  have hI6' := hI6.grow hgh
  clear hr7 hg3 hI6 hBy
  go_wp2_with fail
  rw [show topN 2 3 = 2 from by decide, show b3.length = 2 from rfl]
  obtain ⟨a6, _, rfl, c60, _⟩ := del_at hI6' (k := 0) (by decide)
  obtain ⟨a6', _, e6, c61, _⟩ := del_at hI6' (k := 1) (by decide)
  injection e6 with e6
  subst e6
  obtain ⟨a7, _, rfl, c70, c71⟩ := del_at hI7 (k := 0) (by decide)
  have hTop0 := fun w1 (hg : Grow wa w1) => hTop w1 hg 0 (by omega)
  rw [show topN 0 3 = 0 from by decide] at hTop0
  clear hTop hI6' hI7
  refine (hM1 wh).mono ?_
  rintro e wi ⟨rfl, hgi⟩
  go_wp2_with fail
  refine (hM2 wi).mono ?_
  rintro e wj ⟨rfl, hgj⟩
  have hgij := hgi.trans hgj
  have hg5 := hg4.trans hgij
  have z0 : ∀ a : Addr, a.add (0 * 2) = a := fun a => by obtain ⟨b, o, p⟩ := a; cases p <;> simp [Addr.add]
  have d60 : wj.cell? a6 = some (.string { data := #[97, 61, 49, 44, 98, 61, 120] }) := by have := c60 wj hgij; rw [z0] at this; exact this
  have d61 : wj.cell? ⟨a6.block, a6.off + 2, none⟩ = some (.string { data := #[97, 61, 50] }) := c61 wj hgij
  have d70 : wj.cell? a7 = some (.string { data := #[49] }) := by have := c70 wj hgij; rw [z0] at this; exact this
  have d71 : wj.cell? ⟨a7.block, a7.off + 1, none⟩ = some (.int .u64 12) := by have := c71 wj hgij; rw [z0] at this; exact this
  clear c60 c61 c70 c71 hM1 hM2 z0
  go_wp2_with fail
  refine (hTop0 wj hg5).mono ?_
  rintro e wk ⟨A8, r8, rfl, _, _, hgk⟩
  go_wp2_with fail
  go_ret
  exact ⟨rfl, (hga.trans hg5).trans hgk⟩
end Go.Proofs.YtidkhokecekpgaaDoor
