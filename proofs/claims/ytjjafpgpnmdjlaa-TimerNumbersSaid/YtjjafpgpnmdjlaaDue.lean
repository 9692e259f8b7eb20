/- Timers.Due. -/
import Derived.Test.YtjjafpgpnmdjlaaTm2
namespace Go.Proofs.Ytjjafpgpnmdjlaa
open Go.RowKit Go.Hop
/-- timers whose rows lie at r -/
def TimersR (t r : Nat) (S : List It) : Thing := fun w V =>
  V t ∧ ∃ (h : List It) (U : Nat → Prop), Blk w t 52 #[.pointer (some ⟨r, 0, none⟩)] ∧ RowsAt r h w U ∧ (∀ b, U b → V b ∧ b ≠ t) ∧ HeapN h.length h ∧ h.Perm S ∧ Sorted S
theorem TimersR.at_ {t r : Nat} {S : List It} {w : World} {V : Nat → Prop} (hh : TimersR t r S w V) : TimersAt t S w V := by
  obtain ⟨h1, h, U, h2⟩ := hh
  exact ⟨h1, r, h, U, h2⟩
theorem TimersAt.r_ {t : Nat} {S : List It} {w : World} {V : Nat → Prop} (hh : TimersAt t S w V) : ∃ r, TimersR t r S w V := by
  obtain ⟨h1, r, h, U, h2⟩ := hh
  exact ⟨r, h1, h, U, h2⟩
theorem TimersR.framed (t r : Nat) (S : List It) : Framed (TimersR t r S) := fun w w' V hh hk => by
  obtain ⟨h1, h, U, h2, h3, h4, h5⟩ := hh
  exact ⟨h1, h, U, (hk t h1).trans h2, RowsAt.framed r h w w' U h3 fun b hb => hk b (h4 b hb).1, h4, h5⟩
theorem TimersR.blk {t r : Nat} {S : List It} {w : World} {V : Nat → Prop} (hh : TimersR t r S w V) : Blk w t 52 #[.pointer (some ⟨r, 0, none⟩)] := by
  obtain ⟨h1, h, U, h2, _⟩ := hh
  exact h2
theorem pop_any (w : World) (t r : Nat) (a : It) (l : List It) :
    Turns Try.prog 20 #[.iface 48 (.pointer (some ⟨r, 0, none⟩))] (fun e => ∃ u, e = .returned u) (TimersR t r (a :: l)) (TimersR t r l) w := by
  intro V hQ hV
  obtain ⟨hVt, h, U, hT, hRw, hU, hH, hp, hs⟩ := hQ
  have hl : 0 < h.length := by rw [hp.length_eq]; simp
  obtain ⟨a', l', he, ha⟩ := heap_head hH hp hs hl
  injection he with e1 e2
  subst e1 e2
  refine (hPop_any w r h hl U hRw fun b hb => hV b (hU b hb).1).mono ?_
  rintro e w1 ⟨rfl, hQ1, hj1⟩
  have hpr := (remove_perm hl).trans hp
  rw [ha] at hpr
  refine ⟨⟨_, rfl⟩, ⟨.inl hVt, _, Ext U w w1, hj1.blk hT fun hh => (hU t hh).2 rfl, hQ1, fun b hb => ?_, remove_heap hH hl, (List.perm_cons _).1 hpr, (List.pairwise_cons.1 hs).2⟩, hj1.imp fun b hb => (hU b hb).1⟩
  rcases hb with hb | hb
  · exact ⟨.inl (hU b hb).1, (hU b hb).2⟩
  · exact ⟨.inr hb, fun e => by have := hV t hVt; omega⟩
def lenV : Value → Nat
  | .slice _ n _ => n
  | _ => 0
def firstC : List It → It
  | [] => (0, 0)
  | a :: _ => a
theorem firstV_eq (S : List It) : firstV S = .tuple #[.agg #[.int .i64 (firstC S).1, .int .i64 (firstC S).2], .bool (!S.isEmpty)] := by
  cases S <;> rfl
theorem due_at {now : Int} : ∀ (D S' : List It), (∀ a ∈ D, a.1 ≤ now) → (∀ a l, S' = a :: l → ¬ a.1 ≤ now) → due now (D ++ S') = D ∧ late now (D ++ S') = S'
  | [], S', _, h2 => by
    cases S' with
    | nil => exact ⟨rfl, rfl⟩
    | cons a l =>
      have := h2 a l rfl
      unfold due late
      rw [List.nil_append, List.takeWhile_cons, List.dropWhile_cons, if_neg (by simpa using this), if_neg (by simpa using this)]
      exact ⟨rfl, rfl⟩
  | d :: D, S', h1, h2 => by
    have hd := h1 d List.mem_cons_self
    have ih := due_at D S' (fun a ha => h1 a (List.mem_cons_of_mem _ ha)) h2
    unfold due late at *
    rw [List.cons_append, List.takeWhile_cons, List.dropWhile_cons, if_pos (by simpa using hd), if_pos (by simpa using hd), ih.1, ih.2]
    exact ⟨rfl, rfl⟩
def DueRel (w : World) (V : Nat → Prop) (t r : Nat) (S : List It) (now : Int) (s x ok : Value) (wr : World) : Prop :=
  ∃ (D S' : List It) (g : Nat) (R Vt : Nat → Prop), S = D ++ S' ∧ (∀ a ∈ D, a.1 ≤ now) ∧ x = .pointer (some ⟨g, 0, none⟩) ∧ ok = .bool (!S'.isEmpty) ∧ Blk wr g 36 #[.int .i64 (firstC S').1, .int .i64 (firstC S').2] ∧ New w wr g ∧
    Own wr R 36 2 s D.length (D.flatMap itc) ∧ (∀ b, R b → New w wr b ∧ b ≠ g) ∧ TimersR t r S' wr Vt ∧ (∀ b, Vt b → (V b ∨ w.heap.size ≤ b) ∧ b < wr.heap.size ∧ b ≠ g ∧ ¬ R b) ∧ Just V w wr
/-- what Due leaves -/
def DueEnd (w : World) (V : Nat → Prop) (t : Nat) (S : List It) (now : Int) (e : Ending) (w' : World) : Prop :=
  ∃ A c, e = .returned (.slice A (due now S).length c) ∧ Own w' (New w w') 36 2 (.slice A (due now S).length c) (due now S).length ((due now S).flatMap itc) ∧ TimersAt t (late now S) w' (Ext V w w') ∧ Just V w w'
theorem due_end {w wr : World} {V : Nat → Prop} {t r : Nat} {now : Int} {D S' : List It} {A : Option Addr} {c : Nat} {R Vt : Nat → Prop} (hD : ∀ a ∈ D, a.1 ≤ now) (hS : ∀ a l, S' = a :: l → ¬ a.1 ≤ now)
    (hO : Own wr R 36 2 (.slice A D.length c) D.length (D.flatMap itc)) (hR : ∀ b, R b → New w wr b) (hT : TimersR t r S' wr Vt) (hVt : ∀ b, Vt b → (V b ∨ w.heap.size ≤ b) ∧ b < wr.heap.size) (hj : Just V w wr) : DueEnd w V t (D ++ S') now (.returned (.slice A D.length c)) wr := by
  obtain ⟨h1, h2⟩ := due_at D S' hD hS
  unfold DueEnd
  rw [h1, h2]
  refine ⟨A, c, rfl, hO.mono hR, timers_wide _ _ _ _ _ hT.at_ fun b hb => ?_, hj⟩
  obtain ⟨h3, h4⟩ := hVt b hb
  rcases h3 with h3 | h3
  · exact .inl h3
  · exact .inr ⟨h3, h4⟩
set_option maxRecDepth 20000 in
set_option maxHeartbeats 1600000 in
theorem Due_any (w : World) (t : Nat) (S : List It) (now : Int) (V : Nat → Prop) (hQ : TimersAt t S w V) (hV : ∀ b, V b → b < w.heap.size) (hsm : S.length ≤ 1048576) :
    Calls Try.prog 12 #[.pointer (some ⟨t, 0, none⟩), .int .i64 now] w (DueEnd w V t S now) := by
  obtain ⟨r, hQr⟩ := hQ.r_
  go_enter Try.func12, Try.ntmps12
  go_wp2_with fail
  refine (Next_any w t S V hQ).mono ?_
  rintro e wa ⟨rfl, hga⟩
  rw [firstV_eq]
  have hBx0 := Blk.made wa 36 #[.int .i64 (firstC S).1, .int .i64 (firstC S).2]
  have hgb : Grow wa (wa.alloc (.cells #[.int .i64 (firstC S).1, .int .i64 (firstC S).2] 36)) := (Below.refl _ _).alloc (Nat.le_refl _) _
  have hsb : (wa.alloc (.cells #[.int .i64 (firstC S).1, .int .i64 (firstC S).2] 36)).heap.size = wa.heap.size + 1 := by simp
  have hsa := hga.size
  go_wp2_with fail
  generalize hwb : wa.alloc (.cells #[.int .i64 (firstC S).1, .int .i64 (firstC S).2] 36) = wb at *
  clear hwb
  have hgab := hga.trans hgb
  go_loopw [5, 7, 8] (fun s x ok wr => DueRel w V t r S now s x ok wr) (fun s _ _ _ => S.length - lenV s)
  case atStart => exact ⟨[], S, wa.heap.size, fun _ => False, V, rfl, by simp, rfl, rfl, hBx0, ⟨hsa, by omega⟩, Own.nil, fun _ hb => hb.elim, TimersR.framed _ _ _ _ _ _ hQr fun b hb => hgab.block b (hV b hb), fun b hb => ⟨.inl hb, by have := hV b hb; omega, by have := hV b hb; omega, fun h => h⟩, Just.of_grow hgab⟩
  case round =>
    obtain ⟨D, S', g, R, Vt, hS, hD, rfl, rfl, hBg, hgn, hO, hR, hT, hVt, hj⟩ := hrel
    obtain ⟨A, c, rfl, _, _, _⟩ := hO.in_
    subst hS
    cases S' with
    | nil =>
      have hend := due_end (now := now) hD (fun a l h => by cases h) hO (fun b hb => (hR b hb).1) hT (fun b hb => ⟨(hVt b hb).1, (hVt b hb).2.1⟩) hj
      clear hD hR hVt hj hO hT
      go_wp2_with fail
      go_ret
      exact hend
    | cons a l =>
      have cg0 : wr.cell? ⟨g, 0, none⟩ = some (.int .i64 a.1) := hBg.cell 0
      have cg1 : wr.cell? ⟨g, 1, none⟩ = some (.int .i64 a.2) := hBg.cell 1
      by_cases hn : a.1 ≤ now
      · have hn' : decide (a.1 ≤ now) = true := decide_eq_true hn
        have hlen : D.length + (l.length + 1) ≤ 1048576 := by simpa using hsm
        have hRl : ∀ b, R b → b < wr.heap.size := fun b hb => (hR b hb).1.2
        have hgw := (Below.refl wr.heap.size wr).alloc (Nat.le_refl _) (.cells #[.int .i64 a.1, .int .i64 a.2] 36)
        go_wp2_with (at_builtin; refine stay ?_)
        refine stay_out ?_
        refine wpList_own (V := R) itemE _ rfl (.tmp 28) (.tmp 30) rfl (.slice A D.length c) D.length (D.flatMap itc) rfl (hO.grow hRl hgw) (wr.heap.size + 1) (some ⟨wr.heap.size, 0, none⟩) 1 1 (itc a) rfl (reads_laid wr _ 36 _ rfl _ rfl) (fun u hu => itc_one [a] u (by simpa using hu)) (by omega) ?_
        intro v2 w2 hO2 hj2
        have hs2 := hj2.size
        simp only [World.size_alloc] at hs2
        have hT1 := TimersR.framed _ _ _ _ _ _ hT fun b hb => hgw.block b (hVt b hb).2.1
        have hT2 := TimersR.framed _ _ _ _ w2 _ hT1 fun b hb => hj2.block b (by have := (hVt b hb).2.1; simp; omega) (hVt b hb).2.2.2
        have hBg2 := hj2.blk (hBg.grow hgw) fun hh => (hR g hh).2 rfl
        have hVl : ∀ b, Vt b → b < w2.heap.size := fun b hb => by have := (hVt b hb).2.1; omega
        have ct := hT2.blk.cell 0
        have hpop := pop_any w2 t r a l Vt hT2 hVl
        go_wp2_with fail
        go_at_call 20
        refine hpop.mono ?_
        rintro e w3 ⟨⟨u, rfl⟩, hT3, hj3⟩
        have hs3 := hj3.size
        have hBg3 := hj3.blk hBg2 fun hh => (hVt g hh).2.2.1 rfl
        have dg0 : w3.cell? ⟨g, 0, none⟩ = some (.int .i64 a.1) := hBg3.cell 0
        have dg1 : w3.cell? ⟨g, 1, none⟩ = some (.int .i64 a.2) := hBg3.cell 1
        have hO3 : Own w3 (Ext R (wr.alloc (.cells #[.int .i64 a.1, .int .i64 a.2] 36)) w2) 36 2 v2 (D.length + 1) (D.flatMap itc ++ itc a) := hO2.keep fun b hb => by
          rcases hb with hb | hb
          · exact hj3.block b (by have := hRl b hb; omega) fun hh => (hVt b hh).2.2.2 hb
          · exact hj3.block b hb.2 fun hh => by have := (hVt b hh).2.1; have := hb.1; simp at this; omega
        have hB4 := Blk.made w3 36 #[.int .i64 a.1, .int .i64 a.2]
        have hg4 : Grow w3 (w3.alloc (.cells #[.int .i64 a.1, .int .i64 a.2] 36)) := (Below.refl _ _).alloc (Nat.le_refl _) _
        have hs4 : (w3.alloc (.cells #[.int .i64 a.1, .int .i64 a.2] 36)).heap.size = w3.heap.size + 1 := by simp
        obtain ⟨y, HY⟩ : ∃ y : Nat, Hid (y = w3.heap.size) := ⟨_, rfl⟩
        obtain ⟨w4, H4⟩ : ∃ w4 : World, Hid (w4 = w3.alloc (.cells #[.int .i64 a.1, .int .i64 a.2] 36)) := ⟨_, rfl⟩
        have hExt3 : ∀ b, Ext Vt w2 w3 b → b < w3.heap.size := fun b hb => by
          rcases hb with hb | hb
          · have := hVl b hb; omega
          · exact hb.2
        have hT4 := TimersR.framed _ _ _ _ _ _ hT3 fun b hb => hg4.block b (hExt3 b hb)
        rw [← H4.out] at hB4 hg4 hs4 hT4
        rw [← HY.out] at hB4
        have hy3 : w3.heap.size = y := HY.out.symm
        have hnx := Next_any w4 t l _ hT4.at_
        go_wp2_with fail
        rw [← H4.out]
        refine hnx.mono ?_
        rintro e w5 ⟨rfl, hg5⟩
        rw [firstV_eq]
        have hs5 := hg5.size
        have hB5 := hB4.grow hg5
        have e0 := hB5.cell 0
        have e1 := hB5.cell 1
        have f0 := hB5.frozen 0
        have f1 := hB5.frozen 1
        clear dg0 dg1 cg0 cg1 ct
        go_wp2_with fail
        have hj6 : Just (fun b => b = y) w5 ((w5.setCell ⟨y, 0, none⟩ (.int .i64 (firstC l).1)).setCell ⟨y, 1, none⟩ (.int .i64 (firstC l).2)) := ((Just.of_grow (Grow.refl w5)).put (V := fun b => b = y) rfl 0 _).put rfl 1 _
        have hB6 := (hB5.put 0 (.int .i64 (firstC l).1)).put 1 (.int .i64 (firstC l).2)
        have hs6 : ((w5.setCell ⟨y, 0, none⟩ (.int .i64 (firstC l).1)).setCell ⟨y, 1, none⟩ (.int .i64 (firstC l).2)).heap.size = w5.heap.size := by rw [setCell_size, setCell_size]
        generalize (w5.setCell ⟨y, 0, none⟩ (.int .i64 (firstC l).1)).setCell ⟨y, 1, none⟩ (.int .i64 (firstC l).2) = w6 at hj6 hB6 hs6 ⊢
        have hwr := hgn.2
        have hw0 := hgn.1
        have hsr := hj.size
        have hyN : ∀ b, b < y → w6.heap[b]? = w3.heap[b]? := fun b hb => by
          rw [hj6.block b (by omega) (by omega), hg5.block b (by omega), hg4.block b (by omega)]
        have hE : ∀ b, Ext R (wr.alloc (.cells #[.int .i64 a.1, .int .i64 a.2] 36)) w2 b → w.heap.size ≤ b ∧ b < w2.heap.size := fun b hb => by
          rcases hb with hb | hb
          · have := hRl b hb; exact ⟨(hR b hb).1.1, by omega⟩
          · have := hb.1; simp at this; exact ⟨by omega, hb.2⟩
        go_roundw
        case rel =>
          refine ⟨D ++ [a], l, y, Ext R (wr.alloc (.cells #[.int .i64 a.1, .int .i64 a.2] 36)) w2, Ext Vt w2 w3, by simp, fun b hb => ?_, rfl, rfl, hB6, ⟨by omega, by omega⟩, ?_, fun b hb => ⟨⟨(hE b hb).1, by have := (hE b hb).2; omega⟩, by have := (hE b hb).2; omega⟩, TimersR.framed _ _ _ _ _ _ hT3 fun b hb => hyN b (by have := hExt3 b hb; omega), fun b hb => ⟨?_, by have := hExt3 b hb; omega, by have := hExt3 b hb; omega, fun hh => ?_⟩, ?_⟩
          · rcases List.mem_append.1 hb with hb | hb
            · exact hD b hb
            · rw [List.mem_singleton.1 hb]; exact hn
          · rw [List.length_append, List.flatMap_append, List.flatMap_cons, List.flatMap_nil, List.append_nil]
            exact hO3.keep fun b hb => hyN b (by have := (hE b hb).2; omega)
          · rcases hb with hb | hb
            · exact (hVt b hb).1
            · exact .inr (by omega)
          · rcases hb with hb | hb
            · rcases hh with hh | hh
              · exact (hVt b hb).2.2.2 hh
              · have := hh.1; have := (hVt b hb).2.1; simp at *; omega
            · have := (hE b hh).2; omega
          · have k1 : ∀ b, b < w.heap.size → ¬ V b → w6.heap[b]? = w.heap[b]? := fun b hb hv => by
              rw [hyN b (by omega), hj3.block b (by omega) (fun hh => by
                rcases (hVt b hh).1 with h1 | h1
                · exact hv h1
                · omega), hj2.block b (by simp; omega) (fun hh => by have := (hR b hh).1.1; omega), hgw.block b (by omega), hj.block b hb hv]
            exact ⟨hj6.os.trans (hg5.os.trans (hg4.os.trans (hj3.os.trans (hj2.os.trans (hgw.os.trans hj.os))))), hj6.tape.trans (hg5.tape.trans (hg4.tape.trans (hj3.tape.trans (hj2.tape.trans (hgw.tape.trans hj.tape))))), hj6.output.trans (hg5.output.trans (hg4.output.trans (hj3.output.trans (hj2.output.trans (hgw.output.trans hj.output))))), by omega, k1⟩
        case measure =>
          obtain ⟨A', c', rfl, _, _, _⟩ := hO2.in_
          simp [lenV]; omega
      · have hn' : decide (a.1 ≤ now) = false := decide_eq_false hn
        have hend := due_end (now := now) hD (fun b l' h => by injection h with h1 _; rw [← h1]; exact hn) hO (fun b hb => (hR b hb).1) hT (fun b hb => ⟨(hVt b hb).1, (hVt b hb).2.1⟩) hj
        clear hD hR hVt hj hO hT
        go_wp2_with fail
        go_ret
        exact hend
end Go.Proofs.Ytjjafpgpnmdjlaa
