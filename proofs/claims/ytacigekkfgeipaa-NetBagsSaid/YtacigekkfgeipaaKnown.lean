/- Some runs that the chapter fixes. -/
import Derived.Test.YtacigekkfgeipaaSame
import Derived.Lib.SlBytesConst
namespace Go.Proofs.Ytacigekkfgeipaa
open Go.RowKit Go.Hop
theorem solo_step {S S' : Thing} {w0 w : World} {Pr : Program} {f : FuncId} {args : Array Value} {C : Ending → Prop} (hs : Solo (fun b => w0.heap.size ≤ b) S w) (hb : Below w0.heap.size w0 w) (hc : Turns Pr f args C S S' w) :
    Calls Pr f args w fun e w' => C e ∧ Solo (fun b => w0.heap.size ≤ b) S' w' ∧ Below w0.heap.size w0 w' :=
  (Solo.call hs hc).mono fun e w' ⟨he, hj, hs'⟩ => ⟨he, hs', Below.trans hb (hj.below (fun _ h => h) hb.size)⟩
theorem solo_stepE {S : Thing} {w0 w : World} {Pr : Program} {f : FuncId} {args : Array Value} {ι : Type} {C : ι → Ending → Prop} {S' : ι → Thing} (hs : Solo (fun b => w0.heap.size ≤ b) S w) (hb : Below w0.heap.size w0 w)
    (hc : ∀ V : Nat → Prop, S w V → (∀ b, V b → b < w.heap.size) → Calls Pr f args w fun e w' => ∃ i, C i e ∧ S' i w' (Ext V w w') ∧ Just V w w') :
    Calls Pr f args w fun e w' => ∃ i, C i e ∧ Solo (fun b => w0.heap.size ≤ b) (S' i) w' ∧ Below w0.heap.size w0 w' :=
  (Solo.callE hs hc).mono fun e w' ⟨i, he, hj, hs'⟩ => ⟨i, he, hs', Below.trans hb (hj.below (fun _ h => h) hb.size)⟩
theorem byte_laid (w : World) (b : UInt8) (x : Nat) (mk : Nat × Nat) (hx : w.heap.size = x) : BIn (w.alloc (.cells #[.int .u8 (b.toNat : Int)] 5 mk)) (fun k => k = x) (some ⟨x, 0, none⟩) 1 [b] := by
  obtain ⟨h3, h4⟩ := reads_laid w #[.int .u8 (b.toNat : Int)] 5 mk (n := 1) (size := 1) rfl x hx
  exact ⟨h3, fun hn => ⟨_, rfl, rfl, by simp; omega, by obtain ⟨ad, e, _, hc⟩ := h4 hn; injection e with e; rw [e]; exact hc⟩⟩
theorem conv_const (w : World) (g : Nat) (C : Array Value) (n c : Nat) (hg : w.heap.size = g) : (convert 23 23 (.slice (some ⟨g, 0, none⟩) n c)).run Try.prog (w.alloc (.cells C 5)) = .ok (.slice (some ⟨g, 0, none⟩) n c) (w.alloc (.cells C 5 (C.size, C.size + 1))) := by
  subst hg
  exact Lib.run_convert_bytes_const (P := Try.prog) w 23 5 C n c Try.underlying23 Try.underlying5
def ax : Lb := (0, 1, [120])
def P0 : Nat → Bool := fun _ => false
def P1 : Nat → Bool := setP 2 0 1 true P0
def P2 : Nat → Bool := setP 2 1 0 false P1
set_option maxRecDepth 100000 in
theorem known_any (w : World) : Calls Try.prog 8 #[] w fun e w' => e = .returned (.bool true) ∧ Grow w w' := by
  have kc := conv_const
  go_enter Try.func8, Try.ntmps8
  go_wp2_with fail
  go_at_call 10
  refine (New_any w 2 (by decide) (by decide)).mono ?_
  rintro e w1 ⟨rfl, hD1, hg1⟩
  obtain ⟨g, HD⟩ : ∃ g : Nat, Hid (g = w.heap.size) := ⟨_, rfl⟩
  rw [← HD.out] at hD1 ⊢
  have hs1 := hg1.size
  have hs0 : Solo (fun b => w.heap.size ≤ b) (NetAt g 2 [] P0) w1 := Solo.make (V := New w w1) hD1 (fun b hb => by omega) (fun b hb => hb)
  clear hD1
  have hga := (Below.refl w1.heap.size w1).alloc (Nat.le_refl _) (.cells #[.int .u8 120] 5 (1, 2))
  obtain ⟨x, HX⟩ : ∃ x : Nat, Hid (x = w1.heap.size) := ⟨_, rfl⟩
  obtain ⟨wa, HA⟩ : ∃ wa : World, Hid (wa = w1.alloc (.cells #[.int .u8 120] 5 (1, 2))) := ⟨_, rfl⟩
  rw [← HA.out] at hga
  have hda : BIn wa (fun b => b = x) (some ⟨x, 0, none⟩) 1 [120] := HA.out ▸ byte_laid w1 120 x (1, 2) HX.out.symm
  have hs2 : Solo (fun b => w.heap.size ≤ b) (NetAt g 2 [] P0) wa := Solo.grow hs0 (NetAt.framed _ _ _ _) hga
  have hb2 : Below w.heap.size w wa := Below.trans hg1 (hga.mono hg1.size)
  clear hs0
  go_wp2_with fail
  go_at_call 10
  refine (New_no _ 0 (.inl (by decide))).mono ?_
  rintro e w1' ⟨rfl, rfl⟩
  go_wp2_with fail
  rw [← HA.out, ← HX.out]
  have ht3 := Send_any wa _ g 2 [] P0 0 1 (some ⟨x, 0, none⟩) 1 1 [120] hda (by decide) (by decide) (by decide)
  rw [show sendE 2 [] 0 1 = 0 by decide, show sendL 2 [] (0, 1, [120]) = [ax] by decide] at ht3
  refine (solo_step hs2 hb2 ht3).mono ?_
  rintro e w3 ⟨rfl, hs3, hb3⟩
  clear ht3 hs2 hb2
  go_wp2_with fail
  have ht4 := Twice_int w3 g 2 [ax] P0 0
  rw [show twiceE 2 [ax] 0 = 0 by decide, show twiceL 2 [ax] 0 = [ax, ax] by decide] at ht4
  refine (solo_step hs3 hb3 ht4).mono ?_
  rintro e w4 ⟨rfl, hs4, hb4⟩
  clear ht4 hs3 hb3
  go_wp2_with fail
  have ht5 := Part_any w4 g 2 [ax, ax] P0 0 1
  rw [show setE 2 0 1 = 0 by decide, show setP 2 0 1 true P0 = P1 from rfl] at ht5
  refine (solo_step hs4 hb4 ht5).mono ?_
  rintro e w5 ⟨rfl, hs5, hb5⟩
  clear ht5 hs4 hb4
  go_wp2_with fail
  have ht6 := Deliver_int w5 g 2 [ax, ax] P1 0
  rw [show delE [ax, ax] P1 0 = 26 by decide, show delL [ax, ax] P1 0 = [ax, ax] by decide, show delB [ax, ax] P1 0 = (0, 0, []) by decide] at ht6
  refine (solo_stepE hs5 hb5 ht6).mono ?_
  rintro e w6 ⟨⟨A6, m6, c6⟩, rfl, hs6, hb6⟩
  have hs6 : Solo (fun b => w.heap.size ≤ b) (NetAt g 2 [ax, ax] P1) w6 := Solo.turn hs6 fun V h => h.1
  clear ht6 hs5 hb5
  have hg6 := (Below.refl w6.heap.size w6).alloc (Nat.le_refl _) (.cells #[.int .i64 0, .int .i64 0, .slice A6 m6 c6] 35)
  have hs7 := Solo.grow hs6 (NetAt.framed _ _ _ _) hg6
  have hb7 := below_trans hb6 hg6 hb6.size
  obtain ⟨w7, HW7⟩ : ∃ w7 : World, Hid (w7 = w6.alloc (.cells #[.int .i64 0, .int .i64 0, .slice A6 m6 c6] 35)) := ⟨_, rfl⟩
  rw [← HW7.out] at hs7 hb7
  clear hs6 hb6 hg6
  go_wp2_with fail
  rw [← HW7.out]
  have ht8 := Heal_any w7 g 2 [ax, ax] P1 1 0
  rw [show setE 2 1 0 = 0 by decide, show setP 2 1 0 false P1 = P2 from rfl] at ht8
  refine (solo_step hs7 hb7 ht8).mono ?_
  rintro e w8 ⟨rfl, hs8, hb8⟩
  clear ht8 hs7 hb7
  go_wp2_with fail
  have ht9 := Deliver_int w8 g 2 [ax, ax] P2 1
  rw [show delE [ax, ax] P2 1 = 0 by decide, show delL [ax, ax] P2 1 = [ax] by decide, show delB [ax, ax] P2 1 = (0, 1, [120]) by decide] at ht9
  refine (solo_stepE hs8 hb8 ht9).mono ?_
  rintro e w9 ⟨⟨A9, m9, c9⟩, rfl, hs9, hb9⟩
  clear ht9 hs8 hb8
  have hg9 := (Below.refl w9.heap.size w9).alloc (Nat.le_refl _) (.cells #[.int .i64 0, .int .i64 1, .slice A9 m9 c9] 35)
  have hB9 := Blk.made w9 35 #[.int .i64 0, .int .i64 1, .slice A9 m9 c9]
  obtain ⟨x9, HX9⟩ : ∃ x9 : Nat, Hid (x9 = w9.heap.size) := ⟨_, rfl⟩
  obtain ⟨w10, HW10⟩ : ∃ w10 : World, Hid (w10 = w9.alloc (.cells #[.int .i64 0, .int .i64 1, .slice A9 m9 c9] 35)) := ⟨_, rfl⟩
  rw [← HW10.out] at hg9 hB9
  rw [← HX9.out] at hB9
  have hs10 := Solo.grow hs9 (Taken.framed _ _ _ _ _ _) hg9
  have hb10 := below_trans hb9 hg9 hb9.size
  have cv : (convert 23 9 (.slice A9 m9 c9)).run Try.prog w10 = .ok (.string ⟨#[120]⟩) w10 := by
    obtain ⟨_, V, ⟨_, hb, _⟩, _⟩ := hs10
    exact conv_bin w10 hb
  have hs10 : Solo (fun b => w.heap.size ≤ b) (NetAt g 2 [ax] P2) w10 := Solo.turn hs10 fun V h => h.1
  rw [HW10.out] at cv
  clear hs9 hb9 hg9 hB9
  go_wp2_with fail
  rw [← HW10.out, ← HX9.out]
  go_at_call 16
  obtain ⟨_, V, hV, _⟩ := id hs10
  refine (All_any w10 g 2 [ax] P2 V hV).mono ?_
  rintro e w11 ⟨u, rfl, ⟨A, n, cn, q, rfl, hL, habs, _, _⟩, hg11⟩
  obtain rfl : n = 1 := by rw [← hL.len, show q.length = (q.map Lt.abs).length by rw [List.length_map], habs]; rfl
  have hs11 := Solo.grow hs10 (NetAt.framed _ _ _ _) hg11
  have hb11 := below_trans hb10 hg11 hb10.size
  clear hL habs hg11 hs10 hb10 hV
  go_wp2_with fail
  have ht12 := Part_any w11 g 2 [ax] P2 0 0
  rw [show setE 2 0 0 = 23 by decide] at ht12
  refine (solo_step hs11 hb11 ht12).mono ?_
  rintro e w12 ⟨rfl, hs12, hb12⟩
  clear ht12 hs11 hb11
  go_wp2_with fail
  have ht13 := Drop_int w12 g 2 [ax] (setP 2 0 0 true P2) 9
  rw [show dropE [ax] 9 = 23 by decide] at ht13
  refine (solo_step hs12 hb12 ht13).mono ?_
  rintro e w13 ⟨rfl, hs13, hb13⟩
  clear ht13 hs12 hb12
  go_wp2_with fail
  go_ret
  exact ⟨rfl, hb13⟩
end Go.Proofs.Ytacigekkfgeipaa
