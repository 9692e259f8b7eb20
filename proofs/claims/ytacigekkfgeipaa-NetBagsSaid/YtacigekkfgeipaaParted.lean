/- NetParts: its walk. -/
import Derived.Test.YtacigekkfgeipaaDrd
import Derived.Test.YtacigekkfgeipaaWithin
namespace Go.Proofs.Ytacigekkfgeipaa
open Go.RowKit Go.Hop
theorem setE_ok {n x y : Nat} (hx : x < n) (hy : y < n) (hxy : x ≠ y) : setE (n : Int) (x : Int) (y : Int) = 0 := by
  unfold setE
  rw [nodeB_yes (by omega), nodeB_yes (by omega), if_neg (by decide), if_neg (by decide), if_neg (by omega)]
theorem setP_ok {n x y : Nat} (hx : x < n) (hy : y < n) (hxy : x ≠ y) (p : Bool) (P : Nat → Bool) : setP (n : Int) (x : Int) (y : Int) p P = parted P x y p := by
  unfold setP
  rw [setE_ok hx hy hxy, if_pos rfl, Int.toNat_natCast, Int.toNat_natCast]
theorem sendE_ok {n x y : Nat} {l : List Lb} (hl : l.length < 64) (hx : x < n) (hy : y < n) : sendE (n : Int) l (x : Int) (y : Int) = 0 := by
  unfold sendE
  rw [nodeB_yes (by omega), nodeB_yes (by omega), if_neg (by decide), if_neg (by decide), if_neg (by omega)]
theorem sendL_ok {n x y : Nat} {l : List Lb} {bs : List UInt8} (hl : l.length < 64) (hx : x < n) (hy : y < n) : sendL (n : Int) l ((x : Int), (y : Int), bs) = l ++ [((x : Int), (y : Int), bs)] := by
  unfold sendL
  rw [sendE_ok hl hx hy, if_pos rfl]
theorem delE_cut {l : List Lb} {P : Nat → Bool} {i x y : Nat} {bs : List UInt8} (hi : i < l.length) (he : l[i] = ((x : Int), (y : Int), bs)) (hp : P (x * 8 + y) = true) : delE l P (i : Int) = 26 ∧ delL l P (i : Int) = l ∧ delB l P (i : Int) = (0, 0, []) := by
  have h1 : delE l P (i : Int) = 26 := by
    unfold delE
    rw [nodeB_yes (by omega), if_pos rfl, ltAt_nat hi, he]
    simp only [Int.toNat_natCast, hp, if_true]
  exact ⟨h1, by unfold delL; rw [h1, if_neg (by decide)], by unfold delB; rw [h1, if_neg (by decide)]⟩
theorem delE_yes {l : List Lb} {P : Nat → Bool} {i x y : Nat} {bs : List UInt8} (hi : i < l.length) (he : l[i] = ((x : Int), (y : Int), bs)) (hp : P (x * 8 + y) = false) : delE l P (i : Int) = 0 ∧ delL l P (i : Int) = minus l i ∧ delB l P (i : Int) = ((x : Int), (y : Int), bs) := by
  have h1 : delE l P (i : Int) = 0 := by
    unfold delE
    rw [nodeB_yes (by omega), if_pos rfl, ltAt_nat hi, he]
    simp only [Int.toNat_natCast, hp, Bool.false_eq_true, if_false]
  exact ⟨h1, by unfold delL; rw [h1, if_pos rfl, Int.toNat_natCast], by unfold delB; rw [h1, if_pos rfl, ltAt_nat hi, he]⟩
theorem NetRD.empty {g : Nat} {nodes : Int} {P : Nat → Bool} {R D : Nat → Prop} {w : World} (h : NetRD g nodes [] P R D w) : NetRD g nodes [] P R (fun _ => False) w := by
  obtain ⟨v, q, h2, h3, hn, hi, h4, h5, h6, h7, h8⟩ := h
  obtain rfl : q = [] := List.map_eq_nil_iff.1 h2
  exact ⟨v, [], h2, h3, hn, hi, h4, h5, by simp, fun b hb => ⟨(h7 b hb).1, fun h => h⟩, fun _ h => h.elim⟩
set_option maxRecDepth 100000 in
set_option maxHeartbeats 4000000 in
theorem parts_any (w : World) (a b : Int) (ha : -9223372036854775808 ≤ a ∧ a ≤ 9223372036854775807) (hb0 : -9223372036854775808 ≤ b ∧ b ≤ 9223372036854775807) (A : Option Addr) (m c : Nat) (bs : List UInt8) (hd : BIn w (fun k => k < w.heap.size) A m bs) (hmc : m ≤ c) (hcm : c ≤ maxLen) (hsm : m ≤ 1048576) :
    Calls Try.prog 5 #[.int .i64 a, .int .i64 b, .slice A m c] w fun e w' => e = .returned (.bool true) ∧ Grow w w' := by
  go_enter Try.func5, Try.ntmps5
  go_wp2_with fail
  go_at_call 10
  refine (New_any w 4 (by decide) (by decide)).mono ?_
  rintro e w2 ⟨rfl, hD1, hb2⟩
  obtain ⟨g, HD⟩ : ∃ g : Nat, Hid (g = w.heap.size) := ⟨_, rfl⟩
  rw [← HD.out] at hD1 ⊢
  have hs1 := hb2.size
  have hs2 : Solo (fun b => w.heap.size ≤ b) (NetAt g 4 [] P0) w2 := Solo.make (V := New w w2) hD1 (fun b hb => by omega) (fun b hb => hb)
  clear hD1
  go_wp2_with fail
  go_at_call 9
  refine (within_nat w2 a 0 3 ha (by omega) (by omega) (by omega)).mono ?_
  rintro e w2' ⟨x, _, hx3, rfl, rfl⟩
  go_wp2_with fail
  go_at_call 9
  refine (within_nat w2 b 0 2 hb0 (by omega) (by omega) (by omega)).mono ?_
  rintro e w2' ⟨z, _, hz2, rfl, rfl⟩
  obtain ⟨y, hy, hyx, hyq⟩ : ∃ y : Nat, y < 4 ∧ x ≠ y ∧ Int.tmod ((x : Int) + 1 + z) 4 = y := ⟨(x + 1 + z) % 4, by omega, by omega, by rw [Int.tmod_eq_emod_of_nonneg (by omega)]; omega⟩
  have hx : x < 4 := by omega
  have hw1 : IntKind.i64.wrap ((x : Int) + 1) = (x : Int) + 1 := by rw [IntKind.wrap_i64]; omega
  have hw2 : IntKind.i64.wrap ((x : Int) + 1 + z) = (x : Int) + 1 + z := by rw [IntKind.wrap_i64]; omega
  have hw3 : IntKind.i64.wrap (y : Int) = (y : Int) := by rw [IntKind.wrap_i64]; omega
  have hHX : Hid (x ≠ y) := Lib.hid hyx
  clear hyx
  obtain ⟨Pa, HPA⟩ : ∃ Pa : Nat → Bool, Hid (Pa = parted P0 x y true) := ⟨_, rfl⟩
  have pa1 : Pa (x * 8 + y) = true := by rw [HPA.out]; simp [parted]
  have pa2 : Pa (y * 8 + x) = true := by rw [HPA.out]; simp [parted]
  have pa3 : Pa (x * 8 + x) = false := by rw [HPA.out]; have := hHX.out; simp only [parted, P0]; rw [if_neg (by omega), if_neg (by omega)]
  obtain ⟨Pb, HPB⟩ : ∃ Pb : Nat → Bool, Hid (Pb = parted Pa y x false) := ⟨_, rfl⟩
  have pb1 : Pb (x * 8 + y) = false := by rw [HPB.out]; simp [parted]
  have pb2 : Pb (y * 8 + x) = false := by rw [HPB.out]; simp [parted]
  go_wp2_with fail
  have ht3 := Part_any w2 g 4 [] P0 (x : Int) (y : Int)
  rw [show setE 4 (x : Int) (y : Int) = 0 from setE_ok (n := 4) hx hy hHX.out, show setP 4 (x : Int) (y : Int) true P0 = Pa from (setP_ok (n := 4) hx hy hHX.out true P0).trans HPA.out.symm] at ht3
  refine (solo_step hs2 hb2 ht3).mono ?_
  rintro e w3 ⟨rfl, hs3, hb3⟩
  clear ht3 hs2 hb2
  go_wp2_with fail
  have hd4 : BIn w3 (fun k => k < w.heap.size) A m bs := In.keep hd fun k hk _ => hb3.block k hk
  have ht4 := Send_any w3 _ g 4 [] Pa (x : Int) (y : Int) A m c bs hd4 hmc hcm hsm
  rw [show sendE 4 [] (x : Int) (y : Int) = 0 from sendE_ok (n := 4) (l := []) (by simp) hx hy, show sendL 4 [] ((x : Int), (y : Int), bs) = [((x : Int), (y : Int), bs)] from sendL_ok (n := 4) (l := []) (by simp) hx hy] at ht4
  refine (solo_step hs3 hb3 ht4).mono ?_
  rintro e w4 ⟨rfl, hs4, hb4⟩
  clear ht4 hd4 hs3 hb3
  go_wp2_with fail
  have hd5 : BIn w4 (fun k => k < w.heap.size) A m bs := In.keep hd fun k hk _ => hb4.block k hk
  have ht5 := Send_any w4 _ g 4 [((x : Int), (y : Int), bs)] Pa (y : Int) (x : Int) A m c bs hd5 hmc hcm hsm
  rw [show sendE 4 [((x : Int), (y : Int), bs)] (y : Int) (x : Int) = 0 from sendE_ok (n := 4) (l := [((x : Int), (y : Int), bs)]) (by simp) hy hx, show sendL 4 [((x : Int), (y : Int), bs)] ((y : Int), (x : Int), bs) = [((x : Int), (y : Int), bs), ((y : Int), (x : Int), bs)] from sendL_ok (n := 4) (l := [((x : Int), (y : Int), bs)]) (by simp) hy hx] at ht5
  refine (solo_step hs4 hb4 ht5).mono ?_
  rintro e w5 ⟨rfl, hs5, hb5⟩
  clear ht5 hd5 hs4 hb4
  go_wp2_with fail
  have hd6 : BIn w5 (fun k => k < w.heap.size) A m bs := In.keep hd fun k hk _ => hb5.block k hk
  have ht6 := Send_any w5 _ g 4 [((x : Int), (y : Int), bs), ((y : Int), (x : Int), bs)] Pa (x : Int) (x : Int) A m c bs hd6 hmc hcm hsm
  rw [show sendE 4 [((x : Int), (y : Int), bs), ((y : Int), (x : Int), bs)] (x : Int) (x : Int) = 0 from sendE_ok (n := 4) (l := [((x : Int), (y : Int), bs), ((y : Int), (x : Int), bs)]) (by simp) hx hx, show sendL 4 [((x : Int), (y : Int), bs), ((y : Int), (x : Int), bs)] ((x : Int), (x : Int), bs) = [((x : Int), (y : Int), bs), ((y : Int), (x : Int), bs), ((x : Int), (x : Int), bs)] from sendL_ok (n := 4) (l := [((x : Int), (y : Int), bs), ((y : Int), (x : Int), bs)]) (by simp) hx hx] at ht6
  refine (solo_step hs5 hb5 ht6).mono ?_
  rintro e w6 ⟨rfl, hs6, hb6⟩
  clear ht6 hd6 hs5 hb5
  go_wp2_with fail
  obtain ⟨q1, q2, q3⟩ := show delE [((x : Int), (y : Int), bs), ((y : Int), (x : Int), bs), ((x : Int), (x : Int), bs)] Pa 0 = 26 ∧ delL [((x : Int), (y : Int), bs), ((y : Int), (x : Int), bs), ((x : Int), (x : Int), bs)] Pa 0 = [((x : Int), (y : Int), bs), ((y : Int), (x : Int), bs), ((x : Int), (x : Int), bs)] ∧ delB [((x : Int), (y : Int), bs), ((y : Int), (x : Int), bs), ((x : Int), (x : Int), bs)] Pa 0 = (0, 0, []) from delE_cut (l := [((x : Int), (y : Int), bs), ((y : Int), (x : Int), bs), ((x : Int), (x : Int), bs)]) (i := 0) (by simp) rfl pa1
  have ht7 := Deliver_int w6 g 4 [((x : Int), (y : Int), bs), ((y : Int), (x : Int), bs), ((x : Int), (x : Int), bs)] Pa 0
  rw [q1, q2, q3] at ht7
  refine (solo_stepE hs6 hb6 ht7).mono ?_
  rintro e w7 ⟨⟨A7, m7, c7⟩, rfl, hs7, hb7⟩
  have hs7 := Solo.turn hs7 fun V h => h.1
  have hg7 := (Below.refl w7.heap.size w7).alloc (Nat.le_refl _) (.cells #[.int .i64 0, .int .i64 0, .slice A7 m7 c7] 35)
  have hs8 := Solo.grow hs7 (NetAt.framed _ _ _ _) hg7
  have hb8 := below_trans hb7 hg7 hb7.size
  obtain ⟨w8, HW8⟩ : ∃ w8 : World, Hid (w8 = w7.alloc (.cells #[.int .i64 0, .int .i64 0, .slice A7 m7 c7] 35)) := ⟨_, rfl⟩
  rw [← HW8.out] at hs8 hb8
  clear ht7 hs6 hb6 hs7 hb7 hg7
  go_wp2_with fail
  rw [← HW8.out]
  clear q1 q2 q3
  obtain ⟨q1, q2, q3⟩ := show delE [((x : Int), (y : Int), bs), ((y : Int), (x : Int), bs), ((x : Int), (x : Int), bs)] Pa 1 = 26 ∧ delL [((x : Int), (y : Int), bs), ((y : Int), (x : Int), bs), ((x : Int), (x : Int), bs)] Pa 1 = [((x : Int), (y : Int), bs), ((y : Int), (x : Int), bs), ((x : Int), (x : Int), bs)] ∧ delB [((x : Int), (y : Int), bs), ((y : Int), (x : Int), bs), ((x : Int), (x : Int), bs)] Pa 1 = (0, 0, []) from delE_cut (l := [((x : Int), (y : Int), bs), ((y : Int), (x : Int), bs), ((x : Int), (x : Int), bs)]) (i := 1) (by simp) rfl pa2
  have ht9 := Deliver_int w8 g 4 [((x : Int), (y : Int), bs), ((y : Int), (x : Int), bs), ((x : Int), (x : Int), bs)] Pa 1
  rw [q1, q2, q3] at ht9
  refine (solo_stepE hs8 hb8 ht9).mono ?_
  rintro e w9 ⟨⟨A9, m9, c9⟩, rfl, hs9, hb9⟩
  have hs9 := Solo.turn hs9 fun V h => h.1
  have hg9 := (Below.refl w9.heap.size w9).alloc (Nat.le_refl _) (.cells #[.int .i64 0, .int .i64 0, .slice A9 m9 c9] 35)
  have hs10 := Solo.grow hs9 (NetAt.framed _ _ _ _) hg9
  have hb10 := below_trans hb9 hg9 hb9.size
  obtain ⟨w10, HW10⟩ : ∃ w10 : World, Hid (w10 = w9.alloc (.cells #[.int .i64 0, .int .i64 0, .slice A9 m9 c9] 35)) := ⟨_, rfl⟩
  rw [← HW10.out] at hs10 hb10
  clear ht9 hs8 hb8 hs9 hb9 hg9
  go_wp2_with fail
  rw [← HW10.out]
  clear q1 q2 q3
  obtain ⟨q1, q2, q3⟩ := show delE [((x : Int), (y : Int), bs), ((y : Int), (x : Int), bs), ((x : Int), (x : Int), bs)] Pa 2 = 0 ∧ delL [((x : Int), (y : Int), bs), ((y : Int), (x : Int), bs), ((x : Int), (x : Int), bs)] Pa 2 = [((x : Int), (y : Int), bs), ((y : Int), (x : Int), bs)] ∧ delB [((x : Int), (y : Int), bs), ((y : Int), (x : Int), bs), ((x : Int), (x : Int), bs)] Pa 2 = ((x : Int), (x : Int), bs) from delE_yes (l := [((x : Int), (y : Int), bs), ((y : Int), (x : Int), bs), ((x : Int), (x : Int), bs)]) (i := 2) (by simp) rfl pa3
  have ht11 := Deliver_int w10 g 4 [((x : Int), (y : Int), bs), ((y : Int), (x : Int), bs), ((x : Int), (x : Int), bs)] Pa 2
  rw [q1, q2, q3] at ht11
  refine (solo_stepE hs10 hb10 ht11).mono ?_
  rintro e w11 ⟨⟨A11, m11, c11⟩, rfl, hs11, hb11⟩
  have hs11 := Solo.turn hs11 fun V h => h.1
  have hg11 := (Below.refl w11.heap.size w11).alloc (Nat.le_refl _) (.cells #[.int .i64 (x : Int), .int .i64 (x : Int), .slice A11 m11 c11] 35)
  have hs12 := Solo.grow hs11 (NetAt.framed _ _ _ _) hg11
  have hb12 := below_trans hb11 hg11 hb11.size
  obtain ⟨w12, HW12⟩ : ∃ w12 : World, Hid (w12 = w11.alloc (.cells #[.int .i64 (x : Int), .int .i64 (x : Int), .slice A11 m11 c11] 35)) := ⟨_, rfl⟩
  rw [← HW12.out] at hs12 hb12
  clear ht11 hs10 hb10 hs11 hb11 hg11
  go_wp2_with fail
  rw [← HW12.out]
  clear q1 q2 q3
  have ht13 := Heal_any w12 g 4 [((x : Int), (y : Int), bs), ((y : Int), (x : Int), bs)] Pa (y : Int) (x : Int)
  rw [show setE 4 (y : Int) (x : Int) = 0 from setE_ok (n := 4) hy hx hHX.out.symm, show setP 4 (y : Int) (x : Int) false Pa = Pb from (setP_ok (n := 4) hy hx hHX.out.symm false Pa).trans HPB.out.symm] at ht13
  refine (solo_step hs12 hb12 ht13).mono ?_
  rintro e w13 ⟨rfl, hs13, hb13⟩
  clear ht13 hs12 hb12
  obtain ⟨hP13, V, hV13, hVs⟩ := hs13
  obtain ⟨R, D, hgV, hRV, hDV, hrd13⟩ := hV13.rd
  have hgs := (hVs g hgV).2
  have hRs : ∀ b, R b → b < w13.heap.size := fun b hb => (hVs b (hRV b hb)).2
  have hDs : ∀ b, D b → b < w13.heap.size := fun b hb => (hVs b (hDV b hb)).2
  have hlow : ∀ b, (b = g ∨ R b) → w.heap.size ≤ b := fun b hb => by
    rcases hb with hb | hb
    · rw [hb]; exact (hVs g hgV).1
    · exact (hVs b (hRV b hb)).1
  have hall : ∀ b, (b = g ∨ R b ∨ D b) → b < w13.heap.size := fun b hb => by
    rcases hb with hb | hb | hb
    · rw [hb]; exact hgs
    · exact hRs b hb
    · exact hDs b hb
  have hoff : ∀ b, D b → ¬ (b = g ∨ R b) := fun b hb h => by
    obtain ⟨v, q, _, _, _, _, _, _, _, h7, h8⟩ := hrd13
    rcases h with h | h
    · exact h8 b hb h
    · exact (h7 b h).2 hb
  clear hP13 hV13 hVs hRV hDV hgV
  go_wp2_with fail
  refine (Deliver_rd w13 g 4 [((x : Int), (y : Int), bs), ((y : Int), (x : Int), bs)] Pb 0 (by simp) pb1 R D hrd13 hRs hDs).mono ?_
  rintro e w14 ⟨⟨A14, m14, c14⟩, rfl, hrd14, hbi14, hj14⟩
  have hb14 := hb13.trans (hj14.below (B := w.heap.size) hlow hb13.size)
  have hs14 := hj14.size
  have hg14 := (Below.refl w14.heap.size w14).alloc (Nat.le_refl _) (.cells #[.int .i64 (x : Int), .int .i64 (y : Int), .slice A14 m14 c14] 35)
  have hB15 := Blk.made w14 35 #[.int .i64 (x : Int), .int .i64 (y : Int), .slice A14 m14 c14]
  have hb15 := below_trans hb14 hg14 hb14.size
  obtain ⟨pp, HPP⟩ : ∃ pp : Nat, Hid (pp = w14.heap.size) := ⟨_, rfl⟩
  have hpp : w13.heap.size ≤ pp := by have := HPP.out; omega
  obtain ⟨w15, HW15⟩ : ∃ w15 : World, Hid (w15 = w14.alloc (.cells #[.int .i64 (x : Int), .int .i64 (y : Int), .slice A14 m14 c14] 35)) := ⟨_, rfl⟩
  have hpl : pp < w15.heap.size := by rw [HW15.out, HPP.out]; simp
  rw [← HW15.out] at hg14 hB15 hb15
  rw [← HPP.out] at hB15
  have hrd15 : NetRD g 4 [((y : Int), (x : Int), bs)] Pb R D w15 := NetRD.keep (show NetRD g 4 [((y : Int), (x : Int), bs)] Pb R D w14 from hrd14) fun b hb => hg14.block b (Nat.lt_of_lt_of_le (hall b hb) hs14)
  have hbi15 := In.grow hbi14 hg14
  have hs15 := hg14.size
  clear hrd13 hrd14 hbi14 hj14 hg14 hb13 hb14
  go_wp2_with fail
  rw [← HW15.out, ← HPP.out]
  refine (Deliver_rd w15 g 4 [((y : Int), (x : Int), bs)] Pb 0 (by simp) pb2 R D hrd15 (fun b hb => by have := hRs b hb; omega) (fun b hb => by have := hDs b hb; omega)).mono ?_
  rintro e w16 ⟨⟨A16, m16, c16⟩, rfl, hrd16, _, hj16⟩
  have hpo : ¬ (pp = g ∨ R pp) := fun h => by
    rcases h with h | h
    · omega
    · have := hRs pp h; omega
  have hB16 := hj16.blk hB15 hpo
  have hbi16 := In.just hbi15 hj16 hoff
  have hb16 := hb15.trans (hj16.below (B := w.heap.size) hlow hb15.size)
  have hs16 := hj16.size
  have hg16 := (Below.refl w16.heap.size w16).alloc (Nat.le_refl _) (.cells #[.int .i64 (y : Int), .int .i64 (x : Int), .slice A16 m16 c16] 35)
  have hC17 := Blk.made w16 35 #[.int .i64 (y : Int), .int .i64 (x : Int), .slice A16 m16 c16]
  have hb17 := below_trans hb16 hg16 hb16.size
  obtain ⟨pq, HPQ⟩ : ∃ pq : Nat, Hid (pq = w16.heap.size) := ⟨_, rfl⟩
  have hpq : w13.heap.size ≤ pq := by have := HPQ.out; omega
  obtain ⟨w17, HW17⟩ : ∃ w17 : World, Hid (w17 = w16.alloc (.cells #[.int .i64 (y : Int), .int .i64 (x : Int), .slice A16 m16 c16] 35)) := ⟨_, rfl⟩
  rw [← HW17.out] at hg16 hC17 hb17
  rw [← HPQ.out] at hC17
  have hrd17 : NetRD g 4 [] Pb R D w17 := NetRD.keep (show NetRD g 4 [] Pb R D w16 from hrd16) fun b hb => hg16.block b (by have := hall b hb; omega)
  have hbi17 := In.grow hbi16 hg16
  have hB17 := hB16.grow hg16
  have hs17 := hg16.size
  clear hrd15 hrd16 hbi15 hbi16 hj16 hg16 hb15 hb16 hB15 hB16
  go_wp2_with fail
  rw [← HW17.out, ← HPQ.out]
  refine (Deliver_no w17 g 4 [] Pb 0 (by decide) _ (NetRD.empty hrd17).at_ (fun b hb => by have := hall b (hb.imp_right fun h => h.imp_right fun h => h.elim); omega)).mono ?_
  rintro e w18 ⟨rfl, _, hj18⟩
  have hj18 := hj18.imp (V' := fun b => b = g ∨ R b) fun b hb => hb.imp_right fun h => h.resolve_right fun h => h
  have hqo : ¬ (pq = g ∨ R pq) := fun h => by
    rcases h with h | h
    · omega
    · have := hRs pq h; omega
  have hB18 := hj18.blk hB17 hpo
  have hC18 := hj18.blk hC17 hqo
  have hbi18 := In.just hbi17 hj18 hoff
  have hb18 := hb17.trans (hj18.below (B := w.heap.size) hlow hb17.size)
  have hg18 := (Below.refl w18.heap.size w18).alloc (Nat.le_refl _) (.cells #[.int .i64 0, .int .i64 0, .slice none 0 0] 35)
  have hb19 := below_trans hb18 hg18 hb18.size
  have hB19 := hB18.grow hg18
  have hC19 := hC18.grow hg18
  have b0 := hB19.cell 0
  have b2 := hB19.cell 2
  have cc0 := hC19.cell 0
  have cv1 := conv_bin _ (c := c14) (In.grow hbi18 hg18)
  have cv2 := conv_bin (w18.alloc (.cells #[.int .i64 0, .int .i64 0, .slice none 0 0] 35)) (c := c) (V := fun k => k < w.heap.size) (In.keep hd fun k hk _ => hb19.block k hk)
  clear hrd17 hbi17 hbi18 hj18 hb17 hB17 hC17 hB18 hC18 hB19 hC19 hoff hall hlow hRs hDs
  go_wp2_with fail
  refine (known_any _).mono ?_
  rintro e w20 ⟨rfl, hg20⟩
  go_wp2_with fail
  go_ret
  exact ⟨rfl, below_trans hb19 hg20 hb19.size⟩
end Go.Proofs.Ytacigekkfgeipaa
