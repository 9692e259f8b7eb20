/- Some runs that the chapter fixes. -/
import Derived.Test.YtnlfkeajolfboaaAny
namespace Go.Proofs.Ytnlfkeajolfboaa
open Go.RowKit Go.Hop
def da : Dl := (⟨#[97, 61, 49]⟩, 1)
def mk (n : Nat) : List Ab := (List.range n).map fun j : Nat => (((j : Nat) : Int) + 1, [da])
theorem mk_succ (n : Nat) : mk (n + 1) = mk n ++ [((n : Int) + 1, [da])] := by unfold mk; rw [List.range_succ, List.map_append]; rfl
theorem mk_len (n : Nat) : (mk n).length = n := by unfold mk; rw [List.length_map, List.length_range]
set_option maxRecDepth 100000 in
theorem known_any (w : World) : Calls Try.prog 12 #[] w fun e w' => e = .returned (.bool true) ∧ Grow w w' := by
  go_enter Try.func12, Try.ntmps12
  go_wp2_with (first
    | (go_at_call 8; refine (New_any _).mono ?_; rintro e w1 ⟨rfl, hD1, hg1⟩))
  obtain ⟨g, HD⟩ : ∃ g : Nat, Hid (g = w.heap.size) := ⟨_, rfl⟩
  rw [← HD.out] at hD1 ⊢
  have hs1 := hg1.size
  have hs0 : Solo (fun b => w.heap.size ≤ b) (QueueAt g [] 0) w1 := Solo.make (V := New w w1) hD1 (fun b hb => by omega) (fun b hb => hb)
  clear hD1
  have hga := (Below.refl w1.heap.size w1).alloc (Nat.le_refl _) (.cells #[.string ⟨#[97, 61, 49]⟩, .int .u64 1] 29)
  obtain ⟨x, HX⟩ : ∃ x : Nat, Hid (x = w1.heap.size) := ⟨_, rfl⟩
  obtain ⟨wa, HA⟩ : ∃ wa : World, Hid (wa = w1.alloc (.cells #[.string ⟨#[97, 61, 49]⟩, .int .u64 1] 29)) := ⟨_, rfl⟩
  have hsw : wa.heap.size = w1.heap.size + 1 := by rw [HA.out]; simp
  rw [← HA.out] at hga
  have hda : DIn wa (fun b => b = x) (some ⟨x, 0, none⟩) 1 [da] := HA.out ▸ delta_laid w1 _ 1 x HX.out.symm
  have hsa : Solo (Off w.heap.size x) (QueueAt g [] 0) wa := Solo.beside hs0 (QueueAt.framed _ _ _) hga fun b hb h => ⟨hb, by have := HX.out; omega⟩
  have hba : Below w.heap.size w wa := Below.trans hg1 (hga.mono hg1.size)
  clear hs0
  go_wp2_with fail
  rw [← HA.out, ← HX.out]
  refine (hsa.call (Add_ok _ _ g [] 0 1 _ 1 1 [da] hda (by decide) (by decide) (by decide) (by decide) (by decide) (by decide) (by decide))).mono ?_
  rintro e w3 ⟨rfl, hj3, hs3⟩
  have hd3 : DIn w3 (fun b => b = x) (some ⟨x, 0, none⟩) 1 [da] := In.just hda hj3 fun b hb h => h.2 hb
  have hb3 := hba.trans (hj3.below (fun _ h => h.1) hba.size)
  clear hj3 hsa hda
  go_wp2_with fail
  go_at_call 9
  refine (hs3.call (Add_b _ g _ 1 1 _ 1 1 (by decide) (by decide))).mono ?_
  rintro e w4 ⟨rfl, hj4, hs4⟩
  have hd4 : DIn w4 (fun b => b = x) (some ⟨x, 0, none⟩) 1 [da] := In.just hd3 hj4 fun b hb h => h.2 hb
  have hb4 := hb3.trans (hj4.below (fun _ h => h.1) hb3.size)
  clear hj4 hs3 hd3 hb3
  go_wp2_with fail
  go_at_call 9
  refine (hs4.call (Add_c _ g _ 1 2 _ 0 0 (by decide) (by decide) (by decide))).mono ?_
  rintro e w5 ⟨rfl, hj5, hs5⟩
  have hd5 : DIn w5 (fun b => b = x) (some ⟨x, 0, none⟩) 1 [da] := In.just hd4 hj5 fun b hb h => h.2 hb
  have hb5 := hb4.trans (hj5.below (fun _ h => h.1) hb4.size)
  clear hj5 hs4 hd4 hb4
  go_wp2_with fail
  go_at_call 10
  refine (hs5.call (Done_at _ g _ 1 2 false (mk 1) ⟨rfl, rfl⟩)).mono ?_
  rintro e w6 ⟨rfl, hj6, hs6⟩
  have hd6 : DIn w6 (fun b => b = x) (some ⟨x, 0, none⟩) 1 [da] := In.just hd5 hj6 fun b hb h => h.2 hb
  have hb6 := hb5.trans (hj6.below (fun _ h => h.1) hb5.size)
  clear hj6 hs5 hd5 hb5
  go_wp2_with fail
  go_loopw [7] (fun i wr => ∃ k : Nat, k ≤ 5 ∧ i = .int .i64 ((k : Int) + 2) ∧ Solo (Off w.heap.size x) (QueueAt g (mk (k + 1)) ((k : Int) + 1)) wr ∧ DIn wr (fun b => b = x) (some ⟨x, 0, none⟩) 1 [da] ∧ Below w.heap.size w wr) (fun i _ => 7 - (intOf i).toNat)
  case atStart => exact ⟨0, by omega, rfl, hs6, hd6, hb6⟩
  case round =>
    obtain ⟨k, hk5, rfl, hs, hd, hb⟩ := hrel
    by_cases hk : k < 5
    · go_wp2_with fail
      refine (hs.call (Add_ok _ _ g (mk (k + 1)) _ ((k : Int) + 2) _ 1 1 [da] hd (by decide) (by decide) (by omega) (by omega) (by decide) (by decide) (by rw [mk_len]; omega))).mono ?_
      rintro e w3 ⟨rfl, hj3, hs3⟩
      have hd3 : DIn w3 (fun b => b = x) (some ⟨x, 0, none⟩) 1 [da] := In.just hd hj3 fun b hb h => h.2 hb
      have hb3 := hb.trans (hj3.below (fun _ h => h.1) hb.size)
      have hmk : mk (k + 1) ++ [((k : Int) + 2, [da])] = mk (k + 1 + 1) := by rw [mk_succ (k + 1)]; congr 3
      rw [hmk] at hs3
      clear hmk hj3 hs hd hb
      go_wp2_with fail
      go_roundw
      case rel => exact ⟨k + 1, by omega, by go_num, by rw [show (((k + 1 : Nat) : Int) + 1) = (k : Int) + 2 by omega]; exact hs3, hd3, hb3⟩
      case measure => simp [intOf]; omega
    · obtain rfl : k = 5 := by omega
      go_wp2_with fail
      refine (solo_look hs fun V h => Len_at wr g _ _ V h 6 (mk_len 6)).mono ?_
      rintro e w6 ⟨rfl, rfl⟩
      go_wp2_with fail
      go_at_call 16
      refine (solo_look hs fun V h => Flight_at wr g _ _ V h 4 (by rw [mk_len]; rfl)).mono ?_
      rintro e w7 ⟨A7, q7, rfl, hq7, _, hg7⟩
      have hs7 := hs.grow (QueueAt.framed _ _ _) hg7
      have hb7 := below_trans hb hg7 hb.size
      clear hs hb hd hq7 hg7
      go_wp2_with fail
      go_at_call 10
      refine (hs7.call (Done_at _ g _ _ 1 true [(2, [da]), (3, [da]), (4, [da]), (5, [da]), (6, [da])] ⟨rfl, rfl⟩)).mono ?_
      rintro e w8 ⟨rfl, hj8, hs8⟩
      have hb8 := hb7.trans (hj8.below (fun _ h => h.1) hb7.size)
      clear hs7 hb7 hj8
      go_wp2_with fail
      go_at_call 16
      refine (solo_look hs8 fun V h => Flight_at w8 g _ _ V h 4 rfl).mono ?_
      rintro e w9 ⟨A9, q9, rfl, hq9, ha9, hg9⟩
      have hb9 := below_trans hb8 hg9 hb8.size
      obtain ⟨ad, hk0, rfl, _, _, e0, _⟩ := hq9.row.rec_ (by omega) bat_len (k := 0) (by omega)
      have e0 := e0 _ rfl
      have h2 : q9[0].seq = 2 := by
        have h3 : (q9.map Bat.abs)[0]? = some q9[0].abs := by rw [List.getElem?_map, List.getElem?_eq_getElem hk0]; rfl
        rw [ha9] at h3
        exact (congrArg (fun o : Option Ab => (o.getD (0, [])).1) h3).symm
      rw [h2] at e0
      clear h2 ha9 hq9 hs8 hb8 hg9
      rw [show ad.add (0 * 2) = ad by simp [Addr.add]] at e0
      go_wp2_with fail
      go_ret
      exact ⟨rfl, hb9⟩
end Go.Proofs.Ytnlfkeajolfboaa
