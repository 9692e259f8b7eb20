/- Some runs that the chapter fixes. -/
import Derived.Test.YtjjafpgpnmdjlaaDue
namespace Go.Proofs.Ytjjafpgpnmdjlaa
open Go.RowKit Go.Hop
theorem own_item {w : World} {V : Nat → Prop} {A : Option Addr} {n c : Nat} {D : List It} (hO : Own w V 36 2 (.slice A n c) n (D.flatMap itc)) {k : Nat} (hk : k < n) :
    ∃ g, A = some ⟨g, 0, none⟩ ∧ V g ∧ g < w.heap.size ∧ ∀ w' : World, w'.heap[g]? = w.heap[g]? → w'.cell? ⟨g, k * 2, none⟩ = some (.int .i64 (hat D k).1) ∧ w'.cell? ⟨g, k * 2 + 1, none⟩ = some (.int .i64 (hat D k).2) := by
  obtain ⟨hlen, h0 | ⟨g, cap, cur, e1, hV, hg, hnc, hm, hsz, htk⟩⟩ := hO
  · omega
  injection e1 with e1 _ e3
  subst e1 e3
  have hDn : D.length = n := by rw [flat_length itc 2 itc_len] at hlen; omega
  refine ⟨g, rfl, hV, (Array.getElem?_eq_some_iff.1 hg).1, fun w' hw => ?_⟩
  have hB : Blk w' g 36 cur := hw.trans hg
  have hget : ∀ j, j < 2 → cur[k * 2 + j]? = (itc (hat D k))[j]? := fun j hj => by
    have h1 := flat_get itc 2 itc_len D k j (by omega) hj
    rw [← hat_get (by omega), ← htk, List.getElem?_take, if_pos (by omega)] at h1
    simpa using h1
  exact ⟨(hB.cell _).trans (hget 0 (by omega)), (hB.cell _).trans (hget 1 (by omega))⟩
theorem due_solo {P : Nat → Prop} {w : World} {t : Nat} {S : List It} (now : Int) (hs : Solo P (TimersAt t S) w) :
    Calls Try.prog 12 #[.pointer (some ⟨t, 0, none⟩), .int .i64 now] w fun e w' => ∃ A c, e = .returned (.slice A (due now S).length c) ∧ Own w' (New w w') 36 2 (.slice A (due now S).length c) (due now S).length ((due now S).flatMap itc) ∧ Just P w w' ∧ Solo P (TimersAt t (late now S)) w' := by
  obtain ⟨h0, V, hQ, hV⟩ := hs
  refine (Due_any w t S now V hQ (fun b hb => (hV b hb).2) hQ.facts.2.2.1).mono ?_
  rintro e w' ⟨A, c, he, hO, hT, hj⟩
  exact ⟨A, c, he, hO, hj.imp fun b hb => (hV b hb).1, fun b hb => h0 b (Nat.le_trans hj.size hb), Ext V w w', hT, fun b hb => by
    rcases hb with hb | hb
    · exact ⟨(hV b hb).1, by have := (hV b hb).2; have := hj.size; omega⟩
    · exact ⟨h0 b hb.1, hb.2⟩⟩
theorem next_solo {P : Nat → Prop} {w : World} {t : Nat} {S : List It} (hs : Solo P (TimersAt t S) w) : Calls Try.prog 17 #[.pointer (some ⟨t, 0, none⟩)] w fun e w' => e = .returned (firstV S) ∧ Grow w w' ∧ Solo P (TimersAt t S) w' := by
  obtain ⟨_, V, hQ, _⟩ := id hs
  exact (Next_any w t S V hQ).mono fun _ _ ⟨h1, h2⟩ => ⟨h1, h2, hs.grow (TimersAt.framed _ _) h2⟩
theorem tlen_solo {P : Nat → Prop} {w : World} {t : Nat} {S : List It} (hs : Solo P (TimersAt t S) w) : Calls Try.prog 13 #[.pointer (some ⟨t, 0, none⟩)] w fun e w' => e = .returned (.int .i64 (S.length : Int)) ∧ w = w' := by
  obtain ⟨_, V, hQ, _⟩ := hs
  exact tLen_any w t S V hQ
theorem known_any (w : World) : Calls Try.prog 8 #[] w fun e w' => e = .returned (.bool true) ∧ Grow w w' := by
  have k1 : setF (5, 1) [] = [(5, 1)] := by simp [setF, ins, noKey]
  have k2 : setF (7, 1) [(5, 1)] = [(7, 1)] := by simp [setF, ins, noKey]
  have k3 : setF (7, 2) [(7, 1)] = [(7, 1), (7, 2)] := by simp [setF, ins, noKey, Lt]
  have k4 : due 6 [((7 : Int), (1 : Int)), (7, 2)] = [] := by simp [due]
  have k5 : late 6 [((7 : Int), (1 : Int)), (7, 2)] = [(7, 1), (7, 2)] := by simp [late]
  have k6 : due 7 [((7 : Int), (1 : Int)), (7, 2)] = [(7, 1), (7, 2)] := by simp [due]
  have k7 : late 7 [((7 : Int), (1 : Int)), (7, 2)] = [] := by simp [late]
  have K := Lib.hid (And.intro k1 (And.intro k2 (And.intro k3 (And.intro k4 (And.intro k5 (And.intro k6 k7))))))
  clear k1 k2 k3 k4 k5 k6 k7
  go_enter Try.func8, Try.ntmps8
  go_wp2_with fail
  refine (New_any w).mono ?_
  rintro e w1 ⟨t, rfl, hT, hg1⟩
  have hs : Solo (fun b => w.heap.size ≤ b) (TimersAt t []) w1 := Solo.make (V := New w w1) hT (fun b hb => by have := hg1.size; omega) (fun b hb => hb)
  clear hT
  go_wp2_with fail
  refine (next_solo hs).mono ?_
  rintro e w2 ⟨rfl, hg2, hs⟩
  unfold firstV
  have hg3 : Grow w2 (w2.alloc (.cells #[.int .i64 0, .int .i64 0] 36)) := (Below.refl _ _).alloc (Nat.le_refl _) _
  have hs := hs.grow (TimersAt.framed _ _) hg3
  have hb : Below w.heap.size w _ := (hg1.trans hg2).trans hg3
  go_wp2_with fail
  refine (hs.call (Set_any _ t [] 1 5 (by unfold in64; omega) (by unfold in64; omega) (by decide))).mono ?_
  rintro e w4 ⟨rfl, hj4, hs⟩
  rw [K.out.1] at hs
  have hb := Below.trans hb (hj4.below (fun _ h => h) hb.size)
  clear hj4
  go_wp2_with fail
  refine (hs.call (Set_any _ t _ 1 7 (by unfold in64; omega) (by unfold in64; omega) (by decide))).mono ?_
  rintro e w5 ⟨rfl, hj5, hs⟩
  rw [K.out.2.1] at hs
  have hb := Below.trans hb (hj5.below (fun _ h => h) hb.size)
  clear hj5
  go_wp2_with fail
  refine (hs.call (Set_any _ t _ 2 7 (by unfold in64; omega) (by unfold in64; omega) (by decide))).mono ?_
  rintro e w6 ⟨rfl, hj6, hs⟩
  rw [K.out.2.2.1] at hs
  have hb := Below.trans hb (hj6.below (fun _ h => h) hb.size)
  clear hj6
  go_wp2_with fail
  refine (due_solo 6 hs).mono ?_
  rintro e w7 ⟨A7, c7, rfl, _, hj7, hs⟩
  rw [K.out.2.2.2.1]
  rw [K.out.2.2.2.2.1] at hs
  have hb := Below.trans hb (hj7.below (fun _ h => h) hb.size)
  clear hj7
  go_wp2_with fail
  refine (next_solo hs).mono ?_
  rintro e w8 ⟨rfl, hg8, hs⟩
  unfold firstV
  have hg9 : Grow w8 (w8.alloc (.cells #[.int .i64 7, .int .i64 1] 36)) := (Below.refl _ _).alloc (Nat.le_refl _) _
  have hs9 : (w8.alloc (.cells #[.int .i64 7, .int .i64 1] 36)).heap.size = w8.heap.size + 1 := by simp
  have hBn := Blk.made w8 36 #[.int .i64 7, .int .i64 1]
  have hb8 := Below.trans hb (hg8.mono hb.size)
  have hs : Solo (fun b => w.heap.size ≤ b ∧ b ≠ w8.heap.size) (TimersAt t [(7, 1), (7, 2)]) (w8.alloc (.cells #[.int .i64 7, .int .i64 1] 36)) := Solo.beside hs (TimersAt.framed _ _) hg9 fun b h1 h2 => ⟨h1, by omega⟩
  have hb9 := Below.trans hb8 (hg9.mono hb8.size)
  go_wp2_with fail
  refine (due_solo 7 hs).mono ?_
  rintro e w10 ⟨A, c, rfl, hO, hj10, hs⟩
  rw [K.out.2.2.2.2.2.1] at hO ⊢
  rw [K.out.2.2.2.2.2.2] at hs
  have hb10 := Below.trans hb9 (hj10.below (fun _ h => h.1) hb9.size)
  have hBn' := hj10.blk hBn fun h => h.2 rfl
  have n0 := hBn'.cell 0
  have n1 := hBn'.cell 1
  obtain ⟨g, rfl, _, _, hc⟩ := own_item hO (k := 1) (by decide)
  obtain ⟨_, d1⟩ := hc w10 rfl
  have d1 : w10.cell? ⟨g, 3, none⟩ = some (.int .i64 2) := d1
  clear hO hBn hBn' hc
  go_wp2_with fail
  refine (tlen_solo hs).mono ?_
  rintro e w11 ⟨rfl, rfl⟩
  go_wp2_with fail
  refine (hs.call (Stop_any _ t [] 1 (by unfold in64; omega))).mono ?_
  rintro e w12 ⟨rfl, hj12, hs⟩
  have hb12 := Below.trans hb10 (hj12.below (fun _ h => h.1) hb10.size)
  unfold hasKey
  go_wp2_with fail
  go_ret
  exact ⟨rfl, hb12⟩
end Go.Proofs.Ytjjafpgpnmdjlaa
