/- queue.some: batches by themselves; clip. -/
import Derived.Test.YtnlfkeajolfboaaBat
namespace Go.Proofs.Ytnlfkeajolfboaa
open Go.RowKit Go.Hop
theorem clipb_any (w : World) (A : Option Addr) (n c : Nat) (hn : n ≤ c) :
    Calls Try.prog 29 #[.slice A n c] w fun e w' => e = .returned (.slice A n n) ∧ w = w' := by
  go_enter Try.func29, Try.ntmps29
  go_wp2_with fail
  go_ret
  exact ⟨rfl, rfl⟩
/-- batches in a row: in blocks of V, what they hold in blocks of D -/
structure Bats (w : World) (V D : Nat → Prop) (A : Option Addr) (n : Nat) (q : List Bat) : Prop where
  row : In w V 2 A n (q.flatMap Bat.cells)
  all : ∀ b ∈ q, BatIn w D b
theorem Bats.len {w : World} {V D : Nat → Prop} {A : Option Addr} {n : Nat} {q : List Bat} (h : Bats w V D A n q) : q.length = n := by
  have := h.row.1; rw [bats_len] at this; omega
theorem Bats.grow {w w' : World} {V D : Nat → Prop} {A : Option Addr} {n : Nat} {q : List Bat} (h : Bats w V D A n q) (hg : Grow w w') : Bats w' V D A n q := ⟨h.row.grow hg, fun b hb => (h.all b hb).grow hg⟩
theorem Bats.mono {w : World} {V D V' D' : Nat → Prop} {A : Option Addr} {n : Nat} {q : List Bat} (h : Bats w V D A n q) (hV : ∀ b, V b → V' b) (hD : ∀ b, D b → D' b) : Bats w V' D' A n q := ⟨h.row.mono hV, fun b hb => (h.all b hb).mono hD⟩
theorem Bats.just {w w' : World} {V D U : Nat → Prop} {A : Option Addr} {n : Nat} {q : List Bat} (h : Bats w V D A n q) (hj : Just U w w') (hV : ∀ b, V b → ¬ U b) (hD : ∀ b, D b → ¬ U b) : Bats w' V D A n q := ⟨h.row.just hj hV, fun b hb => (h.all b hb).just hj hD⟩
theorem Bats.nil {w : World} {V D : Nat → Prop} {A : Option Addr} : Bats w V D A 0 [] := ⟨In.nil, by simp⟩
theorem Bats.take {w : World} {V D : Nat → Prop} {A : Option Addr} {n k : Nat} {q : List Bat} (h : Bats w V D A n q) (hk : k ≤ n) : Bats w V D A k (q.take k) := by
  refine ⟨?_, fun b hb => h.all b (List.mem_of_mem_take hb)⟩
  have := h.row.take hk
  rwa [flat_take Bat.cells 2 bat_len q k] at this
theorem some_any (w : World) (V D : Nat → Prop) (A : Option Addr) (n c : Nat) (q : List Bat) (h : Bats w V D A n q) (hn : n ≤ 1024) (hnc : n ≤ c) :
    Calls Try.prog 25 #[.slice A n c] w fun e w' => ∃ A' q', e = .returned (.slice A' n n) ∧ Bats w' (New w w') (New w w') A' n q' ∧ q'.map Bat.abs = q.map Bat.abs ∧ Grow w w' := by
  have hql := h.len
  go_enter Try.func25, Try.ntmps25
  go_wp2_with fail
  go_loopw [3, 8] (fun s i wr => ∃ (k : Nat) (q' : List Bat) (R D' : Nat → Prop), k ≤ n ∧ i = .int .i64 k ∧ Own wr R 32 2 s k (q'.flatMap Bat.cells) ∧ (∀ b ∈ q', BatIn wr D' b) ∧ q'.map Bat.abs = (q.take k).map Bat.abs ∧ (∀ b, R b → New w wr b ∧ ¬ D' b) ∧ (∀ b, D' b → New w wr b) ∧ Grow w wr) (fun _ i _ => n - (intOf i).toNat)
  case atStart => exact ⟨0, [], fun _ => False, fun _ => False, by omega, rfl, Own.nil, by simp, by simp, fun _ h => h.elim, fun _ h => h.elim, Grow.refl _⟩
  case round =>
    obtain ⟨k, q', R, D', hkn, rfl, hO, hin, habs, hR, hD, hg⟩ := hrel
    obtain ⟨A1, c1, rfl, hI1, hnc1, hm1⟩ := hO.in_
    by_cases hk : k < n
    · obtain ⟨ad, hkq, rfl, hV, hB, e0, e1⟩ := (h.row.grow hg).rec_ (by omega) bat_len hk
      have hbin := (h.all q[k] (List.getElem_mem hkq)).grow hg
      have hsn : q.take (k + 1) = q.take k ++ [q[k]] := List.take_succ_eq_append_getElem hkq
      have e0 := e0 _ rfl
      have e1 := e1 0 _ rfl
      have HS := Lib.hid hsn
      clear hsn
      generalize q[k] = b at hbin e0 e1 HS
      obtain ⟨sq, Ab, mb, cb, ds⟩ := b
      dsimp only [Bat.cells] at e0 e1
      have hga : Grow wr (wr.alloc (.cells #[.int .i64 sq, .slice Ab mb cb] 32)) := (Below.refl wr.heap.size wr).alloc (Nat.le_refl _) _
      go_wp2_with fail
      refine (own_any _ D ⟨sq, Ab, mb, cb, ds⟩ (hbin.grow hga)).mono ?_
      rintro e w1 ⟨A2, rfl, hb2, hg1⟩
      have hs1 := hg1.size
      simp only [alloc_size] at hs1
      have hgB := (Below.refl w1.heap.size w1).alloc (Nat.le_refl _) (.cells #[.int .i64 sq, .slice A2 mb mb] 32)
      go_wp2_with (at_builtin; refine stay ?_)
      refine stay_out ?_
      have hsr := hg.size
      have hRlt : ∀ b, R b → b < wr.heap.size := fun b hb => (hR b hb).1.2
      refine wpList_own (V := R) batchE _ rfl (.tmp 12) (.tmp 15) rfl (.slice A1 k c1) k (q'.flatMap Bat.cells) rfl (((hO.grow hRlt (hga.trans hg1)).grow (fun b hb => by have := hRlt b hb; omega) hgB)) (w1.heap.size + 1) (some ⟨w1.heap.size, 0, none⟩) 1 1 (Bat.cells ⟨sq, A2, mb, mb, ds⟩) rfl (reads_laid w1 _ 32 _ rfl _ rfl) (bat_one _) (by omega) ?_
      intro v2 w2 hO2 hj2
      have hs2 := hj2.size
      simp only [alloc_size] at hs2
      have hgj : Below w.heap.size w1 w2 := Below.trans (hgB.mono (by omega)) (hj2.below (B := w.heap.size) (fun b hb => (hR b hb).1.1) (by simp; omega))
      have hg2 : Grow w w2 := Below.trans (hg.trans (hga.trans hg1)) hgj
      have hD2 : ∀ b : Bat, BatIn w1 D' b → BatIn w2 D' b := fun b hb => (hb.grow hgB).just hj2 fun x hx hr => (hR x hr).2 hx
      have hN2 : ∀ b : Bat, BatIn w1 (New (wr.alloc (.cells #[.int .i64 sq, .slice Ab mb cb] 32)) w1) b → BatIn w2 (New (wr.alloc (.cells #[.int .i64 sq, .slice Ab mb cb] 32)) w1) b := fun b hb => (hb.grow hgB).just hj2 fun x hx hr => by have := hx.1; have := hRlt x hr; simp at *; omega
      go_wp2_with fail
      go_roundw
      case rel =>
        refine ⟨k + 1, q' ++ [⟨sq, A2, mb, mb, ds⟩], Ext R (w1.alloc (.cells #[.int .i64 sq, .slice A2 mb mb] 32)) w2, fun b => D' b ∨ New (wr.alloc (.cells #[.int .i64 sq, .slice Ab mb cb] 32)) w1 b, by omega, by go_num, ?_, fun b hb => ?_, ?_, fun b hb => ?_, fun b hb => ?_, hg2⟩
        · rw [List.flatMap_append, List.flatMap_cons, List.flatMap_nil, List.append_nil]; exact hO2
        · rcases List.mem_append.1 hb with hb | hb
          · exact (hD2 b ((hin b hb).grow (hga.trans hg1))).mono fun _ => .inl
          · rw [List.mem_singleton.1 hb]; exact (hN2 _ hb2).mono fun _ => .inr
        · rw [List.map_append, habs, HS.out, List.map_append]; rfl
        · rcases hb with hb | ⟨h1, h2⟩
          · refine ⟨⟨(hR b hb).1.1, by have := hRlt b hb; omega⟩, fun hd => ?_⟩
            rcases hd with hd | hd
            · exact (hR b hb).2 hd
            · have := hd.1; have := hRlt b hb; simp at *; omega
          · simp only [alloc_size] at h1
            refine ⟨⟨by omega, h2⟩, fun hd => ?_⟩
            rcases hd with hd | hd
            · have := (hD b hd).2; omega
            · have := hd.2; omega
        · rcases hb with hb | hb
          · have := hD b hb; exact ⟨this.1, by have := this.2; omega⟩
          · have h1 := hb.1; have h2 := hb.2; simp only [alloc_size] at h1; exact ⟨by omega, by omega⟩
      case measure => simp [intOf]; omega
    · obtain rfl : k = n := by omega
      go_wp2_with (go_at_call 29; refine (clipb_any _ A1 k c1 hnc1).mono ?_; rintro e w2 ⟨rfl, rfl⟩)
      go_ret
      refine ⟨A1, q', rfl, ⟨hI1.mono fun b hb => (hR b hb).1, fun b hb => (hin b hb).mono hD⟩, ?_, hg⟩
      rw [habs, List.take_of_length_le (by omega)]
end Go.Proofs.Ytnlfkeajolfboaa
