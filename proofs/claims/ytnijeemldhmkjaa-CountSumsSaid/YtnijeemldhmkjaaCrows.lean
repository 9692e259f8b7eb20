/- Rows of rows of deltas: those that come in, those that a tape gives. -/
import Derived.Test.YtnijeemldhmkjaaTnames
namespace Go.Proofs.Ytnijeemldhmkjaa
open Go.RowKit Go.Hop
/-- a row of deltas that came in, or was made -/
structure Rr where
  A : Option Addr
  c : Nat
  l : List Dl
def Rr.val (b : Rr) : Value := .slice b.A b.l.length b.c
def Rr.cells (b : Rr) : List Value := [b.val]
theorem Rr.cells_len (b : Rr) : b.cells.length = 1 := rfl
structure RrIn (w : World) (D : Nat → Prop) (b : Rr) : Prop where
  ins : In w D 2 b.A b.l.length (dcells b.l)
  ok : ∀ d ∈ b.l, d.1.size ≤ maxLen ∧ d.2 ≤ M64
  small : b.l.length ≤ 1000000
theorem RrIn.keep {w w' : World} {D : Nat → Prop} {b : Rr} (h : RrIn w D b) (hk : ∀ b, D b → b < w.heap.size → w'.heap[b]? = w.heap[b]?) : RrIn w' D b := ⟨h.ins.keep hk, h.ok, h.small⟩
theorem RrIn.mono {w : World} {D D' : Nat → Prop} {b : Rr} (h : RrIn w D b) (hD : ∀ b, D b → D' b) : RrIn w D' b := ⟨h.ins.mono hD, h.ok, h.small⟩
structure RowsIn (w : World) (D : Nat → Prop) (A : Option Addr) (q : List Rr) : Prop where
  row : In w D 1 A q.length (q.flatMap Rr.cells)
  all : ∀ b ∈ q, RrIn w D b
theorem RowsIn.keep {w w' : World} {D : Nat → Prop} {A : Option Addr} {q : List Rr} (h : RowsIn w D A q) (hk : ∀ b, D b → b < w.heap.size → w'.heap[b]? = w.heap[b]?) : RowsIn w' D A q := ⟨h.row.keep hk, fun b hb => (h.all b hb).keep hk⟩
theorem RowsIn.grow {w w' : World} {D : Nat → Prop} {A : Option Addr} {q : List Rr} (h : RowsIn w D A q) (hg : Grow w w') : RowsIn w' D A q := h.keep fun b _ hb => hg.block b hb
theorem RowsIn.just {w w' : World} {D U : Nat → Prop} {A : Option Addr} {q : List Rr} (h : RowsIn w D A q) (hj : Just U w w') (hd : ∀ b, D b → ¬ U b) : RowsIn w' D A q := h.keep fun b hv hb => hj.block b hb (hd b hv)
theorem RowsIn.mono {w : World} {D D' : Nat → Prop} {A : Option Addr} {q : List Rr} (h : RowsIn w D A q) (hD : ∀ b, D b → D' b) : RowsIn w D' A q := ⟨h.row.mono hD, fun b hb => (h.all b hb).mono hD⟩
theorem row_at {w : World} {D : Nat → Prop} {A : Option Addr} {q : List Rr} (h : RowsIn w D A q) {k : Nat} (hk : k < q.length) : ∃ ad, A = some ad ∧ ∀ w1, Grow w w1 → w1.cell? (ad.add k) = some q[k].val := by
  obtain ⟨ad, hq, e, hv, hb, e0, _⟩ := In.rec_ (cells := Rr.cells) h.row (by omega) Rr.cells_len hk
  rw [Nat.mul_one] at e0
  exact ⟨ad, e, fun w1 hg => (hg.cell (by rw [block_add]; exact hb)).trans (e0 _ rfl)⟩
theorem sd_info : (Try.prog.info? 27).map (fun i => (i.zero, i.size, i.bytes)) = some (some (.slice none 0 0), 1, 24) := by kernel_rfl
theorem sdE : Elem Try.prog 25 27 1 24 (.slice none 0 0) := ⟨Try.underlying25, info_parts sd_info, rfl, by decide, by decide⟩
theorem rcells_one (q : List Rr) : ∀ u ∈ q.flatMap Rr.cells, u.oneCell' = true := by
  intro u hu
  obtain ⟨b, _, hb⟩ := List.mem_flatMap.1 hu
  rw [List.mem_singleton.1 hb]; rfl
/-- a row of deltas in a block of its own -/
structure Dr where
  g : Nat
  c : Nat
  l : List Dl
def Dr.val (b : Dr) : Value := .slice (some ⟨b.g, 0, none⟩) b.l.length b.c
def Dr.cells (b : Dr) : List Value := [b.val]
def Dr.rr (b : Dr) : Rr := ⟨some ⟨b.g, 0, none⟩, b.c, b.l⟩
structure DrOwn (w : World) (b : Dr) : Prop where
  own : Own w (fun x => x = b.g) 34 2 b.val b.l.length (dcells b.l)
  kept : Kept b.l
  one : 1 ≤ b.l.length
  few : b.l.length ≤ 5
theorem DrOwn.keep {w w' : World} {b : Dr} (h : DrOwn w b) (hk : w'.heap[b.g]? = w.heap[b.g]?) : DrOwn w' b := ⟨h.own.keep fun x hx => by rw [hx]; exact hk, h.kept, h.one, h.few⟩
/-- rows of deltas, each in a block of its own, all in blocks of V -/
structure RowsOwn (w : World) (V : Nat → Prop) (v : Value) (q : List Dr) : Prop where
  row : Own w (fun b => V b ∧ b ∉ q.map Dr.g) 27 1 v q.length (q.flatMap Dr.cells)
  nodup : (q.map Dr.g).Nodup
  all : ∀ b ∈ q, V b.g ∧ DrOwn w b
theorem RowsOwn.mono {w : World} {V V' : Nat → Prop} {v : Value} {q : List Dr} (h : RowsOwn w V v q) (hV : ∀ b, V b → V' b) : RowsOwn w V' v q := ⟨h.row.mono fun b hb => ⟨hV b hb.1, hb.2⟩, h.nodup, fun b hb => ⟨hV _ (h.all b hb).1, (h.all b hb).2⟩⟩
theorem RowsOwn.keep {w w' : World} {V : Nat → Prop} {v : Value} {q : List Dr} (h : RowsOwn w V v q) (hk : ∀ b, V b → w'.heap[b]? = w.heap[b]?) : RowsOwn w' V v q := ⟨h.row.keep fun b hb => hk b hb.1, h.nodup, fun b hb => ⟨(h.all b hb).1, (h.all b hb).2.keep (hk _ (h.all b hb).1)⟩⟩
theorem RowsOwn.ins {w : World} {V : Nat → Prop} {v : Value} {q : List Dr} (h : RowsOwn w V v q) : ∃ A c, v = .slice A q.length c ∧ q.length ≤ c ∧ c ≤ maxLen ∧ RowsIn w V A (q.map Dr.rr) := by
  obtain ⟨A, c, rfl, hI, hn, hm⟩ := h.row.in_
  refine ⟨A, c, rfl, hn, hm, ⟨?_, fun b hb => ?_⟩⟩
  · rw [List.length_map, List.flatMap_map]
    exact hI.mono fun b hb => hb.1
  · obtain ⟨d, hd, rfl⟩ := List.mem_map.1 hb
    have h1 := (h.all d hd).2
    obtain ⟨A, c, e, hI, _⟩ := h1.own.in_
    injection e with e1 _ e3
    refine ⟨?_, h1.kept.ok, by have := h1.few; exact Nat.le_trans this (by omega)⟩
    show In w V 2 (some ⟨d.g, 0, none⟩) d.l.length (dcells d.l)
    rw [e1]
    exact hI.mono fun b hb => by rw [hb]; exact (h.all d hd).1
theorem own_at_g {w : World} {V : Nat → Prop} {e size n : Nat} {v : Value} {xs : List Value} (h : Own w V e size v n xs) (hn : 0 < n) : ∃ g c, v = .slice (some ⟨g, 0, none⟩) n c ∧ V g ∧ g < w.heap.size ∧ Own w (fun x => x = g) e size v n xs := by
  obtain ⟨h1, h2 | ⟨g, cap, cur, hv, hV, hg, r⟩⟩ := h
  · omega
  · exact ⟨g, cap, hv, hV, (Array.getElem?_eq_some_iff.1 hg).1, h1, .inr ⟨g, cap, cur, hv, rfl, hg, r⟩⟩
set_option maxRecDepth 20000 in
set_option maxHeartbeats 1000000 in
theorem rows_any (w : World) (A : Option Addr) (n c : Nat) (xs : List Int) (D : Nat → Prop) (hI : In w D 1 A n (xs.map (Value.int .i64))) (hDw : ∀ b, D b → b < w.heap.size) (hn : n ≤ 9223372036854775807) (hxs : ∀ z ∈ xs, -9223372036854775808 ≤ z ∧ z ≤ 9223372036854775807) (m : Nat) (hm : m ≤ 1000000) :
    Calls Try.prog 9 #[.slice A n c, .int .i64 (m : Int)] w fun e w' => ∃ (v : Value) (q : List Dr), e = .returned v ∧ RowsOwn w' (New w w') v q ∧ q.length ≤ m ∧ Grow w w' := by
  obtain ⟨x, HX⟩ : ∃ x : Nat, Hid (x = w.heap.size) := ⟨_, rfl⟩
  have hT0 : TapeAt x D (w.alloc (.cells #[.slice A n c, .int .i64 0] 48)) := ⟨fun h => by have := hDw x h; rw [HX.out] at this; omega, A, n, c, xs, 0, by rw [HX.out]; exact Blk.made w _ _, hI.grow ((Below.refl _ w).alloc (Nat.le_refl _) _), Nat.zero_le _, hn, hxs⟩
  have hg0 : Grow w (w.alloc (.cells #[.slice A n c, .int .i64 0] 48)) := (Below.refl _ w).alloc (Nat.le_refl _) _
  have hs0 : (w.alloc (.cells #[.slice A n c, .int .i64 0] 48)).heap.size = x + 1 := by rw [HX.out]; simp
  have hxw : w.heap.size ≤ x := by rw [HX.out]; exact Nat.le_refl _
  go_enter Try.func9, Try.ntmps9
  go_wp2_with fail
  rw [← HX.out]
  generalize w.alloc (.cells #[.slice A n c, .int .i64 0] 48) = w0 at hT0 hg0 hs0 ⊢
  clear HX
  go_loopw [6] (fun o wr => ∃ q : List Dr, RowsOwn wr (fun b => New w wr b ∧ b ≠ x) o q ∧ q.length ≤ m ∧ TapeAt x D wr ∧ Grow w wr) (fun o _ => m - (match o with | .slice _ n _ => n | _ => 0))
  case atStart => exact ⟨[], ⟨Own.nil, List.nodup_nil, by simp⟩, by simp, hT0, hg0⟩
  case round =>
    clear hT0 hg0 hs0
    obtain ⟨q, hR, hqm, hT, hgw⟩ := hrel
    obtain ⟨A1, c1, rfl, hI1, hn1, hm1⟩ := hR.row.in_
    have hT' := hT
    obtain ⟨_, Ax, nx, cx, ys, p, hB, _⟩ := hT'
    have cp := hB.cell 1
    by_cases hq : q.length < m
    · have hqt : decide (q.length < m) = true := decide_eq_true hq
      have hqt2 : decide ((q.length : Int) < (m : Int)) = true := decide_eq_true (by omega)
      by_cases hp : p < n
      · have hpt : decide (p < n) = true := decide_eq_true hp
        have hpt2 : decide ((p : Int) < (n : Int)) = true := decide_eq_true (by omega)
        have hds := Deltas_any wr x D hT (fun b hb => Nat.lt_of_lt_of_le (hDw b hb) hgw.size) 5 (by omega) (by omega)
        rw [show ((5 : Nat) : Int) = 5 from rfl] at hds
        go_wp2_with fail
        refine hds.mono ?_
        rintro e w2 ⟨v, l, rfl, hO, hl1, hl5, hK, hT2, hj2⟩
        clear hds
        obtain ⟨g, c2, rfl, hgN, hgl, hOg⟩ := own_at_g hO (by omega)
        have hs2 := hj2.size
        have hsw := hgw.size
        have hxl := hT.lt
        have hga : Grow w2 (w2.alloc (.cells #[.slice (some ⟨g, 0, none⟩) l.length c2] 27)) := (Below.refl _ _).alloc (Nat.le_refl _) _
        obtain ⟨b, Hb⟩ : ∃ b : Dr, Hid (b = ⟨g, c2, l⟩) := ⟨_, rfl⟩
        have hbg : b.g = g := by rw [Hb.out]
        have hDr : DrOwn w2 b := by rw [Hb.out]; exact ⟨hOg, hK, hl1, hl5⟩
        have hR2 : RowsOwn w2 (fun b => New w wr b ∧ b ≠ x) (.slice A1 q.length c1) q := hR.keep fun b hb => hj2.block b hb.1.2 hb.2
        go_wp2_with (at_builtin; refine stay ?_)
        refine stay_out ?_
        refine wpList_own (V := _) sdE _ rfl (.tmp 23) (.tmp 26) rfl (.slice A1 q.length c1) q.length (q.flatMap Dr.cells) rfl (hR2.row.grow (fun b hb => by have := hb.1.1.2; omega) hga) (w2.heap.size + 1) (some ⟨w2.heap.size, 0, none⟩) 1 1 ([b].flatMap Dr.cells) rfl (by rw [Hb.out]; exact reads_laid w2 _ 27 _ rfl _ rfl) (by rw [Hb.out]; intro u hu; simp [Dr.cells] at hu; rw [hu]; rfl) (by omega) ?_
        intro v5 w5 hO5 hj5
        have hs5 := hj5.size
        simp at hs5
        have hR6 : RowsOwn w5 (fun b => New w w5 b ∧ b ≠ x) v5 (q ++ [b]) := by
          refine ⟨?_, ?_, fun d hd => ?_⟩
          · rw [List.length_append, List.flatMap_append]
            refine hO5.mono fun y hy => ?_
            rcases hy with hy | hy
            · refine ⟨⟨⟨hy.1.1.1, by have := hy.1.1.2; omega⟩, hy.1.2⟩, fun h => ?_⟩
              rw [List.map_append] at h
              rcases List.mem_append.1 h with h | h
              · exact hy.2 h
              · simp at h
                have := hy.1.1.2
                have := hgN.1
                omega
            · have h6 := hy.1
              simp at h6
              refine ⟨⟨⟨by omega, hy.2⟩, by omega⟩, fun h => ?_⟩
              rw [List.map_append] at h
              rcases List.mem_append.1 h with h | h
              · obtain ⟨d, hd, rfl⟩ := List.mem_map.1 h
                have := (hR.all d hd).1.1.2
                omega
              · simp at h
                omega
          · rw [List.map_append]
            refine List.nodup_append.2 ⟨hR.nodup, by simp, fun a ha d hd e => ?_⟩
            obtain ⟨d', hd', rfl⟩ := List.mem_map.1 ha
            simp at hd
            have := (hR.all d' hd').1.1.2
            have := hgN.1
            omega
          · rcases List.mem_append.1 hd with hd | hd
            · have h1 := (hR2.all d hd)
              refine ⟨⟨⟨h1.1.1.1, by have := h1.1.1.2; omega⟩, h1.1.2⟩, h1.2.keep ((hj5.block _ (by simp; have := h1.1.1.2; omega) (fun e => e.2 (List.mem_map.2 ⟨d, hd, rfl⟩))).trans (hga.block _ (by have := h1.1.1.2; omega)))⟩
            · rw [List.mem_singleton.1 hd]
              refine ⟨⟨⟨by rw [hbg]; have := hgN.1; omega, by rw [hbg]; omega⟩, by rw [hbg]; have := hgN.1; omega⟩, hDr.keep ((hj5.block _ (by rw [hbg]; simp; omega) (fun e => by have := e.1.1.2; rw [hbg] at this; have := hgN.1; omega)).trans (hga.block _ (by rw [hbg]; omega)))⟩
        have hT6 : TapeAt x D w5 := hT2.keep ((hj5.block x (by simp; omega) (fun e => e.1.2 rfl)).trans (hga.block x (by omega))) fun y hy hyl => (hj5.block y (by simp; omega) (fun e => by have := hDw y hy; have := e.1.1.1; omega)).trans (hga.block y hyl)
        have hg6 : Grow w w5 := Below.trans (below_trans (Below.trans hgw (hj2.below (B := w.heap.size) (fun y hy => by rw [hy]; exact hxw) hsw)) hga (by omega)) (hj5.below (B := w.heap.size) (fun y hy => hy.1.1.1) (by simp; omega))
        have hl6 : (q ++ [b]).length = q.length + 1 := by simp
        clear hO5 hj5 hT2 hj2 hO hOg hDr hR2 hR hI1 hga
        generalize q ++ [b] = q6 at hR6 hl6
        have HL6 := Lib.hid hl6
        clear hl6
        obtain ⟨A6, c6, rfl, _⟩ := hR6.row.in_
        go_wp2_with fail
        go_roundw
        case rel => exact ⟨q6, hR6, by have := HL6.out; omega, hT6, hg6⟩
        case measure => have := HL6.out; simp; omega
      · have hpt : decide (p < n) = false := decide_eq_false hp
        have hpt2 : decide ((p : Int) < (n : Int)) = false := decide_eq_false (by omega)
        go_wp2_with fail
        go_ret
        exact ⟨_, q, rfl, hR.mono fun b hb => hb.1, hqm, hgw⟩
    · have hqt : decide (q.length < m) = false := decide_eq_false hq
      have hqt2 : decide ((q.length : Int) < (m : Int)) = false := decide_eq_false (by omega)
      go_wp2_with fail
      go_ret
      exact ⟨_, q, rfl, hR.mono fun b hb => hb.1, hqm, hgw⟩
end Go.Proofs.Ytnijeemldhmkjaa
