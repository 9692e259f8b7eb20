/- Slices of structs that hold slices: what they read as, and where; rows of a call's own that lose an element. -/
import Derived.Test.YtidkhokecekpgaaDoorOwn2
import Derived.Lib.SliceRun
namespace Go.Hop
open Go.RowKit

/-- the slice value with address A and n elements reads as xs, in blocks of V -/
def In (w : World) (V : Nat → Prop) (size : Nat) (A : Option Addr) (n : Nat) (xs : List Value) : Prop :=
  xs.length = n * size ∧ (0 < n → ∃ ad, A = some ad ∧ V ad.block ∧ ad.block < w.heap.size ∧ ∀ j u, xs[j]? = some u → w.cell? (ad.add j) = some u)
section
variable {w w' : World} {V V' U : Nat → Prop} {size n : Nat} {A : Option Addr} {xs : List Value}
theorem In.nil : In w V size A 0 [] := ⟨by simp, fun h => absurd h (by omega)⟩
theorem In.mono (h : In w V size A n xs) (hV : ∀ b, V b → V' b) : In w V' size A n xs :=
  ⟨h.1, fun hn => by obtain ⟨ad, e, hv, hb, hc⟩ := h.2 hn; exact ⟨ad, e, hV _ hv, hb, hc⟩⟩
theorem In.keep (h : In w V size A n xs) (hk : ∀ b, V b → b < w.heap.size → w'.heap[b]? = w.heap[b]?) : In w' V size A n xs :=
  ⟨h.1, fun hn => by
    obtain ⟨ad, e, hv, hb, hc⟩ := h.2 hn
    have hs : ad.block < w'.heap.size := by
      have h1 := hk _ hv hb
      rw [Array.getElem?_eq_getElem hb] at h1
      exact (Array.getElem?_eq_some_iff.1 h1).1
    exact ⟨ad, e, hv, hs, fun j u hu => by rw [World.cell?_of_block (a := ad.add j) (w := w) (by rw [block_add]; exact hk _ hv hb)]; exact hc j u hu⟩⟩
theorem In.grow (h : In w V size A n xs) (hg : Grow w w') : In w' V size A n xs := h.keep fun b _ hb => hg.block b hb
theorem In.just (h : In w V size A n xs) (hj : Just U w w') (hd : ∀ b, V b → ¬ U b) : In w' V size A n xs := h.keep fun b hv hb => hj.block b hb (hd b hv)
theorem In.reads (h : In w V size A n xs) : Reads w w.heap.size size A n xs :=
  ⟨h.1, fun hn => by obtain ⟨ad, e, _, hb, hc⟩ := h.2 hn; exact ⟨ad, e, hb, hc⟩⟩
theorem In.below (h : In w V size A n xs) {B : Nat} (hB : ∀ b, V b → b < B) : Reads w B size A n xs :=
  ⟨h.1, fun hn => by obtain ⟨ad, e, hv, _, hc⟩ := h.2 hn; exact ⟨ad, e, hB _ hv, hc⟩⟩
theorem Reads.in_ {B : Nat} (h : Reads w B size A n xs) (hB : B ≤ w.heap.size) (hV : ∀ b, b < B → V b) : In w V size A n xs :=
  ⟨h.1, fun hn => by obtain ⟨ad, e, hb, hc⟩ := h.2 hn; exact ⟨ad, e, hV _ hb, by omega, hc⟩⟩
theorem Own.in_ {e : TypeId} {v : Value} (h : Own w V e size v n xs) : ∃ A c, v = .slice A n c ∧ In w V size A n xs ∧ n ≤ c ∧ c ≤ maxLen := by
  rcases h.2 with ⟨rfl, rfl⟩ | ⟨g, cap, cur, rfl, hV, hg, hn, hm, _, _⟩
  · exact ⟨none, 0, rfl, ⟨h.1, fun hh => absurd hh (by omega)⟩, Nat.le_refl _, Nat.zero_le _⟩
  · obtain ⟨A, c, e1, hR, _, _⟩ := h.reads
    injection e1 with e1 e2 e3
    subst e1 e3
    refine ⟨_, _, rfl, ⟨h.1, fun hh => ?_⟩, hn, hm⟩
    obtain ⟨ad, e, hb, hc⟩ := hR.2 hh
    injection e with e
    subst e
    exact ⟨_, rfl, hV, hb, hc⟩
theorem In.take (h : In w V size A n xs) {k : Nat} (hk : k ≤ n) : In w V size A k (xs.take (k * size)) := by
  refine ⟨by rw [List.length_take, h.1]; exact Nat.min_eq_left (Nat.mul_le_mul_right _ hk), fun hn => ?_⟩
  obtain ⟨ad, rfl, hv, hb, hcell⟩ := h.2 (by omega)
  refine ⟨ad, rfl, hv, hb, fun j u hu => hcell j u ?_⟩
  rw [List.getElem?_take] at hu
  split at hu
  · exact hu
  · cases hu
/-- an element of a slice of records -/
theorem In.rec_ {α : Type} {cells : α → List Value} {q : List α} (h : In w V size A n (q.flatMap cells)) (hpos : 0 < size) (hl : ∀ a, (cells a).length = size) {k : Nat} (hk : k < n) :
    ∃ (ad : Addr) (hq : k < q.length), A = some ad ∧ V ad.block ∧ ad.block < w.heap.size ∧
      (∀ u, (cells q[k])[0]? = some u → w.cell? (ad.add (k * size)) = some u) ∧ ∀ j u, (cells q[k])[j + 1]? = some u → w.cell? ⟨(ad.add (k * size)).block, (ad.add (k * size)).off + (j + 1), none⟩ = some u := by
  obtain ⟨ad, e, hv, hb, hc⟩ := h.2 (by omega)
  have hql : q.length = n := by
    have := h.1
    rw [flat_length cells size hl] at this
    exact Nat.eq_of_mul_eq_mul_right hpos this
  have hkl : k < q.length := by omega
  have hp : ∀ j, (⟨(ad.add (k * size)).block, (ad.add (k * size)).off + (j + 1), none⟩ : Addr) = ad.add (k * size + (j + 1)) := fun j => by
    rw [← add_add]
    generalize ad.add (k * size) = p
    unfold Addr.add
    rw [if_neg (by omega)]
  have hlt : ∀ j u, (cells q[k])[j]? = some u → j < size := fun j u hu => by have := (List.getElem?_eq_some_iff.1 hu).1; rw [hl] at this; exact this
  exact ⟨ad, hkl, e, hv, hb, fun u hu => hc (k * size) u ((flat_get cells size hl q k 0 hkl hpos).trans hu), fun j u hu => by rw [hp j]; exact hc _ u ((flat_get cells size hl q k (j + 1) hkl (hlt _ _ hu)).trans hu)⟩
end

theorem alloc_size (w : World) (o : Obj) : (w.alloc o).heap.size = w.heap.size + 1 := by simp
theorem flat_take {α β : Type} (f : α → List β) (m : Nat) (hf : ∀ a, (f a).length = m) : ∀ (q : List α) (k : Nat), (q.flatMap f).take (k * m) = (q.take k).flatMap f
  | q, 0 => by simp
  | [], k + 1 => by simp
  | a :: q, k + 1 => by
    rw [List.flatMap_cons, List.take_succ_cons, List.flatMap_cons, List.take_append, hf a, Nat.succ_mul, List.take_of_length_le (by rw [hf]; omega), show k * m + m - m = k * m by omega, flat_take f m hf q k]
theorem flat_drop {α β : Type} (f : α → List β) (m : Nat) (hf : ∀ a, (f a).length = m) : ∀ (q : List α) (k : Nat), (q.flatMap f).drop (k * m) = (q.drop k).flatMap f
  | q, 0 => by simp
  | [], k + 1 => by simp
  | a :: q, k + 1 => by
    rw [List.flatMap_cons, List.drop_succ_cons, List.drop_append, hf a, Nat.succ_mul, List.drop_of_length_le (by rw [hf]; omega), show k * m + m - m = k * m by omega, flat_drop f m hf q k, List.nil_append]
/-- a row in a block of its own: all of the block is its capacity -/
def Row (w : World) (V : Nat → Prop) (e : TypeId) (size : Nat) (v : Value) (n : Nat) (xs : List Value) : Prop :=
  xs.length = n * size ∧ ((v = .slice none 0 0 ∧ n = 0) ∨
   ∃ g cap cur, v = .slice (some ⟨g, 0, none⟩) n cap ∧ V g ∧ w.heap[g]? = some (.cells cur e (0, 0)) ∧ n ≤ cap ∧ cap ≤ maxLen ∧ cur.size = cap * size ∧ cur.toList.take (n * size) = xs)
section
variable {w w' : World} {V V' : Nat → Prop} {e : TypeId} {size n : Nat} {v : Value} {xs : List Value}
theorem Row.own (h : Row w V e size v n xs) : Own w V e size v n xs := by
  refine ⟨h.1, ?_⟩
  rcases h.2 with h2 | ⟨g, cap, cur, h1, h2, h3, h4, h5, h6, h7⟩
  · exact .inl h2
  · exact .inr ⟨g, cap, cur, h1, h2, h3, h4, h5, .inl h6, h7⟩
theorem Row.owns (h : Row w V e size v n xs) : w.ownsRow 0 e size v n xs ∧ ∀ g, v.ownBlock = some g → V g := by
  rcases h.2 with h2 | ⟨g, cap, cur, h1, h2, h3, h4, h5, h6, h7⟩
  · refine ⟨⟨h.1, .inl h2⟩, fun g hg => ?_⟩
    rw [h2.1] at hg; cases hg
  · refine ⟨⟨h.1, .inr ⟨g, cap, cur, h1, Nat.zero_le _, h3, h4, h5, h6, h7⟩⟩, fun g' hg => ?_⟩
    rw [h1] at hg; injection hg with hg; rw [← hg]; exact h2
theorem Row.of (h : w.ownsRow 0 e size v n xs) (hV : ∀ g, v.ownBlock = some g → V g) : Row w V e size v n xs := by
  refine ⟨h.1, ?_⟩
  rcases h.2 with h2 | ⟨g, cap, cur, h1, _, h3⟩
  · exact .inl h2
  · exact .inr ⟨g, cap, cur, h1, hV g (by rw [h1]; rfl), h3⟩
theorem Row.nil : Row w V e size (.slice none 0 0) 0 [] := ⟨by simp, .inl ⟨rfl, rfl⟩⟩
theorem Row.mono (h : Row w V e size v n xs) (hV : ∀ b, V b → V' b) : Row w V' e size v n xs := by
  refine ⟨h.1, ?_⟩
  rcases h.2 with h2 | ⟨g, cap, cur, h1, h2, h3⟩
  · exact .inl h2
  · exact .inr ⟨g, cap, cur, h1, hV g h2, h3⟩
theorem Row.keep (h : Row w V e size v n xs) (hk : ∀ b, V b → b < w.heap.size → w'.heap[b]? = w.heap[b]?) : Row w' V e size v n xs := by
  refine ⟨h.1, ?_⟩
  rcases h.2 with h2 | ⟨g, cap, cur, h1, h2, h3, h4⟩
  · exact .inl h2
  · exact .inr ⟨g, cap, cur, h1, h2, (hk g h2 (Array.getElem?_eq_some_iff.1 h3).1).trans h3, h4⟩
theorem Row.grow (h : Row w V e size v n xs) (hg : Grow w w') : Row w' V e size v n xs := h.keep fun b _ hb => hg.block b hb
theorem Row.just {U : Nat → Prop} (h : Row w V e size v n xs) (hj : Just U w w') (hd : ∀ b, V b → ¬ U b) : Row w' V e size v n xs := h.keep fun b hv hb => hj.block b hb (hd b hv)
theorem Row.in_ (h : Row w V e size v n xs) : ∃ A c, v = .slice A n c ∧ In w V size A n xs ∧ n ≤ c ∧ c ≤ maxLen := h.own.in_
/-- cut to a beginning: its capacity stays -/
theorem Row.cut {A : Option Addr} {c k : Nat} (h : Row w V e size (.slice A n c) n xs) (hk : k ≤ n) : Row w V e size (.slice A k c) k (xs.take (k * size)) := by
  have hks : k * size ≤ n * size := Nat.mul_le_mul_right _ hk
  refine ⟨by rw [List.length_take, h.1]; exact Nat.min_eq_left hks, ?_⟩
  rcases h.2 with ⟨h1, rfl⟩ | ⟨g, cap, cur, h1, hV, hg, hn, hm, hsz, htk⟩
  · injection h1 with h1 h2 h3
    subst h1 h3
    obtain rfl : k = 0 := by omega
    exact .inl ⟨rfl, rfl⟩
  · injection h1 with h1 h2 h3
    subst h1 h3
    exact .inr ⟨g, c, cur, rfl, hV, hg, by omega, hm, hsz, by rw [← htk, List.take_take, Nat.min_eq_left hks]⟩
end

theorem setCells_heap (b : Nat) (e : TypeId) (mk : Nat × Nat) : ∀ (vs : List Value) (o : Nat) (w : World) (cur : Array Value), w.heap[b]? = some (.cells cur e mk) → o + vs.length ≤ cur.size →
    ∃ cur', (w.setCells b o vs).heap[b]? = some (.cells cur' e mk) ∧ cur'.size = cur.size ∧ cur'.toList = cur.toList.take o ++ vs ++ cur.toList.drop (o + vs.length)
  | [], o, w, cur, h, hl => ⟨cur, h, rfl, by simp⟩
  | v :: r, o, w, cur, h, hl => by
    have h1 : (w.setCell ⟨b, o, none⟩ v).heap[b]? = some (.cells (cur.setIfInBounds o v) e mk) := by simp [World.setCell, Array.getElem?_modify, h]
    simp only [List.length_cons] at hl
    obtain ⟨cur', h2, h3, h4⟩ := setCells_heap b e mk r (o + 1) (w.setCell ⟨b, o, none⟩ v) (cur.setIfInBounds o v) h1 (by simp; omega)
    refine ⟨cur', h2, by rw [h3]; simp, ?_⟩
    rw [h4]
    have e1 : (cur.setIfInBounds o v).toList = cur.toList.take o ++ v :: cur.toList.drop (o + 1) := by
      rw [Array.toList_setIfInBounds, List.set_eq_take_append_cons_drop]
      rw [if_pos (by simp; omega)]
    have hto : (cur.toList.take o).length = o := by rw [List.length_take]; simp; omega
    rw [e1, List.take_append, List.drop_append, hto]
    rw [List.take_of_length_le (l := cur.toList.take o) (by omega), List.drop_of_length_le (l := cur.toList.take o) (by omega), show o + 1 - o = 1 by omega, show o + 1 + r.length - o = r.length + 1 by omega]
    simp only [List.take_succ_cons, List.take_zero, List.drop_succ_cons, List.drop_drop, List.nil_append, List.append_assoc, List.cons_append, List.length_cons]
    rw [show o + 1 + r.length = o + (r.length + 1) by omega]
theorem setCells_only (b : Nat) : ∀ (vs : List Value) (o : Nat) (w : World), Only b w (w.setCells b o vs)
  | [], _, w => Only.refl b w
  | v :: r, o, w => ((Only.refl b w).put o v).trans (setCells_only b r (o + 1) _)
theorem setCells_size (b : Nat) : ∀ (vs : List Value) (o : Nat) (w : World), (w.setCells b o vs).heap.size = w.heap.size
  | [], _, _ => rfl
  | v :: r, o, w => (setCells_size b r (o + 1) _).trans (setCell_size w _ v)

section
variable {P : Program} {t e : TypeId} {size bytes : Nat} {z : Value} {V : Nat → Prop}
/-- 'clear' of a slice at an address -/
theorem run_clear_cells (E : Elem P t e size bytes z) (hv : ∀ w, (zeroValue e).run P w = .ok z w) (h1 : ∀ u ∈ z.cells.toList, u.oneCell' = true) (w : World) (ty : TypeId) (b o n c : Nat) (hn : 0 < n)
    (hc : ∀ j, j < n * size → (w.cell? ⟨b, o + j, none⟩).isSome = true) (hf : ∀ j, j < n * size → w.frozen? ⟨b, o + j, none⟩ = false) :
    (Builtin.clear_ #[t] ty #[.slice (some ⟨b, o, none⟩) n c]).run P w = .ok (.tuple #[]) (w.setCells b o (Builtin.zeroCells z.cells n).toList) := by
  have hl : (Builtin.zeroCells z.cells n).toList.length = n * size := by rw [Array.length_toList, size_zeroCells, E.zs]
  have hst := run_storeCells_cells (P := P) b o (Builtin.zeroCells z.cells n).toList 0 w (by rw [hl]; simpa using hc) (by rw [hl]; simpa using hf) (fun v hv' => by
    have : v ∈ Builtin.zeroCells z.cells n := Array.mem_toList_iff.1 hv'
    unfold Builtin.zeroCells at this
    obtain ⟨i, _, rfl⟩ := Array.mem_map.1 this
    have hz : 0 < z.cells.size := by rw [E.zs]; exact E.pos
    refine h1 _ ?_
    rw [getElem!_pos z.cells (i % z.cells.size) (Nat.mod_lt _ hz)]
    exact Array.mem_toList_iff.2 (Array.getElem_mem _))
  simp only [Nat.add_zero] at hst
  obtain ⟨m, rfl⟩ : ∃ m, n = m + 1 := ⟨n - 1, by omega⟩
  simp [Builtin.clear_, run_underlying E.und, hv, hst]
/-- append onto a row of the call's own -/
theorem run_append_Row (E : Elem P t e size bytes z) (w : World) (ty : Nat) (v : Value) (n : Nat) (xs : List Value) (hown : Row w V e size v n xs)
    (B : Nat) (A : Option Addr) (m c : Nat) (news : List Value) (hr : Reads w B size A m news) (h1 : ∀ u ∈ news, u.oneCell' = true) (hbytes : (n + m) * bytes ≤ 140737488355328) :
    ∃ v' w', (Builtin.append_ #[t, t] ty #[v, .slice A m c]).run P w = .ok v' w' ∧ Row w' (Ext V w w') e size v' (n + m) (xs ++ news) ∧ Just V w w' := by
  obtain ⟨ho, hV⟩ := hown.owns
  obtain ⟨v', w', hrun, h2, h3, h4⟩ := run_append_reads E w 0 ty v n xs ho B A m c news hr h1 hbytes (Nat.zero_le _)
  refine ⟨v', w', hrun, .of h2 fun g hg => ?_, ⟨h3.os, h3.tape, h3.output, h3.size, fun k hk hv => h3.block k hk (fun e => hv (hV k e.symm))⟩⟩
  rcases h4 with h4 | h4
  · exact .inl (hV g (by rw [← h4, hg]))
  · rw [hg] at h4; injection h4 with h4
    have := h2.lt g hg
    exact .inr ⟨by omega, this.2⟩
theorem wpList_row (E : Elem P t e size bytes z) (w : World) {ops : Array Oper} {rest : List Oper} {o : Oper} {a : Act} {Q : Exit → Act → World → Prop} (hw : Region.wanted o (yielded ops a.tmps) = true) (s x : Operand)
    (ho : o.op = .call { callee := .builtin .append, args := #[s, x], argTypes := #[t, t] })
    (v : Value) (n : Nat) (xs : List Value) (hs : a.eval s = v) (hown : Row w V e size v n xs)
    (B : Nat) (A : Option Addr) (m c : Nat) (news : List Value) (hx : a.eval x = .slice A m c) (hr : Reads w B size A m news) (h1 : ∀ u ∈ news, u.oneCell' = true)
    (hbytes : (n + m) * bytes ≤ 140737488355328)
    (h : ∀ v' w', Row w' (Ext V w w') e size v' (n + m) (xs ++ news) → Just V w w' → wpList P ops Q rest (a.put o.dst v') w') :
    wpList P ops Q (o :: rest) a w := by
  obtain ⟨v', w', hrun, h2, h3⟩ := run_append_Row E w o.type v n xs hown B A m c news hr h1 hbytes
  unfold wpList
  rw [if_pos hw]
  refine .inl ?_
  unfold Oper.wp execOp
  simp only [ho, resolve, invoke, builtin, Sem.run_bind, Sem.run_pure, Result.andThen_ok, List.map_toArray, List.map_cons, List.map_nil, hs, hx, hrun]
  exact h v' w' h2 h3
/-- the same in a region that draws its order -/
theorem flow_append_row (E : Elem P t e size bytes z) {w : World} {o : Oper} {ρ : Operand → Value} {R : Value → World → Prop} {s x : Operand} (ho : o.op = .call { callee := .builtin .append, args := #[s, x], argTypes := #[t, t] })
    {v : Value} {n : Nat} {xs : List Value} (hs : ρ s = v) (hown : Row w V e size v n xs) {B : Nat} {A : Option Addr} {m c : Nat} {news : List Value} (hx : ρ x = .slice A m c) (hr : Reads w B size A m news) (h1 : ∀ u ∈ news, u.oneCell' = true)
    (hbytes : (n + m) * bytes ≤ 140737488355328) (h : ∀ v' w', Row w' (Ext V w w') e size v' (n + m) (xs ++ news) → Just V w w' → R v' w') : flowUpon P R ((execOp ρ o).run P w) := by
  obtain ⟨v', w', hrun, h2, h3⟩ := run_append_Row E w o.type v n xs hown B A m c news hr h1 hbytes
  refine flowUpon_value (u := v') (w := w') ?_ (h v' w' h2 h3)
  unfold execOp
  simp only [ho, resolve, invoke, builtin, Sem.run_bind, Sem.run_pure, Result.andThen_ok, List.map_toArray, List.map_cons, List.map_nil, hs, hx, hrun]
end
section
variable {P : Program} {t e : TypeId} {size bytes : Nat} {z : Value}
theorem Reads.srcAll {w : World} {B m c : Nat} {A : Option Addr} {news : List Value} (E : Elem P t e size bytes z) (hr : Reads w B size A m news) (h1 : ∀ u ∈ news, u.oneCell' = true) : Src P size t (.slice A m c) m news w := by
  by_cases hm : m = 0
  · have := hr.src (c := c) E hm
    subst hm
    obtain rfl : news = [] := List.eq_nil_of_length_eq_zero (by simpa using hr.1)
    exact this
  · obtain ⟨ad, rfl, _, hc⟩ := hr.2 (by omega)
    exact Src.ofSlice w E.und ad m c news hr.1 hc h1
/-- append within the room, whatever lies there -/
theorem run_append_over (E : Elem P t e size bytes z) (w : World) (ty : Nat) {g k c m c2 B : Nat} {cur : Array Value} {A : Option Addr} {news : List Value} (hg : w.heap[g]? = some (.cells cur e (0, 0))) (hr : Reads w B size A m news) (h1 : ∀ u ∈ news, u.oneCell' = true)
    (hroom : k + m ≤ c) (hs : (k + m) * size ≤ cur.size) :
    (Builtin.append_ #[t, t] ty #[.slice (some ⟨g, 0, none⟩) k c, .slice A m c2]).run P w = .ok (.slice (some ⟨g, 0, none⟩) (k + m) c) (w.setCells g (k * size) news) := by
  obtain ⟨i, hi, _, hsz, _⟩ := E.info
  have hsrc : Src P i.size t (.slice A m c2) m news w := by rw [hsz]; exact hr.srcAll E h1
  have hl := hr.1
  have hle : k * size + m * size ≤ cur.size := by rw [← Nat.add_mul]; exact hs
  have := run_append_room_src (P := P) w t t ty e i E.und hi g 0 k c (.slice A m c2) m news hsrc hroom (fun j hj => by
      rw [cell_of_row w g _ cur e (0, 0) hg, hsz, Array.getElem?_eq_getElem (by omega)]; rfl) (fun j hj => Blk.frozen (show Blk w g e cur from hg) _)
  rw [hsz, Nat.zero_add] at this
  exact this
theorem zero_run (E : Elem P t e size bytes z) (w : World) : (zeroValue e).run P w = .ok z w := by
  obtain ⟨i, hi, hz, _, _⟩ := E.info
  simp [zeroValue, typeInfo, hi, hz]
theorem wpList_app_run {w : World} {ops : Array Oper} {rest : List Oper} {o : Oper} {a : Act} {Q : Exit → Act → World → Prop} (hw : Region.wanted o (yielded ops a.tmps) = true) (s x : Operand) {tx : TypeId}
    (ho : o.op = .call { callee := .builtin .append, args := #[s, x], argTypes := #[t, tx] }) {vs vx v' : Value} {w' : World} (hs : a.eval s = vs) (hx : a.eval x = vx)
    (hrun : (Builtin.append_ #[t, tx] o.type #[vs, vx]).run P w = .ok v' w') (h : wpList P ops Q rest (a.put o.dst v') w') : wpList P ops Q (o :: rest) a w := by
  unfold wpList
  rw [if_pos hw]
  refine .inl ?_
  unfold Oper.wp execOp
  simp only [ho, resolve, invoke, builtin, Sem.run_bind, Sem.run_pure, Result.andThen_ok, List.map_toArray, List.map_cons, List.map_nil, hs, hx, hrun]
  exact h
theorem wpList_clear_run {w : World} {ops : Array Oper} {rest : List Oper} {o : Oper} {a : Act} {Q : Exit → Act → World → Prop} (hw : Region.wanted o (yielded ops a.tmps) = true) (s : Operand)
    (ho : o.op = .call { callee := .builtin .clear, args := #[s], argTypes := #[t] }) {vs v' : Value} {w' : World} (hs : a.eval s = vs)
    (hrun : (Builtin.clear_ #[t] o.type #[vs]).run P w = .ok v' w') (h : wpList P ops Q rest (a.put o.dst v') w') : wpList P ops Q (o :: rest) a w := by
  unfold wpList
  rw [if_pos hw]
  refine .inl ?_
  unfold Oper.wp execOp
  simp only [ho, resolve, invoke, builtin, Sem.run_bind, Sem.run_pure, Result.andThen_ok, List.map_toArray, List.map_cons, List.map_nil, hs, hrun]
  exact h
end
theorem flowUpon_skip {P : Program} {R : Value → World → Prop} {r : Result Next} {w' : World} (hr : r = .ok .skip w') (h : R undef w') : flowUpon P R r := by rw [hr]; exact h
theorem just_at (w : World) (x i : Nat) (u : Value) : Just (fun b => b = x) w (w.setCell ⟨x, i, none⟩ u) := (Just.of_grow (Grow.refl w)).put (V := fun b => b = x) rfl i u
/-- from block B on -/
def FromB (B : Nat) (b : Nat) : Prop := B ≤ b
/-- known from stage s on, till it is done -/
def KF : Nat → (Value → World → Prop) → Fact
  | 0, φ => Early φ
  | s + 1, φ => fun k u w => match k with
    | 0 => False
    | k + 1 => KF s φ k u w
theorem kf_grow {φ : Value → World → Prop} (h : Lasting φ) {u : Value} {w w' : World} (hg : Grow w w') : ∀ s k, KF s φ k u w → KF s φ k u w'
  | 0, 0, hu => h u w w' hu hg
  | 0, _ + 1, _ => trivial
  | _ + 1, 0, hu => hu.elim
  | s + 1, k + 1, hu => kf_grow h hg s k hu
theorem kf_next {φ : Value → World → Prop} {u : Value} {w w' : World} : ∀ s k, KF s φ k u w → KF s φ (k + 1) u w'
  | 0, _, _ => trivial
  | _ + 1, 0, hu => hu.elim
  | s + 1, k + 1, hu => kf_next s k hu
theorem kf_lasts {S : Stages} {φ : Value → World → Prop} (h : Lasting φ) (s : Nat) : Lasts S (KF s φ) := fun k _ _ _ hu => ⟨fun hg => kf_grow h hg s k hu, fun _ _ => kf_next s k hu⟩
/-- what was made since block B -/
def OwnF (B : Nat) (e : TypeId) (size n : Nat) (xs : List Value) (u : Value) (w : World) : Prop := Own w (fun b => B ≤ b ∧ b < w.heap.size) e size u n xs
theorem ownF_lasting (B : Nat) (e : TypeId) (size n : Nat) (xs : List Value) : Lasting (OwnF B e size n xs) := fun _ _ _ h hg => (Own.grows h hg).mono fun _ hb => ⟨hb.1, Nat.lt_of_lt_of_le hb.2 hg.size⟩
/-- two appends, one behind the other, to what was made in the region -/
def TwoSt (B m1 m2 : Nat) : Stages where
  G := Just (FromB B)
  T := fun _ => Just (FromB B)
  I := fun _ _ => True
  muts := [m1, m2]
  stage := fun j => if j = m1 then some 0 else if j = m2 then some 1 else none
theorem twoSt_ok (B m1 m2 : Nat) : (TwoSt B m1 m2).Ok := ⟨fun _ _ _ => Just.trans, fun _ _ h => Just.of_grow h, fun _ _ _ h => h, fun _ _ _ _ _ => trivial⟩
section
variable {P : Program} {t e : TypeId} {size bytes : Nat} {z : Value}
theorem two_made {w : World} {B : Nat} {o : Oper} {ρ : Operand → Value} (E : Elem P t e size bytes z) (hB : B ≤ w.heap.size) (ho : o.op = .buildSlice t 0 #[]) : flowUpon P (fun u w' => Grow w w' ∧ OwnF B e size 0 [] u w') ((execOp ρ o).run P w) := by
  obtain ⟨dst, op, ty, pos, after, guard⟩ := o
  simp only at ho
  subst ho
  obtain ⟨i, hi, hz', hs, hb⟩ := E.info
  have hu := E.und
  refine flowUpon_value (u := .slice (some ⟨w.heap.size, 0, none⟩) 0 0) (w := w.alloc (.cells #[] e)) ?_ ⟨(Below.refl _ w).alloc (Nat.le_refl _) _, by simp, .inr ⟨w.heap.size, 0, #[], rfl, ⟨hB, by simp⟩, heap_alloc_new w _, Nat.le_refl _, Nat.zero_le _, .inl (by simp), by simp⟩⟩
  have hd : (underlying t).run P w = .ok (.slice e) w := run_underlying hu w
  have hsz : (sizeOf e).run P w = .ok size w := by simp [sizeOf, typeInfo, hi, hs]
  go_simp
theorem two_app (E : Elem P t e size bytes z) {w : World} {B : Nat} {o : Oper} {ρ : Operand → Value} {x y : Operand}
    {n : Nat} {xs : List Value} {u : Value} (hu : OwnF B e size n xs u w) (hx : ρ x = u) {A : Option Addr} {m c Bd : Nat} {news : List Value} (hy : ρ y = .slice A m c) (hr : Reads w Bd size A m news) (h1 : ∀ u ∈ news, u.oneCell' = true) (hbytes : (n + m) * bytes ≤ 140737488355328) (hB : B ≤ w.heap.size) (ho : o.op = .call { callee := .builtin .append, args := #[x, y], argTypes := #[t, t] }) :
    flowUpon P (fun v w' => Just (FromB B) w w' ∧ True ∧ OwnF B e size (n + m) (xs ++ news) v w') ((execOp ρ o).run P w) := by
  obtain ⟨v', w', hrun, h2, h3⟩ := run_append_Own E w o.type u n xs hu Bd A m c news hr h1 hbytes
  refine flowUpon_value (u := v') (w := w') ?_ ⟨h3.imp fun b hb => hb.1, trivial, h2.mono fun b hb => ?_⟩
  · unfold execOp
    simp only [ho, resolve, invoke, builtin, Sem.run_bind, Sem.run_pure, Result.andThen_ok, List.map_toArray, List.map_cons, List.map_nil, hx, hy, hrun]
  · rcases hb with hb | hb
    · exact ⟨hb.1, Nat.lt_of_lt_of_le hb.2 h3.size⟩
    · exact ⟨Nat.le_trans hB hb.1, hb.2⟩
end
end Go.Hop
