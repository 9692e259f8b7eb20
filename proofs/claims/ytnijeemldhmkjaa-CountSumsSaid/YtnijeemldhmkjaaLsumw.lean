/- CountSums: rows that are masked; two sums that lie apart. -/
import Derived.Test.YtnijeemldhmkjaaLsump
namespace Go.Proofs.Ytnijeemldhmkjaa
open Go.RowKit Go.Hop
theorem Own.store {w : World} {V : Nat → Prop} {e size n c g : Nat} {xs : List Value} (h : Own w V e size (.slice (some ⟨g, 0, none⟩) n c) n xs) (j : Nat) (u : Value) : Own (w.setCell ⟨g, j, none⟩ u) V e size (.slice (some ⟨g, 0, none⟩) n c) n (xs.set j u) := by
  refine ⟨by rw [List.length_set]; exact h.1, ?_⟩
  rcases h.2 with ⟨h1, _⟩ | ⟨g', cap, cur, h1, hV, hg, hn, hm, hsz, htk⟩
  · cases h1
  · injection h1 with h1 _ h3
    injection h1 with h1
    injection h1 with h1
    subst h1 h3
    refine .inr ⟨g, c, cur.setIfInBounds j u, rfl, hV, by simp [World.setCell, Array.getElem?_modify, hg], hn, hm, by simpa using hsz, ?_⟩
    rw [Array.toList_setIfInBounds, List.take_set, htk]
theorem Own.free {w : World} {V : Nat → Prop} {e size n c g : Nat} {xs : List Value} (h : Own w V e size (.slice (some ⟨g, 0, none⟩) n c) n xs) {j : Nat} (hj : j < xs.length) : w.cell? ⟨g, j, none⟩ = some xs[j] ∧ w.frozen? ⟨g, j, none⟩ = false ∧ g < w.heap.size ∧ V g := by
  rcases h.2 with ⟨h1, _⟩ | ⟨g', cap, cur, h1, hV, hg, hn, hm, hsz, htk⟩
  · cases h1
  · injection h1 with h1 _ h3
    injection h1 with h1
    injection h1 with h1
    subst h1 h3
    refine ⟨?_, Blk.frozen (show Blk w g e cur from hg) j, (Array.getElem?_eq_some_iff.1 hg).1, hV⟩
    rw [cell_of_row w g j cur e (0, 0) hg]
    have h2 : xs[j]? = some xs[j] := List.getElem?_eq_getElem hj
    have h3 : (cur.toList.take (n * size))[j]? = some xs[j] := by rw [htk]; exact h2
    rw [List.getElem?_take] at h3
    split at h3
    · simpa using h3
    · cases h3
theorem dcells_put : ∀ (l : List Dl) (k : Nat) (hk : k < l.length) (m : Nat), (dcells l).set (k * 2 + 1) (.int .u64 (m : Int)) = dcells (l.set k (l[k].1, m)) := by
  intro l
  induction l with
  | nil => intro k hk; cases hk
  | cons a l ih =>
    intro k hk m
    cases k with
    | zero => rfl
    | succ k =>
      have hk' : k < l.length := by simpa using hk
      have := ih k hk' m
      show (dcells (a :: l)).set ((k + 1) * 2 + 1) _ = dcells (a :: l.set k (l[k].1, m))
      rw [show (k + 1) * 2 + 1 = (k * 2 + 1) + 2 by omega]
      show [Value.string a.1, Value.int .u64 (a.2 : Int)] ++ (dcells l).set (k * 2 + 1) _ = [Value.string a.1, Value.int .u64 (a.2 : Int)] ++ dcells (l.set k (l[k].1, m))
      rw [this]
theorem grow_set {w w' : World} (hg : Grow w w') (p : Addr) (u : Value) {b : Nat} (hb : b < w.heap.size) : (w'.setCell p u).heap[b]? = (w.setCell p u).heap[b]? := by
  simp [World.setCell, Array.getElem?_modify, hg.block b hb]
/-- rows of deltas, each in a block of its own, all in blocks of V -/
structure MOwn (w : World) (V : Nat → Prop) (v : Value) (q : List Dr) : Prop where
  row : Own w (fun b => V b ∧ b ∉ q.map Dr.g) 27 1 v q.length (q.flatMap Dr.cells)
  nodup : (q.map Dr.g).Nodup
  all : ∀ b ∈ q, V b.g ∧ Own w (fun x => x = b.g) 34 2 b.val b.l.length (dcells b.l)
  ok : ∀ b ∈ q, b.l.length ≤ 5 ∧ ∀ d ∈ b.l, d.1 ∈ nameL ∧ d.2 ≤ M64
theorem RowsOwn.masked {w : World} {V : Nat → Prop} {v : Value} {q : List Dr} (h : RowsOwn w V v q) : MOwn w V v q :=
  ⟨h.row, h.nodup, fun b hb => ⟨(h.all b hb).1, (h.all b hb).2.own⟩, fun b hb => ⟨(h.all b hb).2.few, fun d hd => ⟨((h.all b hb).2.kept d hd).1, ((h.all b hb).2.kept d hd).2.2⟩⟩⟩
theorem MOwn.keep {w w' : World} {V : Nat → Prop} {v : Value} {q : List Dr} (h : MOwn w V v q) (hk : ∀ b, V b → w'.heap[b]? = w.heap[b]?) : MOwn w' V v q :=
  ⟨h.row.keep fun b hb => hk b hb.1, h.nodup, fun b hb => ⟨(h.all b hb).1, (h.all b hb).2.keep fun x hx => by rw [hx]; exact hk _ (h.all b hb).1⟩, h.ok⟩
theorem Dr.ok_of {l : List Dl} (h : l.length ≤ 5 ∧ ∀ d ∈ l, d.1 ∈ nameL ∧ d.2 ≤ M64) : ∀ d ∈ l, d.1.size ≤ maxLen ∧ d.2 ≤ M64 := fun d hd => ⟨by have := nameL_small (h.2 d hd).1; unfold maxLen; omega, (h.2 d hd).2⟩
theorem MOwn.ins {w : World} {V : Nat → Prop} {A : Option Addr} {n c : Nat} {q : List Dr} (h : MOwn w V (.slice A n c) q) : RowsIn w V A (q.map Dr.rr) := by
  obtain ⟨A', c', e, hI, hn, hm⟩ := h.row.in_
  injection e with e1 e2 e3
  subst e1 e3
  refine ⟨?_, fun b hb => ?_⟩
  · rw [List.length_map, List.flatMap_map]
    exact hI.mono fun b hb => hb.1
  · obtain ⟨d, hd, rfl⟩ := List.mem_map.1 hb
    have h1 := h.all d hd
    obtain ⟨A, c, e, hI, _⟩ := h1.2.in_
    injection e with e1 _ e3
    refine ⟨?_, Dr.ok_of (h.ok d hd), by have := (h.ok d hd).1; exact Nat.le_trans this (by omega)⟩
    show In w V 2 (some ⟨d.g, 0, none⟩) d.l.length (dcells d.l)
    rw [e1]
    exact hI.mono fun b hb => by rw [hb]; exact h1.1
/-- row i with l in it -/
def setRow (q : List Dr) (i : Nat) (l : List Dl) : List Dr := q.modify i fun b => ⟨b.g, b.c, l⟩
theorem setRow_len (q : List Dr) (i : Nat) (l : List Dl) : (setRow q i l).length = q.length := List.length_modify ..
theorem setRow_at {q : List Dr} {i : Nat} {l : List Dl} {j : Nat} (hj : j < q.length) : (setRow q i l)[j]'(by rw [setRow_len]; exact hj) = if i = j then ⟨q[j].g, q[j].c, l⟩ else q[j] := by
  unfold setRow
  rw [List.getElem_modify]
theorem setRow_g (q : List Dr) (i : Nat) (l : List Dl) : (setRow q i l).map Dr.g = q.map Dr.g := by
  refine List.ext_getElem (by rw [List.length_map, List.length_map, setRow_len]) fun j h1 h2 => ?_
  rw [List.getElem_map, List.getElem_map, setRow_at (by simpa using h2)]
  split <;> rfl
theorem setRow_cells {q : List Dr} {i : Nat} {l : List Dl} (h : ∀ (hi : i < q.length), l.length = q[i].l.length) : (setRow q i l).flatMap Dr.cells = q.flatMap Dr.cells := by
  have : (setRow q i l).map Dr.val = q.map Dr.val := by
    refine List.ext_getElem (by rw [List.length_map, List.length_map, setRow_len]) fun j h1 h2 => ?_
    have hj : j < q.length := by simpa using h2
    rw [List.getElem_map, List.getElem_map, setRow_at hj]
    split
    · rename_i hij
      subst hij
      unfold Dr.val
      rw [h hj]
    · rfl
  have e : ∀ q : List Dr, q.flatMap Dr.cells = q.map Dr.val := fun q => by
    unfold Dr.cells
    rw [← List.map_eq_flatMap]
  rw [e, e, this]
theorem setRow_mem {q : List Dr} {i : Nat} {l : List Dl} {b : Dr} (h : b ∈ setRow q i l) : (∃ hi : i < q.length, b = ⟨q[i].g, q[i].c, l⟩) ∨ (b ∈ q ∧ ∃ (j : Nat) (hj : j < q.length), j ≠ i ∧ b = q[j]) := by
  obtain ⟨j, hj, rfl⟩ := List.getElem_of_mem h
  rw [setRow_len] at hj
  rw [setRow_at hj]
  split
  · rename_i hij
    subst hij
    exact .inl ⟨hj, rfl⟩
  · rename_i hij
    exact .inr ⟨List.getElem_mem hj, j, hj, fun e => hij e.symm, rfl⟩
/-- a number of it is stored anew -/
theorem MOwn.store {w : World} {V : Nat → Prop} {v : Value} {q : List Dr} (h : MOwn w V v q) {i k : Nat} (hi : i < q.length) (hk : k < q[i].l.length) {m : Nat} (hm : m ≤ M64) :
    MOwn (w.setCell ⟨q[i].g, k * 2 + 1, none⟩ (.int .u64 (m : Int))) V v (setRow q i (q[i].l.set k (q[i].l[k].1, m))) := by
  have hb := h.all _ (List.getElem_mem hi)
  have ho := h.ok _ (List.getElem_mem hi)
  have hgm : q[i].g ∈ q.map Dr.g := List.mem_map.2 ⟨_, List.getElem_mem hi, rfl⟩
  refine ⟨?_, by rw [setRow_g]; exact h.nodup, fun b hbm => ?_, fun b hbm => ?_⟩
  · rw [setRow_g, setRow_len, setRow_cells (fun _ => by rw [List.length_set])]
    exact h.row.put (fun hv => hv.2 hgm) _ _
  · rcases setRow_mem hbm with ⟨_, rfl⟩ | ⟨hbq, j, hj, hne, rfl⟩
    · refine ⟨hb.1, ?_⟩
      have := Own.store (show Own w (fun x => x = q[i].g) 34 2 (.slice (some ⟨q[i].g, 0, none⟩) q[i].l.length q[i].c) q[i].l.length (dcells q[i].l) from hb.2) (k * 2 + 1) (.int .u64 (m : Int))
      rw [dcells_put _ _ hk] at this
      show Own _ _ _ 2 (.slice (some ⟨q[i].g, 0, none⟩) (q[i].l.set k (q[i].l[k].1, m)).length q[i].c) (q[i].l.set k (q[i].l[k].1, m)).length _
      rw [List.length_set]
      exact this
    · have hbj := h.all _ hbq
      refine ⟨hbj.1, hbj.2.put (fun e => ?_) _ _⟩
      have h1 := List.pairwise_iff_getElem.1 h.nodup
      rcases Nat.lt_or_gt_of_ne hne with hlt | hlt
      · have := h1 j i (by simpa using hj) (by simpa using hi) hlt
        simp only [List.getElem_map] at this
        exact this e.symm
      · have := h1 i j (by simpa using hi) (by simpa using hj) hlt
        simp only [List.getElem_map] at this
        exact this e
  · rcases setRow_mem hbm with ⟨_, rfl⟩ | ⟨hbq, _⟩
    · refine ⟨by rw [List.length_set]; exact ho.1, fun d hd => ?_⟩
      rcases List.mem_or_eq_of_mem_set hd with hd | rfl
      · exact ho.2 d hd
      · exact ⟨(ho.2 _ (List.getElem_mem hk)).1, hm⟩
    · exact h.ok b hbq
/-- the first i rows are masked, and the first k numbers of row i -/
def MDone (q : List Dr) (i k : Nat) : Prop := ∀ (j : Nat) (hj : j < q.length), (j < i → ∀ d ∈ q[j].l, d.2 ≤ 65535) ∧ (j = i → ∀ (x : Nat) (hx : x < q[j].l.length), x < k → q[j].l[x].2 ≤ 65535)
theorem MDone.store {q : List Dr} {i k : Nat} (h : MDone q i k) (hi : i < q.length) (hk : k < q[i].l.length) {m : Nat} (hm : m ≤ 65535) : MDone (setRow q i (q[i].l.set k (q[i].l[k].1, m))) i (k + 1) := by
  intro j hj
  have hj' : j < q.length := by rwa [setRow_len] at hj
  have hat := setRow_at (i := i) (l := q[i].l.set k (q[i].l[k].1, m)) hj'
  refine ⟨fun hji => ?_, fun hji x hx hxk => ?_⟩
  · rw [hat, if_neg (by omega)]
    exact (h j hj').1 hji
  · subst hji
    have e : (setRow q j (q[j].l.set k (q[j].l[k].1, m)))[j].l = q[j].l.set k (q[j].l[k].1, m) := by rw [hat, if_pos rfl]
    have hx2 : x < (q[j].l.set k (q[j].l[k].1, m)).length := by rw [← e]; exact hx
    have e2 : (setRow q j (q[j].l.set k (q[j].l[k].1, m)))[j].l[x] = (q[j].l.set k (q[j].l[k].1, m))[x] := by simp only [e]
    rw [e2, List.getElem_set]
    split
    · exact hm
    · exact (h j hj').2 rfl x (by rwa [List.length_set] at hx2) (by omega)
theorem MDone.next {q : List Dr} {i k : Nat} (h : MDone q i k) (hk : ∀ hi : i < q.length, q[i].l.length ≤ k) : MDone q (i + 1) 0 := by
  intro j hj
  refine ⟨fun hji d hd => ?_, fun _ x _ hx => absurd hx (by omega)⟩
  rcases Nat.lt_or_ge j i with h1 | h1
  · exact (h j hj).1 h1 d hd
  · obtain rfl : j = i := by omega
    obtain ⟨x, hx, rfl⟩ := List.getElem_of_mem hd
    exact (h j hj).2 rfl x hx (by have := hk hj; omega)
theorem MDone.low {q : List Dr} {w : World} {V : Nat → Prop} {v : Value} (h : MDone q q.length 0) (hM : MOwn w V v q) : ∀ l ∈ q.map Dr.l, Low l := by
  intro l hl
  obtain ⟨b, hb, rfl⟩ := List.mem_map.1 hl
  obtain ⟨j, hj, rfl⟩ := List.getElem_of_mem hb
  exact ⟨(hM.ok _ hb).1, fun d hd => ⟨((hM.ok _ hb).2 d hd).1, (h j hj).1 hj d hd⟩⟩
theorem and_u16 (z : Nat) (hz : z ≤ M64) : bits .and .u64 (z : Int) 65535 = ((z % 65536 : Nat) : Int) := by
  unfold M64 at hz
  have key : (BitVec.ofInt 64 (z : Int) &&& BitVec.ofInt 64 65535).toNat = z % 65536 := by
    rw [BitVec.toNat_and, BitVec.toNat_ofInt, show (BitVec.ofInt 64 65535).toNat = 2 ^ 16 - 1 from rfl, Nat.and_two_pow_sub_one_eq_mod]
    have : ((z : Int) % ((2 ^ 64 : Nat) : Int)).toNat = z := by omega
    rw [this]
  show IntKind.u64.wrap ((BitVec.ofInt 64 (z : Int) &&& BitVec.ofInt 64 65535).toNat : Nat) = _
  rw [key, IntKind.wrap_u64]
  omega
/-! ### two sums that lie apart -/
abbrev Two (P : Nat → Prop) (a b : Nat) (qa qb : Sm) (w : World) : Prop := Duo P (SumsAt a qa) (SumsAt b qb) w
section
variable {P : Nat → Prop} {a b : Nat} {qa qb : Sm} {w w0 : World} {A : Option Addr} {n c : Nat} {l : List Dl} {D : Nat → Prop}
theorem Two.grow (h : Two P a b qa qb w0) (hg : Grow w0 w) : Two P a b qa qb w := Duo.grow h (SumsAt.framed a qa) (SumsAt.framed b qb) hg
theorem Two.add1 (h : Two P a b qa qb w0) (hg : Grow w0 w) (hl : In w D 2 A n (dcells l)) (hD : ∀ x, D x → ¬ P x ∨ w0.heap.size ≤ x) (hd : ∀ d ∈ l, d.1.size ≤ maxLen ∧ d.2 ≤ M64) (hn : n ≤ 1000000) (hq : qa.length ≤ 1000000) :
    Calls Try.prog 10 #[.pointer (some ⟨a, 0, none⟩), .slice A n c] w fun e w' => e = .returned (.int .i64 (mayE qa l)) ∧ Just P w0 w' ∧ Two P a b (addM qa l) qb w' := by
  obtain ⟨h0, V, U, h1, h2, h3, h4, h5⟩ := h
  have hgs := hg.size
  refine (Add_any w a qa V (SumsAt.framed a qa w0 w V h1 fun x hx => hg.block x (h4 x hx).2) (fun x hx => Nat.lt_of_lt_of_le (h4 x hx).2 hgs) A n c l D hl (fun x hx hv => ?_) hd (by omega) (by omega)).mono ?_
  · rcases hD x hx with h | h
    · exact h (h4 x hv).1
    · have := (h4 x hv).2; omega
  · rintro e w' ⟨he, hS, hj⟩
    have hs := hj.size
    refine ⟨he, (Just.of_grow hg).trans (hj.imp fun x hx => (h4 x hx).1), fun x hx => h0 x (by omega), _, U, hS, SumsAt.framed b qb w w' U (SumsAt.framed b qb w0 w U h2 fun x hx => hg.block x (h5 x hx).2) fun x hx => hj.block x (Nat.lt_of_lt_of_le (h5 x hx).2 hgs) fun hv => h3 x hv hx, fun x hx hv => ?_, fun x hx => ?_, fun x hx => ⟨(h5 x hx).1, by have := (h5 x hx).2; omega⟩⟩
    · rcases hx with hx | hx
      · exact h3 x hx hv
      · have := (h5 x hv).2; have := hx.1; omega
    · rcases hx with hx | hx
      · exact ⟨(h4 x hx).1, by have := (h4 x hx).2; omega⟩
      · exact ⟨h0 x (by have := hx.1; omega), hx.2⟩
theorem Two.add2 (h : Two P a b qa qb w0) (hg : Grow w0 w) (hl : In w D 2 A n (dcells l)) (hD : ∀ x, D x → ¬ P x ∨ w0.heap.size ≤ x) (hd : ∀ d ∈ l, d.1.size ≤ maxLen ∧ d.2 ≤ M64) (hn : n ≤ 1000000) (hq : qb.length ≤ 1000000) :
    Calls Try.prog 10 #[.pointer (some ⟨b, 0, none⟩), .slice A n c] w fun e w' => e = .returned (.int .i64 (mayE qb l)) ∧ Just P w0 w' ∧ Two P a b qa (addM qb l) w' :=
  (Two.add1 (Duo.swap h) hg hl hD hd hn hq).mono fun _ _ ⟨x, y, z⟩ => ⟨x, y, Duo.swap z⟩
theorem Two.all1 (h : Two P a b qa qb w) (hq : qa.length ≤ 1000000) :
    Calls Try.prog 13 #[.pointer (some ⟨a, 0, none⟩)] w fun e w' => ∃ A, e = .returned (.slice A qa.length qa.length) ∧ In w' (New w w') 2 A qa.length (dcells qa) ∧ Grow w w' := by
  obtain ⟨V, h1, _⟩ := Duo.get1 h
  exact All_any w a qa V h1 (by omega)
theorem Two.all2 (h : Two P a b qa qb w) (hq : qb.length ≤ 1000000) :
    Calls Try.prog 13 #[.pointer (some ⟨b, 0, none⟩)] w fun e w' => ∃ A, e = .returned (.slice A qb.length qb.length) ∧ In w' (New w w') 2 A qb.length (dcells qb) ∧ Grow w w' := Two.all1 (Duo.swap h) hq
theorem Two.made {w1 w2 w3 : World} (ha : SumsAt a [] w2 (New w1 w2)) (hb : SumsAt b [] w3 (New w2 w3)) (hg2 : Grow w1 w2) (hg3 : Grow w2 w3) : Two (fun x => w1.heap.size ≤ x) a b [] [] w3 := by
  have h2 := hg2.size
  have h3 := hg3.size
  refine ⟨fun x hx => by omega, New w1 w2, New w2 w3, SumsAt.framed a [] w2 w3 _ ha fun x hx => hg3.block x hx.2, hb, fun x hx hv => ?_, fun x hx => ⟨hx.1, by have := hx.2; omega⟩, fun x hx => ⟨by have := hx.1; omega, hx.2⟩⟩
  have := hx.2; have := hv.1; omega
end
end Go.Proofs.Ytnijeemldhmkjaa
