/- Slices of a call's own that may be cut to their length and appended to; objects that lie apart. -/
import Derived.Test.YtidkhokecekpgaaDoorFlow2
import Derived.Deep.Upon
import Derived.Laws.IdiomStrings
import Derived.Laws.BytesArg
namespace Go.Hop
open Go.RowKit

/-- a slice at the head of a block of its own (in V), or nil: its capacity is all of the block, or just its length -/
def Own (w : World) (V : Nat → Prop) (e : TypeId) (size : Nat) (v : Value) (n : Nat) (xs : List Value) : Prop :=
  xs.length = n * size ∧ ((v = .slice none 0 0 ∧ n = 0) ∨
   ∃ g cap cur, v = .slice (some ⟨g, 0, none⟩) n cap ∧ V g ∧ w.heap[g]? = some (.cells cur e (0, 0)) ∧ n ≤ cap ∧ cap ≤ maxLen ∧ (cur.size = cap * size ∨ (cap = n ∧ n * size ≤ cur.size)) ∧ cur.toList.take (n * size) = xs)
/-- V, and what is new -/
def Ext (V : Nat → Prop) (w w' : World) (b : Nat) : Prop := V b ∨ (w.heap.size ≤ b ∧ b < w'.heap.size)

section
variable {w w' : World} {V V' : Nat → Prop} {e : TypeId} {size n : Nat} {v : Value} {xs : List Value}
theorem Own.nil : Own w V e size (.slice none 0 0) 0 [] := ⟨by simp, .inl ⟨rfl, rfl⟩⟩
theorem Own.mono (h : Own w V e size v n xs) (hV : ∀ b, V b → V' b) : Own w V' e size v n xs := by
  refine ⟨h.1, ?_⟩
  rcases h.2 with h2 | ⟨g, cap, cur, h1, h2, h3⟩
  · exact .inl h2
  · exact .inr ⟨g, cap, cur, h1, hV g h2, h3⟩
theorem Own.keep (h : Own w V e size v n xs) (hk : ∀ b, V b → w'.heap[b]? = w.heap[b]?) : Own w' V e size v n xs := by
  refine ⟨h.1, ?_⟩
  rcases h.2 with h2 | ⟨g, cap, cur, h1, h2, h3, h4⟩
  · exact .inl h2
  · exact .inr ⟨g, cap, cur, h1, h2, (hk g h2).trans h3, h4⟩
theorem Own.of_row {base : Nat} (h : w.ownsRow base e size v n xs) (hV : ∀ g, v.ownBlock = some g → V g) : Own w V e size v n xs := by
  refine ⟨h.1, ?_⟩
  rcases h.2 with h2 | ⟨g, cap, cur, h1, _, h3, h4, h5, h6, h7⟩
  · exact .inl h2
  · exact .inr ⟨g, cap, cur, h1, hV g (by rw [h1]; rfl), h3, h4, h5, .inl h6, h7⟩
theorem Own.reads (h : Own w V e size v n xs) : ∃ A c, v = .slice A n c ∧ Reads w w.heap.size size A n xs ∧ n ≤ c ∧ c ≤ maxLen := by
  rcases h.2 with ⟨rfl, rfl⟩ | ⟨g, cap, cur, rfl, _, hg, hn, hm, hsz, htk⟩
  · exact ⟨none, 0, rfl, ⟨h.1, fun hh => absurd hh (by omega)⟩, Nat.le_refl _, Nat.zero_le _⟩
  · refine ⟨_, cap, rfl, ⟨h.1, fun _ => ⟨_, rfl, (Array.getElem?_eq_some_iff.1 hg).1, fun j u hu => ?_⟩⟩, hn, hm⟩
    have hadd : (⟨g, 0, none⟩ : Addr).add j = ⟨g, j, none⟩ := by unfold Addr.add; split <;> simp_all
    rw [hadd, cell_of_row _ _ _ _ _ _ hg]
    rw [← htk, List.getElem?_take] at hu
    split at hu
    · simpa using hu
    · cases hu
theorem Own.cut {A : Option Addr} {c k : Nat} (h : Own w V e size (.slice A n c) n xs) (hk : k ≤ n) : Own w V e size (.slice A k k) k (xs.take (k * size)) := by
  have hks : k * size ≤ n * size := Nat.mul_le_mul_right _ hk
  refine ⟨by rw [List.length_take, h.1]; exact Nat.min_eq_left hks, ?_⟩
  rcases h.2 with ⟨h1, rfl⟩ | ⟨g, cap, cur, h1, hV, hg, hn, hm, hsz, htk⟩
  · injection h1 with h1 h2 h3
    subst h1
    obtain rfl : k = 0 := by omega
    exact .inl ⟨rfl, rfl⟩
  · injection h1 with h1 h2 h3
    subst h1; subst h3
    refine .inr ⟨g, k, cur, rfl, hV, hg, Nat.le_refl _, by omega, .inr ⟨rfl, ?_⟩, ?_⟩
    · have := Nat.mul_le_mul_right size hn
      rcases hsz with hsz | ⟨_, hsz⟩ <;> omega
    · rw [← htk, List.take_take, Nat.min_eq_left hks]
theorem Own.put (h : Own w V e size v n xs) {g : Nat} (hg : ¬ V g) (i : Nat) (u : Value) : Own (w.setCell ⟨g, i, none⟩ u) V e size v n xs :=
  h.keep fun b hb => Below.heap_setCell w ⟨g, i, none⟩ u b (fun e => hg (by rw [← show b = g from e]; exact hb))
theorem Own.grow (h : Own w V e size v n xs) (hV : ∀ b, V b → b < w.heap.size) (hg : Grow w w') : Own w' V e size v n xs := h.keep fun b hb => hg.block b (hV b hb)
theorem setCell_size (w : World) (p : Addr) (u : Value) : (w.setCell p u).heap.size = w.heap.size := by simp [World.setCell]
theorem Just.put {a b : World} (h : Just V a b) {g : Nat} (hg : V g) (i : Nat) (u : Value) : Just V a (b.setCell ⟨g, i, none⟩ u) :=
  h.trans (Just.of_only ((Only.refl g b).put i u) hg)
theorem Ext.left {b : Nat} (h : V b) : Ext V w w' b := .inl h
theorem Ext.new (hlt : w.heap.size < w'.heap.size) : Ext V w w' w.heap.size := .inr ⟨Nat.le_refl _, hlt⟩
end

section
variable {P : Program} {t e : TypeId} {size bytes : Nat} {z : Value} {V : Nat → Prop}
theorem Reads.src {w : World} {B m c : Nat} {A : Option Addr} {news : List Value} (E : Elem P t e size bytes z) (hr : Reads w B size A m news) (hm : m = 0) : Src P size t (.slice A m c) 0 [] w := by
  subst hm
  cases A with
  | none => exact Src.ofNil w E.und c
  | some ad => exact Src.ofSlice w E.und ad 0 c [] (by simp) (by simp) (by simp)
theorem run_append_Own (E : Elem P t e size bytes z) (w : World) (ty : Nat) (v : Value) (n : Nat) (xs : List Value) (hown : Own w V e size v n xs)
    (B : Nat) (A : Option Addr) (m c : Nat) (news : List Value) (hr : Reads w B size A m news) (h1 : ∀ u ∈ news, u.oneCell' = true)
    (hbytes : (n + m) * bytes ≤ 140737488355328) :
    ∃ v' w', (Builtin.append_ #[t, t] ty #[v, .slice A m c]).run P w = .ok v' w' ∧ Own w' (Ext V w w') e size v' (n + m) (xs ++ news) ∧ Just V w w' := by
  have whole : w.ownsRow 0 e size v n xs → (∀ g, v.ownBlock = some g → V g) → ∃ v' w', (Builtin.append_ #[t, t] ty #[v, .slice A m c]).run P w = .ok v' w' ∧ Own w' (Ext V w w') e size v' (n + m) (xs ++ news) ∧ Just V w w' := fun ho hV => by
    obtain ⟨v', w', hrun, h2, h3, h4⟩ := run_append_reads E w 0 ty v n xs ho B A m c news hr h1 hbytes (Nat.zero_le _)
    refine ⟨v', w', hrun, .of_row h2 fun g hg => ?_, ⟨h3.os, h3.tape, h3.output, h3.size, fun k hk hv => h3.block k hk (fun e => hv (hV k e.symm))⟩⟩
    rcases h4 with h4 | h4
    · exact .inl (hV g (by rw [← h4, hg]))
    · rw [hg] at h4; injection h4 with h4
      have := h2.lt g hg
      exact .inr ⟨by omega, this.2⟩
  rcases hown.2 with ⟨rfl, rfl⟩ | ⟨g, cap, cur, rfl, hV, hg, hn, hm, hsz, htk⟩
  · exact whole ⟨hown.1, .inl ⟨rfl, rfl⟩⟩ (fun g hg => by cases hg)
  · rcases hsz with hsz | ⟨rfl, hsz⟩
    · exact whole ⟨hown.1, .inr ⟨g, cap, cur, rfl, Nat.zero_le _, hg, hn, hm, hsz, htk⟩⟩ (fun g' hg' => by injection hg' with hg'; rw [← hg']; exact hV)
    · obtain ⟨i, hi, hz, hs, hb⟩ := E.info
      by_cases hm0 : m = 0
      · have hsrc := hr.src (c := c) E hm0
        subst hm0
        obtain rfl : news = [] := List.eq_nil_of_length_eq_zero (by simpa using hr.1)
        have := run_append_nothing (P := P) w t t ty e i E.und hi (some ⟨g, 0, none⟩) cap cap (Nat.le_refl _) (.slice A 0 c) (by rw [hs]; exact hsrc)
        refine ⟨_, w, this, ?_, Just.of_grow (Grow.refl w)⟩
        rw [List.append_nil]
        exact hown.mono fun b hb => .inl hb
      · obtain ⟨ad, rfl, _, hc⟩ := hr.2 (by omega)
        obtain ⟨A', c', hv, hrd, _, _⟩ := hown.reads
        have h63 : cap + m ≤ maxLen := by
          have := Nat.le_mul_of_pos_right (cap + m) E.bpos
          simp only [maxLen]; omega
        have holds : ∀ j u, xs[j]? = some u → w.cell? ((⟨g, 0, none⟩ : Addr).add j) = some u := by
          intro j u hu
          have hlt : 0 < cap := by
            rcases Nat.eq_zero_or_pos cap with h0 | h0
            · have : xs.length = 0 := by rw [hown.1, h0]; simp
              rw [List.eq_nil_of_length_eq_zero this] at hu; simp at hu
            · exact h0
          obtain ⟨ad', e', _, hc'⟩ := hrd.2 hlt
          injection hv with hv
          rw [← hv] at e'; injection e' with e'
          rw [e']; exact hc' j u hu
        obtain ⟨v', w', hrun, r1, r2⟩ := run_append_arg_grows (P := P) w t ty e i z size bytes E.und hi hz hs hb E.zs E.pos ⟨g, 0, none⟩ cap cap xs hown.1 holds ad m c news hr.1 hc (by omega) h63 hbytes
        refine ⟨v', w', hrun, .of_row r1 fun g' hg' => ?_, ⟨r2.os, r2.tape, r2.output, r2.size, fun k hk _ => r2.block k hk (by simp)⟩⟩
        have h1 := r1.lt g' hg'
        rcases r1.2 with ⟨hv', _⟩ | ⟨g2, _, _, hv', hb', _⟩
        · rw [hv'] at hg'; cases hg'
        · rw [hv'] at hg'; injection hg' with hg'
          subst hg'
          exact .inr ⟨hb', h1.2⟩

/-- the walk's law: 'hw' by rfl, guarded or not -/
theorem wpList_own (E : Elem P t e size bytes z) (w : World) {ops : Array Oper} {rest : List Oper} {o : Oper} {a : Act} {Q : Exit → Act → World → Prop} (hw : Region.wanted o (yielded ops a.tmps) = true) (s x : Operand)
    (ho : o.op = .call { callee := .builtin .append, args := #[s, x], argTypes := #[t, t] })
    (v : Value) (n : Nat) (xs : List Value) (hs : a.eval s = v) (hown : Own w V e size v n xs)
    (B : Nat) (A : Option Addr) (m c : Nat) (news : List Value) (hx : a.eval x = .slice A m c) (hr : Reads w B size A m news) (h1 : ∀ u ∈ news, u.oneCell' = true)
    (hbytes : (n + m) * bytes ≤ 140737488355328)
    (h : ∀ v' w', Own w' (Ext V w w') e size v' (n + m) (xs ++ news) → Just V w w' → wpList P ops Q rest (a.put o.dst v') w') :
    wpList P ops Q (o :: rest) a w := by
  obtain ⟨v', w', hrun, h2, h3⟩ := run_append_Own E w o.type v n xs hown B A m c news hr h1 hbytes
  unfold wpList
  rw [if_pos hw]
  refine .inl ?_
  unfold Oper.wp execOp
  simp only [ho, resolve, invoke, builtin, Sem.run_bind, Sem.run_pure, Result.andThen_ok, List.map_toArray, List.map_cons, List.map_nil, hs, hx, hrun]
  exact h v' w' h2 h3
end

/-- bytes turned into a string -/
theorem run_conv_bytes {P : Program} (src dst e : TypeId) (hs : P.underlying src = some (.slice e)) (he : P.underlying e = some (.int .u8)) (hd : P.underlying dst = some .string)
    (w : World) {B : Nat} {A : Option Addr} {n c : Nat} {l : List UInt8} (h : Bytes w B A n l) : (convert src dst (.slice A n c)).run P w = .ok (.string ⟨l.toArray⟩) w := by
  have hl := h.len
  cases A with
  | none =>
    have hn : n = 0 := by
      rcases Nat.eq_zero_or_pos n with h0 | h0
      · exact h0
      · obtain ⟨_, e', _⟩ := h.2 h0; cases e'
    subst hn
    obtain rfl : l = [] := List.eq_nil_of_length_eq_zero hl
    exact run_convert_bytes_nil w src e hs he 0 c dst hd
  | some ad =>
    subst hl
    refine run_convert_bytes_back w src dst e ad c l hs he hd fun j hj => ?_
    obtain ⟨ad', _, e', hc⟩ := h.at_ hj
    injection e' with e'
    rw [e']; exact hc
theorem run_conv_is {P : Program} (src dst e : TypeId) (hs : P.underlying src = some (.slice e)) (he : P.underlying e = some (.int .u8)) (hd : P.underlying dst = some .string)
    (w : World) {u : Value} {l : List UInt8} (h : IsBytes l u w) : (convert src dst u).run P w = .ok (.string ⟨l.toArray⟩) w := by
  obtain ⟨A, n, c, rfl, h, _⟩ := h
  exact run_conv_bytes src dst e hs he hd w h
theorem Own.isBytes {w : World} {V : Nat → Prop} {e n : Nat} {v : Value} {l : List UInt8} (h : Own w V e 1 v n (u8s l)) : IsBytes l v w := by
  obtain ⟨A, c, rfl, hR, h1, h2⟩ := h.reads
  exact ⟨A, n, c, rfl, hR, h1, h2⟩

/-- what is said of an object hangs on its own blocks alone -/
abbrev Thing := World → (Nat → Prop) → Prop
def Framed (S : Thing) : Prop := ∀ w w' V, S w V → (∀ b, V b → w'.heap[b]? = w.heap[b]?) → S w' V
/-- two objects that lie apart, in blocks of which P holds; P holds of all that is to come -/
def Duo (P : Nat → Prop) (S R : Thing) (w : World) : Prop :=
  (∀ b, w.heap.size ≤ b → P b) ∧ ∃ V U : Nat → Prop, S w V ∧ R w U ∧ (∀ b, V b → ¬ U b) ∧ (∀ b, V b → P b ∧ b < w.heap.size) ∧ (∀ b, U b → P b ∧ b < w.heap.size)
def Solo (P : Nat → Prop) (S : Thing) (w : World) : Prop :=
  (∀ b, w.heap.size ≤ b → P b) ∧ ∃ V : Nat → Prop, S w V ∧ (∀ b, V b → P b ∧ b < w.heap.size)
/-- a call that turns an object alone -/
def Turns (Pr : Program) (f : FuncId) (args : Array Value) (C : Ending → Prop) (S S' : Thing) (w : World) : Prop :=
  ∀ V : Nat → Prop, S w V → (∀ b, V b → b < w.heap.size) → Calls Pr f args w fun e w' => C e ∧ S' w' (Ext V w w') ∧ Just V w w'
section
variable {P P' : Nat → Prop} {S S' R R' : Thing} {w w' : World}
theorem ext_lt {V : Nat → Prop} (hV : ∀ b, V b → P b ∧ b < w.heap.size) (hP : ∀ b, w.heap.size ≤ b → P b) (hs : w.heap.size ≤ w'.heap.size) : ∀ b, Ext V w w' b → P b ∧ b < w'.heap.size := fun b hb => by
  rcases hb with h | ⟨h1, h2⟩
  · have := hV b h; exact ⟨this.1, by omega⟩
  · exact ⟨hP b h1, h2⟩
theorem Duo.swap (h : Duo P S R w) : Duo P R S w := by
  obtain ⟨h0, V, U, h1, h2, h3, h4, h5⟩ := h
  exact ⟨h0, U, V, h2, h1, fun b hb hv => h3 b hv hb, h5, h4⟩
theorem Duo.left {Pr : Program} {f : FuncId} {args : Array Value} {C : Ending → Prop} (h : Duo P S R w) (hR : Framed R) (hc : Turns Pr f args C S S' w) : Calls Pr f args w fun e w' => C e ∧ Just P w w' ∧ Duo P S' R w' := by
  obtain ⟨h0, V, U, h1, h2, h3, h4, h5⟩ := h
  refine (hc V h1 (fun b hb => (h4 b hb).2)).mono fun e w' ⟨he, hs, hj⟩ => ⟨he, hj.imp fun k hk => (h4 k hk).1, fun b hb => h0 b (Nat.le_trans hj.size hb), Ext V w w', U, hs, hR w w' U h2 (fun b hb => hj.block b (h5 b hb).2 (fun hv => h3 b hv hb)), fun b hb hu => ?_, ext_lt h4 h0 hj.size, fun b hb => ⟨(h5 b hb).1, Nat.lt_of_lt_of_le (h5 b hb).2 hj.size⟩⟩
  rcases hb with hb | ⟨hb, _⟩
  · exact h3 b hb hu
  · have := (h5 b hu).2; omega
theorem Duo.right {Pr : Program} {f : FuncId} {args : Array Value} {C : Ending → Prop} (h : Duo P S R w) (hS : Framed S) (hc : Turns Pr f args C R R' w) : Calls Pr f args w fun e w' => C e ∧ Just P w w' ∧ Duo P S R' w' :=
  (h.swap.left hS hc).mono fun _ _ ⟨a, b, c⟩ => ⟨a, b, c.swap⟩
theorem Duo.grow (h : Duo P S R w) (hS : Framed S) (hR : Framed R) (hg : Grow w w') : Duo P S R w' := by
  obtain ⟨h0, V, U, h1, h2, h3, h4, h5⟩ := h
  exact ⟨fun b hb => h0 b (Nat.le_trans hg.size hb), V, U, hS w w' V h1 (fun b hb => hg.block b (h4 b hb).2), hR w w' U h2 (fun b hb => hg.block b (h5 b hb).2), h3, fun b hb => ⟨(h4 b hb).1, Nat.lt_of_lt_of_le (h4 b hb).2 hg.size⟩, fun b hb => ⟨(h5 b hb).1, Nat.lt_of_lt_of_le (h5 b hb).2 hg.size⟩⟩
/-- what lies elsewhere may turn -/
theorem Duo.else_ {Q : Nat → Prop} (h : Duo P S R w) (hS : Framed S) (hR : Framed R) (hj : Just Q w w') (hQ : ∀ b, Q b → ¬ P b) : Duo P S R w' := by
  obtain ⟨h0, V, U, h1, h2, h3, h4, h5⟩ := h
  exact ⟨fun b hb => h0 b (Nat.le_trans hj.size hb), V, U, hS w w' V h1 (fun b hb => hj.block b (h4 b hb).2 (fun hq => hQ b hq (h4 b hb).1)), hR w w' U h2 (fun b hb => hj.block b (h5 b hb).2 (fun hq => hQ b hq (h5 b hb).1)), h3, fun b hb => ⟨(h4 b hb).1, Nat.lt_of_lt_of_le (h4 b hb).2 hj.size⟩, fun b hb => ⟨(h5 b hb).1, Nat.lt_of_lt_of_le (h5 b hb).2 hj.size⟩⟩
theorem Duo.wide (h : Duo P S R w) (hP : ∀ b, P b → P' b) : Duo P' S R w := by
  obtain ⟨h0, V, U, h1, h2, h3, h4, h5⟩ := h
  exact ⟨fun b hb => hP b (h0 b hb), V, U, h1, h2, h3, fun b hb => ⟨hP b (h4 b hb).1, (h4 b hb).2⟩, fun b hb => ⟨hP b (h5 b hb).1, (h5 b hb).2⟩⟩
/-- what was there when a block was made does not lie in it -/
theorem Duo.beside (h : Duo P S R w) (hS : Framed S) (hR : Framed R) (hg : Grow w w') (hP : ∀ b, P b → b < w.heap.size ∨ w'.heap.size ≤ b → P' b) : Duo P' S R w' := by
  obtain ⟨h0, V, U, h1, h2, h3, h4, h5⟩ := h
  exact ⟨fun b hb => hP b (h0 b (Nat.le_trans hg.size hb)) (.inr hb), V, U, hS w w' V h1 (fun b hb => hg.block b (h4 b hb).2), hR w w' U h2 (fun b hb => hg.block b (h5 b hb).2), h3, fun b hb => ⟨hP b (h4 b hb).1 (.inl (h4 b hb).2), Nat.lt_of_lt_of_le (h4 b hb).2 hg.size⟩, fun b hb => ⟨hP b (h5 b hb).1 (.inl (h5 b hb).2), Nat.lt_of_lt_of_le (h5 b hb).2 hg.size⟩⟩
theorem Duo.get1 (h : Duo P S R w) : ∃ V : Nat → Prop, S w V ∧ ∀ b, V b → P b ∧ b < w.heap.size := by
  obtain ⟨_, V, _, h1, _, _, h4, _⟩ := h; exact ⟨V, h1, h4⟩
theorem Duo.get2 (h : Duo P S R w) : ∃ V : Nat → Prop, R w V ∧ ∀ b, V b → P b ∧ b < w.heap.size := h.swap.get1
theorem Solo.call {Pr : Program} {f : FuncId} {args : Array Value} {C : Ending → Prop} (h : Solo P S w) (hc : Turns Pr f args C S S' w) : Calls Pr f args w fun e w' => C e ∧ Just P w w' ∧ Solo P S' w' := by
  obtain ⟨h0, V, h1, h4⟩ := h
  exact (hc V h1 (fun b hb => (h4 b hb).2)).mono fun e w' ⟨he, hs, hj⟩ => ⟨he, hj.imp fun k hk => (h4 k hk).1, fun b hb => h0 b (Nat.le_trans hj.size hb), Ext V w w', hs, ext_lt h4 h0 hj.size⟩
theorem Solo.grow (h : Solo P S w) (hS : Framed S) (hg : Grow w w') : Solo P S w' := by
  obtain ⟨h0, V, h1, h4⟩ := h
  exact ⟨fun b hb => h0 b (Nat.le_trans hg.size hb), V, hS w w' V h1 (fun b hb => hg.block b (h4 b hb).2), fun b hb => ⟨(h4 b hb).1, Nat.lt_of_lt_of_le (h4 b hb).2 hg.size⟩⟩
theorem Solo.with_ (h : Solo P S w) (hS : Framed S) (hg : Grow w w') {U : Nat → Prop} (hR : R w' U) (hU : ∀ b, U b → w.heap.size ≤ b ∧ b < w'.heap.size) : Duo P S R w' := by
  obtain ⟨h0, V, h1, h4⟩ := h
  refine ⟨fun b hb => h0 b (Nat.le_trans hg.size hb), V, U, hS w w' V h1 (fun b hb => hg.block b (h4 b hb).2), hR, fun b hv hu => ?_, fun b hb => ⟨(h4 b hb).1, Nat.lt_of_lt_of_le (h4 b hb).2 hg.size⟩, fun b hb => ⟨h0 b (hU b hb).1, (hU b hb).2⟩⟩
  have := (h4 b hv).2
  have := (hU b hu).1
  omega
theorem Solo.make {V : Nat → Prop} (hS : S w V) (h0 : ∀ b, w.heap.size ≤ b → P b) (hV : ∀ b, V b → P b ∧ b < w.heap.size) : Solo P S w := ⟨h0, V, hS, hV⟩
end
/-- from B on, but x -/
def Past (B x b : Nat) : Prop := B ≤ b ∧ b ≠ x
/-- two operations, one behind the other: the first turns the one object, the second the other -/
def DuoSt (P : Nat → Prop) (S0 S1 R0 R1 : Thing) (m1 m2 : Nat) : Stages where
  G := Just P
  T := fun _ => Just P
  I := fun k w => match k with
    | 0 => Duo P S0 R0 w
    | 1 => Duo P S1 R0 w
    | _ => Duo P S1 R1 w
  muts := [m1, m2]
  stage := fun j => if j = m1 then some 0 else if j = m2 then some 1 else none
theorem duoSt_ok {P : Nat → Prop} {S0 S1 R0 R1 : Thing} {m1 m2 : Nat} (h0 : Framed S0) (h1 : Framed S1) (h2 : Framed R0) (h3 : Framed R1) : (DuoSt P S0 S1 R0 R1 m1 m2).Ok := by
  refine ⟨fun _ _ _ => Just.trans, fun _ _ h => Just.of_grow h, fun _ _ _ h => h, fun k a b h hg => ?_⟩
  rcases k with _ | _ | k
  · exact Duo.grow h h0 h2 hg
  · exact Duo.grow h h1 h2 hg
  · exact Duo.grow h h1 h3 hg
/-- one operation that turns one of two objects -/
def OneSt (P : Nat → Prop) (S0 S1 R0 : Thing) (m1 : Nat) : Stages where
  G := Just P
  T := fun _ => Just P
  I := fun k w => match k with
    | 0 => Duo P S0 R0 w
    | _ => Duo P S1 R0 w
  muts := [m1]
  stage := fun j => if j = m1 then some 0 else none
theorem oneSt_ok {P : Nat → Prop} {S0 S1 R0 : Thing} {m1 : Nat} (h0 : Framed S0) (h1 : Framed S1) (h2 : Framed R0) : (OneSt P S0 S1 R0 m1).Ok := by
  refine ⟨fun _ _ _ => Just.trans, fun _ _ h => Just.of_grow h, fun _ _ _ h => h, fun k a b h hg => ?_⟩
  rcases k with _ | k
  · exact Duo.grow h h0 h2 hg
  · exact Duo.grow h h1 h2 hg
/-- cells of equal parts, one behind the other -/
theorem flat_get {α β : Type} (f : α → List β) (m : Nat) (hf : ∀ a, (f a).length = m) : ∀ (l : List α) (k j : Nat) (hk : k < l.length), j < m → (l.flatMap f)[k * m + j]? = (f l[k])[j]?
  | [], k, _, hk, _ => by simp at hk
  | a :: l, 0, j, _, hj => by
    rw [List.flatMap_cons, Nat.zero_mul, Nat.zero_add, List.getElem?_append_left (by rw [hf]; exact hj)]
    rfl
  | a :: l, k + 1, j, hk, hj => by
    rw [List.flatMap_cons, List.getElem?_append_right (by rw [hf, Nat.add_mul]; omega), hf, show (k + 1) * m + j - m = k * m + j by rw [Nat.add_mul]; omega]
    rw [flat_get f m hf l k j (by simpa using hk) hj]
    rfl
theorem flat_length {α β : Type} (f : α → List β) (m : Nat) (hf : ∀ a, (f a).length = m) : ∀ (l : List α), (l.flatMap f).length = l.length * m
  | [] => by simp
  | a :: l => by rw [List.flatMap_cons, List.length_append, hf, flat_length f m hf l, List.length_cons, Nat.add_mul]; omega
end Go.Hop
