/- What is new; objects that lie alone, or apart; one append in a region that draws its order; low bits. -/
import Derived.Test.YtidkhokecekpgaaDoorRecs
namespace Go.Hop
open Go.RowKit
/-- what is new -/
def New (w w' : World) (b : Nat) : Prop := w.heap.size ≤ b ∧ b < w'.heap.size
/-- all from a on, but block x -/
def Off (a x : Nat) (b : Nat) : Prop := a ≤ b ∧ b ≠ x
theorem own_new {w w1 : World} {t e : TypeId} {size : Nat} {v : Value} {n : Nat} {xs : List Value} (hO : Own w1 (Ext (fun b => b = w.heap.size) (w.alloc (.cells #[] t)) w1) e size v n xs) (hj : Just (fun b => b = w.heap.size) (w.alloc (.cells #[] t)) w1) : Own w1 (New w w1) e size v n xs ∧ Grow w w1 := by
  have hs : w.heap.size < w1.heap.size := by have := hj.size; simp at this; omega
  refine ⟨hO.mono (fun b hb => ?_), ((Below.refl w.heap.size w).alloc (Nat.le_refl _) (.cells #[] t)).trans (hj.below (B := w.heap.size) (fun b hb => by rw [hb]; exact Nat.le_refl _) (by simp))⟩
  rcases hb with rfl | ⟨h1, h2⟩
  · exact ⟨Nat.le_refl _, hs⟩
  · simp at h1; exact ⟨by omega, h2⟩
theorem made_own (w : World) (e : TypeId) (size : Nat) : Own (w.alloc (.cells #[] e)) (fun b => b = w.heap.size) e size (.slice (some ⟨w.heap.size, 0, none⟩) 0 0) 0 [] :=
  ⟨by simp, .inr ⟨w.heap.size, 0, #[], rfl, rfl, heap_alloc_new w _, Nat.le_refl _, Nat.zero_le _, .inl (by simp), by simp⟩⟩
section
variable {P P' Q : Nat → Prop} {S S' R : Thing} {w w' : World}
theorem solo_look {Pr : Program} {f : FuncId} {args : Array Value} {Q : Ending → World → Prop} (h : Solo P S w) (hc : ∀ V : Nat → Prop, S w V → Calls Pr f args w Q) : Calls Pr f args w Q := by
  obtain ⟨_, V, h1, _⟩ := h
  exact hc V h1
theorem Solo.beside (h : Solo P S w) (hS : Framed S) (hg : Grow w w') (hP : ∀ b, P b → b < w.heap.size ∨ w'.heap.size ≤ b → P' b) : Solo P' S w' := by
  obtain ⟨h0, V, h1, h2⟩ := h
  exact ⟨fun b hb => hP b (h0 b (Nat.le_trans hg.size hb)) (.inr hb), V, hS w w' V h1 (fun b hb => hg.block b (h2 b hb).2), fun b hb => ⟨hP b (h2 b hb).1 (.inl (h2 b hb).2), Nat.lt_of_lt_of_le (h2 b hb).2 hg.size⟩⟩
theorem Solo.wide (h : Solo P S w) (hP : ∀ b, P b → P' b) : Solo P' S w := by
  obtain ⟨h0, V, h1, h2⟩ := h
  exact ⟨fun b hb => hP b (h0 b hb), V, h1, fun b hb => ⟨hP b (h2 b hb).1, (h2 b hb).2⟩⟩
theorem Solo.past (h : Solo P S w) (hS : Framed S) (hj : Just Q w w') (hQ : ∀ b, Q b → ¬ P b) : Solo P S w' := by
  obtain ⟨h0, V, h1, h2⟩ := h
  exact ⟨fun b hb => h0 b (Nat.le_trans hj.size hb), V, hS w w' V h1 (fun b hb => hj.block b (h2 b hb).2 (fun hq => hQ b hq (h2 b hb).1)), fun b hb => ⟨(h2 b hb).1, Nat.lt_of_lt_of_le (h2 b hb).2 hj.size⟩⟩
/-- a call of one of two whose result is not known ahead -/
theorem Duo.leftE {Pr : Program} {f : FuncId} {args : Array Value} {ι : Type} {C : ι → Ending → Prop} {S' : ι → Thing} (h : Duo P S R w) (hR : Framed R) (hc : ∀ V : Nat → Prop, S w V → (∀ b, V b → b < w.heap.size) → Calls Pr f args w fun e w' => ∃ i, C i e ∧ S' i w' (Ext V w w') ∧ Just V w w') :
    Calls Pr f args w fun e w' => ∃ i, C i e ∧ Just P w w' ∧ Duo P (S' i) R w' := by
  obtain ⟨h0, V, U, h1, h2, h3, h4, h5⟩ := h
  refine (hc V h1 (fun b hb => (h4 b hb).2)).mono fun e w' ⟨i, he, hs, hj⟩ => ⟨i, he, hj.imp fun k hk => (h4 k hk).1, fun b hb => h0 b (Nat.le_trans hj.size hb), Ext V w w', U, hs, hR w w' U h2 (fun b hb => hj.block b (h5 b hb).2 (fun hv => h3 b hv hb)), fun b hb hu => ?_, ext_lt h4 h0 hj.size, fun b hb => ⟨(h5 b hb).1, Nat.lt_of_lt_of_le (h5 b hb).2 hj.size⟩⟩
  rcases hb with hb | ⟨hb, _⟩
  · exact h3 b hb hu
  · have := (h5 b hu).2; omega
theorem Solo.callE {Pr : Program} {f : FuncId} {args : Array Value} {ι : Type} {C : ι → Ending → Prop} {S' : ι → Thing} (h : Solo P S w) (hc : ∀ V : Nat → Prop, S w V → (∀ b, V b → b < w.heap.size) → Calls Pr f args w fun e w' => ∃ i, C i e ∧ S' i w' (Ext V w w') ∧ Just V w w') :
    Calls Pr f args w fun e w' => ∃ i, C i e ∧ Just P w w' ∧ Solo P (S' i) w' := by
  obtain ⟨h0, V, h1, h2⟩ := h
  exact (hc V h1 (fun b hb => (h2 b hb).2)).mono fun e w' ⟨i, he, hs, hj⟩ => ⟨i, he, hj.imp fun k hk => (h2 k hk).1, fun b hb => h0 b (Nat.le_trans hj.size hb), Ext V w w', hs, ext_lt h2 h0 hj.size⟩
theorem Solo.turn (h : Solo P S w) (hS : ∀ V, S w V → S' w V) : Solo P S' w := by
  obtain ⟨h0, V, h1, h2⟩ := h
  exact ⟨h0, V, hS V h1, h2⟩
theorem Duo.turn (h : Duo P S R w) (hS : ∀ V, S w V → S' w V) : Duo P S' R w := by
  obtain ⟨h0, V, U, h1, h2, h3⟩ := h
  exact ⟨h0, V, U, hS V h1, h2, h3⟩
end
/-- one append to the row in R, in a region that draws its order -/
def AppRow (R : Nat → Prop) (I0 : World → Prop) (m1 : Nat) (st : List (Nat × Nat)) : Stages where
  G := Just R
  T := fun _ => Just R
  I := fun k w => match k with
    | 0 => I0 w
    | _ => True
  muts := [m1]
  stage := fun j => if j = m1 then some 0 else st.lookup j
theorem appRow_ok {R : Nat → Prop} {I0 : World → Prop} {m1 : Nat} {st : List (Nat × Nat)} (hI : ∀ a b, I0 a → Grow a b → I0 b) : (AppRow R I0 m1 st).Ok := by
  refine ⟨fun _ _ _ => Just.trans, fun _ _ h => Just.of_grow h, fun _ _ _ h => h, fun k a b h hg => ?_⟩
  rcases k with _ | k
  · exact hI a b h hg
  · exact trivial
/-- what holds of new memory lasts while the old is written -/
def PastB (B : Nat) (φ : Value → World → Prop) : Prop := ∀ u w w', φ u w → Just (fun b => b < B) w w' → φ u w'
theorem lasts_row {R : Nat → Prop} {I0 : World → Prop} {m1 : Nat} {st : List (Nat × Nat)} {B : Nat} (hRB : ∀ x, R x → x < B) {φ : Value → World → Prop} (h : PastB B φ) : Lasts (AppRow R I0 m1 st) (fun _ u w => φ u w) := fun _ u w w' hu =>
  ⟨fun hg => h u w w' hu (Just.of_grow hg), fun _ ht => h u w w' hu (Just.imp ht hRB)⟩
theorem lasts_row_once {R : Nat → Prop} {I0 : World → Prop} {m1 : Nat} {st : List (Nat × Nat)} {φ : Value → World → Prop} (h : Lasting φ) : Lasts (AppRow R I0 m1 st) (Once φ) := fun k u w w' hu => by
  rcases k with _ | k
  · exact hu.elim
  · exact ⟨fun hg => h u w w' hu hg, fun hk => by simp [AppRow] at hk⟩
theorem and_low (z M : Int) (k : Nat) (hk : k ≤ 62) (hM : (BitVec.ofInt 64 M).toNat = 2 ^ k - 1) : bits .and .i64 z M = z % (2 ^ k : Nat) := by
  have key : (BitVec.ofInt 64 z &&& BitVec.ofInt 64 M).toNat = (z % ((2 ^ 64 : Nat) : Int)).toNat % 2 ^ k := by
    rw [BitVec.toNat_and, BitVec.toNat_ofInt, hM, Nat.and_two_pow_sub_one_eq_mod]
  have hp : 2 ^ k ∣ 2 ^ 64 := Nat.pow_dvd_pow 2 (by omega)
  have hpos : 0 < 2 ^ k := Nat.pow_pos (by omega)
  have hle : 2 ^ k ≤ 2 ^ 62 := Nat.pow_le_pow_right (by omega) hk
  show IntKind.i64.wrap ((BitVec.ofInt 64 z &&& BitVec.ofInt 64 M).toNat : Nat) = z % (2 ^ k : Nat)
  rw [key]
  have h1 : (((z % ((2 ^ 64 : Nat) : Int)).toNat % 2 ^ k : Nat) : Int) = z % ((2 ^ k : Nat) : Int) := by
    rw [Int.natCast_emod, Int.toNat_of_nonneg (Int.emod_nonneg _ (by decide))]
    exact Int.emod_emod_of_dvd z (Int.natCast_dvd_natCast.2 hp)
  rw [h1, IntKind.wrap_i64]
  have h2 := Int.emod_nonneg z (b := ((2 ^ k : Nat) : Int)) (by omega)
  have h3 := Int.emod_lt_of_pos z (b := ((2 ^ k : Nat) : Int)) (by omega)
  omega

/-! ### a record with memory of its own is laid last in a row, in a region that draws its order -/
section
variable {α : Type} (e : TypeId) (size : Nat) (cells : α → List Value) (good : World → (Nat → Prop) → α → Prop)
/-- the record's value -/
def NewG (B : Nat) (X : α → Prop) (u : Value) (w : World) : Prop := ∃ (b : α) (H : Nat), X b ∧ u = .agg (cells b).toArray ∧ good w (fun x => B ≤ x ∧ x < H) b ∧ H ≤ w.heap.size
/-- a row of it alone -/
def RowG (B : Nat) (X : α → Prop) (u : Value) (w : World) : Prop := ∃ (b : α) (H : Nat) (A : Option Addr), X b ∧ u = .slice A 1 1 ∧ In w (fun x => B ≤ x) size A 1 (cells b) ∧ good w (fun x => B ≤ x ∧ x < H) b ∧ H ≤ w.heap.size
/-- the row with one more -/
def FinG (R : Nat → Prop) (B : Nat) (q : List α) (X : α → Prop) (u : Value) (w : World) : Prop :=
  ∃ (b : α) (R' D' : Nat → Prop), X b ∧ Row w R' e size u (q.length + 1) ((q ++ [b]).flatMap cells) ∧ good w D' b ∧ (∀ x, R' x → (R x ∨ B ≤ x) ∧ x < w.heap.size ∧ ¬ D' x) ∧ (∀ x, D' x → B ≤ x ∧ x < w.heap.size)
variable {e size cells good}
variable {R : Nat → Prop} {B : Nat} {q : List α} {X : α → Prop}
def GoodJust (good : World → (Nat → Prop) → α → Prop) : Prop := ∀ (w w' : World) (D U : Nat → Prop) (a : α), good w D a → Just U w w' → (∀ b, D b → ¬ U b) → good w' D a
theorem finG_just (hG : GoodJust good) {U : Nat → Prop} {u : Value} {w w' : World} (h : FinG e size cells good R B q X u w) (hj : Just U w w') (hd : ∀ x, x < w.heap.size → (R x ∨ B ≤ x) → ¬ U x) : FinG e size cells good R B q X u w' := by
  obtain ⟨b, R', D', h1, h3, h4, h5, h6⟩ := h
  exact ⟨b, R', D', h1, h3.just hj fun x hx => hd x (h5 x hx).2.1 (h5 x hx).1, hG _ _ _ _ _ h4 hj fun x hx => hd x (h6 x hx).2 (.inr (h6 x hx).1), fun x hx => ⟨(h5 x hx).1, Nat.lt_of_lt_of_le (h5 x hx).2.1 hj.size, (h5 x hx).2.2⟩, fun x hx => ⟨(h6 x hx).1, Nat.lt_of_lt_of_le (h6 x hx).2 hj.size⟩⟩
theorem finG_lasting (hG : GoodJust good) : Lasting (FinG e size cells good R B q X) := fun _ _ _ h hg => finG_just hG h (U := fun _ => False) (Just.of_grow hg) fun _ _ _ h => h
theorem newG_past (hG : GoodJust good) : PastB B (NewG cells good B X) := fun u w w' hu hj => by
  obtain ⟨b, H, h1, h2, h3, h4⟩ := hu
  exact ⟨b, H, h1, h2, hG _ _ _ _ _ h3 hj fun x hx h => Nat.lt_irrefl _ (Nat.lt_of_lt_of_le h hx.1), Nat.le_trans h4 hj.size⟩
theorem rowG_past (hG : GoodJust good) : PastB B (RowG size cells good B X) := fun u w w' hu hj => by
  obtain ⟨b, H, A, h1, h2, h3, h4, h5⟩ := hu
  exact ⟨b, H, A, h1, h2, h3.just hj fun x hx h => Nat.lt_irrefl _ (Nat.lt_of_lt_of_le h hx), hG _ _ _ _ _ h4 hj fun x hx h => Nat.lt_irrefl _ (Nat.lt_of_lt_of_le h hx.1), Nat.le_trans h5 hj.size⟩
theorem rowG_made {P : Program} (hG : GoodJust good) {w : World} {u : Value} {ρ : Operand → Value} {o : Oper} (hl : ∀ b, (cells b).length = size) (h : NewG cells good B X u w) (hs : B ≤ w.heap.size)
    (hrun : ∀ b : α, u = .agg (cells b).toArray → (execOp ρ o).run P w = .ok (.value (.slice (some ⟨w.heap.size, 0, none⟩) 1 1)) (w.alloc (.cells (cells b).toArray e))) :
    flowUpon P (fun v w' => Grow w w' ∧ RowG size cells good B X v w') ((execOp ρ o).run P w) := by
  obtain ⟨b, H, e1, e2, hb, hH⟩ := h
  have hg : Grow w (w.alloc (.cells (cells b).toArray e)) := (Below.refl _ w).alloc (Nat.le_refl _) _
  refine flowUpon_value (hrun b e2) ⟨hg, b, H, some ⟨w.heap.size, 0, none⟩, e1, rfl, ?_, hG _ _ _ _ _ hb (Just.of_grow (V := fun _ => False) hg) (fun _ _ h => h), Nat.le_trans hH hg.size⟩
  obtain ⟨h3, h4⟩ := reads_laid w (cells b).toArray e (0, 0) (n := 1) (size := size) (by simp [hl]) _ rfl
  exact ⟨by simp [hl], fun hn => ⟨_, rfl, hs, by simp, by obtain ⟨ad, e, _, hc⟩ := h4 hn; injection e with e; rw [e]; simpa using hc⟩⟩
theorem finG_append {P : Program} {t : TypeId} {bytes : Nat} {z : Value} (E : Elem P t e size bytes z) (hG : GoodJust good) (hone : ∀ b, ∀ u ∈ cells b, u.oneCell' = true) {w : World} {v u : Value} {ρ : Operand → Value} {o : Oper} {x y : Operand} (hRB : ∀ x, R x → x < B)
    (h : Row w R e size v q.length (q.flatMap cells)) (hu : RowG size cells good B X u w) (hBw : B ≤ w.heap.size) (hbytes : (q.length + 1) * bytes ≤ 140737488355328)
    (h1 : ρ x = v) (h2 : ρ y = u) (ho : o.op = .call { callee := .builtin .append, args := #[x, y], argTypes := #[t, t] }) :
    flowUpon P (fun v' w' => Just R w w' ∧ FinG e size cells good R B q X v' w') ((execOp ρ o).run P w) := by
  obtain ⟨b, H, A, e1, rfl, hI, hb, hH⟩ := hu
  refine flow_append_row E ho h1 h h2 hI.reads (hone b) hbytes fun v' w' hR hj => ⟨hj, b, Ext R w w', fun x => B ≤ x ∧ x < H, e1, ?_, hG _ _ _ _ _ hb hj fun x hx hr => ?_, fun x hx => ?_, fun x hx => ⟨hx.1, Nat.lt_of_lt_of_le hx.2 (Nat.le_trans hH hj.size)⟩⟩
  · rw [List.flatMap_append, List.flatMap_cons, List.flatMap_nil, List.append_nil]; exact hR
  · exact Nat.lt_irrefl _ (Nat.lt_of_lt_of_le (hRB x hr) hx.1)
  · rcases hx with hx | hx
    · have := hRB x hx
      exact ⟨.inl hx, by have := hj.size; omega, fun hd => by have h3 : B ≤ x := hd.1; omega⟩
    · exact ⟨.inr (by have := hx.1; omega), hx.2, fun hd => by have := hx.1; have h3 : x < H := hd.2; omega⟩
end
/-! ### append(append(nil, a..), b..), where b.. is made in the region too: the first append only makes memory -/
def MonoSt (B m1 : Nat) (st : List (Nat × Nat)) : Stages where
  G := Just (FromB B)
  T := fun _ => Just (FromB B)
  I := fun _ _ => True
  muts := [m1]
  stage := fun j => if j = m1 then some 0 else st.lookup j
theorem monoSt_ok (B m1 : Nat) (st : List (Nat × Nat)) : (MonoSt B m1 st).Ok := ⟨fun _ _ _ => Just.trans, fun _ _ h => Just.of_grow h, fun _ _ _ h => h, fun _ _ _ _ _ => trivial⟩
/-- an empty slice of a block of its own, made since B -/
def EmptyF (B : Nat) (e : TypeId) (size : Nat) (u : Value) (w : World) : Prop := (∃ g, u = .slice (some ⟨g, 0, none⟩) 0 0) ∧ OwnF B e size 0 [] u w
theorem emptyF_lasting (B : Nat) (e : TypeId) (size : Nat) : Lasting (EmptyF B e size) := fun u w w' h hg => ⟨h.1, ownF_lasting B e size 0 [] u w w' h.2 hg⟩
/-- a row that reads so -/
def ReadF (size n : Nat) (xs : List Value) (u : Value) (w : World) : Prop := ∃ (A : Option Addr) (c : Nat), u = .slice A n c ∧ Reads w w.heap.size size A n xs
theorem readF_lasting (size n : Nat) (xs : List Value) : Lasting (ReadF size n xs) := fun _ _ _ ⟨A, c, e, h⟩ hg => ⟨A, c, e, (Reads.below h hg).more hg.size⟩
section
variable {P : Program} {t e : TypeId} {size bytes : Nat} {z : Value}
theorem empty_made {w : World} {B : Nat} {o : Oper} {ρ : Operand → Value} (E : Elem P t e size bytes z) (hB : B ≤ w.heap.size) (ho : o.op = .buildSlice t 0 #[]) : flowUpon P (fun u w' => Grow w w' ∧ EmptyF B e size u w') ((execOp ρ o).run P w) := by
  obtain ⟨dst, op, ty, pos, after, guard⟩ := o
  simp only at ho
  subst ho
  obtain ⟨i, hi, hz', hs, hb⟩ := E.info
  have hu := E.und
  refine flowUpon_value (u := .slice (some ⟨w.heap.size, 0, none⟩) 0 0) (w := w.alloc (.cells #[] e)) ?_ ⟨(Below.refl _ w).alloc (Nat.le_refl _) _, ⟨_, rfl⟩, by simp, .inr ⟨w.heap.size, 0, #[], rfl, ⟨hB, by simp⟩, heap_alloc_new w _, Nat.le_refl _, Nat.zero_le _, .inl (by simp), by simp⟩⟩
  have hd : (underlying t).run P w = .ok (.slice e) w := run_underlying hu w
  have hsz : (sizeOf e).run P w = .ok size w := by simp [sizeOf, typeInfo, hi, hs]
  go_simp
theorem empty_app (E : Elem P t e size bytes z) {w : World} {B : Nat} {o : Oper} {ρ : Operand → Value} {x y : Operand}
    {u : Value} (hu : EmptyF B e size u w) (hx : ρ x = u) {A : Option Addr} {m c Bd : Nat} {news : List Value} (hy : ρ y = .slice A m c) (hr : Reads w Bd size A m news) (h1 : ∀ u ∈ news, u.oneCell' = true) (hbytes : m * bytes ≤ 140737488355328) (hB : B ≤ w.heap.size) (ho : o.op = .call { callee := .builtin .append, args := #[x, y], argTypes := #[t, t] }) :
    flowUpon P (fun v w' => Grow w w' ∧ OwnF B e size m news v w') ((execOp ρ o).run P w) := by
  obtain ⟨⟨g, rfl⟩, hO⟩ := hu
  have main : ∃ v' w', (Builtin.append_ #[t, t] o.type #[.slice (some ⟨g, 0, none⟩) 0 0, .slice A m c]).run P w = .ok v' w' ∧ OwnF B e size m news v' w' ∧ Grow w w' := by
    obtain ⟨i, hi, hz, hs, hb⟩ := E.info
    by_cases hm0 : m = 0
    · have hsrc := hr.src (c := c) E hm0
      subst hm0
      obtain rfl : news = [] := List.eq_nil_of_length_eq_zero (by simpa using hr.1)
      have := run_append_nothing (P := P) w t t o.type e i E.und hi (some ⟨g, 0, none⟩) 0 0 (Nat.le_refl _) (.slice A 0 c) (by rw [hs]; exact hsrc)
      exact ⟨_, w, this, hO, Grow.refl w⟩
    · obtain ⟨ad, rfl, _, hc⟩ := hr.2 (by omega)
      have h63 : 0 + m ≤ maxLen := by
        have := Nat.le_mul_of_pos_right m E.bpos
        simp only [maxLen]; omega
      obtain ⟨v', w', hrun, r1, r2⟩ := run_append_arg_grows (P := P) w t o.type e i z size bytes E.und hi hz hs hb E.zs E.pos ⟨g, 0, none⟩ 0 0 [] (by simp) (by simp) ad m c news hr.1 hc (by omega) h63 (by simpa using hbytes)
      refine ⟨v', w', hrun, ?_, ⟨r2.os, r2.tape, r2.output, r2.size, fun k hk => r2.block k hk (by simp)⟩⟩
      have := Own.of_row (V := fun b => B ≤ b ∧ b < w'.heap.size) r1 fun g' hg' => by
        have h1 := r1.lt g' hg'
        rcases r1.2 with ⟨hv', _⟩ | ⟨g2, _, _, hv', hb', _⟩
        · rw [hv'] at hg'; cases hg'
        · rw [hv'] at hg'; injection hg' with hg'
          subst hg'
          exact ⟨Nat.le_trans hB hb', h1.2⟩
      simpa [OwnF] using this
  obtain ⟨v', w', hrun, a, b⟩ := main
  refine flowUpon_value (u := v') (w := w') ?_ ⟨b, a⟩
  unfold execOp
  simp only [ho, resolve, invoke, builtin, Sem.run_bind, Sem.run_pure, Result.andThen_ok, List.map_toArray, List.map_cons, List.map_nil, hx, hy, hrun]
end
end Go.Hop
