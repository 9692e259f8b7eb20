/- Maps from texts to whole numbers, as partial functions: look (with ok, and without), put; how many there are; ranging over one. -/
import Derived.Test.YtnijeemldhmkjaaOwn
import Derived.Maps.OwnSet
import Derived.Maps.RangeWalk
import Derived.StringKeys
namespace Go.Hop
open Go.RowKit Go.Maps Go.WideMaps
/-- the numbers of a map's types: the map's, its key's, its element's -/
structure SMapTy (P : Program) (t k e : TypeId) (qe : IntKind) : Prop where
  und : P.underlying t = some (.map k e)
  key : P.underlying k = some .string
  elem : P.underlying e = some (.int qe)
  zero : ∀ w, (zeroValue e).run P w = .ok (.int qe 0) w
/-- how a text stands in a datum -/
abbrev lt_ (l : ByteArray) : Lit := .string l.data.toList
theorem lt_inj {a b : ByteArray} (h : lt_ a = lt_ b) : a = b := by
  injection h with h
  exact ByteArray.ext (Array.toList_inj.1 h)
/-- the datum D holds f -/
def Holds (qe : IntKind) (D : DataW Unit) (f : ByteArray → Option Int) : Prop := ∀ l : ByteArray, l.size ≤ maxLen → has D (lt_ l) = (f l).isSome ∧ D.atKey (lt_ l) (.lit (.int qe 0)) = .lit (.int qe ((f l).getD 0))
/-- block b is a map of n keys that holds f -/
def SMap (P : Program) (k e : TypeId) (qe : IntKind) (w : World) (b n : Nat) (f : ByteArray → Option Int) : Prop :=
  ∃ D : DataW Unit, w.ownsMap P k (plainElem P e) b n D ∧ Maps.size D = n ∧ Holds qe D f
section
variable {P : Program} {t k e : TypeId} {qe : IntKind} {w w' : World} {b n : Nat} {f : ByteArray → Option Int}
theorem SMap.made (w : World) : SMap P k e qe (w.alloc (.map #[] 0)) w.heap.size 0 (fun _ => none) :=
  ⟨.map [], World.ownsMap_made w P k _, rfl, fun _ _ => ⟨rfl, rfl⟩⟩
theorem SMap.lt (h : SMap P k e qe w b n f) : b < w.heap.size := by
  obtain ⟨D, h, _⟩ := h
  exact h.lt
theorem SMap.keep (h : SMap P k e qe w b n f) (hk : w'.heap[b]? = w.heap[b]?) : SMap P k e qe w' b n f := by
  obtain ⟨D, ⟨es, clock, hb, r⟩, hf⟩ := h
  exact ⟨D, ⟨es, clock, hk.trans hb, r⟩, hf⟩
theorem SMap.grow (h : SMap P k e qe w b n f) (hg : Grow w w') : SMap P k e qe w' b n f := h.keep (hg.block b h.lt)
theorem SMap.just {V : Nat → Prop} (h : SMap P k e qe w b n f) (hj : Just V w w') (hv : ¬ V b) : SMap P k e qe w' b n f := h.keep (hj.block b h.lt hv)
theorem SMap.imp {f' : ByteArray → Option Int} (h : SMap P k e qe w b n f) (hf : ∀ x : ByteArray, x.size ≤ maxLen → f' x = f x) : SMap P k e qe w b n f' := by
  obtain ⟨D, h1, h2, h3⟩ := h
  exact ⟨D, h1, h2, fun x hx => by rw [hf x hx]; exact h3 x hx⟩
theorem sowns_sized {D : DataW Unit} {R : Value → Option (DataW Unit × List MemPlace)} (h : w.ownsMap P k R b n D) : w.ownsMap P k R b (Maps.size D) D := by
  obtain ⟨es, clock, hb, F, hs, rfl⟩ := h
  exact ⟨es, clock, hb, F, by simp [Maps.size, length_sorted], rfl⟩
theorem tx_key (T : SMapTy P t k e qe) {l : ByteArray} (hl : l.size ≤ maxLen) : keyOf P k (.string l) = some (lt_ l) := keyOf_string_mk T.key hl
theorem SMap.look (T : SMapTy P t k e qe) (h : SMap P k e qe w b n f) (l : ByteArray) (hl : l.size ≤ maxLen) : (Instr.lookup t (.map (some b)) (.string l) true).run P w = .ok (.tuple #[.int qe ((f l).getD 0), .bool (f l).isSome]) w := by
  obtain ⟨D, ho, _, hf⟩ := h
  have hw0 : (Lit.int qe 0).wf = true := by cases qe <;> decide
  obtain ⟨v, ps, hrun, hR⟩ := ho.look_ok (string_keyed T.key) T.und (T.zero w) (plainElem_int T.elem hw0) (tx_key T hl)
  rw [(hf l hl).1, (hf l hl).2] at *
  obtain ⟨a, rfl, hz, _⟩ := plainElem_int_inv T.elem hR
  injection hz with hz
  injection hz with hz
  injection hz with _ hz
  rw [hrun, ← hz]
theorem SMap.wf (T : SMapTy P t k e qe) (h : SMap P k e qe w b n f) {l : ByteArray} (hl : l.size ≤ maxLen) : (Lit.int qe ((f l).getD 0)).wf = true := by
  obtain ⟨D, ho, _, hf⟩ := h
  have hw0 : (Lit.int qe 0).wf = true := by cases qe <;> decide
  obtain ⟨v, ps, hrun, hR⟩ := ho.look_ok (string_keyed T.key) T.und (T.zero w) (plainElem_int T.elem hw0) (tx_key T hl)
  rw [(hf l hl).2] at hR
  obtain ⟨a, rfl, hz, hw⟩ := plainElem_int_inv T.elem hR
  injection hz with hz
  injection hz with hz
  injection hz with _ hz
  rw [hz]; exact hw
theorem SMap.look1 (T : SMapTy P t k e qe) (h : SMap P k e qe w b n f) (l : ByteArray) (hl : l.size ≤ maxLen) : (Instr.lookup t (.map (some b)) (.string l) false).run P w = .ok (.int qe ((f l).getD 0)) w := by
  obtain ⟨D, ho, _, hf⟩ := h
  obtain ⟨c, hrun, hat, _⟩ := ho.lookup_int (string_keyed T.key) T.und T.elem (T.zero w) (tx_key T hl)
  rw [(hf l hl).2] at hat
  injection hat with hz
  injection hz with _ hz
  rw [hrun, hz]
theorem SMap.put (T : SMapTy P t k e qe) (h : SMap P k e qe w b n f) (l : ByteArray) (v : Int) (hl : l.size ≤ maxLen) (hv : (Lit.int qe v).wf = true) (hn : n < maxLen) :
    ∃ w', (Instr.mapUpdate t (.map (some b)) (.string l) (.int qe v)).run P w = .ok () w' ∧ SMap P k e qe w' b (if (f l).isSome then n else n + 1) (fun y => if y = l then some v else f y) ∧ Just (fun c => c = b) w w' := by
  obtain ⟨D, ho, hs, hf⟩ := h
  obtain ⟨w', hrun, h2, h3⟩ := ho.update (string_keyed T.key) T.und hn (tx_key T hl) (plainElem_int T.elem hv)
  have hsz := size_put (ho.tidy (string_keyed T.key)) (k := lt_ l) (.lit (.int qe v))
  rw [(hf l hl).1, hs] at hsz
  have h2 := sowns_sized h2
  rw [hsz] at h2
  refine ⟨w', hrun, ⟨_, h2, hsz, fun y hy => ?_⟩, ⟨h3.os, h3.tape, h3.output, h3.size, fun i hi hb => h3.block i hi (fun e => hb (by injection e))⟩⟩
  dsimp only
  by_cases hyx : y = l
  · subst hyx
    rw [if_pos rfl]
    exact ⟨has_put_same ho.isMap (by exact trivial) _, atKey_put_same ho.isMap (by exact trivial) _ _⟩
  · rw [if_neg hyx, has_put_other (fun e => hyx (lt_inj e)), atKey_put_other (fun e => hyx (lt_inj e))]
    exact hf y hy
theorem SMap.len (h : SMap P k e qe w b n f) (T : SMapTy P t k e qe) (ty : TypeId) : (Builtin.len_ #[t] ty #[.map (some b)]).run P w = .ok (.int .i64 (n : Int)) w := by
  obtain ⟨D, ho, hs, _⟩ := h
  rw [ho.len T.und ty, hs]
/-- block r goes over block b, a map of n keys that holds f; left: which are still to come; cnt: how many -/
def SRange (P : Program) (k e : TypeId) (qe : IntKind) (w : World) (b r n : Nat) (f : ByteArray → Option Int) (left : ByteArray → Bool) (cnt : Nat) : Prop :=
  ∃ (D : DataW Unit) (lf : Lit → Bool), w.ranges P k (plainElem P e) b r n D lf cnt ∧ Maps.size D = n ∧ Holds qe D f ∧ ∀ l : ByteArray, lf (lt_ l) = left l
theorem SRange.smap {r cnt : Nat} {left : ByteArray → Bool} (h : SRange P k e qe w b r n f left cnt) : SMap P k e qe w b n f := by
  obtain ⟨D, lf, h1, h2, h3, _⟩ := h
  exact ⟨D, h1.owns, h2, h3⟩
theorem SRange.keep {r cnt : Nat} {left : ByteArray → Bool} (h : SRange P k e qe w b r n f left cnt) {row : Option Nat} (hg : w.grownBy w' row) (hb : some b ≠ row) (hr : some r ≠ row) : SRange P k e qe w' b r n f left cnt := by
  obtain ⟨D, lf, h1, h2⟩ := h
  exact ⟨D, lf, h1.kept hg hb hr, h2⟩
theorem SRange.lt {r cnt : Nat} {left : ByteArray → Bool} (h : SRange P k e qe w b r n f left cnt) : r < w.heap.size := by
  obtain ⟨D, lf, h1, _⟩ := h
  exact h1.lt
theorem SRange.ne {r cnt : Nat} {left : ByteArray → Bool} (h : SRange P k e qe w b r n f left cnt) : r ≠ b := by
  obtain ⟨D, lf, h1, _⟩ := h
  exact h1.ne
theorem SRange.left_eq {r cnt : Nat} {left : ByteArray → Bool} (h : SRange P k e qe w b r n f left cnt) : w.rangeLeft b r = cnt := by
  obtain ⟨D, lf, h1, _⟩ := h
  exact h1.left_eq
theorem SRange.just {V : Nat → Prop} {r cnt : Nat} {left : ByteArray → Bool} (h : SRange P k e qe w b r n f left cnt) (hj : Just V w w') (hb : ¬ V b) (hr : ¬ V r) : SRange P k e qe w' b r n f left cnt := by
  obtain ⟨D, lf, h1, h2, h3, h4⟩ := h
  have hbl := h1.owns.lt
  have hrl := h1.lt
  refine ⟨D, lf, ?_, h2, h3, h4⟩
  have eb := hj.block b hbl hb
  have er := hj.block r hrl hr
  obtain ⟨es, clock, since, seen, c0, g1, g2, g3, g4, g5, g6⟩ := h1
  exact ⟨es, clock, since, seen, c0, eb.trans g1, g2, g3, g4, er.trans g5, g6⟩
theorem SRange.grow {r cnt : Nat} {left : ByteArray → Bool} (h : SRange P k e qe w b r n f left cnt) (hg : Grow w w') : SRange P k e qe w' b r n f left cnt := h.just (V := fun _ => False) (Just.of_grow hg) (fun h => h) (fun h => h)
theorem SMap.range (T : SMapTy P t k e qe) (h : SMap P k e qe w b n f) :
    ∃ w', (Instr.range t (.map (some b))).run P w = .ok (.pointer (some ⟨w.heap.size, 0, none⟩)) w' ∧ (∃ left, SRange P k e qe w' b w.heap.size n f left n ∧ ∀ l : ByteArray, l.size ≤ maxLen → left l = (f l).isSome) ∧ Grow w w' ∧ w'.heap.size = w.heap.size + 1 := by
  obtain ⟨D, ho, hs, hf⟩ := h
  obtain ⟨w', hrun, hr, hg, hsz⟩ := ho.range (string_keyed T.key) T.und
  rw [hs] at hr
  exact ⟨w', hrun, ⟨fun l => has D (lt_ l), ⟨D, _, hr, hs, hf, fun _ => rfl⟩, fun l hl => (hf l hl).1⟩, ⟨hg.os, hg.tape, hg.output, hg.size, fun i hi => hg.block i hi (by simp)⟩, hsz⟩
/-- the step: nothing is left, or some entry comes out -/
theorem SRange.next (T : SMapTy P t k e qe) {r cnt : Nat} {left : ByteArray → Bool} (h : SRange P k e qe w b r n f left cnt) (ty : TypeId) :
    (cnt = 0 ∧ (∀ l, left l = false) ∧ (Instr.next (.pointer (some ⟨r, 0, none⟩)) false ty).run P w = .ok (.tuple #[.bool false]) w) ∨
    ∃ (l : ByteArray) (v : Int) (w' : World) (cnt' : Nat), l.size ≤ maxLen ∧ left l = true ∧ f l = some v ∧ (Lit.int qe v).wf = true ∧ (Instr.next (.pointer (some ⟨r, 0, none⟩)) false ty).run P w = .ok (.tuple #[.bool true, Value.string l, .int qe v]) w' ∧
      SRange P k e qe w' b r n f (fun z => left z && decide (z ≠ l)) cnt' ∧ cnt' < cnt ∧ Just (fun c => c = r) w w' ∧ (Instr.entry (.pointer (some ⟨r, 0, none⟩))).run P w' = .ok (.tuple #[Value.string l, .int qe v]) w' := by
  obtain ⟨D, lf, h1, h2, h3, h4⟩ := h
  rcases h1.next (string_keyed T.key) ty with ⟨h0, hl, hrun⟩ | ⟨key, v, kl, y, w', cnt', hkey, hlk, hv, hat, hrun, hrg, hlt, hgr, hsz, hen⟩
  · exact .inl ⟨h0, fun l => by rw [← h4]; exact hl _, hrun⟩
  · obtain ⟨s, rfl, rfl, hsl⟩ := string_of_keyOf T.key hkey
    obtain ⟨c, rfl, hz, hw⟩ := plainElem_int_inv T.elem hv
    have hb := (h3 _ hsl).1
    rw [has_true_of_atKey hat] at hb
    have hget := (h3 _ hsl).2
    rw [hat] at hget
    obtain ⟨v0, hv0⟩ := Option.isSome_iff_exists.1 hb.symm
    rw [hv0, hz] at hget
    injection hget with hget
    injection hget with _ hget
    simp only [Option.getD_some] at hget
    refine .inr ⟨s, c, w', cnt', hsl, by rw [← h4]; exact hlk, by rw [hv0, hget], hw, hrun, ⟨D, _, hrg, h2, h3, fun z => ?_⟩, hlt, ⟨hgr.os, hgr.tape, hgr.output, hgr.size, fun i hi hn => hgr.block i hi (fun e => hn (by injection e))⟩, hen⟩
    show (lf (lt_ z) && !(lt_ z).sameKey (lt_ s)) = (left z && decide (z ≠ s))
    rw [h4]
    congr 1
    by_cases hz : z = s
    · subst hz
      rw [WideAt.sameKey_self (by exact trivial)]
      simp
    · have : (lt_ z).sameKey (lt_ s) = false := sameKey_ne (fun e => hz (lt_inj e))
      rw [this]
      simp [hz]
end
end Go.Hop
