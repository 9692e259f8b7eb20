/- Maps from whole numbers to whole numbers, as functions. -/
import Derived.Test.YtjjafpgpnmdjlaaOwn2
import Derived.Maps.Own
import Derived.Maps.Views
import Derived.Carry
namespace Go.Hop
open Go.RowKit Go.Maps
/-- the map type t -/
structure MapTy (P : Program) (t k e : TypeId) (qk qe : IntKind) : Prop where
  und : P.underlying t = some (.map k e)
  key : P.underlying k = some (.int qk)
  elem : P.underlying e = some (.int qe)
  zero : ∀ w, (zeroValue e).run P w = .ok (.int qe 0) w
/-- block b is a map of at most n keys that holds f -/
def MapAt (P : Program) (k e : TypeId) (qk qe : IntKind) (w : World) (b n : Nat) (f : Int → Int) : Prop :=
  ∃ D : DataW Unit, w.ownsMap P k (plainElem P e) b n D ∧ ∀ x, (Lit.int qk x).wf = true → D.atKey (.int qk x) (.lit (.int qe 0)) = .lit (.int qe (f x))
section
variable {P : Program} {t k e : TypeId} {qk qe : IntKind} {w w' : World} {b n : Nat} {f : Int → Int}
theorem MapAt.made (w : World) : MapAt P k e qk qe (w.alloc (.map #[] 0)) w.heap.size 0 (fun _ => 0) :=
  ⟨.map [], World.ownsMap_made w P k _, fun x _ => rfl⟩
theorem MapAt.lt (h : MapAt P k e qk qe w b n f) : b < w.heap.size := by
  obtain ⟨D, h, _⟩ := h
  exact h.lt
theorem MapAt.keep (h : MapAt P k e qk qe w b n f) (hk : w'.heap[b]? = w.heap[b]?) : MapAt P k e qk qe w' b n f := by
  obtain ⟨D, ⟨es, clock, hb, r⟩, hf⟩ := h
  exact ⟨D, ⟨es, clock, hk.trans hb, r⟩, hf⟩
theorem MapAt.grow (h : MapAt P k e qk qe w b n f) (hg : Grow w w') : MapAt P k e qk qe w' b n f := h.keep (hg.block b h.lt)
theorem MapAt.just {V : Nat → Prop} (h : MapAt P k e qk qe w b n f) (hj : Just V w w') (hv : ¬ V b) : MapAt P k e qk qe w' b n f := h.keep (hj.block b h.lt hv)
theorem MapAt.look (T : MapTy P t k e qk qe) (h : MapAt P k e qk qe w b n f) (x : Int) (hx : (Lit.int qk x).wf = true) : (Instr.lookup t (.map (some b)) (.int qk x) false).run P w = .ok (.int qe (f x)) w := by
  obtain ⟨D, ho, hf⟩ := h
  obtain ⟨c, hrun, hat, _⟩ := ho.lookup_int (int_keyed T.key) T.und T.elem (T.zero w) (keyOf_int_mk T.key hx)
  rw [hf x hx] at hat
  injection hat with hat
  injection hat with _ hat
  rw [hrun, hat]
theorem MapAt.put (T : MapTy P t k e qk qe) (h : MapAt P k e qk qe w b n f) (x v : Int) (hx : (Lit.int qk x).wf = true) (hv : (Lit.int qe v).wf = true) (hn : n < maxLen) :
    ∃ w', (Instr.mapUpdate t (.map (some b)) (.int qk x) (.int qe v)).run P w = .ok () w' ∧ MapAt P k e qk qe w' b (n + 1) (fun y => if y = x then v else f y) ∧ Just (fun c => c = b) w w' := by
  obtain ⟨D, ho, hf⟩ := h
  obtain ⟨w', hrun, h2, h3⟩ := ho.update (int_keyed T.key) T.und hn (keyOf_int_mk T.key hx) (plainElem_int T.elem hv)
  refine ⟨w', hrun, ⟨_, h2, fun y hy => ?_⟩, ⟨h3.os, h3.tape, h3.output, h3.size, fun i hi hb => h3.block i hi (fun e => hb (by injection e))⟩⟩
  have hD : IsMap D := by
    obtain ⟨es, clock, _, _, _, rfl⟩ := ho
    exact ⟨_, rfl⟩
  show _ = DataW.lit (Lit.int qe (if y = x then v else f y))
  by_cases hyx : y = x
  · subst hyx
    rw [if_pos rfl, atKey_put_same hD (by exact trivial)]
  · rw [if_neg hyx, atKey_put_other (fun e => hyx (by injection e))]
    exact hf y hy
end
theorem wf64 {x : Int} (h0 : -9223372036854775808 ≤ x) (h1 : x ≤ 9223372036854775807) : (Lit.int .i64 x).wf = true := by
  simp [Lit.wf, IntKind.min, IntKind.max, IntKind.signed, IntKind.bits]; omega
end Go.Hop
