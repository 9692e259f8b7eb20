/- Maps from whole numbers to whole numbers, as partial functions: look (with ok), put, delete, an entry stored; how many there are. -/
import Derived.Test.YtjjafpgpnmdjlaaMaps
import Derived.Maps.OwnSet
namespace Go.Hop
open Go.RowKit Go.Maps
/-- block b is a map of n keys that holds f -/
def PMap (P : Program) (k e : TypeId) (qk qe : IntKind) (w : World) (b n : Nat) (f : Int → Option Int) : Prop :=
  ∃ D : DataW Unit, w.ownsMap P k (plainElem P e) b n D ∧ Maps.size D = n ∧ ∀ x, (Lit.int qk x).wf = true → has D (.int qk x) = (f x).isSome ∧ D.atKey (.int qk x) (.lit (.int qe 0)) = .lit (.int qe ((f x).getD 0))
section
variable {P : Program} {t k e : TypeId} {qk qe : IntKind} {w w' : World} {b n : Nat} {f : Int → Option Int}
theorem PMap.made (w : World) : PMap P k e qk qe (w.alloc (.map #[] 0)) w.heap.size 0 (fun _ => none) :=
  ⟨.map [], World.ownsMap_made w P k _, rfl, fun _ _ => ⟨rfl, rfl⟩⟩
theorem PMap.lt (h : PMap P k e qk qe w b n f) : b < w.heap.size := by
  obtain ⟨D, h, _⟩ := h
  exact h.lt
theorem PMap.keep (h : PMap P k e qk qe w b n f) (hk : w'.heap[b]? = w.heap[b]?) : PMap P k e qk qe w' b n f := by
  obtain ⟨D, ⟨es, clock, hb, r⟩, hf⟩ := h
  exact ⟨D, ⟨es, clock, hk.trans hb, r⟩, hf⟩
theorem PMap.grow (h : PMap P k e qk qe w b n f) (hg : Grow w w') : PMap P k e qk qe w' b n f := h.keep (hg.block b h.lt)
theorem PMap.just {V : Nat → Prop} (h : PMap P k e qk qe w b n f) (hj : Just V w w') (hv : ¬ V b) : PMap P k e qk qe w' b n f := h.keep (hj.block b h.lt hv)
theorem PMap.imp {f' : Int → Option Int} (h : PMap P k e qk qe w b n f) (hf : ∀ x, (Lit.int qk x).wf = true → f' x = f x) : PMap P k e qk qe w b n f' := by
  obtain ⟨D, h1, h2, h3⟩ := h
  exact ⟨D, h1, h2, fun x hx => by rw [hf x hx]; exact h3 x hx⟩
theorem owns_sized {D : DataW Unit} {R : Value → Option (DataW Unit × List MemPlace)} (h : w.ownsMap P k R b n D) : w.ownsMap P k R b (Maps.size D) D := by
  obtain ⟨es, clock, hb, F, hs, rfl⟩ := h
  exact ⟨es, clock, hb, F, by simp [Maps.size, length_sorted], rfl⟩
theorem PMap.look (T : MapTy P t k e qk qe) (h : PMap P k e qk qe w b n f) (x : Int) (hx : (Lit.int qk x).wf = true) : (Instr.lookup t (.map (some b)) (.int qk x) true).run P w = .ok (.tuple #[.int qe ((f x).getD 0), .bool (f x).isSome]) w := by
  obtain ⟨D, ho, _, hf⟩ := h
  have hw0 : (Lit.int qe 0).wf = true := by cases qe <;> decide
  obtain ⟨v, ps, hrun, hR⟩ := ho.look_ok (int_keyed T.key) T.und (T.zero w) (plainElem_int T.elem hw0) (keyOf_int_mk T.key hx)
  rw [(hf x hx).1, (hf x hx).2] at *
  obtain ⟨a, rfl, hz, _⟩ := plainElem_int_inv T.elem hR
  injection hz with hz
  injection hz with hz
  injection hz with _ hz
  rw [hrun, ← hz]
theorem PMap.put (T : MapTy P t k e qk qe) (h : PMap P k e qk qe w b n f) (x v : Int) (hx : (Lit.int qk x).wf = true) (hv : (Lit.int qe v).wf = true) (hn : n < maxLen) :
    ∃ w', (Instr.mapUpdate t (.map (some b)) (.int qk x) (.int qe v)).run P w = .ok () w' ∧ PMap P k e qk qe w' b (if (f x).isSome then n else n + 1) (fun y => if y = x then some v else f y) ∧ Just (fun c => c = b) w w' := by
  obtain ⟨D, ho, hs, hf⟩ := h
  obtain ⟨w', hrun, h2, h3⟩ := ho.update (int_keyed T.key) T.und hn (keyOf_int_mk T.key hx) (plainElem_int T.elem hv)
  have hsz := size_put (ho.tidy (int_keyed T.key)) (k := .int qk x) (.lit (.int qe v))
  rw [(hf x hx).1, hs] at hsz
  have h2 := owns_sized h2
  rw [hsz] at h2
  refine ⟨w', hrun, ⟨_, h2, hsz, fun y hy => ?_⟩, ⟨h3.os, h3.tape, h3.output, h3.size, fun i hi hb => h3.block i hi (fun e => hb (by injection e))⟩⟩
  dsimp only
  by_cases hyx : y = x
  · subst hyx
    rw [if_pos rfl]
    exact ⟨has_put_same ho.isMap (by exact trivial) _, atKey_put_same ho.isMap (by exact trivial) _ _⟩
  · rw [if_neg hyx, has_put_other (fun e => hyx (by injection e)), atKey_put_other (fun e => hyx (by injection e))]
    exact hf y hy
theorem PMap.del (T : MapTy P t k e qk qe) (h : PMap P k e qk qe w b n f) (x : Int) (hx : (Lit.int qk x).wf = true) (ty : TypeId) :
    ∃ w', (Builtin.delete_ #[t, k] ty #[.map (some b), .int qk x]).run P w = .ok (.tuple #[]) w' ∧ PMap P k e qk qe w' b (if (f x).isSome then n - 1 else n) (fun y => if y = x then none else f y) ∧ Just (fun c => c = b) w w' := by
  obtain ⟨D, ho, hs, hf⟩ := h
  obtain ⟨w', hrun, h2, h3⟩ := ho.drop (int_keyed T.key) T.und (keyOf_int_mk T.key hx) ty
  have h3 := h3.grown
  have hsz := size_del (ho.tidy (int_keyed T.key)) (k := .int qk x)
  rw [(hf x hx).1, hs] at hsz
  have h2 := owns_sized h2
  have hsz' : Maps.size (D.del (.int qk x)) = if (f x).isSome then n - 1 else n := by
    split at hsz <;> rename_i hc <;> simp only [hc] <;> simp <;> omega
  rw [hsz'] at h2
  refine ⟨w', hrun, ⟨_, h2, hsz', fun y hy => ?_⟩, ⟨h3.os, h3.tape, h3.output, h3.size, fun i hi hb => h3.block i hi (fun e => hb (by injection e))⟩⟩
  dsimp only
  by_cases hyx : y = x
  · subst hyx
    rw [if_pos rfl]
    exact ⟨has_del_same, atKey_del_same _⟩
  · rw [if_neg hyx, has_del_other (fun e => hyx (by injection e)), atKey_del_other (fun e => hyx (by injection e))]
    exact hf y hy
theorem PMap.len (h : PMap P k e qk qe w b n f) (T : MapTy P t k e qk qe) (ty : TypeId) : (Builtin.len_ #[t] ty #[.map (some b)]).run P w = .ok (.int .i64 (n : Int)) w := by
  obtain ⟨D, ho, hs, _⟩ := h
  rw [ho.len T.und ty, hs]
theorem setBlock_same {w : World} {b : Nat} {o : Obj} (h : w.heap[b]? = some o) : ({ w with heap := w.heap.setIfInBounds b o } : World) = w := by
  obtain ⟨hb, rfl⟩ := Array.getElem?_eq_some_iff.1 h
  congr 1
  apply Array.ext
  · simp
  · intro i h1 h2
    rw [Array.getElem_setIfInBounds]
    split
    · rename_i hh; subst hh; rfl
    · rfl
/-- the entry of a key, and its stamp -/
def EntIs (w : World) (b : Nat) (x : Value) (s : Nat) : Prop := ∃ (es : Array MapEntry) (clock j : Nat) (e0 : MapEntry), w.heap[b]? = some (.map es clock) ∧ es[j]? = some e0 ∧ e0.key = x ∧ e0.born = s
theorem EntIs.keep {x : Value} {s : Nat} (h : EntIs w b x s) (hk : w'.heap[b]? = w.heap[b]?) : EntIs w' b x s := by
  obtain ⟨es, clock, j, e0, h1, h2⟩ := h
  exact ⟨es, clock, j, e0, hk.trans h1, h2⟩
theorem EntIs.grow {x : Value} {s : Nat} (h : EntIs w b x s) (hg : Grow w w') : EntIs w' b x s := by
  have hb : b < w.heap.size := by
    obtain ⟨es, clock, j, e0, h1, h2⟩ := h
    exact (Array.getElem?_eq_some_iff.1 h1).1
  exact h.keep (hg.block b hb)
theorem PMap.found (T : MapTy P t k e qk qe) (h : PMap P k e qk qe w b n f) (x v : Int) (hx : (Lit.int qk x).wf = true) (hv : f x = some v) :
    ∃ (es : Array MapEntry) (clock j : Nat) (e0 : MapEntry), w.heap[b]? = some (.map es clock) ∧ WideElems.Fit P k (plainElem (H := Unit) P e) es clock ∧ (Instr.findKey k (.int qk x) es.toList).run P w = .ok (some (j, e0.val)) w ∧ es[j]? = some e0 ∧ e0.key = .int qk x ∧ e0.val = .int qe v := by
  have hlook := h.look T x hx
  obtain ⟨D, ⟨es, clock, hb, F, hs, rfl⟩, _, hf⟩ := h
  have K : Keyed P k := int_keyed T.key
  have hkey : keyOf P k (.int qk x) = some (.int qk x) := keyOf_int_mk T.key hx
  rcases K.find w hkey es.toList F.keys with ⟨h1, h2⟩ | ⟨j, e0, h1, h2, h3⟩
  · exfalso
    rw [hv] at hlook
    simp [Instr.lookup, run_underlying T.und, MapKept.run_getObj_map hb, K.check w _ hkey, h1, T.zero w, Result.andThen] at hlook
  · have hval : e0.val = .int qe v := by
      rw [hv] at hlook
      simpa [Instr.lookup, run_underlying T.und, MapKept.run_getObj_map hb, K.check w _ hkey, h1, Result.andThen] using hlook
    exact ⟨es, clock, j, e0, hb, F, h1, by simpa using h2, h3, hval⟩
theorem PMap.ent (T : MapTy P t k e qk qe) (h : PMap P k e qk qe w b n f) (x v : Int) (hx : (Lit.int qk x).wf = true) (hv : f x = some v) : ∃ s, EntIs w b (.int qk x) s := by
  obtain ⟨es, clock, j, e0, hb, _, _, hj, h3, _⟩ := h.found T x v hx hv
  exact ⟨e0.born, es, clock, j, e0, hb, hj, h3, rfl⟩
theorem nodup_at {α : Type} {es : Array MapEntry} {g : MapEntry → α} (hnd : (es.toList.map g).Nodup) {i j : Nat} {a c : MapEntry} (hi : es[i]? = some a) (hj : es[j]? = some c) (h : g a = g c) : i = j := by
  obtain ⟨hi', rfl⟩ := Array.getElem?_eq_some_iff.1 hi
  obtain ⟨hj', rfl⟩ := Array.getElem?_eq_some_iff.1 hj
  rcases Nat.lt_trichotomy i j with hlt | h1 | hlt
  · refine (((List.pairwise_iff_getElem.1 hnd) i j (by simpa using hi') (by simpa using hj') hlt) ?_).elim
    simp only [List.getElem_map, Array.getElem_toList]; exact h
  · exact h1
  · refine (((List.pairwise_iff_getElem.1 hnd) j i (by simpa using hj') (by simpa using hi') hlt) ?_).elim
    simp only [List.getElem_map, Array.getElem_toList]; exact h.symm
/-- an entry that is there, found; what is stored at its stamp is stored at its key -/
theorem PMap.entry (T : MapTy P t k e qk qe) (h : PMap P k e qk qe w b n f) (x v : Int) (hx : (Lit.int qk x).wf = true) (hv : f x = some v) {s : Nat} (he : EntIs w b (.int qk x) s) :
    (Instr.mapEntry t (.map (some b)) (.int qk x)).run P w = .ok (.tuple #[.int qe v, .int .i64 (s : Int)]) w ∧
      ∀ u, (Instr.entryStore t (.map (some b)) (.int .i64 (s : Int)) u).run P w = (Instr.mapUpdate t (.map (some b)) (.int qk x) u).run P w := by
  obtain ⟨es, clock, j, e0, hb, F, h1, hj, h3, hval⟩ := h.found T x v hx hv
  have K : Keyed P k := int_keyed T.key
  have hkey : keyOf P k (.int qk x) = some (.int qk x) := keyOf_int_mk T.key hx
  obtain ⟨es', clock', j', e0', hb', hj', h3', rfl⟩ := he
  rw [hb] at hb'
  injection hb' with hb'
  injection hb' with hb' hb''
  subst hb' hb''
  obtain rfl : j = j' := nodup_at F.stamped.2.2 hj hj' (h3.trans h3'.symm)
  rw [hj] at hj'
  injection hj' with hj'
  subst hj'
  have hjs : j < es.size := (Array.getElem?_eq_some_iff.1 hj).1
  have hself : (es.modify j fun e' => { e' with key := (.int qk x : Value) }) = es := by
    apply Array.ext_getElem?
    intro i
    rw [Array.getElem?_modify]
    split
    · rename_i hij; subst hij; rw [hj]; simp only [Option.map_some]; rw [← h3]
    · rfl
  refine ⟨?_, fun u => ?_⟩
  · simp [Instr.mapEntry, run_underlying T.und, MapKept.run_getObj_map hb, K.check w _ hkey, h1, hj, h3, K.stays w hkey, MapKept.run_setObj_map _ hb, Result.andThen, hself, setBlock_same hb, hval, goInt]
  · have hfind : es.findIdx? (fun e' => (e'.born : Int) == (e0.born : Int)) = some j := by
      rw [Array.findIdx?_eq_some_iff_getElem]
      refine ⟨hjs, by rw [(Array.getElem?_eq_some_iff.1 hj).2]; simp, fun i hi => ?_⟩
      have hne : (es[i]'(by omega)).born ≠ e0.born := fun heq => by
        have := nodup_at F.stamped.2.1 (i := i) (Array.getElem?_eq_getElem (by omega)) hj heq
        omega
      simpa using fun h' => hne (by omega)
    have hmod : (es.modify j fun e' => { e' with val := u }) = es.modify j fun e' => { e' with key := (.int qk x : Value), val := u } := by
      apply Array.ext_getElem?
      intro i
      rw [Array.getElem?_modify, Array.getElem?_modify]
      split
      · rename_i hij; subst hij; rw [hj]; simp only [Option.map_some]; rw [← h3]
      · rfl
    simp [Instr.entryStore, Instr.mapUpdate, asInt, asIntOf, run_underlying T.und, MapKept.run_getObj_map hb, K.check w _ hkey, h1, hj, h3, K.stays w hkey, MapKept.run_setObj_map _ hb, Result.andThen, hfind, hmod]
/-- a key that is there, put anew: all entries keep their stamps -/
theorem PMap.put_ent (T : MapTy P t k e qk qe) (h : PMap P k e qk qe w b n f) (x v v0 : Int) (hx : (Lit.int qk x).wf = true) (hv : (Lit.int qe v).wf = true) (hn : n < maxLen) (hp : f x = some v0) :
    ∃ w', (Instr.mapUpdate t (.map (some b)) (.int qk x) (.int qe v)).run P w = .ok () w' ∧ PMap P k e qk qe w' b n (fun y => if y = x then some v else f y) ∧ Just (fun c => c = b) w w' ∧ ∀ y s, EntIs w b y s → EntIs w' b y s := by
  obtain ⟨w', hrun, h2, h3⟩ := h.put T x v hx hv hn
  rw [hp, Option.isSome_some, if_pos rfl] at h2
  refine ⟨w', hrun, h2, h3, fun y s he => ?_⟩
  obtain ⟨es, clock, j, e0, hb, F, h1, hj, hk0, _⟩ := h.found T x v0 hx hp
  have K : Keyed P k := int_keyed T.key
  have hkey : keyOf P k (.int qk x) = some (.int qk x) := keyOf_int_mk T.key hx
  have hrun2 : (Instr.mapUpdate t (.map (some b)) (.int qk x) (.int qe v)).run P w = .ok () { w with heap := w.heap.setIfInBounds b (.map (es.modify j fun e' => { e' with key := (.int qk x : Value), val := (.int qe v : Value) }) clock) } := by
    simp [Instr.mapUpdate, run_underlying T.und, MapKept.run_getObj_map hb, K.check w _ hkey, h1, hj, hk0, K.stays w hkey, MapKept.run_setObj_map _ hb, Result.andThen]
  rw [hrun2] at hrun
  injection hrun with _ hw
  obtain ⟨es', clock', j', e0', hb', hj', h3', rfl⟩ := he
  rw [hb] at hb'
  injection hb' with hb'
  injection hb' with hb' hb''
  subst hb' hb''
  have hbl : b < w.heap.size := (Array.getElem?_eq_some_iff.1 hb).1
  refine ⟨es.modify j fun e' => { e' with key := (.int qk x : Value), val := (.int qe v : Value) }, clock, j', if j = j' then { e0' with key := (.int qk x : Value), val := (.int qe v : Value) } else e0', ?_, ?_, ?_, ?_⟩
  · rw [← hw]; simp [hbl]
  · rw [Array.getElem?_modify, hj']
    split <;> rfl
  · split
    · rename_i hjj; subst hjj
      rw [hj] at hj'; injection hj' with hj'; subst hj'
      rw [← h3', hk0]
    · exact h3'
  · split <;> rfl
end
end Go.Hop
