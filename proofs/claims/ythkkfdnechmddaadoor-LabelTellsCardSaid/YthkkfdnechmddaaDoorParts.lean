/- Arguments that are slices of structs, opened field by field. -/
import Derived.Test.YthkkfdnechmddaaDoorOwn
import Derived.Test.YthkkfdnechmddaaDoorKit
import Derived.Deep.Slices
import Derived.Deep.Fields
import Derived.ChangeSame
namespace Go.Hop
open Go.ChangeShapes Go.WideShapes Go.ChangeAt Go.RowKit Go.Deep
theorem list_of {α : Type} {p : Nat → α → Prop} : ∀ (n : Nat), (∀ i, i < n → ∃ a, p i a) → ∃ q : List α, q.length = n ∧ ∀ i (h : i < q.length), p i q[i]
  | 0, _ => ⟨[], rfl, fun i h => by simp at h⟩
  | n + 1, h => by
    obtain ⟨q, hq, hp⟩ := list_of n (fun i hi => h i (by omega))
    obtain ⟨a, ha⟩ := h n (by omega)
    refine ⟨q ++ [a], by simp [hq], fun i hi => ?_⟩
    by_cases hn : i < q.length
    · rw [List.getElem_append_left hn]; exact hp i hn
    · have : i = n := by simp at hi; omega
      subst this
      rw [List.getElem_append_right (by omega)]
      simpa [hq] using ha
theorem reads_flat {α : Type} {w : World} {B : Nat} {ad : Addr} (f : α → List Value) (m : Nat) (hm : 0 < m) (hf : ∀ a, (f a).length = m) (q : List α) (hb : 0 < q.length → ad.block < B)
    (hq : ∀ i (h : i < q.length) r u, (f q[i])[r]? = some u → w.cell? (ad.add (i * m + r)) = some u) : Reads w B m (some ad) q.length (q.flatMap f) := by
  refine ⟨flat_length f m hf q, fun hn => ⟨ad, rfl, hb hn, fun j u hu => ?_⟩⟩
  have hl := flat_length f m hf q
  have hj : j < q.length * m := by
    have := (List.getElem?_eq_some_iff.1 hu).1
    omega
  have hd : j / m < q.length := Nat.div_lt_of_lt_mul (by rw [Nat.mul_comm]; exact hj)
  have hr := Nat.mod_lt j hm
  have he : j / m * m + j % m = j := Nat.div_add_mod' j m
  have := flat_get f m hf q (j / m) (j % m) hd hr
  rw [he, hu] at this
  have h2 := hq (j / m) hd (j % m) u this.symm
  rwa [he] at h2
section
variable {H : Type} {enc : TypeId × Value → H} {P : Program} {w : World}
theorem open_parts {t e : TypeId} {fs : Array Field} (ht : P.underlying t = some (.slice e)) (he : P.underlying e = some (.struct fs)) (hone : oneCellFields P fs = true) (hC : P.cellsOf e = fs.size)
    {fuel : Nat} {cs : List Value} {x : DataW H × List MemPlace} (h : DataW.trod enc P w 0 (fun _ => true) true fuel t cs = some x) :
    ∃ (A : Option Addr) (n cap : Nat) (es : List (DataW H)), cs = [.slice A n cap] ∧ n ≤ cap ∧ cap ≤ maxLen ∧ es.length = n ∧ ((x.1 = .nil ∧ n = 0) ∨ ∃ sp, x.1 = .slice es sp) ∧ (0 < n → ∃ ad, A = some ad) ∧
      ∀ ad, A = some ad → ∀ i, i < n → ∃ ds : List (DataW H), es[i]? = some (.agg ds) ∧ ∀ (j : Nat) (f : Field), fs[j]? = some f → ∃ (v : Value) (y : DataW H × List MemPlace) (k : Nat), w.cell? (ad.add (i * fs.size + j)) = some v ∧ ds[j]? = some y.1 ∧ DataW.trod enc P w 0 (fun _ => true) true k f.type [v] = some y := by
  rcases open_slice ht h with ⟨hcs, hx⟩ | ⟨a, len, cap, m, n, D, Pl, hcs, _, hl, hm, hmm, hx, hi⟩
  · exact ⟨none, 0, 0, [], hcs, Nat.le_refl _, Nat.zero_le _, rfl, .inl ⟨by rw [hx], rfl⟩, fun h0 => absurd h0 (by omega), fun ad h0 => by cases h0⟩
  · have hmc : m = cap := by simpa using hmm
    subst hmc
    refine ⟨some a, len, m, (List.range len).map D, hcs, hl, hm, by simp, .inr ⟨_, by rw [hx]⟩, fun _ => ⟨a, rfl⟩, fun ad had i hin => ?_⟩
    injection had with had
    subst had
    obtain ⟨cs', hc, htr⟩ := hi i (by omega)
    obtain ⟨ys, k, _, hy, hlen, _, hf⟩ := DataW.trod_struct he htr
    obtain ⟨_, _, hat⟩ := World.cells?_some hc
    refine ⟨ys.map (·.1), ?_, fun j f hj => ?_⟩
    · rw [List.getElem?_map, List.getElem?_range hin]
      injection hy with hy _
      rw [Option.map_some, hy]
    · obtain ⟨ho, hk⟩ := hone_of hone j f hj
      have hjs := (Array.getElem?_eq_some_iff.1 hj).1
      have hjc : j < cs'.length := by omega
      have h1 := hf j f hj
      rw [ho, hk, List.drop_eq_getElem_cons hjc, List.take_succ_cons, List.take_zero] at h1
      have hjy : j < ys.length := by omega
      refine ⟨cs'[j], ys[j], k, ?_, ?_, ?_⟩
      · have := hat j (by omega)
        rw [Go.Hop.add_add, hC] at this
        rw [this, List.getElem?_eq_getElem hjc]
      · rw [List.getElem?_map, List.getElem?_eq_getElem hjy]; rfl
      · rw [h1, List.getElem?_eq_getElem hjy]
theorem open_bytes_at {t e : TypeId} (ht : P.underlying t = some (.slice e)) (he : P.underlying e = some (.int .u8)) (hc : P.cellsOf e = 1) {fuel : Nat} {v : Value} {x : DataW H × List MemPlace}
    (h : DataW.trod enc P w 0 (fun _ => true) true fuel t [v] = some x) :
    ∃ (A : Option Addr) (n cap : Nat) (l : List UInt8), v = .slice A n cap ∧ Bytes w w.heap.size A n l ∧ n ≤ cap ∧ cap ≤ maxLen ∧
      ((x.1 = .nil ∧ n = 0) ∨ ∃ zs : List Int, x.1 = .slice (lits .u8 (zs.take n)) (lits .u8 (zs.drop n)) ∧ zs.length = cap) := by
  rcases open_ints ht he hc h with ⟨hcs, hx⟩ | ⟨a, len', cap', zs, hcs, _, hl, hm, hz, hx, hcell, hwz⟩
  · injection hcs with hv
    exact ⟨none, 0, 0, [], hv, Reads.nil, Nat.le_refl _, Nat.zero_le _, .inl ⟨by rw [hx], rfl⟩⟩
  · injection hcs with hv
    simp only [if_true] at hz
    refine ⟨_, _, _, (zs.take len').map (fun z => UInt8.ofNat z.toNat), hv, ⟨by simp; omega, fun hn => ⟨a, rfl, ?_, fun j u hu => ?_⟩⟩, hl, hm, .inr ⟨zs, by rw [hx], hz⟩⟩
    · have := World.block_lt_of_cell? w (a.add 0) (hcell 0 (by omega))
      rwa [block_add] at this
    · obtain ⟨hj, rfl⟩ := u8s_get hu
      simp only [List.length_map, List.length_take] at hj
      rw [hcell j (by omega)]
      simp only [List.getElem_map, List.getElem_take]
      rw [u8_of_wf (hwz _ (List.getElem_mem _))]
      simp [List.getD, show j < zs.length by omega]
end
end Go.Hop
