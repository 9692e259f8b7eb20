/- Rows of labels as they came in. -/
import Derived.Test.YthkkfdnechmddaaDoorParts
import Derived.Test.YthkkfdnechmddaaDoorLb
namespace Go.Proofs.YthkkfdnechmddaaDoor
open Go.RowKit Go.Hop Go.ChangeShapes Go.WideShapes Go.ChangeAt
theorem open_labels_at {H : Type} {enc : TypeId × Value → H} {w : World} {fuel : Nat} {v : Value} {x : DataW H × List MemPlace} (h : DataW.trod enc Tryd.prog w 0 (fun _ => true) true fuel 26 [v] = some x) :
    ∃ (A : Option Addr) (n cap : Nat) (q : List Lb), v = .slice A n cap ∧ In w (fun b => b < w.heap.size) 2 A n (q.flatMap lcell) ∧ (∀ a ∈ q, (a.1.size ≤ maxLen ∧ a.2.size ≤ maxLen)) ∧ n ≤ cap ∧ cap ≤ maxLen ∧ n ≤ Rows.uptoBulk x.1 := by
  obtain ⟨A, n, cap, es, hcs, hn, hc, hel, hx, hA, hi⟩ := open_parts Tryd.underlying26 Tryd.underlying25 (by kernel_rfl) (by kernel_rfl) h
  injection hcs with hv
  have hbulk : n ≤ Rows.uptoBulk x.1 := by
    rcases hx with ⟨_, h0⟩ | ⟨sp, h0⟩
    · omega
    · rw [h0]
      have := bulks.slice_le es sp
      omega
  have hq : ∃ q : List Lb, q.length = n ∧ ∀ i (h : i < q.length), (fun a => (a.1.size ≤ maxLen ∧ a.2.size ≤ maxLen)) q[i] ∧ ∀ ad, A = some ad → ∀ r u, (lcell q[i])[r]? = some u → w.cell? (ad.add (i * 2 + r)) = some u := by
    refine list_of (p := fun i a => ((a.1.size ≤ maxLen ∧ a.2.size ≤ maxLen)) ∧ ∀ ad, A = some ad → ∀ r u, (lcell a)[r]? = some u → w.cell? (ad.add (i * 2 + r)) = some u) n fun i hin => ?_
    obtain ⟨ad, rfl⟩ := hA (by omega)
    obtain ⟨ds, hes, hf⟩ := hi ad rfl i hin
    obtain ⟨v0, y0, k0, hc0, hd0, ht0⟩ := hf 0 _ rfl
    obtain ⟨v1, y1, k1, hc1, hd1, ht1⟩ := hf 1 _ rfl
    obtain ⟨z0, e0, _, w0⟩ := DataW.trod_string Tryd.underlying9 ht0
    injection e0 with e0
    subst e0
    obtain ⟨z1, e1, _, w1⟩ := DataW.trod_string Tryd.underlying9 ht1
    injection e1 with e1
    subst e1
    refine ⟨(z0, z1), ⟨w0, w1⟩, fun ad' had r u hu => ?_⟩
    injection had with had
    subst had
    rcases r with _ | _ | r
    · simp only [lcell, List.getElem?_cons_zero, Option.some.injEq] at hu; rw [← hu]; exact hc0
    · simp only [lcell, List.getElem?_cons_succ, List.getElem?_cons_zero, Option.some.injEq] at hu; rw [← hu]; exact hc1
    · simp [lcell] at hu
  obtain ⟨q, hql, hq⟩ := hq
  refine ⟨A, n, cap, q, hv, ?_, fun a ha => ?_, hn, hc, hbulk⟩
  · rcases Nat.eq_zero_or_pos n with h0 | h0
    · subst h0
      rw [List.eq_nil_of_length_eq_zero hql]; exact In.nil
    · obtain ⟨ad, rfl⟩ := hA h0
      subst hql
      refine Reads.in_ (B := w.heap.size) (reads_flat lcell 2 (by omega) lcell_len q (fun h0 => ?_) (fun i h r u hu => (hq i h).2 ad rfl r u hu)) (Nat.le_refl _) fun _ h => h
      have := World.block_lt_of_cell? w _ ((hq 0 h0).2 ad rfl 0 _ rfl)
      rwa [Go.Hop.block_add] at this
  · obtain ⟨i, hi, rfl⟩ := List.mem_iff_getElem.1 ha
    exact (hq i hi).1
theorem open_asks {H : Type} {enc : TypeId × Value → H} {w : World} {v : Value} {d : DataW H} {p : List MemPlace} {r : Reach} {b0 : Nat}
    (_hv : Value.okWide Tryd.prog w r b0 26 v) (h : DataW.Trod enc Tryd.prog w 0 (fun _ => true) true 26 v d p) :
    ∃ (A : Option Addr) (n cap : Nat) (q : List Lb), v = .slice A n cap ∧ (In w (fun b => b < w.heap.size) 2 A n (lcells q) ∧ ∀ d ∈ q, d.1.size ≤ maxLen ∧ d.2.size ≤ maxLen) ∧ n ≤ cap ∧ cap ≤ maxLen ∧ n ≤ Rows.uptoBulk d := by
  obtain ⟨A0, n0, c0, rfl⟩ := okWide_slice Tryd.underlying26 _hv
  obtain ⟨fuel, hf⟩ := h
  obtain ⟨A, n, cap, q, hv, h1, h2, h3, h4, h5⟩ := open_labels_at (v := .slice A0 n0 c0) hf
  exact ⟨A, n, cap, q, hv, ⟨h1, h2⟩, h3, h4, h5⟩
end Go.Proofs.YthkkfdnechmddaaDoor
