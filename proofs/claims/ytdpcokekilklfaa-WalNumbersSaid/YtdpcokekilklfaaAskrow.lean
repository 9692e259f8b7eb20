/- Rows of asks: what came in, what was appended. -/
import Derived.Test.YtdpcokekilklfaaParts
import Derived.Test.YtdpcokekilklfaaAsks
namespace Go.Proofs.Ytdpcokekilklfaa
open Go.RowKit Go.Hop Go.ChangeShapes Go.WideShapes Go.ChangeAt
theorem ask_info : (Try.prog.info? 41).map (fun i => (i.zero, i.size, i.bytes)) = some (some (.agg #[.int .i64 0, .slice none 0 0, .int .i64 0]), 3, 40) := by kernel_rfl
theorem askE : Elem Try.prog 39 41 3 40 (.agg #[.int .i64 0, .slice none 0 0, .int .i64 0]) := ⟨Try.underlying39, info_parts ask_info, rfl, by decide, by decide⟩
theorem ask_one (a : Ask) : ∀ u ∈ a.cells, u.oneCell' = true := by
  intro u hu
  simp only [Ask.cells, List.mem_cons, List.not_mem_nil, or_false] at hu
  rcases hu with rfl | rfl | rfl <;> rfl
theorem i64_of_wf {z : Int} (h : (Lit.int .i64 z).wf = true) : I64 z := by
  simpa [I64, Lit.wf, IntKind.min, IntKind.max, IntKind.signed, IntKind.bits] using h
theorem open_asks {H : Type} {enc : TypeId × Value → H} {w : World} {v : Value} {d : DataW H} {p : List MemPlace} {r : Reach} {b0 : Nat}
    (hv : Value.okWide Try.prog w r b0 39 v) (h : DataW.Trod enc Try.prog w 0 (fun _ => true) true 39 v d p) :
    ∃ (A : Option Addr) (n cap : Nat) (q : List Ask), v = .slice A n cap ∧ Asks w w.heap.size A n q ∧ n ≤ cap ∧ cap ≤ maxLen ∧ n ≤ Rows.uptoBulk d := by
  obtain ⟨A0, n0, c0, rfl⟩ := okWide_slice Try.underlying39 hv
  obtain ⟨fuel, hf⟩ := h
  obtain ⟨A, n, cap, es, hcs, hn, hc, hel, hx, hA, hi⟩ := open_parts Try.underlying39 Try.underlying41 (by kernel_rfl) (by kernel_rfl) hf
  simp only [Value.cells, List.cons.injEq, and_true] at hcs
  have hbulk : n ≤ Rows.uptoBulk d := by
    rcases hx with ⟨_, h0⟩ | ⟨sp, h0⟩
    · omega
    · have h0 : d = .slice es sp := h0
      rw [h0]
      have := bulks.slice_le es sp
      omega
  have hq : ∃ q : List Ask, q.length = n ∧ ∀ i (h : i < q.length), AskIn w w.heap.size q[i] ∧ ∀ ad, A = some ad → ∀ r u, q[i].cells[r]? = some u → w.cell? (ad.add (i * 3 + r)) = some u := by
    refine list_of (p := fun i a => AskIn w w.heap.size a ∧ ∀ ad, A = some ad → ∀ r u, a.cells[r]? = some u → w.cell? (ad.add (i * 3 + r)) = some u) n fun i hin => ?_
    obtain ⟨ad, rfl⟩ := hA (by omega)
    obtain ⟨ds, _, hf⟩ := hi ad rfl i hin
    obtain ⟨v0, y0, k0, hc0, _, ht0⟩ := hf 0 _ rfl
    obtain ⟨v1, y1, k1, hc1, _, ht1⟩ := hf 1 _ rfl
    obtain ⟨v2, y2, k2, hc2, _, ht2⟩ := hf 2 _ rfl
    obtain ⟨z0, e0, _, w0⟩ := DataW.trod_int Try.underlying3 ht0
    obtain ⟨Ab, mb, cb, bs, e1, hb, hle, hmax, _⟩ := open_bytes_at Try.underlying29 Try.underlying5 (show Try.prog.cellsOf 5 = 1 by kernel_rfl) ht1
    obtain ⟨z2, e2, _, w2⟩ := DataW.trod_int Try.underlying2 ht2
    injection e0 with e0
    injection e2 with e2
    subst e0 e1 e2
    refine ⟨⟨z0, Ab, mb, cb, bs, z2⟩, ⟨hb, hle, hmax, i64_of_wf w0, i64_of_wf w2⟩, fun ad' had r u hu => ?_⟩
    injection had with had
    subst had
    rcases r with _ | _ | _ | r
    · simp only [Ask.cells, List.getElem?_cons_zero, Option.some.injEq] at hu; rw [← hu]; exact hc0
    · simp only [Ask.cells, List.getElem?_cons_succ, List.getElem?_cons_zero, Option.some.injEq] at hu; rw [← hu]; exact hc1
    · simp only [Ask.cells, List.getElem?_cons_succ, List.getElem?_cons_zero, Option.some.injEq] at hu; rw [← hu]; exact hc2
    · simp [Ask.cells] at hu
  obtain ⟨q, hql, hq⟩ := hq
  refine ⟨A, n, cap, q, hcs, ⟨?_, fun a ha => ?_⟩, hn, hc, hbulk⟩
  · rcases Nat.eq_zero_or_pos n with h0 | h0
    · subst h0
      rw [List.eq_nil_of_length_eq_zero hql]; exact Reads.nil
    · obtain ⟨ad, rfl⟩ := hA h0
      subst hql
      refine reads_flat Ask.cells 3 (by omega) (fun _ => rfl) q (fun h0 => ?_) (fun i h r u hu => (hq i h).2 ad rfl r u hu)
      have := World.block_lt_of_cell? w _ ((hq 0 h0).2 ad rfl 0 _ rfl)
      rwa [Go.Hop.block_add] at this
  · obtain ⟨i, hi, rfl⟩ := List.mem_iff_getElem.1 ha
    exact (hq i hi).1
end Go.Proofs.Ytdpcokekilklfaa
