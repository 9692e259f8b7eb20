/- Rows of bytes that come in; what is appended to a slice that is full. -/
import Derived.Test.YtdpcokekilklfaaWknown
import Derived.Test.YtdpcokekilklfaaParts
import Derived.Test.YtdpcokekilklfaaRowk
import Derived.Test.YtdpcokekilklfaaKit
namespace Go.Hop
open Go.ChangeShapes Go.WideShapes Go.ChangeAt Go.RowKit Go.Deep
section
variable {P : Program} {t e : TypeId} {size bytes : Nat} {z : Value}
theorem run_append_fresh (E : Elem P t e size bytes z) (w : World) (ty : Nat) {B : Nat} {A : Option Addr} {k : Nat} {xs : List Value} (hr1 : Reads w B size A k xs) (hB : B ≤ w.heap.size) (hk : k ≤ maxLen)
    (hnil : A = none → k = 0) {B2 : Nat} {A2 : Option Addr} {m c : Nat} {news : List Value} (hr : Reads w B2 size A2 m news) (h1 : ∀ u ∈ news, u.oneCell' = true) (hbytes : (k + m) * bytes ≤ 140737488355328) :
    ∃ v' w', (Builtin.append_ #[t, t] ty #[.slice A k k, .slice A2 m c]).run P w = .ok v' w' ∧ Grow w w' ∧ ∃ A' c', v' = .slice A' (k + m) c' ∧ Reads w' w'.heap.size size A' (k + m) (xs ++ news) ∧ k + m ≤ c' ∧ c' ≤ maxLen := by
  obtain ⟨i, hi, hz, hs, hb⟩ := E.info
  have h63 : k + m ≤ maxLen := by
    have := Nat.le_mul_of_pos_right (k + m) E.bpos
    simp only [maxLen]; omega
  have fin : ∀ v' w', w'.ownsRow w.heap.size e size v' (k + m) (xs ++ news) → w.grownBy w' none → Grow w w' ∧ ∃ A' c', v' = .slice A' (k + m) c' ∧ Reads w' w'.heap.size size A' (k + m) (xs ++ news) ∧ k + m ≤ c' ∧ c' ≤ maxLen := fun v' w' r1 r2 =>
    ⟨⟨r2.os, r2.tape, r2.output, r2.size, fun k hk => r2.block k hk (by simp)⟩, (Own.of_row (V := fun _ => True) r1 fun _ _ => trivial).reads⟩
  by_cases hm0 : m = 0
  · have hsrc := hr.src (c := c) E hm0
    subst hm0
    obtain rfl : news = [] := List.eq_nil_of_length_eq_zero (by simpa using hr.1)
    have := run_append_nothing (P := P) w t t ty e i E.und hi A k k (Nat.le_refl _) (.slice A2 0 c) (by rw [hs]; exact hsrc)
    exact ⟨_, w, this, Grow.refl _, A, k, rfl, by rw [List.append_nil]; exact Reads.more hr1 hB, Nat.le_refl _, hk⟩
  · obtain ⟨ad, rfl, _, hc⟩ := hr.2 (by omega)
    cases A with
    | none =>
      obtain rfl := hnil rfl
      obtain rfl : xs = [] := List.eq_nil_of_length_eq_zero (by simpa using hr1.1)
      obtain ⟨v', w', hrun, r1, r2, _⟩ := run_append_own_at (P := P) w w.heap.size t ty e i z size bytes E.und hi hz hs hb E.zs E.pos (.slice none 0 0) 0 [] (World.ownsRow_nil w _ e size) ad m c news hr.1 hc h1 h63 hbytes (Nat.le_refl _)
      exact ⟨v', w', hrun, fin v' w' r1 r2⟩
    | some a0 =>
      have holds : ∀ j u, xs[j]? = some u → w.cell? (a0.add j) = some u := by
        intro j u hu
        have hlt : 0 < k := by
          rcases Nat.eq_zero_or_pos k with h0 | h0
          · have : xs.length = 0 := by rw [hr1.1, h0]; simp
            rw [List.eq_nil_of_length_eq_zero this] at hu; simp at hu
          · exact h0
        obtain ⟨ad', e', _, hc'⟩ := hr1.2 hlt
        injection e' with e'
        rw [e']; exact hc' j u hu
      obtain ⟨v', w', hrun, r1, r2⟩ := run_append_arg_grows (P := P) w t ty e i z size bytes E.und hi hz hs hb E.zs E.pos a0 k k xs hr1.1 holds ad m c news hr.1 hc (by omega) h63 hbytes
      exact ⟨v', w', hrun, fin v' w' r1 r2⟩
end
theorem Reads.none_zero {w : World} {B size n : Nat} {A : Option Addr} {xs : List Value} (h : Reads w B size A n xs) : A = none → n = 0 := fun hA => by
  rcases Nat.eq_zero_or_pos n with h0 | h0
  · exact h0
  · obtain ⟨_, e, _⟩ := h.2 h0; rw [hA] at e; cases e
end Go.Hop
namespace Go.Proofs.Ytdpcokekilklfaa
open Go.RowKit Go.Hop Go.Deep Go.ChangeShapes Go.WideShapes Go.ChangeAt
theorem grow_alloc {w w' : World} {o : Obj} (hg : Grow (w.alloc o) w') : Grow w w' := ((Below.refl w.heap.size w).alloc (Nat.le_refl _) o).trans (hg.mono (by simp))
/-- appended to a slice of bytes that is full, in a region that draws its order -/
theorem flow_app_full {w : World} {o : Oper} {ρ : Operand → Value} {s x : Operand} (ho : o.op = .call { callee := .builtin .append, args := #[s, x], argTypes := #[29, 29] })
    {B B2 : Nat} {A A2 : Option Addr} {k m c : Nat} {xs ys : List UInt8} (hs : ρ s = .slice A k k) (hx : ρ x = .slice A2 m c) (h1 : Bytes w B A k xs) (hB : B ≤ w.heap.size) (h2 : Bytes w B2 A2 m ys) (hk : k + m ≤ 1099511627776) :
    flowUpon Try.prog (fun u w' => Grow w w' ∧ IsBytes (xs ++ ys) u w') ((execOp ρ o).run Try.prog w) := by
  obtain ⟨v', w', hrun, hg, A', c', hv, hR, hc1, hc2⟩ := run_append_fresh u8E w o.type h1 hB (by unfold maxLen; omega) (Reads.none_zero h1) (c := c) h2 u8s_one (by omega)
  refine flowUpon_value (u := v') (w := w') ?_ ⟨hg, A', k + m, c', hv, by unfold Bytes; rw [u8s_append]; exact hR, hc1, hc2⟩
  unfold execOp
  simp only [ho, resolve, invoke, builtin, Sem.run_bind, Sem.run_pure, Result.andThen_ok, List.map_toArray, List.map_cons, List.map_nil, hs, hx, hrun]
theorem open_bxs_at {H : Type} {enc : TypeId × Value → H} {w : World} {fuel : Nat} {v : Value} {x : DataW H × List MemPlace} (h : DataW.trod enc Try.prog w 0 (fun _ => true) true fuel 22 [v] = some x) :
    ∃ (A : Option Addr) (n cap : Nat) (q : List Bx), v = .slice A n cap ∧ Bxs w (fun b => b < w.heap.size) (fun b => b < w.heap.size) A n q ∧ n ≤ cap ∧ cap ≤ maxLen ∧ n ≤ Rows.uptoBulk x.1 := by
  rcases open_slice Try.underlying22 h with ⟨hcs, hx⟩ | ⟨a, len, cap, m, n, D, Pl, hcs, _, hl, hm, hmm, hx, hi⟩
  · injection hcs with hv
    exact ⟨none, 0, 0, [], hv, ⟨In.nil, by simp⟩, Nat.le_refl _, Nat.zero_le _, Nat.zero_le _⟩
  · injection hcs with hv
    have hmc : m = cap := by simpa using hmm
    subst hmc
    have hq : ∃ q : List Bx, q.length = len ∧ ∀ i (h : i < q.length), BxIn w (fun b => b < w.heap.size) q[i] ∧ ∀ r u, (Bx.cells q[i])[r]? = some u → w.cell? (a.add (i * 1 + r)) = some u := by
      refine list_of (p := fun i b => BxIn w (fun b => b < w.heap.size) b ∧ ∀ r u, (Bx.cells b)[r]? = some u → w.cell? (a.add (i * 1 + r)) = some u) len fun i hin => ?_
      obtain ⟨cs', hc, htr⟩ := hi i (by omega)
      obtain ⟨_, _, hat⟩ := World.cells?_some hc
      have hcel : Try.prog.cellsOf 29 = 1 := by kernel_rfl
      have hcs' : ∃ v', cs' = [v'] := by
        rcases open_slice Try.underlying29 htr with ⟨h1, _⟩ | ⟨_, _, _, _, _, _, _, h1, _⟩
        · exact ⟨_, h1⟩
        · exact ⟨_, h1⟩
      obtain ⟨v', rfl⟩ := hcs'
      obtain ⟨A', n', c', l', rfl, hb, hnc, hcm, _⟩ := open_bytes_at Try.underlying29 Try.underlying5 (show Try.prog.cellsOf 5 = 1 by kernel_rfl) htr
      refine ⟨⟨A', n', c', l'⟩, ⟨Reads.in_ hb (Nat.le_refl _) fun _ h => h, hnc, hcm⟩, fun r u hu => ?_⟩
      rcases r with _ | r
      · simp only [Bx.cells, List.getElem?_cons_zero, Option.some.injEq] at hu
        have := hat 0 (by rw [hcel]; omega)
        rw [Go.Hop.add_add, hcel, List.getElem?_cons_zero] at this
        rw [this, hu]
      · simp [Bx.cells] at hu
    obtain ⟨q, hql, hq⟩ := hq
    have hbulk : len ≤ Rows.uptoBulk x.1 := by
      have h0 := bulks.slice_le ((List.range len).map D) ((List.range (m - len)).map fun j => D (len + j))
      rw [hx]
      simp only [List.length_map, List.length_range] at h0 ⊢
      omega
    refine ⟨some a, len, m, q, hv, ⟨?_, fun b hb => ?_⟩, hl, hm, hbulk⟩
    · subst hql
      refine Reads.in_ (B := w.heap.size) (reads_flat Bx.cells 1 (by omega) bx_len q (fun h0 => ?_) (fun i h r u hu => (hq i h).2 r u hu)) (Nat.le_refl _) fun _ h => h
      have := World.block_lt_of_cell? w _ ((hq 0 h0).2 0 _ rfl)
      rwa [Go.Hop.block_add] at this
    · obtain ⟨i, hi, rfl⟩ := List.mem_iff_getElem.1 hb
      exact (hq i hi).1
theorem open_bxs {H : Type} {enc : TypeId × Value → H} {w : World} {v : Value} {d : DataW H} {p : List MemPlace} {r : Reach} {b0 : Nat} (hv : Value.okWide Try.prog w r b0 22 v) (h : DataW.Trod enc Try.prog w 0 (fun _ => true) true 22 v d p) :
    ∃ (A : Option Addr) (n cap : Nat) (q : List Bx), v = .slice A n cap ∧ Bxs w (fun b => b < w.heap.size) (fun b => b < w.heap.size) A n q ∧ n ≤ cap ∧ cap ≤ maxLen ∧ n ≤ Rows.uptoBulk d := by
  obtain ⟨A, n, cap, rfl⟩ := okWide_slice Try.underlying22 hv
  obtain ⟨fuel, hf⟩ := h
  exact open_bxs_at hf
end Go.Proofs.Ytdpcokekilklfaa
