/- Steps that the statements share. -/
import Derived.Test.YtdpcokekilklfaaWknown
namespace Go.Proofs.Ytdpcokekilklfaa
open Go.RowKit Go.Hop
theorem rec1 {q : List Bx} {w : World} {V : Nat → Prop} {A : Option Addr} {n : Nat} (h : In w V 1 A n (q.flatMap Bx.cells)) {k : Nat} (hk : k < n) :
    ∃ (ad : Addr) (hq : k < q.length), A = some ad ∧ ∀ w1, Grow w w1 → w1.cell? (ad.add k) = some (.slice q[k].A q[k].m q[k].c) := by
  obtain ⟨ad, hq, e, _, hb, e0, _⟩ := h.rec_ (by omega) bx_len hk
  rw [Nat.mul_one] at e0
  exact ⟨ad, hq, e, fun w1 hg => (hg.cell (by rw [block_add]; exact hb)).trans (e0 _ rfl)⟩
theorem append_solo {P : Nat → Prop} {w : World} {x d k m c M : Nat} {n : Int} {l b : List UInt8} {A : Option Addr} (h : Solo P (LogAt x d n l k) w) (hb : Bytes w w.heap.size A m b) (hM : M < 128) (hbl : b.length ≤ M) (hl : l.length ≤ 900000) (hn : 0 ≤ n ∧ n ≤ 1000) :
    Calls Try.prog 12 #[.pointer (some ⟨x, 0, none⟩), .slice A m c] w fun e w' => e = .returned (.int .i64 0) ∧ Just P w w' ∧ Solo P (LogAt x d (n + 1) (l ++ frame b) k) w' := by
  have hc := h.call (lAppend_any w x d n l k A m c b hb (by omega))
  obtain ⟨h1, h2⟩ := rec_ok (l := l) (b := b) (by omega) (by rw [frame_small (by omega)]; omega)
  rw [h1, if_pos rfl, h2] at hc
  exact hc
/-- the first M bytes of each -/
def trims (M : Nat) (q : List Bx) (N : Nat) : List (List UInt8) := (q.take N).map fun b => b.bs.take M
theorem trims_len {M N : Nat} {q : List Bx} (h : N ≤ q.length) : (trims M q N).length = N := by unfold trims; rw [List.length_map, List.length_take]; omega
theorem trims_le {M N : Nat} {q : List Bx} : ∀ x ∈ trims M q N, x.length ≤ M := fun x hx => by
  unfold trims at hx
  obtain ⟨b, _, rfl⟩ := List.mem_map.1 hx
  rw [List.length_take]; omega
theorem trims_at {M N j : Nat} {q : List Bx} (hj : j < N) (hq : j < q.length) : (trims M q N)[j]? = some (q[j].bs.take M) := by
  unfold trims
  rw [List.getElem?_map, List.getElem?_take_of_lt hj, List.getElem?_eq_getElem hq]; rfl
/-- the first j, as frames -/
def rows (xs : List (List UInt8)) (j : Nat) : List UInt8 := (xs.take j).flatMap frame
theorem rows_next {xs : List (List UInt8)} {j : Nat} {b : List UInt8} (h : xs[j]? = some b) : rows xs (j + 1) = rows xs j ++ frame b := by
  unfold rows
  obtain ⟨hj, e⟩ := List.getElem?_eq_some_iff.1 h
  rw [List.take_succ_eq_append_getElem hj, List.flatMap_append, List.flatMap_cons, List.flatMap_nil, List.append_nil, e]
theorem rows_zero {xs : List (List UInt8)} : rows xs 0 = [] := rfl
theorem rows_small {xs : List (List UInt8)} {M j : Nat} (hM : M < 128) (h : ∀ x ∈ xs, x.length ≤ M) (hj : j ≤ 1000) : (rows xs j).length ≤ 133000 := by
  unfold rows
  have h1 := frames_small (xs := xs.take j) hM fun x hx => h x (List.mem_of_mem_take hx)
  have h2 : (xs.take j).length ≤ 1000 := by rw [List.length_take]; omega
  have h3 : (M + 5) * (xs.take j).length ≤ 133 * 1000 := Nat.mul_le_mul (by omega) h2
  omega
theorem xs_at {xs : List (List UInt8)} {w0 w : World} {u : Value} (h : IsXs xs w0 u w) : ∃ (A : Option Addr) (c : Nat), u = .slice A xs.length c ∧ xs.length ≤ c ∧ c ≤ maxLen ∧ ∀ j x, xs[j]? = some x → ∃ (ad : Addr) (b : Bx), A = some ad ∧ b.bs = x ∧ ∀ w1, Grow w w1 → w1.cell? (ad.add j) = some (.slice b.A b.m b.c) ∧ Bytes w1 w1.heap.size b.A b.m x := by
  obtain ⟨A, c, q, rfl, hB, hq, h1, h2⟩ := h
  have hl : xs.length = q.length := by rw [← hq, List.length_map]
  refine ⟨A, c, by rw [hl], by omega, h2, fun j x hx => ?_⟩
  obtain ⟨hj, e⟩ := List.getElem?_eq_some_iff.1 hx
  obtain ⟨ad, hqj, rfl, hc⟩ := rec1 hB.row (k := j) (by omega)
  have hbs : q[j].bs = x := by
    have h3 : (q.map Bx.bs)[j]? = some q[j].bs := by rw [List.getElem?_map, List.getElem?_eq_getElem hqj]; rfl
    rw [hq, hx] at h3
    injection h3 with h3
    exact h3.symm
  refine ⟨ad, q[j], rfl, hbs, fun w1 hg => ⟨hc w1 hg, ?_⟩⟩
  rw [← hbs]
  exact ((hB.all _ (List.getElem_mem hqj)).grow hg).bytes
theorem trim_le {w : World} {B m M : Nat} {A : Option Addr} {l : List UInt8} (h : Bytes w B A m l) (hm : m ≤ M) : l.take M = l := List.take_of_length_le (by rw [h.len]; exact hm)
theorem trim_gt {w : World} {B m M : Nat} {A : Option Addr} {l : List UInt8} (h : Bytes w B A m l) (hm : M ≤ m) : Bytes w B A M (l.take M) := by
  have := Reads.take h (k := M) hm
  unfold Bytes
  rw [u8s_take]; exact this
end Go.Proofs.Ytdpcokekilklfaa
