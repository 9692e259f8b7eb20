/- Rows of asks, as they came in or were made. -/
import Derived.Test.YtacigekkfgeipaaKnown
namespace Go.Proofs.Ytacigekkfgeipaa
open Go.RowKit Go.Hop
structure Ask where
  kind : Int
  a : Int
  b : Int
  i : Int
  A : Option Addr
  m : Nat
  c : Nat
  bs : List UInt8
def Ask.cells (a : Ask) : List Value := [.int .i64 a.kind, .int .i64 a.a, .int .i64 a.b, .int .i64 a.i, .slice a.A a.m a.c]
theorem ask_len (a : Ask) : a.cells.length = 5 := rfl
theorem ask_one (a : Ask) : ∀ u ∈ a.cells, u.oneCell' = true := by
  intro u hu
  simp only [Ask.cells, List.mem_cons, List.not_mem_nil, or_false] at hu
  rcases hu with rfl | rfl | rfl | rfl | rfl <;> rfl
def I64 (n : Int) : Prop := -9223372036854775808 ≤ n ∧ n ≤ 9223372036854775807
structure AskIn (w : World) (D : Nat → Prop) (a : Ask) : Prop where
  bs : BIn w D a.A a.m a.bs
  le : a.m ≤ a.c
  max : a.c ≤ maxLen
  small : a.m ≤ 1048576
  kind : I64 a.kind
  ia : I64 a.a
  ib : I64 a.b
  ii : I64 a.i
theorem AskIn.keep {w w' : World} {D : Nat → Prop} {a : Ask} (h : AskIn w D a) (hk : ∀ b, D b → b < w.heap.size → w'.heap[b]? = w.heap[b]?) : AskIn w' D a := ⟨In.keep h.bs hk, h.le, h.max, h.small, h.kind, h.ia, h.ib, h.ii⟩
theorem AskIn.grow {w w' : World} {D : Nat → Prop} {a : Ask} (h : AskIn w D a) (hg : Grow w w') : AskIn w' D a := h.keep fun b _ hb => hg.block b hb
theorem AskIn.just {w w' : World} {D U : Nat → Prop} {a : Ask} (h : AskIn w D a) (hj : Just U w w') (hd : ∀ b, D b → ¬ U b) : AskIn w' D a := h.keep fun b hv hb => hj.block b hb (hd b hv)
theorem AskIn.mono {w : World} {D D' : Nat → Prop} {a : Ask} (h : AskIn w D a) (hD : ∀ b, D b → D' b) : AskIn w D' a := ⟨In.mono h.bs hD, h.le, h.max, h.small, h.kind, h.ia, h.ib, h.ii⟩
structure Asks (w : World) (V D : Nat → Prop) (A : Option Addr) (n : Nat) (q : List Ask) : Prop where
  row : In w V 5 A n (q.flatMap Ask.cells)
  all : ∀ a ∈ q, AskIn w D a
theorem Asks.len {w : World} {V D : Nat → Prop} {A : Option Addr} {n : Nat} {q : List Ask} (h : Asks w V D A n q) : q.length = n := by
  have := h.row.1; rw [flat_length Ask.cells 5 ask_len] at this; omega
theorem Asks.just {w w' : World} {V D U : Nat → Prop} {A : Option Addr} {n : Nat} {q : List Ask} (h : Asks w V D A n q) (hj : Just U w w') (hV : ∀ b, V b → ¬ U b) (hD : ∀ b, D b → ¬ U b) : Asks w' V D A n q := ⟨h.row.just hj hV, fun a ha => (h.all a ha).just hj hD⟩
theorem Asks.grow {w w' : World} {V D : Nat → Prop} {A : Option Addr} {n : Nat} {q : List Ask} (h : Asks w V D A n q) (hg : Grow w w') : Asks w' V D A n q := ⟨h.row.grow hg, fun a ha => (h.all a ha).grow hg⟩
theorem rnet_info : (Try.prog.info? 48).map (fun i => (i.zero, i.size, i.bytes)) = some (some (.agg (netc 0 (.slice none 0 0) (fun _ => false))), 66, 96) := by kernel_rfl
theorem rnet_zero (w : World) : (zeroValue 48).run Try.prog w = .ok (.agg (netc 0 (.slice none 0 0) (fun _ => false))) w := by
  obtain ⟨i, hi, hz, _, _⟩ := info_parts rnet_info
  simp [zeroValue, typeInfo, hi, hz]
/-- from B on, but three blocks -/
def Off3 (B x b : Nat) : Prop := B ≤ b ∧ b ≠ x ∧ b ≠ x + 1 ∧ b ≠ x + 2
end Go.Proofs.Ytacigekkfgeipaa
