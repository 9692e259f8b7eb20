/- Rows of asks, as they came in or were made; what the batches' contracts say of values. -/
import Derived.Test.YtnlfkeajolfboaaBcs
namespace Go.Proofs.Ytnlfkeajolfboaa
open Go.RowKit Go.Hop
structure Ask where
  kind : Int
  seq : Int
  A : Option Addr
  m : Nat
  c : Nat
  ds : List Dl
def Ask.cells (a : Ask) : List Value := [.int .i64 a.kind, .int .i64 a.seq, .slice a.A a.m a.c]
theorem ask_len (a : Ask) : a.cells.length = 3 := rfl
theorem ask_one (a : Ask) : ∀ u ∈ a.cells, u.oneCell' = true := by
  intro u hu
  simp only [Ask.cells, List.mem_cons, List.not_mem_nil, or_false] at hu
  rcases hu with rfl | rfl | rfl <;> rfl
def I64 (n : Int) : Prop := -9223372036854775808 ≤ n ∧ n ≤ 9223372036854775807
structure AskIn (w : World) (D : Nat → Prop) (a : Ask) : Prop where
  ds : DIn w D a.A a.m a.ds
  le : a.m ≤ a.c
  max : a.c ≤ maxLen
  kind : I64 a.kind
  seq : I64 a.seq
theorem AskIn.keep {w w' : World} {D : Nat → Prop} {a : Ask} (h : AskIn w D a) (hk : ∀ b, D b → b < w.heap.size → w'.heap[b]? = w.heap[b]?) : AskIn w' D a := ⟨In.keep h.ds hk, h.le, h.max, h.kind, h.seq⟩
theorem AskIn.grow {w w' : World} {D : Nat → Prop} {a : Ask} (h : AskIn w D a) (hg : Grow w w') : AskIn w' D a := h.keep fun b _ hb => hg.block b hb
theorem AskIn.just {w w' : World} {D U : Nat → Prop} {a : Ask} (h : AskIn w D a) (hj : Just U w w') (hd : ∀ b, D b → ¬ U b) : AskIn w' D a := h.keep fun b hv hb => hj.block b hb (hd b hv)
theorem AskIn.mono {w : World} {D D' : Nat → Prop} {a : Ask} (h : AskIn w D a) (hD : ∀ b, D b → D' b) : AskIn w D' a := ⟨In.mono h.ds hD, h.le, h.max, h.kind, h.seq⟩
structure Asks (w : World) (V D : Nat → Prop) (A : Option Addr) (n : Nat) (q : List Ask) : Prop where
  row : In w V 3 A n (q.flatMap Ask.cells)
  all : ∀ a ∈ q, AskIn w D a
theorem Asks.len {w : World} {V D : Nat → Prop} {A : Option Addr} {n : Nat} {q : List Ask} (h : Asks w V D A n q) : q.length = n := by
  have := h.row.1; rw [flat_length Ask.cells 3 ask_len] at this; omega
theorem Asks.just {w w' : World} {V D U : Nat → Prop} {A : Option Addr} {n : Nat} {q : List Ask} (h : Asks w V D A n q) (hj : Just U w w') (hV : ∀ b, V b → ¬ U b) (hD : ∀ b, D b → ¬ U b) : Asks w' V D A n q := ⟨h.row.just hj hV, fun a ha => (h.all a ha).just hj hD⟩
theorem Asks.grow {w w' : World} {V D : Nat → Prop} {A : Option Addr} {n : Nat} {q : List Ask} (h : Asks w V D A n q) (hg : Grow w w') : Asks w' V D A n q := ⟨h.row.grow hg, fun a ha => (h.all a ha).grow hg⟩
def IsPBats (l : List Ab) (u : Value) (w : World) : Prop := ∃ (A : Option Addr) (n c : Nat) (ps : List PB), u = .slice A n c ∧ PBats w (fun _ => True) A n ps ∧ ps.map PB.abs = l
theorem isBats_lasting (l : List Ab) : Lasting (IsBats l) := fun _ _ _ h hg => h.grow hg
theorem isPBats_lasting (l : List Ab) : Lasting (IsPBats l) := fun _ _ _ ⟨A, n, c, ps, e, h1, h2⟩ hg => ⟨A, n, c, ps, e, h1.grow hg, h2⟩
theorem batches_is (w : World) (l : List Ab) (u u' : Value) (h : IsBats l u w) (h' : IsPBats l u' w) (hl : l.length ≤ 1024) : Calls Try.prog 23 #[u, u'] w fun e w' => e = .returned (.bool true) ∧ Grow w w' := by
  obtain ⟨A, n, c, q, rfl, h1, h2, _⟩ := h
  obtain ⟨A', n', c', ps, rfl, h3, h4⟩ := h'
  exact batches_any w _ _ _ A A' n c n' c' q ps h1 h3 (h2.trans h4.symm) (by have := h1.len; rw [← h2, List.length_map] at hl; omega)
theorem All_is (w : World) (g : Nat) (l : List Ab) (last : Int) (V : Nat → Prop) (hQ : QueueAt g l last w V) :
    Calls Try.prog 15 #[.pointer (some ⟨g, 0, none⟩)] w fun e w' => ∃ u, e = .returned u ∧ Grow w w' ∧ IsBats l u w' :=
  (All_any w g l last V hQ).mono fun _ _ ⟨A', q', he, h1, h2, hg⟩ => ⟨_, he, hg, A', _, _, q', rfl, h1.mono (fun _ _ => trivial) (fun _ _ => trivial), h2, Nat.le_refl _⟩
theorem Flight_is (w : World) (g : Nat) (l : List Ab) (last : Int) (V : Nat → Prop) (hQ : QueueAt g l last w V) :
    Calls Try.prog 16 #[.pointer (some ⟨g, 0, none⟩)] w fun e w' => ∃ u, e = .returned u ∧ Grow w w' ∧ IsBats (l.take 4) u w' :=
  (Flight_any w g l last V hQ).mono fun _ _ ⟨A', q', he, h1, h2, hg⟩ => ⟨_, he, hg, A', _, _, q', rfl, h1.mono (fun _ _ => trivial) (fun _ _ => trivial), h2, Nat.le_refl _⟩
theorem rFlight_is (w : World) (g : Nat) (l : List Ab) (last : Int) (V : Nat → Prop) (hQ : RQAt g l last w V) :
    Calls Try.prog 24 #[.pointer (some ⟨g, 0, none⟩)] w fun e w' => ∃ u, e = .returned u ∧ Grow w w' ∧ IsPBats (l.take 4) u w' :=
  (rFlight_any w g l last V hQ).mono fun _ _ ⟨A', n', c', ps', he, h1, h2, hg⟩ => ⟨_, he, hg, A', n', c', ps', rfl, ⟨h1.row.mono fun _ _ => trivial, fun x hx => (h1.all x hx).mono fun _ _ => trivial⟩, h2⟩
end Go.Proofs.Ytnlfkeajolfboaa
