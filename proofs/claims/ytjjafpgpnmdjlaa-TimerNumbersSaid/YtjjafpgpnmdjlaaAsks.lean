/- Rows of asks; both timers at once. -/
import Derived.Test.YtjjafpgpnmdjlaaPset
import Derived.Test.YtjjafpgpnmdjlaaWt
import Derived.BigQuiet
namespace Go.Proofs.Ytjjafpgpnmdjlaa
open Go.RowKit Go.Hop
structure Ask where
  kind : Int
  key : Int
  at_ : Int
def Ask.cells (a : Ask) : List Value := [.int .i64 a.kind, .int .i64 a.key, .int .i64 a.at_]
theorem ask_len (a : Ask) : a.cells.length = 3 := rfl
theorem ask_one (a : Ask) : ∀ u ∈ a.cells, u.oneCell' = true := by
  intro u hu
  simp only [Ask.cells, List.mem_cons, List.not_mem_nil, or_false] at hu
  rcases hu with rfl | rfl | rfl <;> rfl
def AskOk (a : Ask) : Prop := in64 a.kind ∧ in64 a.key ∧ in64 a.at_
theorem ask_info : (Try.prog.info? 24).map (fun i => (i.zero, i.size, i.bytes)) = some (some (.agg #[.int .i64 0, .int .i64 0, .int .i64 0]), 3, 24) := by kernel_rfl
theorem askE : Elem Try.prog 22 24 3 24 (.agg #[.int .i64 0, .int .i64 0, .int .i64 0]) := ⟨Try.underlying22, info_parts ask_info, rfl, by decide, by decide⟩
structure Asks (w : World) (V : Nat → Prop) (A : Option Addr) (n : Nat) (q : List Ask) : Prop where
  row : In w V 3 A n (q.flatMap Ask.cells)
  all : ∀ a ∈ q, AskOk a
theorem Asks.len {w : World} {V : Nat → Prop} {A : Option Addr} {n : Nat} {q : List Ask} (h : Asks w V A n q) : q.length = n := by
  have := h.row.1; rw [flat_length Ask.cells 3 ask_len] at this; omega
theorem Asks.grow {w w' : World} {V : Nat → Prop} {A : Option Addr} {n : Nat} {q : List Ask} (h : Asks w V A n q) (hg : Grow w w') : Asks w' V A n q := ⟨h.row.grow hg, h.all⟩
section
variable {P : Nat → Prop} {S S' R R' : Thing} {w w' : World}
/-- a line of the function's own that turns the second object alone -/
theorem Duo.rline (h : Duo P S R w) (hS : Framed S) (hl : ∀ U : Nat → Prop, R w U → (∀ b, U b → b < w.heap.size) → R' w' (Ext U w w') ∧ Just U w w') : Just P w w' ∧ Duo P S R' w' := by
  obtain ⟨h0, V, U, h1, h2, h3, h4, h5⟩ := h
  obtain ⟨hs, hj⟩ := hl U h2 fun b hb => (h5 b hb).2
  refine ⟨hj.imp fun k hk => (h5 k hk).1, fun b hb => h0 b (Nat.le_trans hj.size hb), V, Ext U w w', hS w w' V h1 (fun b hb => hj.block b (h4 b hb).2 (fun hu => h3 b hb hu)), hs, fun b hb hu => ?_, fun b hb => ⟨(h4 b hb).1, Nat.lt_of_lt_of_le (h4 b hb).2 hj.size⟩, ext_lt h5 h0 hj.size⟩
  rcases hu with hu | ⟨hu, _⟩
  · exact h3 b hb hu
  · have := (h4 b hb).2; omega
theorem due_duo {t : Nat} {L : List It} (now : Int) (h : Duo P (TimersAt t L) R w) (hR : Framed R) :
    Calls Try.prog 12 #[.pointer (some ⟨t, 0, none⟩), .int .i64 now] w fun e w' => ∃ A c, e = .returned (.slice A (due now L).length c) ∧ Own w' (New w w') 36 2 (.slice A (due now L).length c) (due now L).length ((due now L).flatMap itc) ∧ Just P w w' ∧ Duo P (TimersAt t (late now L)) R w' := by
  obtain ⟨h0, V, U, h1, h2, h3, h4, h5⟩ := h
  refine (Due_any w t L now V h1 (fun b hb => (h4 b hb).2) h1.facts.2.2.1).mono ?_
  rintro e w' ⟨A, c, he, hO, hT, hj⟩
  refine ⟨A, c, he, hO, hj.imp fun b hb => (h4 b hb).1, fun b hb => h0 b (Nat.le_trans hj.size hb), Ext V w w', U, hT, hR w w' U h2 (fun b hb => hj.block b (h5 b hb).2 (fun hv => h3 b hv hb)), fun b hb hu => ?_, ext_lt h4 h0 hj.size, fun b hb => ⟨(h5 b hb).1, Nat.lt_of_lt_of_le (h5 b hb).2 hj.size⟩⟩
  rcases hb with hb | ⟨hb, _⟩
  · exact h3 b hb hu
  · have := (h5 b hu).2; omega
end
theorem tLen_n {w : World} {t : Nat} {L : List It} {V : Nat → Prop} (h : TimersAt t L w V) {z : Int} (hz : (L.length : Int) = z) : Calls Try.prog 13 #[.pointer (some ⟨t, 0, none⟩)] w fun e w' => e = .returned (.int .i64 z) ∧ w = w' := hz ▸ tLen_any w t L V h
theorem due_cut {now : Int} {L : List It} {k : Nat} (hk : k ≤ L.length) (h1 : ∀ q, q < k → (hat L q).1 ≤ now) (h2 : k < L.length → now < (hat L k).1) : due now L = L.take k ∧ late now L = L.drop k := by
  have := due_at (now := now) (L.take k) (L.drop k) (fun a ha => by
    obtain ⟨i, hi, rfl⟩ := List.mem_iff_getElem.1 ha
    rw [List.length_take] at hi
    rw [List.getElem_take, ← hat_get (by omega)]
    exact h1 i (by omega)) fun a l e => by
      have hlt : k < L.length := by
        have := congrArg List.length e
        rw [List.length_drop, List.length_cons] at this
        omega
      have := h2 hlt
      rw [hat_get hlt] at this
      rw [List.drop_eq_getElem_cons hlt] at e
      injection e with e _
      rw [← e]
      omega
  rwa [List.take_append_drop] at this
theorem hat_take9 {L : List It} {k j : Nat} (hj : j < k) (hk : k ≤ L.length) : hat (L.take k) j = hat L j := by
  rw [hat_get (by rw [List.length_take]; omega), hat_get (by omega), List.getElem_take]
end Go.Proofs.Ytjjafpgpnmdjlaa
