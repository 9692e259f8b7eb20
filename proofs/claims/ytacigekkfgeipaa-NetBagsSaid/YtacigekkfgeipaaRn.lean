/- What the answer's net is; what is sent on it. -/
import Derived.Test.YtacigekkfgeipaaSetn
namespace Go.Proofs.Ytacigekkfgeipaa
open Go.RowKit Go.Hop
def rcell (a : Lb) : List Value := [.int .i64 a.1, .int .i64 a.2.1, .string ⟨a.2.2.toArray⟩]
theorem rcell_len (a : Lb) : (rcell a).length = 3 := rfl
theorem rcell_one (a : Lb) : ∀ u ∈ rcell a, u.oneCell' = true := by
  intro u hu
  simp only [rcell, List.mem_cons, List.not_mem_nil, or_false] at hu
  rcases hu with rfl | rfl | rfl <;> rfl
theorem rcells_one (l : List Lb) : ∀ u ∈ l.flatMap rcell, u.oneCell' = true := by
  intro u hu
  obtain ⟨b, _, hb⟩ := List.mem_flatMap.1 hu
  exact rcell_one b u hb
theorem rletter_info : (Try.prog.info? 50).map (fun i => (i.zero, i.size, i.bytes)) = some (some (.agg #[.int .i64 0, .int .i64 0, .string .empty]), 3, 32) := by kernel_rfl
theorem rletterE : Elem Try.prog 44 50 3 32 (.agg #[.int .i64 0, .int .i64 0, .string .empty]) := ⟨Try.underlying44, info_parts rletter_info, rfl, by decide, by decide⟩
def RNetAt (g : Nat) (nodes : Int) (l : List Lb) (P : Nat → Bool) : Thing := fun w U =>
  U g ∧ ∃ (A : Option Addr) (c : Nat) (D : Nat → Prop), l.length ≤ 64 ∧ (1 ≤ nodes ∧ nodes ≤ 8) ∧ (∀ a ∈ l, InN nodes a) ∧ Blk w g 48 (netc nodes (.slice A l.length c) P) ∧ In w D 3 A l.length (l.flatMap rcell) ∧ l.length ≤ c ∧ c ≤ maxLen ∧ (∀ b, D b → U b ∧ b ≠ g)
theorem RNetAt.framed (g : Nat) (nodes : Int) (l : List Lb) (P : Nat → Bool) : Framed (RNetAt g nodes l P) := fun w w' V h hk => by
  obtain ⟨h1, A, c, D, h2, hN, hi, h3, h4, h5, h6, h7⟩ := h
  exact ⟨h1, A, c, D, h2, hN, hi, (hk g h1).trans h3, h4.keep fun b hb _ => hk b (h7 b hb).1, h5, h6, h7⟩
theorem RNetAt.wide {g : Nat} {nodes : Int} {l : List Lb} {P : Nat → Bool} {w : World} {V V' : Nat → Prop} (h : RNetAt g nodes l P w V) (hV : ∀ b, V b → V' b) : RNetAt g nodes l P w V' := by
  obtain ⟨h1, A, c, D, h2, hN, hi, h3, h4, h5, h6, h7⟩ := h
  exact ⟨hV g h1, A, c, D, h2, hN, hi, h3, h4, h5, h6, fun b hb => ⟨hV b (h7 b hb).1, (h7 b hb).2⟩⟩
theorem rin_any (w : World) (g : Nat) (nodes i : Int) (v : Value) (P : Nat → Bool) (hB : Blk w g 48 (netc nodes v P)) :
    Calls Try.prog 30 #[.pointer (some ⟨g, 0, none⟩), .int .i64 i] w fun e w' => e = .returned (.bool (nodeB nodes i)) ∧ w = w' := by
  have c0 : w.cell? ⟨g, 0, none⟩ = some (.int .i64 nodes) := hB.cell 0
  unfold nodeB
  by_cases h : 0 ≤ i
  · go_enter Try.func30, Try.ntmps30
    go_wp2_with fail
    go_ret
    exact ⟨ret_bool (by rw [decide_eq_true h]; simp), rfl⟩
  · go_enter Try.func30, Try.ntmps30
    go_wp2_with fail
    go_ret
    exact ⟨ret_bool (by rw [decide_eq_false (p := 0 ≤ i) (by omega)]; rfl), rfl⟩
/-- a row of one letter is laid -/
theorem rrow_made {w : World} {a : Lb} {ρ : Operand → Value} {o : Oper} {x : Operand} (h1 : ρ x = .agg #[.int .i64 a.1, .int .i64 a.2.1, .string ⟨a.2.2.toArray⟩]) (ho : o.op = .buildSlice 44 1 #[(0, x)]) :
    flowUpon Try.prog (fun v w' => Grow w w' ∧ ReadF 3 1 (rcell a) v w') ((execOp ρ o).run Try.prog w) := by
  obtain ⟨dst, op, ty, pos, after, guard⟩ := o
  simp only at ho
  subst ho
  have hg : Grow w (w.alloc (.cells #[.int .i64 a.1, .int .i64 a.2.1, .string ⟨a.2.2.toArray⟩] 50)) := (Below.refl _ w).alloc (Nat.le_refl _) _
  refine flowUpon_value (u := .slice (some ⟨w.heap.size, 0, none⟩) 1 1) (w := w.alloc (.cells #[.int .i64 a.1, .int .i64 a.2.1, .string ⟨a.2.2.toArray⟩] 50)) (by go_simp) ⟨hg, some ⟨w.heap.size, 0, none⟩, 1, rfl, ?_⟩
  exact Reads.more (reads_laid w #[.int .i64 a.1, .int .i64 a.2.1, .string ⟨a.2.2.toArray⟩] 50 (0, 0) (n := 1) (size := 3) rfl _ rfl) (by simp)
end Go.Proofs.Ytacigekkfgeipaa
