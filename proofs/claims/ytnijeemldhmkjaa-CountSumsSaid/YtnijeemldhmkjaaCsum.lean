/- Sums in memory; New, Get; a sum that does not run over. -/
import Derived.Test.YtnijeemldhmkjaaCplain
import Derived.Test.YtnijeemldhmkjaaSmap
namespace Go.Proofs.Ytnijeemldhmkjaa
open Go.RowKit Go.Hop
theorem smT : SMapTy Try.prog 43 9 32 .u64 := ⟨Try.underlying43, Try.underlying9, Try.underlying32, fun w => by kernel_rfl⟩
def M64 : Nat := 18446744073709551615
/-- what a map of q tells -/
def fq (q : Sm) (x : ByteArray) : Option Int := (lk q x).map fun v => (v : Int)
theorem fq_get (q : Sm) (x : ByteArray) : (fq q x).getD 0 = ((gt q x : Nat) : Int) := by
  unfold fq gt
  cases lk q x <;> rfl
theorem fq_some (q : Sm) (x : ByteArray) : (fq q x).isSome = (lk q x).isSome := by
  unfold fq
  cases lk q x <;> rfl
theorem fq_put (q : Sm) (x : ByteArray) (v : Nat) : (fun y => if y = x then some (v : Int) else fq q y) = fq (put q x v) := by
  funext y
  unfold fq
  rw [lk_put q]
  split <;> rfl
/-- what may be: sorted, numbers and texts within bounds -/
structure Right (q : Sm) : Prop where
  srt : Srt q
  num : ∀ d ∈ q, d.2 ≤ M64
  txt : ∀ d ∈ q, d.1.size ≤ maxLen
theorem Right.gt {q : Sm} (h : Right q) (x : ByteArray) : gt q x ≤ M64 := by
  unfold Proofs.Ytnijeemldhmkjaa.gt
  cases hx : lk q x with
  | none => exact Nat.zero_le _
  | some v => exact h.num _ (lk_mem hx)
theorem Right.put {q : Sm} (h : Right q) {x : ByteArray} {v : Nat} (hx : x.size ≤ maxLen) (hv : v ≤ M64) : Right (put q x v) := by
  refine ⟨put_srt h.srt x v, fun d hd => ?_, fun d hd => ?_⟩
  · have := srt_lk (put_srt h.srt x v) hd
    rw [lk_put q] at this
    split at this
    · injection this with this; rw [← this]; exact hv
    · exact h.num _ (lk_mem this)
  · have := srt_lk (put_srt h.srt x v) hd
    rw [lk_put q] at this
    split at this
    · rename_i e; rw [e]; exact hx
    · exact h.txt _ (lk_mem this)
theorem right_nil : Right [] := ⟨List.Pairwise.nil, by simp, by simp⟩
/-- a map that holds q -/
def MapQ (w : World) (b : Nat) (q : Sm) : Prop := SMap Try.prog 9 32 .u64 w b q.length (fq q)
/-- sums: their block, their map's -/
def SumsAt (s : Nat) (q : Sm) : Thing := fun w V => V s ∧ Right q ∧ ∃ b, V b ∧ b ≠ s ∧ Blk w s 45 #[.map (some b)] ∧ MapQ w b q
theorem SumsAt.framed (s : Nat) (q : Sm) : Framed (SumsAt s q) := fun w w' V h hk => by
  obtain ⟨h1, h2, b, h3, h4, h5, h6⟩ := h
  exact ⟨h1, h2, b, h3, h4, (hk s h1).trans h5, h6.keep (hk b h3)⟩
theorem SumsAt.wide {s : Nat} {q : Sm} {w : World} {V V' : Nat → Prop} (h : SumsAt s q w V) (hV : ∀ b, V b → V' b) : SumsAt s q w V' := by
  obtain ⟨h1, h2, b, h3, h4⟩ := h
  exact ⟨hV s h1, h2, b, hV b h3, h4⟩
theorem New_any (w : World) : Calls Try.prog 8 #[] w fun e w' => ∃ s, e = .returned (.pointer (some ⟨s, 0, none⟩)) ∧ SumsAt s [] w' (New w w') ∧ Grow w w' := by
  have hmm := @run_makeMap Try.prog
  go_enter Try.func8, Try.ntmps8
  go_wp2_with fail
  go_ret
  have hg1 : Grow w (w.alloc (.map #[] 0)) := (Below.refl _ w).alloc (Nat.le_refl _) _
  have hg2 : Grow (w.alloc (.map #[] 0)) ((w.alloc (.map #[] 0)).alloc (.cells #[.map (some w.heap.size)] 45)) := (Below.refl _ _).alloc (Nat.le_refl _) _
  refine ⟨_, rfl, ⟨⟨by simp, by simp⟩, right_nil, w.heap.size, ⟨Nat.le_refl _, by simp; omega⟩, by simp, ?_, ?_⟩, hg1.trans hg2⟩
  · have := Blk.made (w.alloc (.map #[] 0)) 45 #[.map (some w.heap.size)]
    rwa [alloc_size] at this
  · have := (SMap.made (P := Try.prog) (k := 9) (e := 32) (qe := .u64) w).grow hg2
    exact this.imp fun _ _ => rfl
theorem Get_any (w : World) (s : Nat) (q : Sm) (V : Nat → Prop) (h : SumsAt s q w V) (x : ByteArray) (hx : x.size ≤ maxLen) :
    Calls Try.prog 15 #[.pointer (some ⟨s, 0, none⟩), .string x] w fun e w' => e = .returned (.int .u64 ((gt q x : Nat) : Int)) ∧ w = w' := by
  obtain ⟨h1, h2, b, h3, h4, hB, hM⟩ := h
  have c0 := hB.cell 0
  have hl := SMap.look1 smT hM x hx
  rw [fq_get] at hl
  go_enter Try.func15, Try.ntmps15
  go_wp2_with fail
  go_ret
  exact ⟨rfl, rfl⟩
theorem eAdd_any (w : World) (a b : Nat) (ha : a ≤ M64) (hb : b ≤ M64) :
    Calls Try.prog 19 #[.int .u64 (a : Int), .int .u64 (b : Int)] w fun e w' => e = .returned (.int .u64 ((if a + b ≤ M64 then a + b else M64 : Nat) : Int)) ∧ w = w' := by
  unfold M64 at *
  have hs : IntKind.u64.wrap ((18446744073709551615 : Int) - (b : Int)) = ((18446744073709551615 - b : Nat) : Int) := by rw [IntKind.wrap_u64]; omega
  by_cases h : a + b ≤ 18446744073709551615
  · rw [if_pos h]
    have ha' : IntKind.u64.wrap ((a : Int) + (b : Int)) = ((a + b : Nat) : Int) := by rw [IntKind.wrap_u64]; omega
    have hd : decide (18446744073709551615 - b < a) = false := decide_eq_false (by omega)
    go_enter Try.func19, Try.ntmps19
    go_wp2_with fail
    go_ret
    exact ⟨rfl, rfl⟩
  · rw [if_neg h]
    have hd : decide (18446744073709551615 - b < a) = true := decide_eq_true (by omega)
    go_enter Try.func19, Try.ntmps19
    go_wp2_with fail
    go_ret
    exact ⟨rfl, rfl⟩
end Go.Proofs.Ytnijeemldhmkjaa
