/- What may be added, in plain words. -/
import Derived.Test.YtnijeemldhmkjaaCsum
namespace Go.Proofs.Ytnijeemldhmkjaa
open Go.RowKit Go.Hop
/-- all of l added -/
def add (q : Sm) (l : List Dl) : Sm := l.foldl (fun q d => put q d.1 (gt q d.1 + d.2)) q
theorem add_nil (q : Sm) : add q [] = q := rfl
theorem add_cons (q : Sm) (d : Dl) (l : List Dl) : add q (d :: l) = add (put q d.1 (gt q d.1 + d.2)) l := rfl
theorem add_append (q : Sm) (l m : List Dl) : add q (l ++ m) = add (add q l) m := List.foldl_append
theorem add_one (q : Sm) (l : List Dl) (d : Dl) : add q (l ++ [d]) = put (add q l) d.1 (gt (add q l) d.1 + d.2) := by rw [add_append]; rfl
/-- how much of x there is in l -/
def tot (l : List Dl) (x : ByteArray) : Nat := ((l.filter fun d => decide (d.1 = x)).map (·.2)).sum
theorem tot_nil (x : ByteArray) : tot [] x = 0 := rfl
theorem tot_cons (d : Dl) (l : List Dl) (x : ByteArray) : tot (d :: l) x = (if d.1 = x then d.2 else 0) + tot l x := by
  unfold tot
  by_cases h : d.1 = x <;> simp [h]
theorem gt_put (q : Sm) (x : ByteArray) (v : Nat) (y : ByteArray) : gt (put q x v) y = if y = x then v else gt q y := by
  unfold gt
  rw [lk_put]
  split <;> rfl
theorem gt_add (q : Sm) (l : List Dl) (x : ByteArray) : gt (add q l) x = gt q x + tot l x := by
  induction l generalizing q with
  | nil => rfl
  | cons d l ih =>
    rw [add_cons, ih, gt_put, tot_cons]
    by_cases h : x = d.1
    · rw [if_pos h, if_pos h.symm, h]; omega
    · rw [if_neg h, if_neg (fun e => h e.symm)]; omega
theorem lk_add (q : Sm) (l : List Dl) (x : ByteArray) : (lk (add q l) x).isSome = ((lk q x).isSome || l.any fun d => decide (d.1 = x)) := by
  induction l generalizing q with
  | nil => simp [add_nil]
  | cons d l ih =>
    rw [add_cons, ih, lk_put, List.any_cons]
    by_cases h : x = d.1
    · rw [if_pos h]; simp [h]
    · have hd : decide (d.1 = x) = false := decide_eq_false fun e => h e.symm
      rw [if_neg h, hd, Bool.false_or]
/-- does nothing run over, one behind the other -/
def okRun (q mo : Sm) : List Dl → Bool
  | [] => true
  | d :: l => decide (gt mo d.1 + d.2 + gt q d.1 ≤ M64) && okRun q (put mo d.1 (gt mo d.1 + d.2)) l
theorem okRun_append (q : Sm) (l : List Dl) (d : Dl) : ∀ mo, okRun q mo (l ++ [d]) = (okRun q mo l && decide (gt (add mo l) d.1 + d.2 + gt q d.1 ≤ M64)) := by
  induction l with
  | nil => intro mo; rw [List.nil_append, okRun, okRun, okRun, add_nil, Bool.and_true, Bool.true_and]
  | cons a l ih => intro mo; rw [List.cons_append, okRun, okRun, ih, add_cons, Bool.and_assoc]
theorem okRun_is (q : Sm) (l : List Dl) : ∀ mo, okRun q mo l = true ↔ ∀ d ∈ l, gt q d.1 + gt mo d.1 + tot l d.1 ≤ M64 := by
  induction l with
  | nil => intro mo; simp [okRun]
  | cons a l ih =>
    intro mo
    rw [okRun, Bool.and_eq_true, decide_eq_true_eq, ih]
    have key : ∀ x : ByteArray, gt (put mo a.1 (gt mo a.1 + a.2)) x + tot l x = gt mo x + tot (a :: l) x := fun x => by
      rw [gt_put, tot_cons]
      by_cases h : x = a.1
      · rw [if_pos h, if_pos h.symm, h]; omega
      · rw [if_neg h, if_neg (fun e => h e.symm)]; omega
    constructor
    · rintro ⟨h1, h2⟩ d hd
      rcases List.mem_cons.1 hd with rfl | hd
      · by_cases he : ∃ e ∈ l, e.1 = d.1
        · obtain ⟨e, he, hed⟩ := he
          have := h2 e he
          rw [hed] at this
          have := key d.1
          omega
        · have h0 : tot l d.1 = 0 := by
            unfold tot
            have : l.filter (fun e => decide (e.1 = d.1)) = [] := List.filter_eq_nil_iff.2 fun e hel h => he ⟨e, hel, of_decide_eq_true h⟩
            rw [this]; rfl
          rw [tot_cons, if_pos rfl, h0]; omega
      · have := h2 d hd
        have := key d.1
        omega
    · intro h
      refine ⟨?_, fun d hd => ?_⟩
      · have := h a List.mem_cons_self
        rw [tot_cons, if_pos rfl] at this
        omega
      · have := h d (List.mem_cons_of_mem _ hd)
        have := key d.1
        omega
theorem okRun_le {q mo : Sm} {l : List Dl} : okRun q mo l = true → (∀ x, gt mo x ≤ M64) → ∀ x, gt (add mo l) x ≤ M64 := by
  induction l generalizing mo with
  | nil => intro _ h; exact h
  | cons a l ih =>
    intro h hm
    rw [okRun, Bool.and_eq_true, decide_eq_true_eq] at h
    rw [add_cons]
    refine ih h.2 fun x => ?_
    rw [gt_put]
    split
    · omega
    · exact hm x
theorem right_add {q : Sm} {l : List Dl} : Right q → (∀ d ∈ l, d.1.size ≤ maxLen) → (∀ k, k ≤ l.length → ∀ x, gt (add q (l.take k)) x ≤ M64) → Right (add q l) := by
  induction l generalizing q with
  | nil => intro h _ _; exact h
  | cons a l ih =>
    intro h ht hm
    rw [add_cons]
    have h1 := hm 1 (by simp) a.1
    rw [List.take_succ_cons, List.take_zero, add_cons, add_nil, gt_put, if_pos rfl] at h1
    refine ih (h.put (ht a List.mem_cons_self) h1) (fun d hd => ht d (List.mem_cons_of_mem _ hd)) fun k hk x => ?_
    have := hm (k + 1) (by simp; omega) x
    rwa [List.take_succ_cons, add_cons] at this
theorem add_len : ∀ (l : List Dl) (q : Sm), (add q l).length ≤ q.length + l.length := by
  intro l
  induction l with
  | nil => intro q; exact Nat.le_refl _
  | cons a l ih =>
    intro q
    have h1 := ih (put q a.1 (gt q a.1 + a.2))
    have h2 := put_length q a.1 (gt q a.1 + a.2)
    rw [add_cons, List.length_cons]
    split at h2 <;> omega
/-- how many are new -/
def news (q mo : Sm) : Nat := (mo.filter fun d => (lk q d.1).isNone).length
/-- what is answered -/
def mayE (q : Sm) (l : List Dl) : Int := if okRun q [] l then (if q.length + news q (add [] l) > 16 then 24 else 0) else 25
theorem okRun_take {q mo : Sm} {l : List Dl} (h : okRun q mo l = true) (k : Nat) : okRun q mo (l.take k) = true := by
  induction l generalizing mo k with
  | nil => simp [okRun]
  | cons a l ih =>
    cases k with
    | zero => rfl
    | succ k =>
      rw [okRun, Bool.and_eq_true] at h
      rw [List.take_succ_cons, okRun, Bool.and_eq_true]
      exact ⟨h.1, ih h.2 k⟩
theorem right_more {q : Sm} {l : List Dl} (ht : ∀ d ∈ l, d.1.size ≤ maxLen) (h : okRun q [] l = true) : Right (add [] l) :=
  right_add right_nil ht fun k _ => okRun_le (okRun_take h k) fun x => Nat.zero_le _
/-- a prefix that runs over: all does -/
theorem okRun_stop {q : Sm} {l : List Dl} {k : Nat} (hk : k < l.length) (h : M64 < gt (add [] (l.take k)) l[k].1 + l[k].2 + gt q l[k].1) : okRun q [] l = false := by
  cases ho : okRun q [] l with
  | false => rfl
  | true =>
    have := okRun_take ho (k + 1)
    rw [List.take_succ_eq_append_getElem hk, okRun_append, Bool.and_eq_true, decide_eq_true_eq] at this
    omega
/-- counting those of a sorted list that are no longer to come -/
theorem count_step {mo : Sm} (hs : Srt mo) {p : Dl → Bool} {left : ByteArray → Bool} {x : ByteArray} {v : Nat} (hx : lk mo x = some v) (hl : left x = true) :
    (mo.filter fun d => p d && !(left d.1 && decide (d.1 ≠ x))).length = (mo.filter fun d => p d && !left d.1).length + (if p (x, v) then 1 else 0) := by
  induction mo with
  | nil => cases hx
  | cons a mo ih =>
    have hs' := List.pairwise_cons.1 hs
    rw [lk_cons] at hx
    by_cases ha : a.1 = x
    · rw [if_pos ha] at hx
      injection hx with hx
      have hax : a = (x, v) := Prod.ext ha hx
      have hrest : (mo.filter fun d => p d && !(left d.1 && decide (d.1 ≠ x))) = mo.filter fun d => p d && !left d.1 := by
        refine List.filter_congr fun d hd => ?_
        have hne : d.1 ≠ x := fun e => by
          have := hs'.1 d hd
          rw [e, ha, slt_irr] at this; cases this
        simp [hne]
      subst hax
      rw [List.filter_cons, List.filter_cons, hrest]
      simp only [hl, ne_eq, not_true_eq_false, decide_false, Bool.and_false, Bool.not_false, Bool.and_true, Bool.not_true]
      split <;> simp_all
    · rw [if_neg ha] at hx
      rw [List.filter_cons, List.filter_cons]
      have := ih hs'.2 hx
      simp only [ne_eq, ha, not_false_eq_true, decide_true, Bool.and_true]
      split
      · rw [List.length_cons, List.length_cons, this]; omega
      · exact this
end Go.Proofs.Ytnijeemldhmkjaa
