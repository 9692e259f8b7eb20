/- QueueOrder: what a filter loses. -/
import Derived.Test.YtnlfkeajolfboaaFlights
import Derived.Test.YtnlfkeajolfboaaMaps
namespace Go.Proofs.Ytnlfkeajolfboaa
open Go.RowKit Go.Hop
theorem filter_erase {s : Int} {p : Ab → Bool} : ∀ {l : List Ab}, (l.map (·.1)).Nodup → doneL (l.filter p) s = l.filter (fun a => p a && !isSeq s a)
  | [], _ => rfl
  | b :: l, hn => by
    rw [List.map_cons, List.nodup_cons] at hn
    have ih := filter_erase (s := s) (p := p) hn.2
    unfold doneL at ih ⊢
    rw [List.filter_cons, List.filter_cons]
    cases hp : p b with
    | false => simp only [Bool.false_and, Bool.false_eq_true, if_false]; exact ih
    | true =>
      simp only [Bool.true_and, if_true]
      rw [List.eraseP_cons]
      cases hs : isSeq s b with
      | true =>
        simp only [cond_true, Bool.not_true, Bool.false_eq_true, if_false]
        refine List.filter_congr fun a ha => ?_
        have : isSeq s a = false := by
          cases h : isSeq s a with
          | false => rfl
          | true =>
            have e1 : b.1 = s := by simpa [isSeq] using hs
            have e2 : a.1 = s := by simpa [isSeq] using h
            exact absurd (List.mem_map.2 ⟨a, ha, e2.trans e1.symm⟩) hn.1
        rw [this]; simp
      | false => simp only [cond_false, Bool.not_false, if_true]; rw [ih]
def dn (i : Nat) : Dl := (⟨#[97, 61, 49]⟩, i + 1)
def mk2 (n : Nat) : List Ab := (List.range n).map fun j : Nat => (2 * (j : Int) + 2, [dn j])
theorem mk2_succ (n : Nat) : mk2 (n + 1) = mk2 n ++ [(2 * (n : Int) + 2, [dn n])] := by unfold mk2; rw [List.range_succ, List.map_append]; rfl
theorem mk2_len (n : Nat) : (mk2 n).length = n := by unfold mk2; rw [List.length_map, List.length_range]
theorem mk2_nodup (n : Nat) : ((mk2 n).map (·.1)).Nodup := by
  unfold mk2
  rw [List.map_map]
  exact List.pairwise_map.2 (List.nodup_range.imp (fun {a b} h e => h (by simp only [Function.comp] at e; omega)))
/-- those that are not done -/
def left (f : Int → Int) (l : List Ab) : List Ab := l.filter fun a => f a.1 == 0
def inB (f : Int → Int) (m : Nat) (s : Int) : Bool := decide (2 ≤ s) && decide (s ≤ 2 * (m : Int)) && decide (s % 2 = 0) && (f s == 0)
theorem left_done (f : Int → Int) (m : Nat) (s : Int) (hf : 0 ≤ f s) : doneB (left f (mk2 m)) s = inB f m s ∧ doneL (left f (mk2 m)) s = left (fun y => if y = s then f s + 1 else f y) (mk2 m) := by
  refine ⟨?_, ?_⟩
  · rw [Bool.eq_iff_iff]
    unfold doneB left inB
    rw [List.any_eq_true]
    simp only [List.mem_filter, Bool.and_eq_true, decide_eq_true_eq, beq_iff_eq]
    refine ⟨fun ⟨a, ⟨ha, h0⟩, hs⟩ => ?_, fun ⟨⟨⟨h1, h2⟩, h3⟩, h0⟩ => ?_⟩
    · have e : a.1 = s := by simpa [isSeq] using hs
      unfold mk2 at ha
      obtain ⟨j, hj, rfl⟩ := List.mem_map.1 ha
      have hj := List.mem_range.1 hj
      simp only at e h0
      rw [e] at h0
      exact ⟨⟨⟨by omega, by omega⟩, by omega⟩, h0⟩
    · refine ⟨(2 * (((s - 2) / 2).toNat : Int) + 2, [dn ((s - 2) / 2).toNat]), ⟨?_, ?_⟩, ?_⟩
      · unfold mk2
        exact List.mem_map.2 ⟨((s - 2) / 2).toNat, List.mem_range.2 (by omega), rfl⟩
      · simp only
        rw [show 2 * (((s - 2) / 2).toNat : Int) + 2 = s by omega]; exact h0
      · simp only [isSeq, beq_iff_eq]; omega
  · unfold left
    rw [filter_erase (mk2_nodup m)]
    refine List.filter_congr fun a _ => ?_
    show (f a.1 == 0 && !isSeq s a) = ((if a.1 = s then f s + 1 else f a.1) == 0)
    by_cases h : a.1 = s
    · have h1 : isSeq s a = true := by simp [isSeq, h]
      rw [h1, h, if_pos rfl]
      simp
      omega
    · have h1 : isSeq s a = false := by simp [isSeq, h]
      rw [h1, if_neg h]
      simp
theorem left_split (f : Int → Int) {i m : Nat} (hi : i < m) : ∃ r, left f (mk2 m) = left f (mk2 i) ++ (if f (2 * (i : Int) + 2) == 0 then [(2 * (i : Int) + 2, [dn i])] else []) ++ r := by
  have h : ∀ d : Nat, ∃ r, mk2 (i + 1 + d) = mk2 (i + 1) ++ r := fun d => by
    induction d with
    | zero => exact ⟨[], by simp⟩
    | succ d ih =>
      obtain ⟨r, hr⟩ := ih
      refine ⟨r ++ [(2 * ((i + 1 + d : Nat) : Int) + 2, [dn (i + 1 + d)])], ?_⟩
      rw [← Nat.add_assoc, mk2_succ, hr, List.append_assoc]
  obtain ⟨r, hr⟩ := h (m - (i + 1))
  rw [show i + 1 + (m - (i + 1)) = m by omega] at hr
  refine ⟨left f r, ?_⟩
  rw [hr, mk2_succ]
  unfold left
  rw [List.filter_append, List.filter_append, List.filter_cons, List.filter_nil]
theorem left_succ (f : Int → Int) (i : Nat) : left f (mk2 (i + 1)) = left f (mk2 i) ++ (if f (2 * (i : Int) + 2) == 0 then [(2 * (i : Int) + 2, [dn i])] else []) := by
  unfold left
  rw [mk2_succ, List.filter_append, List.filter_cons, List.filter_nil]
theorem left_le (f : Int → Int) (i : Nat) : (left f (mk2 i)).length ≤ i := by
  have := List.length_filter_le (fun a : Ab => f a.1 == 0) (mk2 i)
  rw [mk2_len] at this
  exact this
end Go.Proofs.Ytnlfkeajolfboaa
