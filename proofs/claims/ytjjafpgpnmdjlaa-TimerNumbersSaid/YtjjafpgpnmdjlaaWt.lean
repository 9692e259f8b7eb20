/- What is wanted: an array of forty times. -/
import Derived.Test.YtjjafpgpnmdjlaaWithin
namespace Go.Proofs.Ytjjafpgpnmdjlaa
open Go.RowKit Go.Hop
def wcells (W : Nat → Int) : Array Value := (Array.range 40).map fun k => .int .i64 (W k)
theorem wcells_at (W : Nat → Int) {k : Nat} (hk : k < 40) : (wcells W)[k]? = some (.int .i64 (W k)) := by
  unfold wcells; simp [hk]
def updW (W : Nat → Int) (k : Nat) (v : Int) : Nat → Int := fun i => if i = k then v else W i
theorem wcells_put (W : Nat → Int) {k : Nat} (hk : k < 40) (v : Int) : (wcells W).setIfInBounds k (.int .i64 v) = wcells (updW W k v) := by
  apply Array.ext_getElem?
  intro i
  have hsz : (wcells W).size = 40 := by simp [wcells]
  rw [Array.getElem?_setIfInBounds]
  by_cases hi : k = i
  · subst hi
    rw [if_pos rfl, if_pos (by rw [hsz]; exact hk), wcells_at _ hk]
    simp [updW]
  · rw [if_neg hi]
    by_cases h4 : i < 40
    · rw [wcells_at _ h4, wcells_at _ h4]
      simp [updW, Ne.symm hi]
    · unfold wcells
      rw [Array.getElem?_eq_none (by simp; omega), Array.getElem?_eq_none (by simp; omega)]
theorem want_info : (Try.prog.info? 40).map (fun i => i.zero) = some (some (.agg (wcells fun _ => 0))) := by kernel_rfl
theorem want_zero (w : World) : (zeroValue 40).run Try.prog w = .ok (.agg (wcells fun _ => 0)) w := by
  have h := want_info
  cases hi : Try.prog.info? 40 with
  | none => rw [hi] at h; cases h
  | some i =>
    rw [hi] at h
    injection h with h
    simp [zeroValue, typeInfo, hi, h]
theorem wcells_ne (W : Nat → Int) : ¬ wcells W = #[] := fun h => by
  have := congrArg (fun a : Array Value => a.size) h
  simp [wcells] at this
/-- timers as they are wanted -/
def PW (k : Nat) (W : Nat → Int) (S : List It) : Prop := (∀ a, a ∈ S ↔ ∃ q : Nat, q < k ∧ a = (W q, (q : Int)) ∧ 0 ≤ W q) ∧ (∀ q, W q ≤ 255) ∧ S.length ≤ 4 * k
theorem mem_setF {a x : It} {S : List It} : a ∈ setF x S ↔ a = x ∨ (a ∈ S ∧ a.2 ≠ x.2) := by
  unfold setF
  rw [(ins_perm _ _).mem_iff, List.mem_cons, noKey_mem]
theorem len_setF (x : It) (S : List It) : (setF x S).length ≤ S.length + 1 := by
  unfold setF
  rw [(ins_perm _ _).length_eq, List.length_cons]
  have : (noKey x.2 S).length ≤ S.length := List.length_filter_le _ _
  omega
theorem pw_set {k : Nat} {W : Nat → Int} {S : List It} {v : Int} (h : PW k W S) (h0 : 0 ≤ v) (h1 : v ≤ 255) : PW (k + 1) (updW W k v) (setF (v, (k : Int)) (setF (5, (k : Int)) S)) := by
  obtain ⟨h2, h3, h4⟩ := h
  refine ⟨fun a => ?_, fun q => ?_, ?_⟩
  · rw [mem_setF, mem_setF, h2]
    constructor
    · rintro (rfl | ⟨rfl | ⟨⟨q, hq, rfl, hw⟩, _⟩, hk⟩)
      · exact ⟨k, by omega, by simp [updW], by simp [updW]; exact h0⟩
      · exact (hk rfl).elim
      · exact ⟨q, by omega, by simp [updW, show q ≠ k by omega], by simp [updW, show q ≠ k by omega]; exact hw⟩
    · rintro ⟨q, hq, rfl, hw⟩
      by_cases hqk : q = k
      · subst hqk; left; simp [updW]
      · right
        simp only [updW, if_neg hqk] at hw ⊢
        exact ⟨.inr ⟨⟨q, by omega, rfl, hw⟩, by omega⟩, by omega⟩
  · unfold updW; split
    · exact h1
    · exact h3 q
  · have := len_setF (v, (k : Int)) (setF (5, (k : Int)) S)
    have := len_setF (5, (k : Int)) S
    omega
theorem pw_has {n : Nat} {W : Nat → Int} {S : List It} (h : PW n W S) {m : Nat} (hm : m < n) : hasKey (m : Int) S = decide (0 ≤ W m) := by
  rw [Bool.eq_iff_iff, hasKey_iff, decide_eq_true_eq]
  constructor
  · rintro ⟨a, ha, he⟩
    obtain ⟨q, hq, rfl, hw⟩ := (h.1 a).1 ha
    dsimp only at he
    rw [show m = q by omega]; exact hw
  · intro hw
    exact ⟨_, (h.1 _).2 ⟨m, hm, rfl, hw⟩, rfl⟩
theorem pw_stop {n : Nat} {W : Nat → Int} {S : List It} (h : PW n W S) (m : Nat) : PW n (updW W m (-1)) (noKey (m : Int) S) := by
  obtain ⟨h2, h3, h4⟩ := h
  refine ⟨fun a => ?_, fun q => ?_, ?_⟩
  · rw [noKey_mem, h2]
    constructor
    · rintro ⟨⟨q, hq, rfl, hw⟩, hk⟩
      have hqm : q ≠ m := fun e => hk (by rw [e])
      exact ⟨q, hq, by simp [updW, hqm], by simp [updW, hqm]; exact hw⟩
    · rintro ⟨q, hq, rfl, hw⟩
      by_cases hqm : q = m
      · simp [updW, hqm] at hw
      · simp only [updW, if_neg hqm] at hw ⊢
        exact ⟨⟨q, hq, rfl, hw⟩, by omega⟩
  · unfold updW; split
    · omega
    · exact h3 q
  · have : (noKey (m : Int) S).length ≤ S.length := List.length_filter_le _ _
    omega
/-- what was due is wanted no more -/
def clrW (W : Nat → Int) (D : List It) : Nat → Int := fun i => if hasKey (i : Int) D then -1 else W i
theorem clr_next {W : Nat → Int} {D : List It} {j q : Nat} (hj : j < D.length) (hq : (hat D j).2 = (q : Int)) : updW (clrW W (D.take j)) q (-1) = clrW W (D.take (j + 1)) := by
  funext i
  unfold updW clrW
  rw [List.take_succ_eq_append_getElem hj]
  rw [hat_get hj] at hq
  unfold hasKey
  rw [List.any_append, List.any_cons, List.any_nil, Bool.or_false]
  by_cases hi : i = q
  · have : decide (D[j].2 = (i : Int)) = true := decide_eq_true (by rw [hq, hi])
    rw [if_pos hi, this, Bool.or_true, if_pos rfl]
  · have : decide (D[j].2 = (i : Int)) = false := decide_eq_false (by rw [hq]; omega)
    rw [if_neg hi, this, Bool.or_false]
theorem clr_zero (W : Nat → Int) : clrW W [] = W := by funext i; rfl
theorem clr_new {W : Nat → Int} {S D L : List It} {n j : Nat} (hS : S = D ++ L) (h : PW n W S) (hK : Keys S) (hj : j < D.length) : ∃ q : Nat, (hat D j).2 = (q : Int) ∧ q < n ∧ clrW W (D.take j) q = (hat D j).1 := by
  have hm : hat D j ∈ S := by rw [hS, hat_get hj]; exact List.mem_append_left _ (List.getElem_mem hj)
  obtain ⟨q, hq, he, hw⟩ := (h.1 _).1 hm
  have h2 : (hat D j).2 = (q : Int) := by rw [he]
  refine ⟨q, h2, hq, ?_⟩
  have h3 : hasKey (q : Int) (D.take j) = false := by
    cases hc : hasKey (q : Int) (D.take j) with
    | false => rfl
    | true =>
      obtain ⟨i, hi, hie⟩ := key_at hc
      rw [List.length_take] at hi
      rw [hat_take (by omega)] at hie
      have hKD : Keys D := by
        have : Keys (D ++ L) := hS ▸ hK
        unfold Keys at this ⊢
        rw [List.map_append] at this
        exact (List.nodup_append.1 this).1
      have := keys_at hKD (i := i) (j := j) (by omega) hj (by rw [hie, h2])
      omega
  unfold clrW
  rw [h3, if_neg (by simp), he]
theorem pw_due {W : Nat → Int} {S D L : List It} {n : Nat} (hS : S = D ++ L) (h : PW n W S) (hK : Keys S) : PW n (clrW W D) L := by
  obtain ⟨h2, h3, h4⟩ := h
  have hap : ∀ a ∈ D, ∀ b ∈ L, a.2 ≠ b.2 := fun a ha b hb => by
    have : Keys (D ++ L) := hS ▸ hK
    unfold Keys at this
    rw [List.map_append] at this
    exact (List.nodup_append.1 this).2.2 a.2 (List.mem_map_of_mem ha) b.2 (List.mem_map_of_mem hb)
  refine ⟨fun a => ?_, fun q => ?_, ?_⟩
  · constructor
    · intro ha
      obtain ⟨q, hq, he, hw⟩ := (h2 a).1 (by rw [hS]; exact List.mem_append_right _ ha)
      have hno : hasKey (q : Int) D = false := by
        cases hc : hasKey (q : Int) D with
        | false => rfl
        | true =>
          obtain ⟨b, hb, hbe⟩ := hasKey_iff.1 hc
          exact absurd (by rw [hbe, he]) (hap b hb a ha)
      have hc : clrW W D q = W q := by unfold clrW; rw [hno]; rfl
      exact ⟨q, hq, by rw [hc]; exact he, by rw [hc]; exact hw⟩
    · rintro ⟨q, hq, rfl, hw⟩
      have hno : hasKey (q : Int) D = false := by
        cases hc : hasKey (q : Int) D with
        | false => rfl
        | true => unfold clrW at hw; rw [hc, if_pos rfl] at hw; omega
      have hc : clrW W D q = W q := by unfold clrW; rw [hno]; rfl
      rw [hc] at hw ⊢
      have := (h2 (W q, (q : Int))).2 ⟨q, hq, rfl, hw⟩
      rw [hS] at this
      rcases List.mem_append.1 this with h5 | h5
      · exact absurd (hasKey_iff.2 ⟨_, h5, rfl⟩) (by rw [hno]; simp)
      · exact h5
  · unfold clrW; split
    · omega
    · exact h3 q
  · rw [hS, List.length_append] at h4; omega
theorem due_late (now : Int) (S : List It) : S = due now S ++ late now S := by
  unfold due late
  exact (List.takeWhile_append_dropWhile ..).symm
theorem due_le {now : Int} {S : List It} {a : It} (h : a ∈ due now S) : a.1 ≤ now := by
  unfold due at h
  induction S with
  | nil => simp at h
  | cons b l ih =>
    rw [List.takeWhile_cons] at h
    split at h
    · rename_i hb
      rcases List.mem_cons.1 h with rfl | h
      · simpa using hb
      · exact ih h
    · simp at h
end Go.Proofs.Ytjjafpgpnmdjlaa
