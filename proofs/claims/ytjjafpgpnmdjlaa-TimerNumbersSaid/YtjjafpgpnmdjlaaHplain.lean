/- A heap of items, in plain words. -/
import Derived.Test.YtjjafpgpnmdjlaaKit
namespace Go.Proofs.Ytjjafpgpnmdjlaa
/-- a time, a key -/
abbrev It := Int × Int
def Lt (a b : It) : Prop := a.1 < b.1 ∨ (a.1 = b.1 ∧ a.2 < b.2)
instance (a b : It) : Decidable (Lt a b) := by unfold Lt; infer_instance
def hat (h : List It) (k : Nat) : It := h.getD k (0, 0)
def swapL (h : List It) (i j : Nat) : List It := (h.set i (hat h j)).set j (hat h i)
theorem swapL_len (h : List It) (i j : Nat) : (swapL h i j).length = h.length := by unfold swapL; simp
theorem hat_get {h : List It} {k : Nat} (hk : k < h.length) : hat h k = h[k] := by unfold hat; simp [hk]
theorem hat_swap {h : List It} {i j k : Nat} (hi : i < h.length) (hj : j < h.length) : hat (swapL h i j) k = if k = j then hat h i else if k = i then hat h j else hat h k := by
  unfold hat swapL
  simp only [List.getD_eq_getElem?_getD, List.getElem?_set, List.length_set]
  by_cases h1 : j = k
  · subst h1; simp [hj, hat]
  · rw [if_neg h1, if_neg (Ne.symm h1)]
    by_cases h2 : i = k
    · subst h2; simp [hi, hat]
    · rw [if_neg h2, if_neg (Ne.symm h2)]
theorem swap_perm {h : List It} {i j : Nat} (hi : i < h.length) (hj : j < h.length) : (swapL h i j).Perm h := by
  unfold swapL
  rw [hat_get hi, hat_get hj]
  exact List.set_set_perm hi hj
/-- the lesser child -/
def kid (n : Nat) (h : List It) (i : Nat) : Nat := if 2 * i + 2 < n ∧ Lt (hat h (2 * i + 2)) (hat h (2 * i + 1)) then 2 * i + 2 else 2 * i + 1
theorem kid_two (n : Nat) (h : List It) (i : Nat) : kid n h i = 2 * i + 1 ∨ kid n h i = 2 * i + 2 := by unfold kid; split <;> omega
theorem kid_lt {n : Nat} {h : List It} {i : Nat} (hc : 2 * i + 1 < n) : kid n h i < n := by unfold kid; split <;> omega
def downF (n : Nat) (h : List It) (i : Nat) : List It × Nat :=
  if hc : 2 * i + 1 < n then
    if Lt (hat h (kid n h i)) (hat h i) then downF n (swapL h i (kid n h i)) (kid n h i) else (h, i)
  else (h, i)
termination_by n - i
decreasing_by
  have := kid_two n h i
  have := kid_lt (h := h) hc
  omega
def upF (h : List It) (j : Nat) : List It :=
  if hc : j = 0 then h else
    if Lt (hat h j) (hat h ((j - 1) / 2)) then upF (swapL h ((j - 1) / 2) j) ((j - 1) / 2) else h
termination_by j
decreasing_by omega
def HeapN (n : Nat) (h : List It) : Prop := ∀ k, 0 < k → k < n → ¬ Lt (hat h k) (hat h ((k - 1) / 2))
/-- a heap, but for what stands at i, and its children -/
def Off (n : Nat) (h : List It) (i : Nat) : Prop :=
  (∀ k, 0 < k → k < n → k ≠ i → (k - 1) / 2 ≠ i → ¬ Lt (hat h k) (hat h ((k - 1) / 2))) ∧ (∀ k, 0 < k → k < n → (k - 1) / 2 = i → 0 < i → ¬ Lt (hat h k) (hat h ((i - 1) / 2)))
/-- a heap, but for what stands at j and its parent -/
def Upper (n : Nat) (h : List It) (j : Nat) : Prop :=
  (∀ k, 0 < k → k < n → k ≠ j → ¬ Lt (hat h k) (hat h ((k - 1) / 2))) ∧ (∀ k, 0 < k → k < n → (k - 1) / 2 = j → 0 < j → ¬ Lt (hat h k) (hat h ((j - 1) / 2)))
theorem lt_asymm {a b : It} (h : Lt a b) : ¬ Lt b a := by unfold Lt at *; omega
theorem not_lt_trans {a b c : It} (h1 : ¬ Lt a b) (h2 : ¬ Lt b c) : ¬ Lt a c := by unfold Lt at *; omega
theorem lt_not {a b c : It} (h1 : Lt b a) (h2 : ¬ Lt c a) : ¬ Lt c b := by unfold Lt at *; omega
theorem not_lt_eq {a b : It} (h1 : ¬ Lt a b) (h2 : ¬ Lt b a) : a = b := by
  unfold Lt at *
  exact Prod.ext (by omega) (by omega)
theorem lt_trans' {a b c : It} (h1 : Lt a b) (h2 : Lt b c) : Lt a c := by unfold Lt at *; omega
theorem kid_min {n : Nat} {h : List It} {i k : Nat} (hk : 0 < k) (hn : k < n) (hp : (k - 1) / 2 = i) : ¬ Lt (hat h k) (hat h (kid n h i)) := by
  have h2 : k = 2 * i + 1 ∨ k = 2 * i + 2 := by omega
  unfold kid
  split
  · rename_i hc
    rcases h2 with rfl | rfl
    · exact lt_asymm hc.2
    · unfold Lt; omega
  · rename_i hc
    rcases h2 with rfl | rfl
    · unfold Lt; omega
    · intro hl; exact hc ⟨hn, hl⟩
theorem down_len (n : Nat) (h : List It) (i : Nat) : (downF n h i).1.length = h.length := by
  induction h, i using downF.induct (n := n) with
  | case1 h i hc hl ih => rw [downF, dif_pos hc, if_pos hl, ih, swapL_len]
  | case2 h i hc hl => rw [downF, dif_pos hc, if_neg hl]
  | case3 h i hc => rw [downF, dif_neg hc]
theorem down_perm (n : Nat) (h : List It) (i : Nat) (hn : n ≤ h.length) : (downF n h i).1.Perm h := by
  induction h, i using downF.induct (n := n) with
  | case1 h i hc hl ih =>
    rw [downF, dif_pos hc, if_pos hl]
    have := kid_lt (h := h) hc
    exact (ih (by rw [swapL_len]; exact hn)).trans (swap_perm (by omega) (by omega))
  | case2 h i hc hl => rw [downF, dif_pos hc, if_neg hl]
  | case3 h i hc => rw [downF, dif_neg hc]
theorem down_far (n : Nat) (h : List It) (i : Nat) (hn : n ≤ h.length) (k : Nat) (hk : n ≤ k) : hat (downF n h i).1 k = hat h k := by
  induction h, i using downF.induct (n := n) with
  | case1 h i hc hl ih =>
    rw [downF, dif_pos hc, if_pos hl, ih (by rw [swapL_len]; exact hn)]
    have := kid_lt (h := h) hc
    rw [hat_swap (by omega) (by omega), if_neg (by omega), if_neg (by omega)]
  | case2 h i hc hl => rw [downF, dif_pos hc, if_neg hl]
  | case3 h i hc => rw [downF, dif_neg hc]
theorem down_le (n : Nat) (h : List It) (i : Nat) : i ≤ (downF n h i).2 := by
  induction h, i using downF.induct (n := n) with
  | case1 h i hc hl ih =>
    rw [downF, dif_pos hc, if_pos hl]
    have := kid_two n h i
    omega
  | case2 h i hc hl => rw [downF, dif_pos hc, if_neg hl]; exact Nat.le_refl _
  | case3 h i hc => rw [downF, dif_neg hc]; exact Nat.le_refl _
theorem down_heap (n : Nat) (h : List It) (i : Nat) (hn : n ≤ h.length) (ho : Off n h i) :
    Upper n (downF n h i).1 (downF n h i).2 ∧ (downF n h i = (h, i) ∨ (i < (downF n h i).2 ∧ ¬ Lt (hat (downF n h i).1 (downF n h i).2) (hat (downF n h i).1 (((downF n h i).2 - 1) / 2)))) := by
  induction h, i using downF.induct (n := n) with
  | case1 h i hc hl ih =>
    have hk := kid_lt (h := h) hc
    have hk2 := kid_two n h i
    have hmin := fun k h1 h2 h3 => kid_min (n := n) (h := h) (i := i) (k := k) h1 h2 h3
    rw [downF, dif_pos hc, if_pos hl]
    generalize kid n h i = j at *
    have hsw : ∀ k, hat (swapL h i j) k = if k = j then hat h i else if k = i then hat h j else hat h k := fun k => hat_swap (by omega) (by omega)
    have hpj : (j - 1) / 2 = i := by omega
    have h1 : Off n (swapL h i j) j := by
      refine ⟨fun k k1 k2 k3 k4 => ?_, fun k k1 k2 k3 k4 => ?_⟩
      · rw [hsw, hsw, if_neg k3, if_neg k4]
        by_cases hki : k = i
        · subst hki
          rw [if_pos rfl, if_neg (by omega)]
          exact ho.2 j (by omega) hk hpj k1
        · rw [if_neg hki]
          by_cases hpi : (k - 1) / 2 = i
          · rw [if_pos hpi]; exact hmin k k1 k2 hpi
          · rw [if_neg hpi]; exact ho.1 k k1 k2 hki hpi
      · rw [hsw, hsw, if_neg (by omega), if_neg (by omega), hpj, if_neg (by omega), if_pos rfl, ← k3]
        exact ho.1 k k1 k2 (by omega) (by omega)
    obtain ⟨r1, r2⟩ := ih (by rw [swapL_len]; exact hn) h1
    refine ⟨r1, .inr ?_⟩
    rcases r2 with r2 | ⟨r2, r3⟩
    · rw [r2]
      dsimp only
      refine ⟨by omega, ?_⟩
      rw [hsw, hsw, if_pos rfl, hpj, if_neg (by omega), if_pos rfl]
      exact lt_asymm hl
    · exact ⟨by omega, r3⟩
  | case2 h i hc hl =>
    rw [downF, dif_pos hc, if_neg hl]
    refine ⟨⟨fun k k1 k2 k3 => ?_, fun k k1 k2 k3 k4 => ho.2 k k1 k2 k3 k4⟩, .inl rfl⟩
    by_cases hp : (k - 1) / 2 = i
    · have := kid_min (h := h) k1 k2 hp
      rw [hp]
      exact not_lt_trans this hl
    · exact ho.1 k k1 k2 k3 hp
  | case3 h i hc =>
    rw [downF, dif_neg hc]
    exact ⟨⟨fun k k1 k2 k3 => ho.1 k k1 k2 k3 (by omega), fun k k1 k2 k3 k4 => ho.2 k k1 k2 k3 k4⟩, .inl rfl⟩
theorem up_len (h : List It) (j : Nat) : (upF h j).length = h.length := by
  induction h, j using upF.induct with
  | case1 h => rw [upF, dif_pos rfl]
  | case2 h j hc hl ih => rw [upF, dif_neg hc, if_pos hl, ih, swapL_len]
  | case3 h j hc hl => rw [upF, dif_neg hc, if_neg hl]
theorem up_perm (h : List It) (j : Nat) (hj : j < h.length) : (upF h j).Perm h := by
  induction h, j using upF.induct with
  | case1 h => rw [upF, dif_pos rfl]
  | case2 h j hc hl ih =>
    rw [upF, dif_neg hc, if_pos hl]
    exact (ih (by rw [swapL_len]; omega)).trans (swap_perm (by omega) hj)
  | case3 h j hc hl => rw [upF, dif_neg hc, if_neg hl]
theorem up_far (h : List It) (j : Nat) (hj : j < h.length) (k : Nat) (hk : j < k) : hat (upF h j) k = hat h k := by
  induction h, j using upF.induct with
  | case1 h => rw [upF, dif_pos rfl]
  | case2 h j hc hl ih =>
    rw [upF, dif_neg hc, if_pos hl, ih (by rw [swapL_len]; omega) (by omega), hat_swap (by omega) hj, if_neg (by omega), if_neg (by omega)]
  | case3 h j hc hl => rw [upF, dif_neg hc, if_neg hl]
theorem up_heap (n : Nat) (h : List It) (j : Nat) (hj : j < n) (hn : n ≤ h.length) (ho : Upper n h j) : HeapN n (upF h j) := by
  induction h, j using upF.induct with
  | case1 h =>
    rw [upF, dif_pos rfl]
    exact fun k k1 k2 => ho.1 k k1 k2 (by omega)
  | case2 h j hc hl ih =>
    rw [upF, dif_neg hc, if_pos hl]
    generalize hi : (j - 1) / 2 = i at *
    have hsw : ∀ k, hat (swapL h i j) k = if k = j then hat h i else if k = i then hat h j else hat h k := fun k => hat_swap (by omega) (by omega)
    refine ih (by omega) (by rw [swapL_len]; exact hn) ⟨fun k k1 k2 k3 => ?_, fun k k1 k2 k3 k4 => ?_⟩
    · rw [hsw, hsw, if_neg k3]
      by_cases hkj : k = j
      · subst hkj
        rw [if_pos rfl, hi, if_neg (by omega), if_pos rfl]
        exact lt_asymm hl
      · rw [if_neg hkj]
        by_cases hpj : (k - 1) / 2 = j
        · rw [if_pos hpj]
          have := ho.2 k k1 k2 hpj (by omega)
          rwa [hi] at this
        · rw [if_neg hpj]
          by_cases hpi : (k - 1) / 2 = i
          · rw [if_pos hpi]
            have := ho.1 k k1 k2 hkj
            rw [hpi] at this
            exact lt_not hl this
          · rw [if_neg hpi]; exact ho.1 k k1 k2 hkj
    · have hpi := ho.1 i k4 (by omega) (by omega)
      rw [hsw, hsw, if_neg (show (i - 1) / 2 ≠ j by omega), if_neg (show (i - 1) / 2 ≠ i by omega)]
      by_cases hkj : k = j
      · rw [if_pos hkj]; exact hpi
      · rw [if_neg hkj, if_neg (by omega)]
        have := ho.1 k k1 k2 hkj
        rw [k3] at this
        exact not_lt_trans this hpi
  | case3 h j hc hl =>
    rw [upF, dif_neg hc, if_neg hl]
    intro k k1 k2
    by_cases hkj : k = j
    · subst hkj; exact hl
    · exact ho.1 k k1 k2 hkj
theorem heap_min {n : Nat} {h : List It} (hh : HeapN n h) : ∀ k, k < n → ¬ Lt (hat h k) (hat h 0) := by
  intro k
  induction k using Nat.strongRecOn with
  | ind k ih =>
    intro hk
    by_cases h0 : k = 0
    · subst h0; unfold Lt; omega
    · exact not_lt_trans (hh k (by omega) hk) (ih ((k - 1) / 2) (by omega) (by omega))
/-- what Fix does -/
def fixF (n : Nat) (h : List It) (i : Nat) : List It := if i < (downF n h i).2 then (downF n h i).1 else upF (downF n h i).1 i
theorem fix_heap (n : Nat) (h : List It) (i : Nat) (hi : i < n) (hn : n ≤ h.length) (ho : Off n h i) : HeapN n (fixF n h i) := by
  obtain ⟨r1, r2⟩ := down_heap n h i hn ho
  unfold fixF
  split
  · rename_i hlt
    intro k k1 k2
    by_cases hk : k = (downF n h i).2
    · rcases r2 with r2 | ⟨_, r3⟩
      · rw [r2] at hlt; exact absurd hlt (by simp)
      · rw [hk]; exact r3
    · exact r1.1 k k1 k2 hk
  · rename_i hlt
    rcases r2 with r2 | ⟨r2, _⟩
    · rw [r2] at r1 ⊢
      exact up_heap n h i hi hn r1
    · exact absurd r2 hlt
theorem fix_perm (n : Nat) (h : List It) (i : Nat) (hi : i < h.length) (hn : n ≤ h.length) : (fixF n h i).Perm h := by
  unfold fixF
  split
  · exact down_perm n h i hn
  · exact (up_perm _ i (by rw [down_len]; exact hi)).trans (down_perm n h i hn)
theorem fix_len (n : Nat) (h : List It) (i : Nat) : (fixF n h i).length = h.length := by
  unfold fixF
  split
  · exact down_len n h i
  · rw [up_len, down_len]
theorem fix_far (n : Nat) (h : List It) (i : Nat) (hi : i < n) (hn : n ≤ h.length) (k : Nat) (hk : n ≤ k) : hat (fixF n h i) k = hat h k := by
  unfold fixF
  split
  · exact down_far n h i hn k hk
  · rw [up_far _ i (by rw [down_len]; omega) k (by omega), down_far n h i hn k hk]
/-- an item of a heap turned -/
theorem off_set {n : Nat} {h g : List It} {i : Nat} (hh : HeapN n h) (hg : ∀ k, k < n → k ≠ i → hat g k = hat h k) (hi : i < n) : Off n g i := by
  refine ⟨fun k k1 k2 k3 k4 => ?_, fun k k1 k2 k3 k4 => ?_⟩
  · rw [hg k k2 k3, hg _ (by omega) k4]; exact hh k k1 k2
  · rw [hg k k2 (by omega), hg _ (by omega) (by omega)]
    have h1 := hh k k1 k2
    rw [k3] at h1
    exact not_lt_trans h1 (hh i k4 hi)
/-- an item more -/
def pushF (h : List It) (x : It) : List It := upF (h ++ [x]) h.length
theorem hat_left {h r : List It} {k : Nat} (hk : k < h.length) : hat (h ++ r) k = hat h k := by
  unfold hat; rw [List.getD_eq_getElem?_getD, List.getD_eq_getElem?_getD, List.getElem?_append_left hk]
theorem push_heap {h : List It} {x : It} (hh : HeapN h.length h) : HeapN (pushF h x).length (pushF h x) := by
  have hl : (pushF h x).length = h.length + 1 := by unfold pushF; rw [up_len]; simp
  rw [hl]
  refine up_heap _ _ _ (by omega) (by simp) ⟨fun k k1 k2 k3 => ?_, fun k k1 k2 k3 k4 => by omega⟩
  rw [hat_left (by omega), hat_left (by omega)]
  exact hh k k1 (by omega)
theorem push_perm (h : List It) (x : It) : (pushF h x).Perm (x :: h) :=
  (up_perm _ _ (by simp)).trans (List.perm_append_singleton x h)
theorem push_len (h : List It) (x : It) : (pushF h x).length = h.length + 1 := by unfold pushF; rw [up_len]; simp
/-- an item less: with the last one in its place -/
def removeF (h : List It) (i : Nat) : List It := if i = h.length - 1 then h.take (h.length - 1) else (fixF (h.length - 1) (swapL h i (h.length - 1)) i).take (h.length - 1)
theorem hat_take {h : List It} {n k : Nat} (hk : k < n) : hat (h.take n) k = hat h k := by
  unfold hat; rw [List.getD_eq_getElem?_getD, List.getD_eq_getElem?_getD, List.getElem?_take, if_pos hk]
theorem heap_take {n : Nat} {h : List It} (hh : HeapN n h) (hn : n ≤ h.length) : HeapN (h.take n).length (h.take n) := by
  intro k k1 k2
  rw [List.length_take] at k2
  rw [hat_take (by omega), hat_take (by omega)]
  exact hh k k1 (by omega)
theorem remove_len {h : List It} {i : Nat} (hi : i < h.length) : (removeF h i).length = h.length - 1 := by
  unfold removeF
  split
  · rw [List.length_take]; omega
  · rw [List.length_take, fix_len, swapL_len]; omega
theorem remove_heap {h : List It} {i : Nat} (hh : HeapN h.length h) (hi : i < h.length) : HeapN (removeF h i).length (removeF h i) := by
  unfold removeF
  split
  · exact heap_take (fun k k1 k2 => hh k k1 (by omega)) (by omega)
  · rename_i hne
    refine heap_take (fix_heap _ _ i (by omega) (by rw [swapL_len]; omega) (off_set (h := h) (fun k k1 k2 => hh k k1 (by omega)) (fun k k1 k2 => ?_) (by omega))) (by rw [fix_len, swapL_len]; omega)
    rw [hat_swap hi (by omega), if_neg (by omega), if_neg k2]
theorem take_last (g : List It) (n : Nat) (hn : g.length = n + 1) : g = g.take n ++ [hat g n] := by
  rw [hat_get (by omega)]
  conv => lhs; rw [← List.take_append_drop n g, List.drop_eq_getElem_cons (by omega), List.drop_of_length_le (by omega)]
theorem remove_perm {h : List It} {i : Nat} (hi : i < h.length) : (hat h i :: removeF h i).Perm h := by
  unfold removeF
  split
  · rename_i he
    have := take_last h (h.length - 1) (by omega)
    conv => rhs; rw [this]
    rw [← he]
    exact (List.perm_append_singleton _ _).symm
  · rename_i hne
    have hl : (fixF (h.length - 1) (swapL h i (h.length - 1)) i).length = h.length - 1 + 1 := by rw [fix_len, swapL_len]; omega
    have h1 := take_last _ _ hl
    have h2 : hat (fixF (h.length - 1) (swapL h i (h.length - 1)) i) (h.length - 1) = hat h i := by
      rw [fix_far _ _ i (by omega) (by rw [swapL_len]; omega) _ (Nat.le_refl _), hat_swap hi (by omega), if_pos rfl]
    rw [h2] at h1
    have h3 : (fixF (h.length - 1) (swapL h i (h.length - 1)) i).Perm h := (fix_perm _ _ i (by rw [swapL_len]; exact hi) (by rw [swapL_len]; omega)).trans (swap_perm hi (by omega))
    rw [h1] at h3
    exact (List.perm_append_singleton _ _).symm.trans h3
end Go.Proofs.Ytjjafpgpnmdjlaa
