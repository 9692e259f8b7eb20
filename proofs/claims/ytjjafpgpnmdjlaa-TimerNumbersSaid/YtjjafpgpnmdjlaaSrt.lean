/- Items by time and key, in plain words. -/
import Derived.Test.YtjjafpgpnmdjlaaHplain
namespace Go.Proofs.Ytjjafpgpnmdjlaa
def Sorted (S : List It) : Prop := S.Pairwise Lt
def ins (a : It) : List It → List It
  | [] => [a]
  | b :: l => if Lt a b then a :: b :: l else b :: ins a l
theorem ins_perm (a : It) : ∀ l : List It, (ins a l).Perm (a :: l)
  | [] => List.Perm.refl _
  | b :: l => by
    unfold ins
    split
    · exact List.Perm.refl _
    · exact ((ins_perm a l).cons b).trans (List.Perm.swap a b l)
theorem ins_sorted (a : It) : ∀ l : List It, Sorted l → (∀ b ∈ l, b.2 ≠ a.2) → Sorted (ins a l)
  | [], _, _ => List.pairwise_singleton _ _
  | b :: l, hs, hk => by
    have h1 := List.pairwise_cons.1 hs
    unfold ins
    split
    · rename_i hl
      exact List.pairwise_cons.2 ⟨fun c hc => by
        rcases List.mem_cons.1 hc with rfl | hc
        · exact hl
        · exact lt_trans' hl (h1.1 c hc), hs⟩
    · rename_i hl
      refine List.pairwise_cons.2 ⟨fun c hc => ?_, ins_sorted a l h1.2 (fun c hc => hk c (List.mem_cons_of_mem _ hc))⟩
      rcases List.mem_cons.1 ((ins_perm a l).mem_iff.1 hc) with rfl | hc
      · have := hk b List.mem_cons_self
        unfold Lt at hl ⊢
        omega
      · exact h1.1 c hc
def noKey (k : Int) (S : List It) : List It := S.filter fun a => decide (a.2 ≠ k)
theorem noKey_sorted {k : Int} {S : List It} (h : Sorted S) : Sorted (noKey k S) := List.Pairwise.sublist List.filter_sublist h
theorem noKey_mem {k : Int} {S : List It} {a : It} : a ∈ noKey k S ↔ a ∈ S ∧ a.2 ≠ k := by unfold noKey; rw [List.mem_filter, decide_eq_true_eq]
theorem noKey_perm {k : Int} {S T : List It} (h : S.Perm T) : (noKey k S).Perm (noKey k T) := h.filter _
theorem noKey_none {k : Int} {S : List It} (h : ∀ a ∈ S, a.2 ≠ k) : noKey k S = S := List.filter_eq_self.2 fun a ha => decide_eq_true (h a ha)
theorem sorted_perm : ∀ {S T : List It}, Sorted S → Sorted T → S.Perm T → S = T
  | [], T, _, _, h => (List.Perm.nil_eq h)
  | a :: S, [], _, _, h => by have := h.length_eq; simp at this
  | a :: S, b :: T, hs, ht, h => by
    have h1 := List.pairwise_cons.1 hs
    have h2 := List.pairwise_cons.1 ht
    have hab : a = b := by
      rcases List.mem_cons.1 (h.mem_iff.1 List.mem_cons_self) with e | e
      · exact e
      · rcases List.mem_cons.1 (h.symm.mem_iff.1 List.mem_cons_self) with e' | e'
        · exact e'.symm
        · exact absurd (h2.1 a e) (lt_asymm (h1.1 b e'))
    subst hab
    rw [sorted_perm h1.2 h2.2 ((List.perm_cons a).1 h)]
/-- the first of a heap is the first of all -/
theorem heap_head {h S : List It} (hh : HeapN h.length h) (hp : h.Perm S) (hs : Sorted S) (hl : 0 < h.length) : ∃ a l, S = a :: l ∧ hat h 0 = a := by
  cases S with
  | nil => rw [hp.length_eq] at hl; simp at hl
  | cons a l =>
    refine ⟨a, l, rfl, ?_⟩
    have h1 := List.pairwise_cons.1 hs
    have hm : hat h 0 ∈ a :: l := hp.mem_iff.1 (by rw [hat_get hl]; exact List.getElem_mem hl)
    rcases List.mem_cons.1 hm with e | e
    · exact e
    · obtain ⟨k, hk, he⟩ := List.mem_iff_getElem.1 (hp.symm.mem_iff.1 (List.mem_cons_self (a := a) (l := l)))
      have h2 := heap_min hh k hk
      rw [hat_get hk, he] at h2
      exact absurd (h1.1 _ e) h2
/-- keys apart -/
def Keys (S : List It) : Prop := (S.map (·.2)).Nodup
theorem Keys.perm {S T : List It} (h : Keys S) (hp : T.Perm S) : Keys T := (hp.map _).nodup_iff.2 h
theorem keys_at {h : List It} (hG : Keys h) {i j : Nat} (hi : i < h.length) (hj : j < h.length) (he : (hat h i).2 = (hat h j).2) : i = j := by
  rw [hat_get hi, hat_get hj] at he
  have hp := List.pairwise_iff_getElem.1 hG
  rcases Nat.lt_trichotomy i j with hlt | h1 | hlt
  · refine (hp i j (by simpa using hi) (by simpa using hj) hlt ?_).elim
    simpa using he
  · exact h1
  · refine (hp j i (by simpa using hj) (by simpa using hi) hlt ?_).elim
    simpa using he.symm
theorem split_at {h : List It} {i : Nat} (hi : i < h.length) : h = h.take i ++ hat h i :: h.drop (i + 1) := by
  rw [hat_get hi, List.getElem_cons_drop, List.take_append_drop]
/-- without the one that has the key -/
theorem noKey_at {h : List It} (hG : Keys h) {i : Nat} (hi : i < h.length) : noKey (hat h i).2 h = h.take i ++ h.drop (i + 1) := by
  have hne : ∀ j, j < h.length → j ≠ i → (hat h j).2 ≠ (hat h i).2 := fun j hj hji he => hji (keys_at hG hj hi he)
  have hs : ∀ l : List It, l = h.take i ++ hat h i :: h.drop (i + 1) → noKey (hat h i).2 l = h.take i ++ h.drop (i + 1) := fun l hl => by
    subst hl
    unfold noKey
    rw [List.filter_append, List.filter_cons, if_neg (by simp)]
    rw [List.filter_eq_self.2 fun a ha => ?_, List.filter_eq_self.2 fun a ha => ?_]
    · obtain ⟨j, hj, rfl⟩ := List.mem_iff_getElem.1 ha
      rw [List.getElem_drop]
      rw [List.length_drop] at hj
      have := hne (i + 1 + j) (by omega) (by omega)
      rw [hat_get (by omega)] at this
      exact decide_eq_true this
    · obtain ⟨j, hj, rfl⟩ := List.mem_iff_getElem.1 ha
      rw [List.getElem_take]
      rw [List.length_take] at hj
      have := hne j (by omega) (by omega)
      rw [hat_get (by omega)] at this
      exact decide_eq_true this
  exact hs h (split_at hi)
theorem set_perm' {h : List It} (hG : Keys h) {i : Nat} (hi : i < h.length) (x : It) : (h.set i x).Perm (x :: noKey (hat h i).2 h) := by
  rw [noKey_at hG hi, List.set_eq_take_append_cons_drop, if_pos hi]
  exact List.perm_middle
theorem remove_perm' {h : List It} (hG : Keys h) {i : Nat} (hi : i < h.length) : (removeF h i).Perm (noKey (hat h i).2 h) := by
  have h1 : (hat h i :: removeF h i).Perm (hat h i :: noKey (hat h i).2 h) := (remove_perm hi).trans (by
    rw [noKey_at hG hi]
    conv => lhs; rw [split_at hi]
    exact List.perm_middle)
  exact (List.perm_cons _).1 h1
/-- those whose time has come -/
def due (now : Int) (S : List It) : List It := S.takeWhile fun a => decide (a.1 ≤ now)
def late (now : Int) (S : List It) : List It := S.dropWhile fun a => decide (a.1 ≤ now)
end Go.Proofs.Ytjjafpgpnmdjlaa
