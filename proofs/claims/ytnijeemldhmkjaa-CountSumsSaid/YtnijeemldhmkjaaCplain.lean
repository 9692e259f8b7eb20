/- Sums by series, in plain words. -/
import Derived.Test.YtnijeemldhmkjaaDlt
import Derived.Sort.Walk0
namespace Go.Proofs.Ytnijeemldhmkjaa
open Go.RowKit Go.Hop
/-- the order of texts -/
def slt (a b : ByteArray) : Bool := Op.bytesLess a.toList b.toList
theorem slt_is (a b : ByteArray) : slt a b = decide (a.data.toList < b.data.toList) := by
  unfold slt
  rw [bytesLess_eq, Lib.toList_data, Lib.toList_data]
theorem slt_irr (a : ByteArray) : slt a a = false := by
  rw [slt_is]; exact decide_eq_false (List.lt_irrefl _)
theorem slt_tr {a b c : ByteArray} (h : slt a b = true) (k : slt b c = true) : slt a c = true := by
  rw [slt_is] at *
  exact decide_eq_true (List.lt_trans (of_decide_eq_true h) (of_decide_eq_true k))
theorem slt_tri {a b : ByteArray} (h : slt a b = false) (k : slt b a = false) : a = b := by
  rw [slt_is] at *
  have h1 := of_decide_eq_false h
  have h2 := of_decide_eq_false k
  have e : a.data.toList = b.data.toList := List.le_antisymm (List.not_lt.1 h2) (List.not_lt.1 h1)
  exact ByteArray.ext (Array.toList_inj.1 e)
theorem slt_no {a b : ByteArray} (h : slt a b = true) : slt b a = false := by
  cases hb : slt b a with
  | false => rfl
  | true => have := slt_tr h hb; rw [slt_irr] at this; cases this
theorem txt_eq {a b : ByteArray} : a.toList = b.toList ↔ a = b := by
  rw [Lib.toList_data, Lib.toList_data]
  exact ⟨fun e => ByteArray.ext (Array.toList_inj.1 e), fun e => by rw [e]⟩
abbrev Sm := List Dl
def lk (q : Sm) (x : ByteArray) : Option Nat := (q.find? fun d => decide (d.1 = x)).map (·.2)
def gt (q : Sm) (x : ByteArray) : Nat := (lk q x).getD 0
def Srt (q : Sm) : Prop := q.Pairwise fun a b => slt a.1 b.1 = true
def cutA (q : Sm) (x : ByteArray) : Sm := q.takeWhile fun d => slt d.1 x
def cutB (q : Sm) (x : ByteArray) : Sm := q.dropWhile fun d => slt d.1 x
/-- x has v from now on -/
def put (q : Sm) (x : ByteArray) (v : Nat) : Sm := if (lk q x).isSome then q.map fun d => if d.1 = x then (x, v) else d else cutA q x ++ (x, v) :: cutB q x
theorem lk_nil (x : ByteArray) : lk [] x = none := rfl
theorem lk_cons (d : Dl) (q : Sm) (x : ByteArray) : lk (d :: q) x = if d.1 = x then some d.2 else lk q x := by
  unfold lk
  rw [List.find?_cons]
  by_cases h : d.1 = x <;> simp [h]
theorem lk_append (a b : Sm) (x : ByteArray) : lk (a ++ b) x = (lk a x).or (lk b x) := by
  unfold lk
  rw [List.find?_append]
  cases a.find? (fun d => decide (d.1 = x)) <;> simp
theorem lk_none {q : Sm} {x : ByteArray} : lk q x = none ↔ ∀ d ∈ q, d.1 ≠ x := by
  unfold lk
  simp
theorem lk_mem {q : Sm} {x : ByteArray} {v : Nat} (h : lk q x = some v) : (x, v) ∈ q := by
  unfold lk at h
  simp only [Option.map_eq_some_iff] at h
  obtain ⟨d, hd, rfl⟩ := h
  have h1 := List.mem_of_find?_eq_some hd
  have h2 := List.find?_some hd
  simp only [decide_eq_true_eq] at h2
  rw [← h2]; exact h1
theorem cut_all (q : Sm) (x : ByteArray) : cutA q x ++ cutB q x = q := List.takeWhile_append_dropWhile
theorem cutA_lt {q : Sm} {x : ByteArray} : ∀ d ∈ cutA q x, slt d.1 x = true := fun d hd => by
  unfold cutA at hd
  exact List.all_eq_true.1 List.all_takeWhile d hd
theorem cutB_ge {q : Sm} (hs : Srt q) {x : ByteArray} : ∀ d ∈ cutB q x, slt d.1 x = false := by
  induction q with
  | nil => intro d hd; simp [cutB] at hd
  | cons a q ih =>
    intro d hd
    unfold cutB at hd
    rw [List.dropWhile_cons] at hd
    have hs' := List.pairwise_cons.1 hs
    split at hd
    · exact ih hs'.2 d hd
    · rename_i h
      have ha : slt a.1 x = false := by simpa using h
      rcases List.mem_cons.1 hd with rfl | hd
      · exact ha
      · cases hdx : slt d.1 x with
        | false => rfl
        | true => rw [slt_tr (hs'.1 d hd) hdx] at ha; cases ha
theorem lk_put (q : Sm) (x : ByteArray) (v : Nat) (y : ByteArray) : lk (put q x v) y = if y = x then some v else lk q y := by
  unfold put
  split
  · rename_i h
    have key : ∀ q : Sm, (lk q x).isSome = true → lk (q.map fun d => if d.1 = x then (x, v) else d) y = if y = x then some v else lk q y := by
      intro q
      induction q with
      | nil => intro h; simp [lk] at h
      | cons a q ih =>
        intro h
        rw [List.map_cons, lk_cons, lk_cons]
        rw [lk_cons] at h
        by_cases ha : a.1 = x
        · rw [if_pos ha]
          by_cases hy : y = x
          · rw [if_pos hy, if_pos hy.symm]
          · rw [if_neg hy, if_neg (fun e => hy e.symm), if_neg (fun e => hy (by rw [← e, ha]))]
            by_cases hq : (lk q x).isSome = true
            · rw [ih hq, if_neg hy]
            · have hn : lk q x = none := by simpa using hq
              have : (q.map fun d => if d.1 = x then (x, v) else d) = q := by
                conv => rhs; rw [← List.map_id q]
                exact List.map_congr_left fun d hd => by rw [if_neg (lk_none.1 hn d hd)]; rfl
              rw [this]
        · rw [if_neg ha] at h
          rw [if_neg ha, ih h]
          by_cases hy : y = x
          · rw [if_pos hy, if_neg (fun e => ha (e.trans hy)), if_pos hy]
          · rw [if_neg hy, if_neg hy]
    exact key q h
  · rename_i h
    have hn : lk q x = none := by simpa using h
    rw [lk_append, lk_cons]
    by_cases hy : y = x
    · rw [if_pos hy, if_pos hy.symm]
      have : lk (cutA q x) y = none := lk_none.2 fun d hd e => by
        have := cutA_lt d hd
        rw [e, hy, slt_irr] at this; cases this
      rw [this]; rfl
    · rw [if_neg hy, if_neg (fun e => hy e.symm), ← lk_append, cut_all]
theorem put_length (q : Sm) (x : ByteArray) (v : Nat) : (put q x v).length = if (lk q x).isSome then q.length else q.length + 1 := by
  unfold put
  split
  · rw [List.length_map]
  · rw [List.length_append, List.length_cons]
    have := congrArg List.length (cut_all q x)
    rw [List.length_append] at this
    omega
theorem put_srt {q : Sm} (hs : Srt q) (x : ByteArray) (v : Nat) : Srt (put q x v) := by
  unfold put
  split
  · unfold Srt
    rw [List.pairwise_map]
    refine List.Pairwise.imp (fun {a b} h => ?_) hs
    have ea : (if a.1 = x then ((x, v) : Dl) else a).1 = a.1 := by split <;> simp_all
    have eb : (if b.1 = x then ((x, v) : Dl) else b).1 = b.1 := by split <;> simp_all
    rw [ea, eb]; exact h
  · rename_i h
    have hn : lk q x = none := by simpa using h
    have hs2 := hs
    rw [← cut_all q x] at hs2
    obtain ⟨h1, h2, h3⟩ := List.pairwise_append.1 hs2
    refine List.pairwise_append.2 ⟨h1, List.pairwise_cons.2 ⟨fun d hd => ?_, h2⟩, fun a ha d hd => ?_⟩
    · cases hx : slt x d.1 with
      | true => rfl
      | false =>
        have := slt_tri hx (cutB_ge hs d hd)
        exact absurd this.symm (lk_none.1 hn d (by rw [← cut_all q x]; exact List.mem_append.2 (.inr hd)))
    · rcases List.mem_cons.1 hd with rfl | hd
      · exact cutA_lt a ha
      · exact h3 a ha d hd
theorem srt_lk {q : Sm} (hs : Srt q) {d : Dl} (hd : d ∈ q) : lk q d.1 = some d.2 := by
  induction q with
  | nil => cases hd
  | cons a q ih =>
    have hs' := List.pairwise_cons.1 hs
    rw [lk_cons]
    rcases List.mem_cons.1 hd with rfl | hd
    · rw [if_pos rfl]
    · rw [if_neg (fun e => by have := hs'.1 d hd; rw [e, slt_irr] at this; cases this)]
      exact ih hs'.2 hd
/-- two that are sorted and tell the same are one -/
theorem srt_ext {p q : Sm} (hp : Srt p) (hq : Srt q) (h : ∀ x, lk p x = lk q x) : p = q := by
  induction p generalizing q with
  | nil =>
    cases q with
    | nil => rfl
    | cons a q => have := h a.1; rw [lk_nil, lk_cons, if_pos rfl] at this; cases this
  | cons a p ih =>
    cases q with
    | nil => have := h a.1; rw [lk_nil, lk_cons, if_pos rfl] at this; cases this
    | cons b q =>
      have hp' := List.pairwise_cons.1 hp
      have hq' := List.pairwise_cons.1 hq
      have e1 : a.1 = b.1 := by
        have ha := h a.1
        have hb := h b.1
        rw [lk_cons, if_pos rfl] at ha
        rw [lk_cons b q b.1, if_pos rfl] at hb
        have ma := lk_mem ha.symm
        have mb := lk_mem hb
        refine slt_tri ?_ ?_
        · cases hx : slt a.1 b.1 with
          | false => rfl
          | true =>
            rcases List.mem_cons.1 ma with e | hm
            · rw [← e, slt_irr] at hx; cases hx
            · have := hq'.1 _ hm
              rw [slt_no hx] at this; cases this
        · cases hx : slt b.1 a.1 with
          | false => rfl
          | true =>
            rcases List.mem_cons.1 mb with e | hm
            · rw [← e, slt_irr] at hx; cases hx
            · have := hp'.1 _ hm
              rw [slt_no hx] at this; cases this
      have e2 : a.2 = b.2 := by
        have ha := h a.1
        rw [lk_cons, if_pos rfl, lk_cons, if_pos e1.symm] at ha
        injection ha
      have : a = b := Prod.ext e1 e2
      subst this
      rw [ih hp'.2 hq'.2 fun x => ?_]
      have hx := h x
      rw [lk_cons, lk_cons] at hx
      by_cases he : a.1 = x
      · have n1 : lk p x = none := lk_none.2 fun d hd e => by have := hp'.1 d hd; rw [e, ← he, slt_irr] at this; cases this
        have n2 : lk q x = none := lk_none.2 fun d hd e => by have := hq'.1 d hd; rw [e, ← he, slt_irr] at this; cases this
        rw [n1, n2]
      · rw [if_neg he, if_neg he] at hx; exact hx
/-- where x stands, or would -/
theorem cut_at {q : Sm} (hs : Srt q) (x : ByteArray) : (lk q x).isSome = true ↔ ∃ d, q[(cutA q x).length]? = some d ∧ d.1 = x := by
  have hq : q[(cutA q x).length]? = (cutB q x)[0]? := by
    have : ∀ a b : Sm, (a ++ b)[a.length]? = b[0]? := fun a b => by rw [List.getElem?_append_right (Nat.le_refl _), Nat.sub_self]
    have := this (cutA q x) (cutB q x)
    rwa [cut_all] at this
  rw [hq]
  constructor
  · intro h
    obtain ⟨v, hv⟩ := Option.isSome_iff_exists.1 h
    have hm := lk_mem hv
    rw [← cut_all q x] at hm
    rcases List.mem_append.1 hm with hm | hm
    · have := cutA_lt _ hm
      rw [slt_irr] at this; cases this
    · have hs2 := hs
      rw [← cut_all q x] at hs2
      have h2 := (List.pairwise_append.1 hs2).2.1
      have hge := cutB_ge hs (x := x)
      generalize cutB q x = b at hm h2 hge
      cases b with
      | nil => cases hm
      | cons d b =>
        refine ⟨d, rfl, ?_⟩
        rcases List.mem_cons.1 hm with e | hm
        · rw [← e]
        · have h3 := (List.pairwise_cons.1 h2).1 _ hm
          have h4 := hge d List.mem_cons_self
          rw [h3] at h4; cases h4
  · rintro ⟨d, hd, rfl⟩
    have hm : d ∈ q := by
      rw [← cut_all q d.1]
      exact List.mem_append.2 (.inr (List.mem_of_getElem? hd))
    rw [srt_lk hs hm]; rfl
end Go.Proofs.Ytnijeemldhmkjaa
