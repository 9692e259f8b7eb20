/- The order of texts. -/
import Derived.Test.YtidkhokecekpgaaDoorLb
import Derived.Sort.Walk0
namespace Go.Proofs.YtidkhokecekpgaaDoor
open Go.RowKit Go.Hop
def slt (a b : ByteArray) : Bool := Op.bytesLess a.toList b.toList
theorem slt_is (a b : ByteArray) : slt a b = decide (a.data.toList < b.data.toList) := by
  unfold slt
  rw [bytesLess_eq, Lib.toList_data, Lib.toList_data]
theorem slt_irr (a : ByteArray) : slt a a = false := by
  rw [slt_is]; exact decide_eq_false (List.lt_irrefl _)
theorem slt_tr {a b c : ByteArray} (h : slt a b = true) (k : slt b c = true) : slt a c = true := by
  rw [slt_is] at *
  exact decide_eq_true (List.lt_trans (of_decide_eq_true h) (of_decide_eq_true k))
theorem slt_tri {a b : ByteArray} (h : slt a b = false) (k : slt b a = false) : a = b := by
  rw [slt_is] at *
  have h1 := of_decide_eq_false h
  have h2 := of_decide_eq_false k
  have e : a.data.toList = b.data.toList := List.le_antisymm (List.not_lt.1 h2) (List.not_lt.1 h1)
  exact ByteArray.ext (Array.toList_inj.1 e)
theorem slt_no {a b : ByteArray} (h : slt a b = true) : slt b a = false := by
  cases hb : slt b a with
  | false => rfl
  | true => have := slt_tr h hb; rw [slt_irr] at this; cases this
theorem slt_ntr {x y z : ByteArray} (h : slt x y = false) (k : slt y z = false) : slt x z = false := by
  cases hz : slt x z with
  | false => rfl
  | true =>
    cases hzy : slt z y with
    | true => rw [slt_tr hz hzy] at h; cases h
    | false => have e := slt_tri k hzy; rw [e, hz] at h; cases h
theorem txt_eq {a b : ByteArray} : a.toList = b.toList ↔ a = b := by
  rw [Lib.toList_data, Lib.toList_data]
  exact ⟨fun e => ByteArray.ext (Array.toList_inj.1 e), fun e => by rw [e]⟩
/-- what the comparison tells -/
def cmpT (a b : ByteArray) : Int := if slt a b then -1 else if slt b a then 1 else 0
theorem gtr_is (a b : ByteArray) : (!(Op.bytesLess a.toList b.toList || a.toList == b.toList)) = slt b a := by
  cases h1 : slt a b with
  | true =>
    have h2 := slt_no h1
    unfold slt at h1
    rw [h1, h2]; rfl
  | false =>
    have h1' := h1
    unfold slt at h1'
    rw [h1', Bool.false_or]
    cases h2 : slt b a with
    | false =>
      have := slt_tri h1 h2
      subst this
      simp
    | true =>
      have hne : a.toList ≠ b.toList := fun e => by
        have := txt_eq.1 e
        rw [this, slt_irr] at h2; cases h2
      simp [hne]
theorem isNaN_any (w : World) (a : ByteArray) : Calls Tryd.prog 42 #[.string a] w fun e w' => e = .returned (.bool false) ∧ w = w' := by
  go_enter Tryd.func42, Tryd.ntmps42
  go_wp2_with fail
  go_ret
  exact ⟨by simp, rfl⟩
theorem Compare_any (w : World) (a b : ByteArray) : Calls Tryd.prog 20 #[.string a, .string b] w fun e w' => e = .returned (.int .i64 (cmpT a b)) ∧ w = w' := by
  have hg := gtr_is a b
  unfold cmpT
  cases h1 : slt a b with
  | true =>
    rw [if_pos rfl]
    unfold slt at h1
    go_enter Tryd.func20, Tryd.ntmps20
    go_wp2_with (go_at_call 42; refine (isNaN_any _ _).mono ?_; rintro e w' ⟨rfl, rfl⟩)
    go_ret
    exact ⟨rfl, rfl⟩
  | false =>
    rw [if_neg (by simp)]
    unfold slt at h1
    cases h2 : slt b a with
    | true =>
      rw [if_pos rfl]
      rw [h2] at hg
      go_enter Tryd.func20, Tryd.ntmps20
      go_wp2_with (go_at_call 42; refine (isNaN_any _ _).mono ?_; rintro e w' ⟨rfl, rfl⟩)
      all_goals first | (go_ret; exact ⟨rfl, rfl⟩) | simp_all
    | false =>
      rw [if_neg (by simp)]
      rw [h2] at hg
      go_enter Tryd.func20, Tryd.ntmps20
      go_wp2_with (go_at_call 42; refine (isNaN_any _ _).mono ?_; rintro e w' ⟨rfl, rfl⟩)
      all_goals first | (go_ret; exact ⟨rfl, rfl⟩) | simp_all
end Go.Proofs.YtidkhokecekpgaaDoor
