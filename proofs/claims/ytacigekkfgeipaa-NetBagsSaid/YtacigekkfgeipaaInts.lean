/- Both nets, asked for any index. -/
import Derived.Test.YtacigekkfgeipaaRset
namespace Go.Proofs.Ytacigekkfgeipaa
open Go.RowKit Go.Hop
def dropE (l : List Lb) (i : Int) : Int := if nodeB (l.length : Int) i = true then 0 else 23
def dropL (l : List Lb) (i : Int) : List Lb := if nodeB (l.length : Int) i = true then minus l i.toNat else l
def ltAt (l : List Lb) (i : Int) : Lb := l.getD i.toNat (0, 0, [])
def twiceE (nodes : Int) (l : List Lb) (i : Int) : Int := if nodeB (l.length : Int) i = true then sendE nodes l (ltAt l i).1 (ltAt l i).2.1 else 23
def twiceL (nodes : Int) (l : List Lb) (i : Int) : List Lb := if nodeB (l.length : Int) i = true then sendL nodes l (ltAt l i) else l
def delE (l : List Lb) (P : Nat → Bool) (i : Int) : Int := if nodeB (l.length : Int) i = true then (if P ((ltAt l i).1.toNat * 8 + (ltAt l i).2.1.toNat) = true then 26 else 0) else 23
def delL (l : List Lb) (P : Nat → Bool) (i : Int) : List Lb := if delE l P i = 0 then minus l i.toNat else l
def delB (l : List Lb) (P : Nat → Bool) (i : Int) : Lb := if delE l P i = 0 then ltAt l i else (0, 0, [])
theorem nodeB_nat {n : Nat} {i : Int} (h : nodeB (n : Int) i = true) : ∃ k : Nat, i = (k : Int) ∧ k < n := by
  obtain ⟨a, b⟩ := nodeB_is h
  exact ⟨i.toNat, by omega, by omega⟩
theorem ltAt_nat {l : List Lb} {k : Nat} (h : k < l.length) : ltAt l (k : Int) = l[k] := by
  unfold ltAt
  rw [Int.toNat_natCast, List.getD_eq_getElem?_getD, List.getElem?_eq_getElem h, Option.getD_some]
theorem Drop_int (w : World) (g : Nat) (nodes : Int) (l : List Lb) (P : Nat → Bool) (i : Int) :
    Turns Try.prog 18 #[.pointer (some ⟨g, 0, none⟩), .int .i64 i] (fun e => e = .returned (.int .i64 (dropE l i))) (NetAt g nodes l P) (NetAt g nodes (dropL l i) P) w := by
  unfold dropE dropL
  cases h : nodeB (l.length : Int) i with
  | false => simp only [Bool.false_eq_true, if_false]; exact Drop_no w g nodes l P i h
  | true =>
    obtain ⟨k, rfl, hk⟩ := nodeB_nat h
    simp only [if_true, Int.toNat_natCast]
    exact Drop_yes w g nodes l P k hk
theorem Twice_int (w : World) (g : Nat) (nodes : Int) (l : List Lb) (P : Nat → Bool) (i : Int) :
    Turns Try.prog 15 #[.pointer (some ⟨g, 0, none⟩), .int .i64 i] (fun e => e = .returned (.int .i64 (twiceE nodes l i))) (NetAt g nodes l P) (NetAt g nodes (twiceL nodes l i) P) w := by
  unfold twiceE twiceL
  cases h : nodeB (l.length : Int) i with
  | false => simp only [Bool.false_eq_true, if_false]; exact Twice_no w g nodes l P i h
  | true =>
    obtain ⟨k, rfl, hk⟩ := nodeB_nat h
    simp only [if_true, ltAt_nat hk]
    exact Twice_yes w g nodes l P k hk
theorem rDrop_int (w : World) (g : Nat) (nodes : Int) (l : List Lb) (P : Nat → Bool) (i : Int) :
    Turns Try.prog 19 #[.pointer (some ⟨g, 0, none⟩), .int .i64 i] (fun e => e = .returned (.int .i64 (dropE l i))) (RNetAt g nodes l P) (RNetAt g nodes (dropL l i) P) w := by
  unfold dropE dropL
  cases h : nodeB (l.length : Int) i with
  | false => simp only [Bool.false_eq_true, if_false]; exact rDrop_no w g nodes l P i h
  | true =>
    obtain ⟨k, rfl, hk⟩ := nodeB_nat h
    simp only [if_true, Int.toNat_natCast]
    exact rDrop_yes w g nodes l P k hk
theorem rTwice_int (w : World) (g : Nat) (nodes : Int) (l : List Lb) (P : Nat → Bool) (i : Int) :
    Turns Try.prog 20 #[.pointer (some ⟨g, 0, none⟩), .int .i64 i] (fun e => e = .returned (.int .i64 (twiceE nodes l i))) (RNetAt g nodes l P) (RNetAt g nodes (twiceL nodes l i) P) w := by
  unfold twiceE twiceL
  cases h : nodeB (l.length : Int) i with
  | false => simp only [Bool.false_eq_true, if_false]; exact rTwice_no w g nodes l P i h
  | true =>
    obtain ⟨k, rfl, hk⟩ := nodeB_nat h
    simp only [if_true, ltAt_nat hk]
    exact rTwice_yes w g nodes l P k hk
theorem Deliver_int (w : World) (g : Nat) (nodes : Int) (l : List Lb) (P : Nat → Bool) (i : Int) : ∀ V : Nat → Prop, NetAt g nodes l P w V → (∀ b, V b → b < w.heap.size) →
    Calls Try.prog 13 #[.pointer (some ⟨g, 0, none⟩), .int .i64 i] w fun e w' => ∃ j : Option Addr × Nat × Nat, e = .returned (.tuple #[.agg #[.int .i64 (delB l P i).1, .int .i64 (delB l P i).2.1, .slice j.1 j.2.1 j.2.2], .int .i64 (delE l P i)]) ∧ Taken g nodes (delL l P i) P (delB l P i).2.2 j w' (Ext V w w') ∧ Just V w w' := by
  intro V hQ hV
  unfold delL delB delE
  cases h : nodeB (l.length : Int) i with
  | false =>
    simp only [Bool.false_eq_true, if_false, show ¬ (23 : Int) = 0 by decide]
    exact (Deliver_no w g nodes l P i h V hQ hV).mono fun e w' ⟨he, hn, hj⟩ => ⟨(none, 0, 0), he, ⟨hn, In.nil, Nat.le_refl _, Nat.zero_le _⟩, hj⟩
  | true =>
    obtain ⟨k, rfl, hk⟩ := nodeB_nat h
    simp only [if_true, ltAt_nat hk, Int.toNat_natCast]
    cases hp : P (l[k].1.toNat * 8 + l[k].2.1.toNat) with
    | true =>
      simp only [if_true, show ¬ (26 : Int) = 0 by decide, if_false]
      exact (Deliver_cut w g nodes l P k hk hp V hQ hV).mono fun e w' ⟨he, hn, hj⟩ => ⟨(none, 0, 0), he, ⟨hn, In.nil, Nat.le_refl _, Nat.zero_le _⟩, hj⟩
    | false =>
      simp only [Bool.false_eq_true, if_false, if_true]
      exact Deliver_yes w g nodes l P k hk hp V hQ hV
theorem rDeliver_int (w : World) (g : Nat) (nodes : Int) (l : List Lb) (P : Nat → Bool) (i : Int) :
    Turns Try.prog 17 #[.pointer (some ⟨g, 0, none⟩), .int .i64 i] (fun e => e = .returned (.tuple #[.agg #[.int .i64 (delB l P i).1, .int .i64 (delB l P i).2.1, .string ⟨(delB l P i).2.2.toArray⟩], .int .i64 (delE l P i)])) (RNetAt g nodes l P) (RNetAt g nodes (delL l P i) P) w := by
  unfold delL delB delE
  cases h : nodeB (l.length : Int) i with
  | false =>
    simp only [Bool.false_eq_true, if_false, show ¬ (23 : Int) = 0 by decide]
    exact rDeliver_no w g nodes l P i h
  | true =>
    obtain ⟨k, rfl, hk⟩ := nodeB_nat h
    simp only [if_true, ltAt_nat hk, Int.toNat_natCast]
    cases hp : P (l[k].1.toNat * 8 + l[k].2.1.toNat) with
    | true =>
      simp only [if_true, show ¬ (26 : Int) = 0 by decide, if_false]
      exact rDeliver_cut w g nodes l P k hk hp
    | false =>
      simp only [Bool.false_eq_true, if_false, if_true]
      exact rDeliver_yes w g nodes l P k hk hp
end Go.Proofs.Ytacigekkfgeipaa
