/- Queue.Add whatever is asked; calls of a queue that lies alone. -/
import Derived.Test.YtnlfkeajolfboaaDn
namespace Go.Proofs.Ytnlfkeajolfboaa
open Go.RowKit Go.Hop
def addE (l : List Ab) (last seq : Int) (m : Nat) : Int := if seq < 1 then 1 else if seq ≤ last then 1 else if m = 0 then 1 else if 8 < m then 1 else if 16 ≤ l.length then 24 else 0
def addL (l : List Ab) (last seq : Int) (m : Nat) (ds : List Dl) : List Ab := if addE l last seq m = 0 then l ++ [(seq, ds)] else l
def addK (l : List Ab) (last seq : Int) (m : Nat) : Int := if addE l last seq m = 0 then seq else last
theorem QueueAt.le {g : Nat} {l : List Ab} {last : Int} {w : World} {V : Nat → Prop} (h : QueueAt g l last w V) : l.length ≤ 16 := by
  obtain ⟨_, _, q, _, _, rfl, h3, _⟩ := h
  rw [List.length_map]; exact h3
theorem Add_any (w : World) (Z : Nat → Prop) (g : Nat) (l : List Ab) (last seq : Int) (A : Option Addr) (m c : Nat) (ds : List Dl) (hd0 : DIn w Z A m ds) (hmc : m ≤ c) (hcm : c ≤ maxLen) :
    Turns Try.prog 9 #[.pointer (some ⟨g, 0, none⟩), .agg #[.int .i64 seq, .slice A m c]] (fun e => e = .returned (.int .i64 (addE l last seq m))) (QueueAt g l last) (QueueAt g (addL l last seq m ds) (addK l last seq m)) w := by
  intro V hQ hV
  have hle := hQ.le
  unfold addL addK addE
  by_cases h1 : seq < 1
  · simp only [if_pos h1]; exact Add_a w g l last seq A m c h1 V hQ hV
  · by_cases h2 : seq ≤ last
    · simp only [if_neg h1, if_pos h2]; exact Add_b w g l last seq A m c h1 h2 V hQ hV
    · by_cases h3 : m = 0
      · simp only [if_neg h1, if_neg h2, if_pos h3]; exact Add_c w g l last seq A m c h1 h2 (by omega) V hQ hV
      · by_cases h4 : 8 < m
        · simp only [if_neg h1, if_neg h2, if_neg h3, if_pos h4]; exact Add_d w g l last seq A m c h1 h2 h4 V hQ hV
        · by_cases h5 : 16 ≤ l.length
          · simp only [if_neg h1, if_neg h2, if_neg h3, if_neg h4, if_pos h5]; exact Add_full w g l last seq A m c h1 h2 (by omega) (by omega) (by omega) V hQ hV
          · simp only [if_neg h1, if_neg h2, if_neg h3, if_neg h4, if_neg h5, if_true]; exact Add_ok w Z g l last seq A m c ds hd0 hmc hcm h1 h2 (by omega) (by omega) (by omega) V hQ hV
section
variable {P : Nat → Prop} {S S' : Thing} {w w' : World}
theorem Solo.beside {P' : Nat → Prop} (h : Solo P S w) (hS : Framed S) (hg : Grow w w') (hP : ∀ b, P b → b < w.heap.size ∨ w'.heap.size ≤ b → P' b) : Solo P' S w' := by
  obtain ⟨h0, V, h1, h2⟩ := h
  exact ⟨fun b hb => hP b (h0 b (Nat.le_trans hg.size hb)) (.inr hb), V, hS w w' V h1 (fun b hb => hg.block b (h2 b hb).2), fun b hb => ⟨hP b (h2 b hb).1 (.inl (h2 b hb).2), Nat.lt_of_lt_of_le (h2 b hb).2 hg.size⟩⟩
/-- all from a on, but block x -/
def Off (a x : Nat) (b : Nat) : Prop := a ≤ b ∧ b ≠ x
theorem solo_look {Pr : Program} {f : FuncId} {args : Array Value} {Q : Ending → World → Prop} (h : Solo P S w) (hc : ∀ V : Nat → Prop, S w V → Calls Pr f args w Q) : Calls Pr f args w Q := by
  obtain ⟨_, V, h1, _⟩ := h
  exact hc V h1
end
theorem Flight_at (w : World) (g : Nat) (l : List Ab) (last : Int) (V : Nat → Prop) (hQ : QueueAt g l last w V) (k : Nat) (hk : min l.length 4 = k) :
    Calls Try.prog 16 #[.pointer (some ⟨g, 0, none⟩)] w fun e w' => ∃ A' q', e = .returned (.slice A' k k) ∧ Bats w' (New w w') (New w w') A' k q' ∧ q'.map Bat.abs = l.take 4 ∧ Grow w w' := hk ▸ Flight_any w g l last V hQ
theorem All_at (w : World) (g : Nat) (l : List Ab) (last : Int) (V : Nat → Prop) (hQ : QueueAt g l last w V) (k : Nat) (hk : l.length = k) :
    Calls Try.prog 15 #[.pointer (some ⟨g, 0, none⟩)] w fun e w' => ∃ A' q', e = .returned (.slice A' k k) ∧ Bats w' (New w w') (New w w') A' k q' ∧ q'.map Bat.abs = l ∧ Grow w w' := hk ▸ All_any w g l last V hQ
theorem Len_at (w : World) (g : Nat) (l : List Ab) (last : Int) (V : Nat → Prop) (hQ : QueueAt g l last w V) (k : Nat) (hk : l.length = k) :
    Calls Try.prog 11 #[.pointer (some ⟨g, 0, none⟩)] w fun e w' => e = .returned (.int .i64 (k : Int)) ∧ w = w' := hk ▸ Len_any w g l last V hQ
theorem Done_at (w : World) (g : Nat) (l : List Ab) (last s : Int) (b : Bool) (l' : List Ab) (h : doneB l s = b ∧ doneL l s = l') :
    Turns Try.prog 10 #[.pointer (some ⟨g, 0, none⟩), .int .i64 s] (fun e => e = .returned (.bool b)) (QueueAt g l last) (QueueAt g l' last) w := by
  obtain ⟨rfl, rfl⟩ := h
  exact Done_any w g l last s
/-- one delta of a text and a number, laid anew -/
theorem delta_laid (w : World) (s : ByteArray) (n : Nat) (x : Nat) (hx : w.heap.size = x) : DIn (w.alloc (.cells #[.string s, .int .u64 (n : Int)] 29)) (fun b => b = x) (some ⟨x, 0, none⟩) 1 [(s, n)] := by
  obtain ⟨h3, h4⟩ := reads_laid w #[.string s, .int .u64 (n : Int)] 29 (0, 0) (n := 1) (size := 2) rfl x hx
  exact ⟨h3, fun hn => ⟨_, rfl, rfl, by simp; omega, by obtain ⟨ad, e, _, hc⟩ := h4 hn; injection e with e; rw [e]; exact hc⟩⟩
end Go.Proofs.Ytnlfkeajolfboaa
