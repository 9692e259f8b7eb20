/- Bytes: copies, cuts, strings. -/
import Derived.Test.YtdpcokekilklfaaOwn
import Derived.Test.YtdpcokekilklfaaKit
import Derived.Lib.SlBytesConst
namespace Go.Proofs.Ytdpcokekilklfaa
open Go.RowKit Go.Hop
theorem u8_info : (Try.prog.info? 5).map (fun i => (i.zero, i.size, i.bytes)) = some (some (.int .u8 0), 1, 1) := by kernel_rfl
theorem info_parts {e size bytes : Nat} {z : Value} (h : (Try.prog.info? e).map (fun i => (i.zero, i.size, i.bytes)) = some (some z, size, bytes)) : ∃ i, Try.prog.info? e = some i ∧ i.zero = some z ∧ i.size = size ∧ i.bytes = bytes := by
  cases hi : Try.prog.info? e with
  | none => rw [hi] at h; cases h
  | some i => rw [hi] at h; injection h with h; injection h with h1 h2; injection h2 with h2 h3; exact ⟨i, rfl, h1, h2, h3⟩
theorem u8E : Elem Try.prog 29 5 1 1 (.int .u8 0) := ⟨Try.underlying29, info_parts u8_info, rfl, by decide, by decide⟩
/-- what is new -/
def New (w w' : World) (b : Nat) : Prop := w.heap.size ≤ b ∧ b < w'.heap.size
theorem u8s_take (l : List UInt8) (k : Nat) : u8s (l.take k) = (u8s l).take (k * 1) := by unfold u8s; rw [List.map_take, Nat.mul_one]
theorem u8s_drop (l : List UInt8) (k : Nat) : u8s (l.drop k) = (u8s l).drop (k * 1) := by unfold u8s; rw [List.map_drop, Nat.mul_one]
theorem bytes_append (a b : List UInt8) : (⟨a.toArray⟩ : ByteArray) ++ ⟨b.toArray⟩ = ⟨(a ++ b).toArray⟩ := by
  apply ByteArray.ext
  simp
theorem conv_is (w : World) {u : Value} {l : List UInt8} (h : IsBytes l u w) : (convert 29 9 u).run Try.prog w = .ok (.string ⟨l.toArray⟩) w := run_conv_is 29 9 5 Try.underlying29 Try.underlying5 Try.underlying9 w h
theorem conv_bytes (w : World) {B : Nat} {A : Option Addr} {n c : Nat} {l : List UInt8} (h : Bytes w B A n l) : (convert 29 9 (.slice A n c)).run Try.prog w = .ok (.string ⟨l.toArray⟩) w := run_conv_bytes 29 9 5 Try.underlying29 Try.underlying5 Try.underlying9 w h
theorem conv_const (w : World) (g : Nat) (C : Array Value) (n c : Nat) (hg : w.heap.size = g) : (convert 29 29 (.slice (some ⟨g, 0, none⟩) n c)).run Try.prog (w.alloc (.cells C 5)) = .ok (.slice (some ⟨g, 0, none⟩) n c) (w.alloc (.cells C 5 (C.size, C.size + 1))) := by
  subst hg
  exact Lib.run_convert_bytes_const (P := Try.prog) w 29 5 C n c Try.underlying29 Try.underlying5
theorem made_own (w : World) : Own (w.alloc (.cells #[] 5)) (fun b => b = w.heap.size) 5 1 (.slice (some ⟨w.heap.size, 0, none⟩) 0 0) 0 [] :=
  Own.of_row (World.ownsRow_made w #[] 0 (Nat.le_refl _) (by decide) rfl) (fun g hg => by injection hg with hg; exact hg.symm)
/-- what is owned by a block that was made, and what is new, is new -/
theorem own_new {w w1 : World} {v : Value} {n : Nat} {xs : List Value} (hO : Own w1 (Ext (fun b => b = w.heap.size) (w.alloc (.cells #[] 5)) w1) 5 1 v n xs) (hj : Just (fun b => b = w.heap.size) (w.alloc (.cells #[] 5)) w1) : Own w1 (New w w1) 5 1 v n xs ∧ Grow w w1 := by
  have hs : w.heap.size < w1.heap.size := by have := hj.size; simp at this; omega
  refine ⟨hO.mono (fun b hb => ?_), ((Below.refl w.heap.size w).alloc (Nat.le_refl _) (.cells #[] 5)).trans (hj.below (B := w.heap.size) (fun b hb => by rw [hb]; exact Nat.le_refl _) (by simp))⟩
  rcases hb with rfl | ⟨h1, h2⟩
  · exact ⟨Nat.le_refl _, hs⟩
  · simp at h1; exact ⟨by omega, h2⟩
/-- appending on and on to what is new since w -/
theorem own_more {w w1 w2 : World} {e size n : Nat} {v : Value} {xs : List Value} (hg : Grow w w1) (hO : Own w2 (Ext (New w w1) w1 w2) e size v n xs) (hj : Just (New w w1) w1 w2) : Own w2 (New w w2) e size v n xs ∧ Grow w w2 := by
  have h1 := hg.size
  have h2 := hj.size
  refine ⟨hO.mono fun b hb => ?_, Below.trans hg (hj.below (B := w.heap.size) (fun b hb => hb.1) h1)⟩
  rcases hb with hb | hb
  · exact ⟨hb.1, by have := hb.2; omega⟩
  · exact ⟨by have := hb.1; omega, hb.2⟩
/-- .. a block that was made between, to be appended from -/
theorem own_more1 {w w1 w2 : World} {e size n : Nat} {v : Value} {xs : List Value} {o : Obj} (hg : Grow w w1) (hO : Own w2 (Ext (New w w1) (w1.alloc o) w2) e size v n xs) (hj : Just (New w w1) (w1.alloc o) w2) : Own w2 (New w w2) e size v n xs ∧ Grow w w2 := by
  have h1 := hg.size
  have h2 := hj.size
  simp at h2
  refine ⟨hO.mono fun b hb => ?_, Below.trans hg (Below.trans ((Below.refl w1.heap.size w1).alloc (Nat.le_refl _) o |>.mono h1) (hj.below (B := w.heap.size) (fun b hb => hb.1) (by simp; omega)))⟩
  rcases hb with hb | hb
  · exact ⟨hb.1, by have := hb.2; omega⟩
  · have := hb.1; simp at this; exact ⟨by omega, hb.2⟩
theorem own_alloc {w w1 : World} {e size n : Nat} {v : Value} {xs : List Value} (hO : Own w1 (New w w1) e size v n xs) (o : Obj) : Own (w1.alloc o) (New w w1) e size v n xs :=
  hO.grow (fun b hb => hb.2) ((Below.refl w1.heap.size w1).alloc (Nat.le_refl _) o)
theorem clone_any (w : World) (A : Option Addr) (n c : Nat) (l : List UInt8) (h : Bytes w w.heap.size A n l) (hn : n ≤ 140737488355328) :
    Calls Try.prog 38 #[.slice A n c] w fun e w' => ∃ v, e = .returned v ∧ Own w' (New w w') 5 1 v n (u8s l) ∧ Grow w w' := by
  have hnil := fun (w' : World) => Lib.run_eql_slice_nil (P := Try.prog) w' 29 5 A n c 0 0 Try.underlying29
  cases A with
  | none =>
    have hn0 : n = 0 := by
      rcases Nat.eq_zero_or_pos n with h0 | h0
      · exact h0
      · obtain ⟨_, e, _⟩ := h.2 h0; cases e
    subst hn0
    obtain rfl : l = [] := List.eq_nil_of_length_eq_zero h.len
    go_enter Try.func38, Try.ntmps38
    go_wp2_with fail
    go_ret
    exact ⟨_, rfl, Own.nil, Grow.refl _⟩
  | some ad =>
    go_enter Try.func38, Try.ntmps38
    go_wp2_with (at_builtin; refine stay ?_)
    refine stay_out ?_
    refine wpList_own (V := fun b => b = w.heap.size) u8E _ rfl (.tmp 5) (.tmp 6) rfl (.slice (some ⟨w.heap.size, 0, none⟩) 0 0) 0 [] rfl (made_own w) w.heap.size (some ad) n c (u8s l) rfl (Reads.alloc h (Nat.le_refl _) _) u8s_one (by omega) ?_
    intro v1 w1 hO1 hj1
    simp only [Nat.zero_add, List.nil_append] at hO1
    obtain ⟨hO1, hg1⟩ := own_new hO1 hj1
    go_wp2_with fail
    go_ret
    exact ⟨v1, rfl, hO1, hg1⟩
theorem clip_any (w : World) (A : Option Addr) (n c : Nat) (hn : n ≤ c) :
    Calls Try.prog 39 #[.slice A n c] w fun e w' => e = .returned (.slice A n n) ∧ w = w' := by
  go_enter Try.func39, Try.ntmps39
  go_wp2_with fail
  go_ret
  exact ⟨rfl, rfl⟩
theorem clip_own (w : World) (V : Nat → Prop) (v : Value) (n : Nat) (l : List UInt8) (h : Own w V 5 1 v n (u8s l)) :
    Calls Try.prog 39 #[v] w fun e w' => ∃ v', e = .returned v' ∧ w = w' ∧ Own w V 5 1 v' n (u8s l) := by
  obtain ⟨A, c, rfl, hR, hn, hm⟩ := h.reads
  refine (clip_any w A n c hn).mono fun e w' ⟨he, hw⟩ => ⟨_, he, hw, ?_⟩
  have := h.cut (Nat.le_refl n)
  rwa [List.take_of_length_le (by rw [h.1]; omega)] at this
end Go.Proofs.Ytdpcokekilklfaa
