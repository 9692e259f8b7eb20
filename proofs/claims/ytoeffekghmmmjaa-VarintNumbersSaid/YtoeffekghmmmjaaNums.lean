/- VarintNumbers: what its region asks. -/
import Derived.Test.YtoeffekghmmmjaaWithin
import Derived.Test.YtoeffekghmmmjaaOwn2
namespace Go.Proofs.Ytoeffekghmmmjaa
open Go.RowKit Go.Hop
theorem wrap_in (z : Int) : -9223372036854775808 ≤ wrap64 z ∧ wrap64 z ≤ 9223372036854775807 := by unfold wrap64; omega
theorem wrap_in2 (z : Int) : -9223372036854775808 ≤ IntKind.i64.wrap z ∧ IntKind.i64.wrap z ≤ 9223372036854775807 := by rw [IntKind.wrap_i64]; omega
theorem puts_is (w : World) (u : Value) (l : List UInt8) (h : IsBytes l u w) (hl : l.length ≤ 1099511627776) (m : Nat) (hm : m < 18446744073709551616) (s : ByteArray) (hs : s.size ≤ 1099511627776) (z : Int) (hz : -9223372036854775808 ≤ z ∧ z ≤ 9223372036854775807) :
    Calls Try.prog 14 #[u, .int .u64 (m : Int), .string s, .int .i64 z] w fun e w' => e = .returned (.bool true) ∧ Grow w w' := by
  obtain ⟨A, n, c, rfl, hb, hn, hc⟩ := h
  exact puts_any w A n c l hb (by rw [← hb.len]; exact hl) m hm s hs z hz
theorem reads_is (w : World) {u : Value} {l : List UInt8} (h : IsBytes l u w) : Calls Try.prog 15 #[u] w fun e w' => e = .returned (.bool true) ∧ Grow w w' := by
  obtain ⟨A, n, c, rfl, hb, hn, hc⟩ := h
  exact reads_any w A n c l hb hn hc
theorem reads_cut (w : World) {V : Nat → Prop} {A : Option Addr} {L c k : Nat} {X : List UInt8} (h : Own w V 5 1 (.slice A L c) L (u8s X)) (hk : k ≤ L) : Calls Try.prog 15 #[.slice A k c] w fun e w' => e = .returned (.bool true) ∧ Grow w w' := by
  obtain ⟨A', c', e, hR, hn, hc⟩ := h.reads
  injection e with e1 e2 e3
  subst e1; subst e3
  have := hR.take hk
  rw [← u8s_take] at this
  exact reads_any w A k c _ this (by omega) hc
theorem reads_own (w : World) {V : Nat → Prop} {A : Option Addr} {L c : Nat} {X : List UInt8} (h : Own w V 5 1 (.slice A L c) L (u8s X)) (_ : L ≤ L) : Calls Try.prog 15 #[.slice A L c] w fun e w' => e = .returned (.bool true) ∧ Grow w w' := reads_cut w h (Nat.le_refl L)
theorem two_cells (x : Nat) : (#[Value.int .u8 ((x % 128 + 128 : Nat) : Int), Value.int .u8 0] : Array Value).toList = u8s [UInt8.ofNat (x % 128 + 128), 0] := by
  unfold u8s
  simp only [List.map_cons, List.map_nil]
  rw [of_nat (by omega)]
  rfl
theorem app_zero (ρ : Operand → Value) (w : World) (u : Value) (X : List UInt8) {V : Nat → Prop} {g L c : Nat} (h : Own w V 5 1 (.slice (some ⟨g, 0, none⟩) L c) L (u8s X)) (hu : IsBytes [0] u w) (hL : L ≤ 1048576)
    (dst : Option Tmp) (pos : String) (after : Array Edge) (guard : Option (Nat × Bool)) (h1 : ρ (.tmp 47) = .slice (some ⟨g, 0, none⟩) L c) (h2 : ρ (.tmp 48) = u) :
    flowUpon Try.prog (fun v w' => Just V w w' ∧ Own w' V 5 1 (.slice (some ⟨g, 0, none⟩) L c) L (u8s X) ∧ Once (IsBytes (X ++ [0])) 1 v w') ((execOp ρ { dst := dst, op := .call { callee := .builtin .append, args := #[.tmp 47, .tmp 48], argTypes := #[23, 23] }, type := 23, pos := pos, after := after, guard := guard }).run Try.prog w) := by
  obtain ⟨A, n, c', rfl, hb, hn, hc⟩ := hu
  have hn1 : n = 1 := by rw [← hb.len]; rfl
  obtain ⟨v', w', hrun, a1, a2, a3⟩ := run_append_Own2 u8E w 23 _ L (u8s X) h _ A n c' (u8s [0]) hb u8s_one (by omega)
  rw [← u8s_append] at a1
  refine flowUpon_value (u := v') (w := w') ?_ ⟨a2, a3, Own.isBytes a1⟩
  unfold execOp
  simp only [resolve, invoke, builtin, Sem.run_bind, Sem.run_pure, Result.andThen_ok, List.map_toArray, List.map_cons, List.map_nil, h1, h2, hrun]
theorem app_cut (ρ : Operand → Value) (w : World) (u : Value) (X : List UInt8) {V : Nat → Prop} {g L c : Nat} {Y : List UInt8} (h : Own w V 5 1 (.slice (some ⟨g, 0, none⟩) L c) L (u8s X)) (hu : IsBytes Y u w) (hL : L ≤ 1048576) (hY : 1 ≤ Y.length ∧ Y.length ≤ 2)
    (dst : Option Tmp) (pos : String) (after : Array Edge) (guard : Option (Nat × Bool)) (h1 : ρ (.tmp 70) = .slice (some ⟨g, 0, none⟩) (L - 1) (L - 1)) (h2 : ρ (.tmp 78) = u) :
    flowUpon Try.prog (fun v w' => Grow w w' ∧ IsBytes (X.take (L - 1) ++ Y) v w') ((execOp ρ { dst := dst, op := .call { callee := .builtin .append, args := #[.tmp 70, .tmp 78], argTypes := #[23, 23] }, type := 23, pos := pos, after := after, guard := guard }).run Try.prog w) := by
  obtain ⟨A, n, c', rfl, hb, hn, hc⟩ := hu
  have hlen := hb.len
  have hcut := h.cut (k := L - 1) (by omega)
  obtain ⟨A1, c1, e1, hR, _, _⟩ := hcut.reads
  injection e1 with e1 _ e3
  obtain ⟨ad, rfl, _, hcc⟩ := hb.2 (by omega)
  have hX : ∀ j v, ((u8s X).take ((L - 1) * 1))[j]? = some v → w.cell? ((⟨g, 0, none⟩ : Addr).add j) = some v := fun j v hv => by
    have hl : 0 < L - 1 := by
      rcases Nat.eq_zero_or_pos (L - 1) with h0 | h0
      · rw [h0] at hv; simp at hv
      · exact h0
    obtain ⟨ad', e', _, hc'⟩ := hR.2 hl
    rw [← e1] at e'; injection e' with e'
    rw [e']; exact hc' j v hv
  obtain ⟨i, hi, hz, hs, hbb⟩ := u8E.info
  obtain ⟨v', w', hrun, r1, r2⟩ := run_append_arg_grows (P := Try.prog) w 23 23 5 i _ 1 1 u8E.und hi hz hs hbb u8E.zs u8E.pos ⟨g, 0, none⟩ (L - 1) (L - 1) _ hcut.1 hX ad n c' (u8s Y) (by simp [hlen]) hcc (by omega) (by unfold maxLen; omega) (by omega)
  have hO : Own w' (fun _ => True) 5 1 v' (L - 1 + n) ((u8s X).take ((L - 1) * 1) ++ u8s Y) := .of_row r1 fun _ _ => trivial
  rw [← u8s_take, ← u8s_append] at hO
  refine flowUpon_value (u := v') (w := w') ?_ ⟨⟨r2.os, r2.tape, r2.output, r2.size, fun k hk => r2.block k hk (by simp)⟩, Own.isBytes hO⟩
  unfold execOp
  simp only [resolve, invoke, builtin, Sem.run_bind, Sem.run_pure, Result.andThen_ok, List.map_toArray, List.map_cons, List.map_nil, h1, h2, hrun]
end Go.Proofs.Ytoeffekghmmmjaa
