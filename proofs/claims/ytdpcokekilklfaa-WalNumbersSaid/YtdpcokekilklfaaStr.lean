/- A string's bytes appended to a slice of a call's own. -/
import Derived.Test.YtdpcokekilklfaaOwn
import Derived.Lib.AppendStr
namespace Go.Hop
open Go.RowKit Go.Lib
theorem byteCells_u8s (s : ByteArray) : byteCells s = u8s s.data.toList := rfl
theorem strCells_u8s (s : ByteArray) : strCells s = u8s s.data.toList := by unfold strCells u8s; rfl
section
variable {P : Program} {t e u : TypeId} {V : Nat → Prop}
theorem run_append_Own_str (E : Elem P t e 1 1 (.int .u8 0)) (hu : P.underlying u = some .string) (w : World) (ty : Nat) (v : Value) (n : Nat) (xs : List Value) (hown : Own w V e 1 v n xs) (s : ByteArray)
    (hbytes : n + s.size ≤ 140737488355328) :
    ∃ v' w', (Builtin.append_ #[t, u] ty #[v, .string s]).run P w = .ok v' w' ∧ Own w' (Ext V w w') e 1 v' (n + s.size) (xs ++ u8s s.data.toList) ∧ Just V w w' := by
  obtain ⟨i, hi, hz, hs, hb⟩ := E.info
  have hsrc : Src P i.size u (.string s) s.size (u8s s.data.toList) w := by rw [hs]; exact Src.ofString w hu s
  have hxl : xs.length = n := by have := hown.1; omega
  have hnl : (u8s s.data.toList).length = s.size := by have := hsrc.newsLen; rw [hs] at this; omega
  have grow : ∀ (ao : Option Addr) (cap : Nat), v = .slice ao n cap → cap < n + s.size → (Builtin.firstCells i.size n (.slice ao n cap)).run P w.drew = .ok xs.toArray w.drew →
      ∃ v' w', (Builtin.append_ #[t, u] ty #[v, .string s]).run P w = .ok v' w' ∧ Own w' (Ext V w w') e 1 v' (n + s.size) (xs ++ u8s s.data.toList) ∧ Just V w w' := by
    rintro ao cap rfl hg hold
    have h63 : n + s.size ≤ maxLen := by simp only [maxLen]; omega
    have hrun := run_append_grow_src (P := P) w t u ty e i (.int .u8 0) E.und hi hz ao n cap xs hold (.string s) s.size (u8s s.data.toList) hsrc hg (by omega) (growslice_fits hg (by rw [hb]; omega))
    have hge := grownCap_ge w (n + s.size) cap e
    have hcm : grownCap w (n + s.size) cap e ≤ maxLen := grownCap_le_maxLen w (n + s.size) cap e h63
    refine ⟨_, _, hrun, ⟨by rw [List.length_append]; omega, .inr ⟨w.heap.size, _, _, rfl, .inr ⟨Nat.le_refl _, by simp⟩, heap_alloc_new w.drew _, hge, hcm, .inl ?_, ?_⟩⟩, ⟨rfl, rfl, rfl, by simp, fun k hk _ => heap_alloc_old w.drew _ hk⟩⟩
    · have hz1 : (Value.int IntKind.u8 0).cells.size = 1 := rfl
      simp only [Array.size_append, List.size_toArray, size_zeroCells, hz1, List.length_append, hxl, hnl]
      omega
    · have hl : (xs ++ u8s s.data.toList).length = (n + s.size) * 1 := by rw [List.length_append]; omega
      rw [Array.toList_append, List.toList_toArray, ← hl]
      exact List.take_left
  by_cases hm : s.size = 0
  · have hn : u8s s.data.toList = [] := List.eq_nil_of_length_eq_zero (by omega)
    rw [hn, hm] at hsrc
    obtain ⟨A, c, rfl, _, hnc, _⟩ := hown.reads
    refine ⟨_, w, run_append_nothing (P := P) w t u ty e i E.und hi A n c hnc (.string s) hsrc, ?_, Just.of_grow (Grow.refl w)⟩
    rw [hn, hm, List.append_nil]
    exact hown.mono fun b hb => .inl hb
  · rcases hown.2 with ⟨hv, h0⟩ | ⟨g, cap, cur, hv, hV, hg, hnc, hcm, hsz, htk⟩
    · subst h0
      obtain rfl : xs = [] := List.eq_nil_of_length_eq_zero hxl
      exact grow none 0 hv (by omega) (run_firstCells_none (P := P) w.drew i.size 0 0 0)
    · by_cases hroom : n + s.size ≤ cap
      · have hcs : cur.size = cap := by
          rcases hsz with h | ⟨h, _⟩
          · omega
          · omega
        have hr := run_append_room_string (P := P) w t u ty e i E.und hu hi hs g n cap cur hg s hroom (by omega)
        subst hv
        refine ⟨_, _, hr, ⟨by rw [List.length_append]; omega, .inr ⟨g, cap, _, rfl, .inl hV, setRow_heap w g cur _ e _ hg, hroom, hcm, .inl ?_, ?_⟩⟩, ⟨rfl, rfl, rfl, by simp, fun k _ hk => setRow_other w g k _ (fun e => hk (by rw [e]; exact hV))⟩⟩
        · simp only [List.size_toArray, List.length_append, List.length_take, List.length_drop, Array.length_toList, strCells_length]
          omega
        · have ht' : cur.toList.take n = xs := by simpa using htk
          have hl : (xs ++ strCells s).length = (n + s.size) * 1 := by rw [List.length_append, hxl, strCells_length, Nat.mul_one]
          rw [List.toList_toArray, ht', ← hl, strCells_u8s]
          exact List.take_left
      · refine grow (some ⟨g, 0, none⟩) cap hv (by omega) ?_
        obtain ⟨A', c', hv', hrd, _, _⟩ := hown.reads
        refine run_firstCells_some (P := P) w.drew i.size n ⟨g, 0, none⟩ n cap xs (by rw [hs]; exact hown.1) fun j u' hu' => ?_
        have hn0 : 0 < n := by
          rcases Nat.eq_zero_or_pos n with h0 | h0
          · rw [List.eq_nil_of_length_eq_zero (show xs.length = 0 by omega)] at hu'; simp at hu'
          · exact h0
        obtain ⟨ad', e', _, hc'⟩ := hrd.2 hn0
        rw [hv] at hv'
        injection hv' with hv'
        rw [← hv'] at e'; injection e' with e'
        rw [e']; exact hc' j u' hu'
theorem wpList_own_str (E : Elem P t e 1 1 (.int .u8 0)) (hu : P.underlying u = some .string) (w : World) {ops : Array Oper} {rest : List Oper} {o : Oper} {a : Act} {Q : Exit → Act → World → Prop} (hw : Region.wanted o (yielded ops a.tmps) = true) (s x : Operand)
    (ho : o.op = .call { callee := .builtin .append, args := #[s, x], argTypes := #[t, u] })
    (v : Value) (n : Nat) (xs : List Value) (hs : a.eval s = v) (hown : Own w V e 1 v n xs)
    (str : ByteArray) (hx : a.eval x = .string str) (hbytes : n + str.size ≤ 140737488355328)
    (h : ∀ v' w', Own w' (Ext V w w') e 1 v' (n + str.size) (xs ++ u8s str.data.toList) → Just V w w' → wpList P ops Q rest (a.put o.dst v') w') :
    wpList P ops Q (o :: rest) a w := by
  obtain ⟨v', w', hrun, h2, h3⟩ := run_append_Own_str E hu w o.type v n xs hown str hbytes
  unfold wpList
  rw [if_pos hw]
  refine .inl ?_
  unfold Oper.wp execOp
  simp only [ho, resolve, invoke, builtin, Sem.run_bind, Sem.run_pure, Result.andThen_ok, List.map_toArray, List.map_cons, List.map_nil, hs, hx, hrun]
  exact h v' w' h2 h3
end
end Go.Hop
