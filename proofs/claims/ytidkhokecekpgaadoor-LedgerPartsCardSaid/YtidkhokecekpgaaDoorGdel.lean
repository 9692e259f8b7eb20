/- entry.Deltas: its walk. -/
import Derived.Test.YtidkhokecekpgaaDoorGtotal
namespace Go.Proofs.YtidkhokecekpgaaDoor
open Go.RowKit Go.Hop
theorem eAdd_any (w : World) (a b : Nat) (ha : a ≤ M64) (hb : b ≤ M64) :
    Calls Tryd.prog 39 #[.int .u64 (a : Int), .int .u64 (b : Int)] w fun e w' => e = .returned (.int .u64 ((min (a + b) M64 : Nat) : Int)) ∧ w = w' := by
  unfold M64 at *
  have hs : IntKind.u64.wrap ((18446744073709551615 : Int) - (b : Int)) = ((18446744073709551615 - b : Nat) : Int) := by rw [IntKind.wrap_u64]; omega
  by_cases h : a + b ≤ 18446744073709551615
  · rw [Nat.min_eq_left h]
    have ha' : IntKind.u64.wrap ((a : Int) + (b : Int)) = ((a + b : Nat) : Int) := by rw [IntKind.wrap_u64]; omega
    have hd : decide (18446744073709551615 - b < a) = false := decide_eq_false (by omega)
    go_enter Tryd.func39, Tryd.ntmps39
    go_wp2_with fail
    go_ret
    exact ⟨rfl, rfl⟩
  · rw [Nat.min_eq_right (by omega)]
    have hd : decide (18446744073709551615 - b < a) = true := decide_eq_true (by omega)
    go_enter Tryd.func39, Tryd.ntmps39
    go_wp2_with fail
    go_ret
    exact ⟨rfl, rfl⟩
theorem grew_eq {f : FuncId} {xs : Array Value} {w : World} {c : Value} (h : Calls Tryd.prog f xs w fun e w' => e = .returned c ∧ w = w') : Calls Tryd.prog f xs w fun e w' => e = .returned c ∧ Grow w w' :=
  h.mono fun _ _ ⟨h1, h2⟩ => ⟨h1, h2 ▸ Grow.refl _⟩
theorem dflat_set : ∀ (h : List Dl) (k : Nat) (a : Dl), ((dcells h).set (k * 2) (.string a.1)).set (k * 2 + 1) (.int .u64 (a.2 : Int)) = dcells (h.set k a)
  | [], k, a => by simp [dcells]
  | b :: l, 0, a => rfl
  | b :: l, k + 1, a => by
    rw [show (k + 1) * 2 = k * 2 + 1 + 1 by omega, show dcells (b :: l) = .string b.1 :: .int .u64 (b.2 : Int) :: dcells l from rfl]
    rw [List.set_cons_succ, List.set_cons_succ, List.set_cons_succ, List.set_cons_succ, dflat_set l k a]
    rfl
theorem dflat_set1 : ∀ (h : List Dl) (k : Nat) (v : Nat) (hk : k < h.length), (dcells h).set (k * 2 + 1) (.int .u64 (v : Int)) = dcells (h.set k (h[k].1, v))
  | [], k, v, hk => absurd hk (Nat.not_lt_zero _)
  | b :: l, 0, v, _ => rfl
  | b :: l, k + 1, v, hk => by
    rw [show (k + 1) * 2 = k * 2 + 1 + 1 by omega, show dcells (b :: l) = .string b.1 :: .int .u64 (b.2 : Int) :: dcells l from rfl]
    rw [List.set_cons_succ, List.set_cons_succ, dflat_set1 l k v (by simpa using hk)]
    rfl
theorem del_own {w : World} {R : Nat → Prop} {g n c m : Nat} {h : List Dl} (hI : Own w R 30 2 (.slice (some ⟨g, 0, none⟩) n c) m (dcells h)) {k : Nat} (hk : k < h.length) :
    w.cell? ⟨g, k * 2, none⟩ = some (.string h[k].1) ∧ w.cell? ⟨g, k * 2 + 1, none⟩ = some (.int .u64 ((h[k].2 : Nat) : Int)) ∧ w.frozen? ⟨g, k * 2, none⟩ = false ∧ w.frozen? ⟨g, k * 2 + 1, none⟩ = false ∧
      (∀ a : Dl, Own ((w.setCell ⟨g, k * 2, none⟩ (.string a.1)).setCell ⟨g, k * 2 + 1, none⟩ (.int .u64 (a.2 : Int))) R 30 2 (.slice (some ⟨g, 0, none⟩) n c) m (dcells (h.set k a)) ∧ Just R w ((w.setCell ⟨g, k * 2, none⟩ (.string a.1)).setCell ⟨g, k * 2 + 1, none⟩ (.int .u64 (a.2 : Int)))) ∧
      ∀ v : Nat, Own (w.setCell ⟨g, k * 2 + 1, none⟩ (.int .u64 (v : Int))) R 30 2 (.slice (some ⟨g, 0, none⟩) n c) m (dcells (h.set k (h[k].1, v))) ∧ Just R w (w.setCell ⟨g, k * 2 + 1, none⟩ (.int .u64 (v : Int))) := by
  obtain ⟨hlen, h0 | ⟨g', cap, cur, e1, hV, hg, hnc, hm, hsz, htk⟩⟩ := hI
  · rw [dcells_len] at hlen; omega
  injection e1 with e1 e2 e3
  injection e1 with e1
  injection e1 with e1 _ _
  subst e1 e2 e3
  rw [dcells_len] at hlen
  have hB : Blk w g 30 cur := hg
  have hget : ∀ j, j < 2 → cur[k * 2 + j]? = (dcell h[k])[j]? := fun j hj => by
    have h1 := flat_get dcell 2 dcell_len h k j hk hj
    change (dcells h)[k * 2 + j]? = _ at h1
    rw [← htk, List.getElem?_take, if_pos (by omega)] at h1
    simpa using h1
  have h0 := hget 0 (by omega)
  have h1 := hget 1 (by omega)
  refine ⟨(hB.cell _).trans h0, (hB.cell _).trans h1, hB.frozen _, hB.frozen _, fun a => ⟨⟨by rw [dcells_len, List.length_set]; exact hlen, .inr ⟨g, c, (cur.setIfInBounds (k * 2) (.string a.1)).setIfInBounds (k * 2 + 1) (.int .u64 (a.2 : Int)), rfl, hV, (hB.put _ _).put _ _, hnc, hm, by rw [Array.size_setIfInBounds, Array.size_setIfInBounds]; exact hsz, ?_⟩⟩, ?_⟩, fun v => ⟨⟨by rw [dcells_len, List.length_set]; exact hlen, .inr ⟨g, c, cur.setIfInBounds (k * 2 + 1) (.int .u64 (v : Int)), rfl, hV, hB.put _ _, hnc, hm, by rw [Array.size_setIfInBounds]; exact hsz, ?_⟩⟩, ?_⟩⟩
  · rw [Array.toList_setIfInBounds, Array.toList_setIfInBounds, List.take_set, List.take_set, htk, dflat_set]
  · exact ((Just.of_grow (Grow.refl w)).put hV _ _).put hV _ _
  · rw [Array.toList_setIfInBounds, List.take_set, htk, dflat_set1 _ _ _ hk]
  · exact (Just.of_grow (Grow.refl w)).put hV _ _
theorem del_store1 {w : World} {R : Nat → Prop} {g n c k m v : Nat} {h : List Dl} {ρ : Operand → Value} {o : Oper} {x y : Operand} (hI : Own w R 30 2 (.slice (some ⟨g, 0, none⟩) n c) m (dcells h)) (hk : k < h.length)
    (h1 : ρ x = .pointer (some ⟨g, k * 2 + 1, none⟩)) (h2 : ρ y = .int .u64 (v : Int)) (ho : o.op = .store 28 x y) :
    flowUpon Tryd.prog (fun u w' => u = undef ∧ Just R w w' ∧ Own w' R 30 2 (.slice (some ⟨g, 0, none⟩) n c) m (dcells (h.set k (h[k].1, v)))) ((execOp ρ o).run Tryd.prog w) := by
  obtain ⟨dst, op, ty, pos, after, guard⟩ := o
  simp only at ho
  subst ho
  obtain ⟨c0, c1, f0, f1, _, hput⟩ := del_own hI hk
  obtain ⟨p1, p2⟩ := hput v
  exact flowUpon_skip (w' := w.setCell ⟨g, k * 2 + 1, none⟩ (.int .u64 (v : Int))) (by go_simp) ⟨rfl, p2, p1⟩
def SetSt (R : Nat → Prop) (v : Value) (m : Nat) (h : List Dl) (i : Nat) (a : Dl) : Stages where
  G := Just R
  T := fun _ => Just R
  I := fun k w => match k with
    | 0 => Own w R 30 2 v m (dcells h)
    | _ => Own w R 30 2 v m (dcells (h.set i a))
  muts := [12]
  stage := fun q => if q = 6 then some 0 else if q = 12 then some 0 else none
theorem setSt_ok {R : Nat → Prop} {v : Value} {m : Nat} {h : List Dl} {i : Nat} {a : Dl} : (SetSt R v m h i a).Ok := by
  refine ⟨fun _ _ _ => Just.trans, fun _ _ h => Just.of_grow h, fun _ _ _ h => h, fun k a b hh hg => ?_⟩
  rcases k with _ | k
  · exact Own.grows hh hg
  · exact Own.grows hh hg
theorem own_shape {w : World} {V : Nat → Prop} {e : TypeId} {size n : Nat} {v : Value} {xs : List Value} (h : Own w V e size v n xs) (hn : 0 < n) : ∃ g c, v = .slice (some ⟨g, 0, none⟩) n c ∧ V g ∧ g < w.heap.size ∧ n ≤ c ∧ c ≤ maxLen := by
  obtain ⟨_, h | ⟨g, cap, cur, e1, hV, hg, hnc, hm, _⟩⟩ := h
  · omega
  · exact ⟨g, cap, e1, hV, (Array.getElem?_eq_some_iff.1 hg).1, hnc, hm⟩
theorem eDeltasF_any (w : World) (y d : Dl) (x : Nat) (hx : Blk w x 30 #[.string d.1, .int .u64 (d.2 : Int)]) :
    Calls Tryd.prog 38 #[.agg #[.string y.1, .int .u64 (y.2 : Int)], .pointer (some ⟨x, 0, none⟩)] w fun e w' => e = .returned (.bool (y.1.toList == d.1.toList)) ∧ Grow w w' := by
  have hga : Grow w (w.alloc (.cells #[.string y.1, .int .u64 (y.2 : Int)] 30)) := (Below.refl w.heap.size w).alloc (Nat.le_refl _) _
  have c0 := (hx.grow hga).cell 0
  go_enter Tryd.func38, Tryd.ntmps38
  go_wp2_with fail
  go_ret
  exact ⟨rfl, hga⟩
theorem text_eqb (a b : ByteArray) : (a.toList == b.toList) = decide (a = b) := by
  by_cases h : a = b
  · subst h; simp
  · rw [decide_eq_false h]; exact beq_eq_false_iff_ne.2 fun e => h (txt_eq.1 e)
theorem IndexFunc_any (w : World) (V : Nat → Prop) (A : Option Addr) (n c : Nat) (r : List Dl) (d : Dl) (x : Nat) (hx : Blk w x 30 #[.string d.1, .int .u64 (d.2 : Int)]) (h : In w V 2 A n (dcells r)) (hn : n ≤ 1048576) :
    Calls Tryd.prog 37 #[.slice A n c, .func (.func 38) #[] #[.pointer (some ⟨x, 0, none⟩)]] w fun e w' => ∃ z : Int, e = .returned (.int .i64 z) ∧ ((z = -1 ∧ ¬ r.findIdx (fun e => decide (e.1 = d.1)) < r.length) ∨ (z = (r.findIdx (fun e => decide (e.1 = d.1)) : Int) ∧ r.findIdx (fun e => decide (e.1 = d.1)) < r.length)) ∧ Grow w w' := by
  have hrl := DIn.len' h
  go_enter Tryd.func37, Tryd.ntmps37
  go_wp2_with fail
  go_loopw [8] (fun i wr => ∃ k : Nat, k ≤ n ∧ i = .int .i64 (k : Int) ∧ (∀ (j : Nat) (hj : j < r.length), j < k → ¬ r[j].1 = d.1) ∧ Grow w wr) (fun i _ => n - (intOf i).toNat)
  case atStart => exact ⟨0, by omega, rfl, fun j hj h0 => absurd h0 (by omega), Grow.refl _⟩
  case round =>
    obtain ⟨k, hkn, rfl, hno, hgr⟩ := hrel
    by_cases hk : k < n
    · have hd : decide ((k : Int) < (n : Int)) = true := decide_eq_true (by omega)
      obtain ⟨ad, hq, rfl, f0, f1⟩ := del_at (h.grow hgr) hk
      have e0 := f0 wr (Grow.refl _)
      have e1 := f1 wr (Grow.refl _)
      have hk' : ¬ n ≤ k := by omega
      have hc := eDeltasF_any wr r[k] d x (hx.grow hgr)
      rw [text_eqb] at hc
      have HK : Hid (r[k].1 = d.1 → r.findIdx (fun e => decide (e.1 = d.1)) = k) := Lib.hid fun e => by
        refine (List.findIdx_eq hq).2 ⟨decide_eq_true e, fun j hj => ?_⟩
        exact decide_eq_false (hno j (by omega) hj)
      have HN : Hid (¬ r[k].1 = d.1 → ∀ (j : Nat) (hj : j < r.length), j < k + 1 → ¬ r[j].1 = d.1) := Lib.hid fun h0 j hj hjk => by
        rcases Nat.lt_or_ge j k with h1 | h1
        · exact hno j hj h1
        · have : j = k := by omega
          subst this; exact h0
      generalize r[k] = y at e0 e1 hc HK HN
      clear hno f0 f1
      by_cases hy : y.1 = d.1
      · rw [decide_eq_true hy] at hc
        have NO := Lib.hid (HK.out hy)
        clear hy HK HN
        go_wp2_with fail
        refine hc.mono ?_
        rintro e w2 ⟨rfl, hg2⟩
        go_wp2_with fail
        go_ret
        exact ⟨(k : Int), rfl, .inr ⟨by rw [NO.out], by rw [NO.out]; exact hq⟩, hgr.trans hg2⟩
      · rw [decide_eq_false hy] at hc
        have NO := Lib.hid (HN.out hy)
        clear hy HK HN
        go_wp2_with fail
        refine hc.mono ?_
        rintro e w2 ⟨rfl, hg2⟩
        go_wp2_with fail
        go_roundw
        case rel => exact ⟨k + 1, by omega, by go_num, NO.out, hgr.trans hg2⟩
        case measure => simp [intOf]; omega
    · obtain rfl : k = n := by omega
      have hd : decide ((k : Int) < (k : Int)) = false := decide_eq_false (by omega)
      go_wp2_with fail
      go_ret
      refine ⟨-1, rfl, .inl ⟨rfl, fun hc => ?_⟩, hgr⟩
      have := List.findIdx_getElem (xs := r) (p := fun e : Dl => decide (e.1 = d.1)) (w := hc)
      exact hno _ hc (by omega) (of_decide_eq_true this)
end Go.Proofs.YtidkhokecekpgaaDoor
