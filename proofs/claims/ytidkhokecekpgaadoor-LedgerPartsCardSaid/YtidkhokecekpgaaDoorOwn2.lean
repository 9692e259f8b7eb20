/- Appending, and what was appended to: it holds what it held. -/
import Derived.Test.YtidkhokecekpgaaDoorOwn
namespace Go.Hop
open Go.RowKit
section
variable {P : Program} {t e : TypeId} {size bytes : Nat} {z : Value} {V : Nat → Prop}
theorem run_append_Own2 (E : Elem P t e size bytes z) (w : World) (ty : Nat) (v : Value) (n : Nat) (xs : List Value) (hown : Own w V e size v n xs)
    (B : Nat) (A : Option Addr) (m c : Nat) (news : List Value) (hr : Reads w B size A m news) (h1 : ∀ u ∈ news, u.oneCell' = true)
    (hbytes : (n + m) * bytes ≤ 140737488355328) :
    ∃ v' w', (Builtin.append_ #[t, t] ty #[v, .slice A m c]).run P w = .ok v' w' ∧ Own w' (Ext V w w') e size v' (n + m) (xs ++ news) ∧ Just V w w' ∧ Own w' V e size v n xs := by
  obtain ⟨i, hi, hz, hs, hb⟩ := E.info
  have h63 : n + m ≤ maxLen := by
    have := Nat.le_mul_of_pos_right (n + m) E.bpos
    simp only [maxLen]; omega
  by_cases hm0 : m = 0
  · have hsrc := hr.src (c := c) E hm0
    subst hm0
    obtain rfl : news = [] := List.eq_nil_of_length_eq_zero (by simpa using hr.1)
    obtain ⟨A', c', rfl, _, hnc, _⟩ := hown.reads
    have := run_append_nothing (P := P) w t t ty e i E.und hi A' n c' hnc (.slice A 0 c) (by rw [hs]; exact hsrc)
    refine ⟨_, w, this, ?_, Just.of_grow (Grow.refl w), hown⟩
    rw [List.append_nil]
    exact hown.mono fun b hb => .inl hb
  · obtain ⟨ad, rfl, _, hc⟩ := hr.2 (by omega)
    have fin : ∀ v' w', w'.ownsRow w.heap.size e size v' (n + m) (xs ++ news) → w.grownBy w' none → Own w' (Ext V w w') e size v' (n + m) (xs ++ news) ∧ Just V w w' ∧ Own w' V e size v n xs := fun v' w' r1 r2 => by
      refine ⟨.of_row r1 fun g' hg' => ?_, ⟨r2.os, r2.tape, r2.output, r2.size, fun k hk _ => r2.block k hk (by simp)⟩, ?_⟩
      · have h1 := r1.lt g' hg'
        rcases r1.2 with ⟨hv', _⟩ | ⟨g2, _, _, hv', hb', _⟩
        · rw [hv'] at hg'; cases hg'
        · rw [hv'] at hg'; injection hg' with hg'
          subst hg'
          exact .inr ⟨hb', h1.2⟩
      · refine ⟨hown.1, ?_⟩
        rcases hown.2 with h2 | ⟨g, cap, cur, h1, h2, h3, h4⟩
        · exact .inl h2
        · exact .inr ⟨g, cap, cur, h1, h2, (r2.block g (Array.getElem?_eq_some_iff.1 h3).1 (by simp)).trans h3, h4⟩
    rcases hown.2 with ⟨rfl, rfl⟩ | ⟨g, cap, cur, rfl, hV, hg, hnc, hcm, hsz, htk⟩
    · obtain rfl : xs = [] := List.eq_nil_of_length_eq_zero (by simpa using hown.1)
      obtain ⟨v', w', hrun, r1, r2, _⟩ := run_append_own_at (P := P) w w.heap.size t ty e i z size bytes E.und hi hz hs hb E.zs E.pos (.slice none 0 0) 0 [] (World.ownsRow_nil w _ e size) ad m c news hr.1 hc h1 h63 hbytes (Nat.le_refl _)
      exact ⟨v', w', hrun, fin v' w' r1 r2⟩
    · by_cases hroom : n + m ≤ cap
      · have hcs : cur.size = cap * size := by
          rcases hsz with h | ⟨h, _⟩
          · exact h
          · omega
        have hfit : n * i.size + news.length ≤ cur.size := by rw [hs, hr.1, hcs, ← Nat.add_mul]; exact Nat.mul_le_mul_right _ hroom
        have hrr := run_append_room (P := P) w t ty e i E.und hi g n cap cur hg ad m c news (by rw [hs]; exact hr.1) hc h1 hroom hfit
        rw [hs] at hrr hfit
        have hlen : (xs ++ news).length = (n + m) * size := by rw [List.length_append, hown.1, hr.1, Nat.add_mul]
        have hset := setRow_heap w g cur (cur.toList.take (n * size) ++ news ++ cur.toList.drop (n * size + news.length)).toArray e (0, 0) hg
        have hsz2 : (cur.toList.take (n * size) ++ news ++ cur.toList.drop (n * size + news.length)).toArray.size = cap * size := by
          simp only [List.size_toArray, List.length_append, List.length_take, List.length_drop, Array.length_toList]
          omega
        refine ⟨_, _, hrr, ⟨hlen, .inr ⟨g, cap, _, rfl, .inl hV, hset, hroom, hcm, .inl hsz2, ?_⟩⟩, ⟨rfl, rfl, rfl, by simp, fun k _ hk => setRow_other w g k _ (fun e => hk (by rw [e]; exact hV))⟩, ⟨hown.1, .inr ⟨g, cap, _, rfl, hV, hset, hnc, hcm, .inl hsz2, ?_⟩⟩⟩
        · rw [List.toList_toArray, htk, ← hlen]
          exact List.take_left
        · rw [List.toList_toArray, htk, List.append_assoc, ← hown.1]
          exact List.take_left
      · obtain ⟨A', c', hv, hrd, _, _⟩ := hown.reads
        have holds : ∀ j u, xs[j]? = some u → w.cell? ((⟨g, 0, none⟩ : Addr).add j) = some u := by
          intro j u hu
          have hlt : 0 < n := by
            rcases Nat.eq_zero_or_pos n with h0 | h0
            · have : xs.length = 0 := by rw [hown.1, h0]; simp
              rw [List.eq_nil_of_length_eq_zero this] at hu; simp at hu
            · exact h0
          obtain ⟨ad', e', _, hc'⟩ := hrd.2 hlt
          injection hv with hv
          rw [← hv] at e'; injection e' with e'
          rw [e']; exact hc' j u hu
        obtain ⟨v', w', hrun, r1, r2⟩ := run_append_arg_grows (P := P) w t ty e i z size bytes E.und hi hz hs hb E.zs E.pos ⟨g, 0, none⟩ n cap xs hown.1 holds ad m c news hr.1 hc (by omega) h63 hbytes
        exact ⟨v', w', hrun, fin v' w' r1 r2⟩
theorem wpList_own2 (E : Elem P t e size bytes z) (w : World) {ops : Array Oper} {rest : List Oper} {o : Oper} {a : Act} {Q : Exit → Act → World → Prop} (hw : Region.wanted o (yielded ops a.tmps) = true) (s x : Operand)
    (ho : o.op = .call { callee := .builtin .append, args := #[s, x], argTypes := #[t, t] })
    (v : Value) (n : Nat) (xs : List Value) (hs : a.eval s = v) (hown : Own w V e size v n xs)
    (B : Nat) (A : Option Addr) (m c : Nat) (news : List Value) (hx : a.eval x = .slice A m c) (hr : Reads w B size A m news) (h1 : ∀ u ∈ news, u.oneCell' = true)
    (hbytes : (n + m) * bytes ≤ 140737488355328)
    (h : ∀ v' w', Own w' (Ext V w w') e size v' (n + m) (xs ++ news) → Just V w w' → Own w' V e size v n xs → wpList P ops Q rest (a.put o.dst v') w') :
    wpList P ops Q (o :: rest) a w := by
  obtain ⟨v', w', hrun, h2, h3, h4⟩ := run_append_Own2 E w o.type v n xs hown B A m c news hr h1 hbytes
  unfold wpList
  rw [if_pos hw]
  refine .inl ?_
  unfold Oper.wp execOp
  simp only [ho, resolve, invoke, builtin, Sem.run_bind, Sem.run_pure, Result.andThen_ok, List.map_toArray, List.map_cons, List.map_nil, hs, hx, hrun]
  exact h v' w' h2 h3 h4
end
section
variable {P : Program} {ops : Array Oper} {A : Nat → List Nat} {K : Nat → Kind} {S : Stages} {w0 : World} {T : Act → World → Prop} {o : Oper} {l : List Oper} {j n : Nat} {a0 : Act} {L : List (Tmp × Value)} {F : List (Nat × Value × Fact)}
theorem fl_op3 (d : Tmp) (hd : o.dst = some d) (hs : d < n) (hw : Wanted ops o a0 L true) (hk : K j = none) (hm : idxIn j S.muts 0 = none) (x y z : Operand) (vx vy vz : Value) (hx : rdL a0 L x = vx) (hy : rdL a0 L y = vy) (hz : rdL a0 L z = vz) (v0 : Value)
    (hr : ∀ ρ : Operand → Value, ρ x = vx → ρ y = vy → ρ z = vz → ∀ k w, S.G w0 w → S.before j k w → FactsAt (A j) k F w → (execOp ρ o).run P w = .ok (.value v0) w)
    (h : FlowL P ops A K S w0 T n l (j + 1) a0 ((d, v0) :: L) F) : FlowL P ops A K S w0 T n (o :: l) j a0 L F :=
  fl_det d hd hs hw hk hm v0 (hr _ hx hy hz) h
end
theorem Own.grows {w w' : World} {V : Nat → Prop} {e size n : Nat} {v : Value} {xs : List Value} (h : Own w V e size v n xs) (hg : Grow w w') : Own w' V e size v n xs := by
  refine ⟨h.1, ?_⟩
  rcases h.2 with h2 | ⟨g, cap, cur, h1, h2, h3, h4⟩
  · exact .inl h2
  · exact .inr ⟨g, cap, cur, h1, h2, (hg.block g (Array.getElem?_eq_some_iff.1 h3).1).trans h3, h4⟩
theorem upon_turnAny {P : Program} {w : World} {S : Stages} {j k : Nat} {φ : Fact} {r : Result Next} (t : Nat) (hm : idxIn j S.muts 0 = some t) (h : flowUpon P (fun u w' => S.T k w w' ∧ S.I (k + 1) w' ∧ φ (k + 1) u w') r) : flowUpon P (fun u w' => S.behind j k w w' ∧ φ (S.next j k) u w') r :=
  upon_imp h fun _ _ ⟨hg, hi, hp⟩ => ⟨behind_some t hm hg hi, by rw [next_some t hm]; exact hp⟩
/-- a slice of one's own that is appended to once, in a region that draws its order; stages: ahead, behind -/
def AppSt (V : Nat → Prop) (e size : Nat) (v : Value) (n : Nat) (xs : List Value) (m1 : Nat) (st : List (Nat × Nat)) : Stages where
  G := Just V
  T := fun _ => Just V
  I := fun _ w => Own w V e size v n xs
  muts := [m1]
  stage := fun j => if j = m1 then some 0 else st.lookup j
theorem appSt_ok {V : Nat → Prop} {e size n : Nat} {v : Value} {xs : List Value} {m1 : Nat} {st : List (Nat × Nat)} : (AppSt V e size v n xs m1 st).Ok :=
  ⟨fun _ _ _ => Just.trans, fun _ _ h => Just.of_grow h, fun _ _ _ h => h, fun _ _ _ h hg => h.grows hg⟩
/-- known once it is done; known till it is done -/
def Once (φ : Value → World → Prop) : Fact := fun k u w => match k with
  | 0 => False
  | _ => φ u w
def Early (φ : Value → World → Prop) : Fact := fun k u w => match k with
  | 0 => φ u w
  | _ => True
theorem once_lasts {V : Nat → Prop} {e size n : Nat} {v : Value} {xs : List Value} {m1 : Nat} {st : List (Nat × Nat)} {φ : Value → World → Prop} (h : Lasting φ) : Lasts (AppSt V e size v n xs m1 st) (Once φ) := fun k u w w' hu => by
  cases k with
  | zero => exact hu.elim
  | succ k => exact ⟨fun hg => h u w w' hu hg, fun hk => by simp [AppSt] at hk⟩
theorem early_lasts {V : Nat → Prop} {e size n : Nat} {v : Value} {xs : List Value} {m1 : Nat} {st : List (Nat × Nat)} {φ : Value → World → Prop} (h : Lasting φ) : Lasts (AppSt V e size v n xs m1 st) (Early φ) := fun k u w w' hu => by
  cases k with
  | zero => exact ⟨fun hg => h u w w' hu hg, fun _ _ => trivial⟩
  | succ k => exact ⟨fun _ => trivial, fun _ _ => trivial⟩
theorem early_of {φ : Value → World → Prop} {k : Nat} {u : Value} {w : World} (h : φ u w) : Early φ k u w := by
  cases k with
  | zero => exact h
  | succ k => exact trivial
theorem lit_is (w : World) (cs : Array Value) (e n : Nat) (l : List UInt8) (h : cs.size = n * 1) (hc : cs.toList = u8s l) (hn : n ≤ maxLen) : IsBytes l (.slice (some ⟨w.heap.size, 0, none⟩) n n) (w.alloc (.cells cs e)) :=
  ⟨_, n, n, rfl, by have := reads_laid w cs e (0, 0) h _ rfl; rw [hc] at this; exact Reads.more this (by simp), Nat.le_refl _, hn⟩
end Go.Hop
