/- Timers.Stop, Timers.Set. -/
import Derived.Test.YtjjafpgpnmdjlaaTm
namespace Go.Proofs.Ytjjafpgpnmdjlaa
open Go.RowKit Go.Hop
def hasKey (k : Int) (S : List It) : Bool := S.any fun a => decide (a.2 = k)
theorem hasKey_iff {k : Int} {S : List It} : hasKey k S = true ↔ ∃ a ∈ S, a.2 = k := by unfold hasKey; simp
theorem hasKey_perm {k : Int} {S T : List It} (h : S.Perm T) : hasKey k S = hasKey k T := by
  rw [Bool.eq_iff_iff, hasKey_iff, hasKey_iff]
  exact ⟨fun ⟨a, ha, he⟩ => ⟨a, h.mem_iff.1 ha, he⟩, fun ⟨a, ha, he⟩ => ⟨a, h.mem_iff.2 ha, he⟩⟩
theorem key_at {k : Int} {h : List It} (hk : hasKey k h = true) : ∃ i, i < h.length ∧ (hat h i).2 = k := by
  obtain ⟨a, ha, he⟩ := hasKey_iff.1 hk
  obtain ⟨i, hi, rfl⟩ := List.mem_iff_getElem.1 ha
  exact ⟨i, hi, by rw [hat_get hi]; exact he⟩
theorem no_key {k : Int} {h : List It} (hk : hasKey k h = false) : ∀ q, q < h.length → (hat h q).2 ≠ k := fun q hq he => by
  rw [hat_get hq] at he
  have : hasKey k h = true := hasKey_iff.2 ⟨_, List.getElem_mem hq, he⟩
  rw [hk] at this; cases this
theorem no_key' {k : Int} {h : List It} (hk : hasKey k h = false) : ∀ a ∈ h, a.2 ≠ k := fun a ha he => by
  have : hasKey k h = true := hasKey_iff.2 ⟨_, ha, he⟩
  rw [hk] at this; cases this
/-- the object, once its heap has turned -/
theorem timers_turn {t r : Nat} {h' S' : List It} {w w1 : World} {V U : Nat → Prop} (hVt : V t) (hV : ∀ b, V b → b < w.heap.size) (hT : Blk w t 52 #[.pointer (some ⟨r, 0, none⟩)]) (hU : ∀ b, U b → V b ∧ b ≠ t) (hQ : RowsAt r h' w1 (Ext U w w1)) (hj : Just U w w1) (hH : HeapN h'.length h') (hp : h'.Perm S') (hs : Sorted S') :
    TimersAt t S' w1 (Ext V w w1) ∧ Just V w w1 := by
  refine ⟨⟨.inl hVt, r, h', Ext U w w1, hj.blk hT fun hh => (hU t hh).2 rfl, hQ, fun b hb => ?_, hH, hp, hs⟩, hj.imp fun b hb => (hU b hb).1⟩
  rcases hb with hb | hb
  · exact ⟨.inl (hU b hb).1, (hU b hb).2⟩
  · exact ⟨.inr hb, fun e => by have := hV t hVt; omega⟩
theorem Stop_any (w : World) (t : Nat) (S : List It) (key : Int) (hkey : in64 key) :
    Turns Try.prog 14 #[.pointer (some ⟨t, 0, none⟩), .int .i64 key] (fun e => e = .returned (.bool (hasKey key S))) (TimersAt t S) (TimersAt t (noKey key S)) w := by
  intro V hQ hV
  obtain ⟨hVt, r, h, U, hT, hRw, hU, hH, hp, hs⟩ := hQ
  have hRw' := hRw
  obtain ⟨hUr, v, R, m, f, hB, hI, hP, hf, hG, hR, hUm, hmr⟩ := hRw'
  obtain ⟨A, c, rfl, _, hnc, hcm⟩ := hI.in_
  have c0 : w.cell? ⟨t, 0, none⟩ = some (.pointer (some ⟨r, 0, none⟩)) := hT.cell 0
  have c1 : w.cell? ⟨r, 0, none⟩ = some (.slice A h.length c) := hB.cell 0
  have c2 : w.cell? ⟨r, 1, none⟩ = some (.map (some m)) := hB.cell 1
  have q := hP.look intMap key (wf_of hkey)
  have htU : ¬ U t := fun hh => (hU t hh).2 rfl
  have hUl : ∀ b, U b → b < w.heap.size := fun b hb => hV b (hU b hb).1
  rw [← hasKey_perm hp]
  cases hk : hasKey key h with
  | false =>
    rw [idx_none hf (no_key hk)] at q
    go_enter Try.func14, Try.ntmps14
    go_wp2_with fail
    go_ret
    rw [noKey_none fun a ha => no_key' hk a (hp.mem_iff.2 ha)]
    exact ⟨rfl, ⟨.inl hVt, r, h, U, hT, hRw, fun b hb => ⟨.inl (hU b hb).1, (hU b hb).2⟩, hH, hp, hs⟩, Just.of_grow (Grow.refl w)⟩
  | true =>
    obtain ⟨i, hi, he⟩ := key_at hk
    rw [← he, hf.at_ hi] at q
    have hrem := hRemove_any w r h i hi U hRw hUl
    obtain ⟨k1, hk1⟩ : ∃ k1, (hat h i).2 = k1 := ⟨_, rfl⟩
    obtain rfl : k1 = key := hk1.symm.trans he
    rw [hk1] at q
    go_enter Try.func14, Try.ntmps14
    go_wp2_with fail
    go_at_call 21
    refine hrem.mono ?_
    rintro e w1 ⟨⟨u, rfl⟩, hQ1, hj1⟩
    go_wp2_with fail
    go_ret
    have hpr := remove_perm' hG.1 hi
    rw [he] at hpr
    exact ⟨rfl, timers_turn hVt hV hT hU hQ1 hj1 (remove_heap hH hi) (hpr.trans (noKey_perm hp)) (noKey_sorted hs)⟩
theorem flat_set1 : ∀ (h : List It) (k : Nat) (x : Int), k < h.length → (h.flatMap itc).set (k * 2) (.int .i64 x) = (h.set k (x, (hat h k).2)).flatMap itc
  | [], k, x, hk => by simp at hk
  | b :: h, 0, x, _ => by simp [itc, hat]
  | b :: h, k + 1, x, hk => by
    have := flat_set1 h k x (by simpa using hk)
    rw [List.set_cons_succ, List.flatMap_cons, List.flatMap_cons, show hat (b :: h) (k + 1) = hat h k by unfold hat; simp, ← this, show (k + 1) * 2 = k * 2 + 2 by omega]
    simp [itc]
theorem its_time {w : World} {R : Nat → Prop} {g n c : Nat} {h : List It} (hI : Its w R (.slice (some ⟨g, 0, none⟩) n c) h) {k : Nat} (hk : k < h.length) (x : Int) :
    Its (w.setCell ⟨g, k * 2, none⟩ (.int .i64 x)) R (.slice (some ⟨g, 0, none⟩) n c) (h.set k (x, (hat h k).2)) ∧ Just R w (w.setCell ⟨g, k * 2, none⟩ (.int .i64 x)) := by
  obtain ⟨hlen, h0 | ⟨g', cap, cur, e1, hV, hg, hnc, hm, hsz, htk⟩⟩ := hI
  · omega
  injection e1 with e1 e2 e3
  injection e1 with e1
  injection e1 with e1 _ _
  subst e1 e2 e3
  have hB : Blk w g 36 cur := hg
  refine ⟨⟨by rw [List.length_set, ← flat_set1 h k x hk, List.length_set]; exact hlen, .inr ⟨g, c, cur.setIfInBounds (k * 2) (.int .i64 x), by rw [List.length_set], hV, hB.put _ _, by rw [List.length_set]; exact hnc, hm, by rw [Array.size_setIfInBounds]; exact hsz, ?_⟩⟩, (Just.of_grow (Grow.refl w)).put hV _ _⟩
  rw [List.length_set, Array.toList_setIfInBounds, List.take_set, htk, flat_set1 h k x hk]
theorem hat_set {h : List It} {i k : Nat} {x : It} (hi : i < h.length) : hat (h.set i x) k = if k = i then x else hat h k := by
  unfold hat
  simp only [List.getD_eq_getElem?_getD, List.getElem?_set]
  by_cases h1 : i = k
  · subst h1; simp [hi]
  · rw [if_neg h1, if_neg (Ne.symm h1)]
theorem set_keys {h : List It} {i : Nat} {x : It} (hi : i < h.length) (hx : x.2 = (hat h i).2) : (h.set i x).map (·.2) = h.map (·.2) := by
  rw [List.map_set, hx, hat_get hi]
  have : (h.map (·.2)).set i h[i].2 = (h.map (·.2)).set i ((h.map (·.2))[i]'(by simpa using hi)) := by simp
  rw [this, List.set_getElem_self]
theorem good_set {h : List It} {i : Nat} {x : It} (hG : Good h) (hi : i < h.length) (hx : x.2 = (hat h i).2) (h64 : in64 x.1) : Good (h.set i x) := by
  refine ⟨by rw [set_keys hi hx]; exact hG.1, fun a ha => ?_, by rw [List.length_set]; exact hG.2.2⟩
  rcases List.mem_or_eq_of_mem_set ha with ha | rfl
  · exact hG.2.1 a ha
  · exact ⟨h64, by rw [hx]; exact (hG.at_ hi).2⟩
theorem idx_set {h : List It} {f : Int → Option Int} {i : Nat} {x : It} (hf : IdxIs h f) (hi : i < h.length) (hx : x.2 = (hat h i).2) : IdxIs (h.set i x) f := fun k p => by
  rw [hf k p]
  have e : ∀ q, (hat (h.set i x) q).2 = (hat h q).2 := fun q => by
    rw [hat_set hi]
    by_cases hq : q = i
    · rw [if_pos hq, hx, hq]
    · rw [if_neg hq]
  constructor
  · rintro ⟨q, hq, he, rfl⟩; exact ⟨q, by rw [List.length_set]; exact hq, by rw [e]; exact he, rfl⟩
  · rintro ⟨q, hq, he, rfl⟩; exact ⟨q, by rw [List.length_set] at hq; exact hq, by rw [e] at he; exact he, rfl⟩
def setF (a : It) (S : List It) : List It := ins a (noKey a.2 S)
theorem Set_any (w : World) (t : Nat) (S : List It) (key z : Int) (hkey : in64 key) (hz : in64 z) (hl : S.length < 1048576) :
    Turns Try.prog 11 #[.pointer (some ⟨t, 0, none⟩), .int .i64 key, .int .i64 z] (fun e => e = .returned (.tuple #[])) (TimersAt t S) (TimersAt t (setF (z, key) S)) w := by
  intro V hQ hV
  obtain ⟨hVt, r, h, U, hT, hRw, hU, hH, hp, hs⟩ := hQ
  have hRw' := hRw
  obtain ⟨hUr, v, R, m, f, hB, hI, hP, hf, hG, hR, hUm, hmr⟩ := hRw'
  obtain ⟨A, c, rfl, _, hnc, hcm⟩ := hI.in_
  have c0 : w.cell? ⟨t, 0, none⟩ = some (.pointer (some ⟨r, 0, none⟩)) := hT.cell 0
  have c1 : w.cell? ⟨r, 0, none⟩ = some (.slice A h.length c) := hB.cell 0
  have c2 : w.cell? ⟨r, 1, none⟩ = some (.map (some m)) := hB.cell 1
  have q := hP.look intMap key (wf_of hkey)
  have htU : ¬ U t := fun hh => (hU t hh).2 rfl
  have hUl : ∀ b, U b → b < w.heap.size := fun b hb => hV b (hU b hb).1
  have hsS : Sorted (setF (z, key) S) := ins_sorted _ _ (noKey_sorted hs) fun b hb => (noKey_mem.1 hb).2
  have hpS : ∀ h' : List It, h'.Perm ((z, key) :: noKey key h) → h'.Perm (setF (z, key) S) := fun h' hh => hh.trans (((noKey_perm hp).cons _).trans (ins_perm _ _).symm)
  cases hk : hasKey key h with
  | false =>
    rw [idx_none hf (no_key hk)] at q
    have hpu := hPush_any w r h (z, key) (no_key hk) (by rw [hp.length_eq]; exact hl) ⟨hz, hkey⟩ U hRw hUl
    go_enter Try.func11, Try.ntmps11
    go_wp2_with fail
    go_at_call 19
    refine hpu.mono ?_
    rintro e w1 ⟨rfl, hQ1, hj1⟩
    go_wp2_with fail
    go_end0
    refine ⟨rfl, timers_turn hVt hV hT hU hQ1 hj1 (push_heap hH) (hpS _ ?_) hsS⟩
    rw [noKey_none (no_key' hk)]
    exact push_perm h (z, key)
  | true =>
    obtain ⟨i, hi, he⟩ := key_at hk
    rw [← he, hf.at_ hi] at q
    obtain ⟨g, c', hA, hRg, _, _⟩ := its_shape hI (by omega)
    injection hA with hA _ hc
    subst hA hc
    obtain ⟨d0, _, f0, _, _⟩ := its_at hI hi
    obtain ⟨hI2, hjR⟩ := its_time hI hi z
    have hrR : ¬ R r := fun hh => (hR r hh).2.1 rfl
    have hmR : ¬ R m := fun hh => (hR m hh).2.2 rfl
    have hT2 := hjR.blk hT fun hh => htU (hR t hh).1
    have hB2 := hjR.blk hB hrR
    have hQ2 : RowsAt r (h.set i (z, (hat h i).2)) (w.setCell ⟨g, i * 2, none⟩ (.int .i64 z)) U := ⟨hUr, _, R, m, f, hB2, hI2, by rw [List.length_set]; exact hP.just hjR hmR, idx_set hf hi rfl, good_set hG hi rfl hz, hR, hUm, hmr⟩
    have hfix := Fix_any (w.setCell ⟨g, i * 2, none⟩ (.int .i64 z)) r (h.set i (z, (hat h i).2)) i (by rw [List.length_set]; exact hi) U hQ2 (fun b hb => by rw [setCell_size]; exact hUl b hb)
    have c0' := hT2.cell 0
    obtain ⟨k1, hk1⟩ : ∃ k1, (hat h i).2 = k1 := ⟨_, rfl⟩
    obtain rfl : k1 = key := hk1.symm.trans he
    rw [hk1] at q
    go_enter Try.func11, Try.ntmps11
    go_wp2_with fail
    go_at_call 18
    refine hfix.mono ?_
    rintro e w1 ⟨rfl, hQ1, hj1⟩
    go_wp2_with fail
    go_returns
    have hj01 : Just U w w1 := (hjR.imp fun b hb => (hR b hb).1).trans hj1
    have hQ1' : RowsAt r (fixF (h.set i (z, (hat h i).2)).length (h.set i (z, (hat h i).2)) i) w1 (Ext U w w1) := hQ1.wide fun b hb => by
      rcases hb with hb | hb
      · exact .inl hb
      · exact .inr ⟨by have := hb.1; rw [setCell_size] at this; exact this, hb.2⟩
    refine ⟨rfl, timers_turn hVt hV hT hU hQ1' hj01 ?_ (hpS _ ?_) hsS⟩
    · rw [fix_len]
      refine fix_heap _ _ i (by rw [List.length_set]; exact hi) (Nat.le_refl _) (off_set (h := h) (fun k k1 k2 => hH k k1 (by rw [List.length_set] at k2; exact k2)) (fun k _ k2 => ?_) (by rw [List.length_set]; exact hi))
      rw [hat_set hi, if_neg k2]
    · refine (fix_perm _ _ i (by rw [List.length_set]; exact hi) (Nat.le_refl _)).trans ?_
      have := set_perm' hG.1 hi (z, (hat h i).2)
      rw [hk1] at this ⊢
      exact this
end Go.Proofs.Ytjjafpgpnmdjlaa
