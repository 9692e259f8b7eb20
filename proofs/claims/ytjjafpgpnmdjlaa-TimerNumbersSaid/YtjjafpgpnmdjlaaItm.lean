/- Items, in memory; a row of them; where a key stands. -/
import Derived.Test.YtjjafpgpnmdjlaaHplain
import Derived.Test.YtjjafpgpnmdjlaaPmap
import Derived.Test.YtjjafpgpnmdjlaaRecs
import Derived.Handy
namespace Go.Proofs.Ytjjafpgpnmdjlaa
open Go.RowKit Go.Hop
theorem info_parts {e size bytes : Nat} {z : Value} (h : (Try.prog.info? e).map (fun i => (i.zero, i.size, i.bytes)) = some (some z, size, bytes)) : ∃ i, Try.prog.info? e = some i ∧ i.zero = some z ∧ i.size = size ∧ i.bytes = bytes := by
  cases hi : Try.prog.info? e with
  | none => rw [hi] at h; cases h
  | some i => rw [hi] at h; injection h with h; injection h with h1 h2; injection h2 with h2 h3; exact ⟨i, rfl, h1, h2, h3⟩
def itc (a : It) : List Value := [.int .i64 a.1, .int .i64 a.2]
theorem itc_len (a : It) : (itc a).length = 2 := rfl
theorem itc_one (h : List It) : ∀ u ∈ h.flatMap itc, u.oneCell' = true := by
  intro u hu
  obtain ⟨b, _, hb⟩ := List.mem_flatMap.1 hu
  simp only [itc, List.mem_cons, List.not_mem_nil, or_false] at hb
  rcases hb with rfl | rfl <;> rfl
theorem item_info : (Try.prog.info? 36).map (fun i => (i.zero, i.size, i.bytes)) = some (some (.agg #[.int .i64 0, .int .i64 0]), 2, 16) := by kernel_rfl
theorem itemE : Elem Try.prog 32 36 2 16 (.agg #[.int .i64 0, .int .i64 0]) := ⟨Try.underlying32, info_parts item_info, rfl, by decide, by decide⟩
theorem intMap : MapTy Try.prog 34 2 3 .i64 .i64 := ⟨Try.underlying34, Try.underlying2, Try.underlying3, fun w => by
  have hz : (Try.prog.info? 3).map (fun i => (i.zero, i.size, i.bytes)) = some (some (.int .i64 0), 1, 8) := by kernel_rfl
  obtain ⟨i, hi, hz, _, _⟩ := info_parts hz
  simp [zeroValue, typeInfo, hi, hz]⟩
/-- items in a row -/
def Its (w : World) (R : Nat → Prop) (v : Value) (h : List It) : Prop := Row w R 36 2 v h.length (h.flatMap itc)
theorem flat_set : ∀ (h : List It) (k : Nat) (a : It), ((h.flatMap itc).set (k * 2) (.int .i64 a.1)).set (k * 2 + 1) (.int .i64 a.2) = (h.set k a).flatMap itc
  | [], k, a => by simp
  | b :: h, 0, a => by simp [itc]
  | b :: h, k + 1, a => by
    rw [List.set_cons_succ, List.flatMap_cons, List.flatMap_cons, ← flat_set h k a, show (k + 1) * 2 = k * 2 + 2 by omega]
    simp [itc]
theorem its_shape {w : World} {R : Nat → Prop} {v : Value} {h : List It} (hI : Its w R v h) (hp : 0 < h.length) : ∃ g c, v = .slice (some ⟨g, 0, none⟩) h.length c ∧ R g ∧ g < w.heap.size ∧ h.length ≤ c ∧ c ≤ maxLen := by
  obtain ⟨hlen, h0 | ⟨g, cap, cur, e1, hV, hg, hnc, hm, hsz, htk⟩⟩ := hI
  · omega
  · exact ⟨g, cap, e1, hV, (Array.getElem?_eq_some_iff.1 hg).1, hnc, hm⟩
/-- one item: what it reads as, and what it is once it is stored anew -/
theorem its_at {w : World} {R : Nat → Prop} {g n c : Nat} {h : List It} (hI : Its w R (.slice (some ⟨g, 0, none⟩) n c) h) {k : Nat} (hk : k < h.length) :
    w.cell? ⟨g, k * 2, none⟩ = some (.int .i64 (hat h k).1) ∧ w.cell? ⟨g, k * 2 + 1, none⟩ = some (.int .i64 (hat h k).2) ∧ w.frozen? ⟨g, k * 2, none⟩ = false ∧ w.frozen? ⟨g, k * 2 + 1, none⟩ = false ∧
      ∀ a : It, Its ((w.setCell ⟨g, k * 2, none⟩ (.int .i64 a.1)).setCell ⟨g, k * 2 + 1, none⟩ (.int .i64 a.2)) R (.slice (some ⟨g, 0, none⟩) n c) (h.set k a) ∧ Just R w ((w.setCell ⟨g, k * 2, none⟩ (.int .i64 a.1)).setCell ⟨g, k * 2 + 1, none⟩ (.int .i64 a.2)) := by
  obtain ⟨hlen, h0 | ⟨g', cap, cur, e1, hV, hg, hnc, hm, hsz, htk⟩⟩ := hI
  · omega
  injection e1 with e1 e2 e3
  injection e1 with e1
  injection e1 with e1 _ _
  subst e1 e2 e3
  have hB : Blk w g 36 cur := hg
  have hget : ∀ j, j < 2 → cur[k * 2 + j]? = (itc (hat h k))[j]? := fun j hj => by
    have h1 := flat_get itc 2 itc_len h k j hk hj
    rw [← hat_get hk, ← htk, List.getElem?_take, if_pos (by omega)] at h1
    simpa using h1
  have h0 := hget 0 (by omega)
  have h1 := hget 1 (by omega)
  refine ⟨(hB.cell _).trans h0, (hB.cell _).trans h1, hB.frozen _, hB.frozen _, fun a => ⟨⟨by rw [List.length_set, ← flat_set, List.length_set, List.length_set]; exact hlen, .inr ⟨g, c, (cur.setIfInBounds (k * 2) (.int .i64 a.1)).setIfInBounds (k * 2 + 1) (.int .i64 a.2), by rw [List.length_set], hV, (hB.put _ _).put _ _, by rw [List.length_set]; exact hnc, hm, by rw [Array.size_setIfInBounds, Array.size_setIfInBounds]; exact hsz, ?_⟩⟩, ?_⟩⟩
  · rw [List.length_set, Array.toList_setIfInBounds, Array.toList_setIfInBounds, List.take_set, List.take_set, htk, flat_set]
  · exact ((Just.of_grow (Grow.refl w)).put hV _ _).put hV _ _
/-- where a key stands -/
def IdxIs (h : List It) (f : Int → Option Int) : Prop := ∀ k p, f k = some p ↔ ∃ i, i < h.length ∧ (hat h i).2 = k ∧ p = (i : Int)
def in64 (x : Int) : Prop := -9223372036854775808 ≤ x ∧ x ≤ 9223372036854775807
/-- keys apart, numbers in their range -/
def Good (h : List It) : Prop := (h.map (·.2)).Nodup ∧ (∀ a ∈ h, in64 a.1 ∧ in64 a.2) ∧ h.length ≤ 1048576
theorem Good.perm {h h' : List It} (hg : Good h) (hp : h'.Perm h) : Good h' :=
  ⟨(hp.map _).nodup_iff.2 hg.1, fun a ha => hg.2.1 a (hp.mem_iff.1 ha), by rw [hp.length_eq]; exact hg.2.2⟩
theorem Good.inj {h : List It} (hg : Good h) {i j : Nat} (hi : i < h.length) (hj : j < h.length) (he : (hat h i).2 = (hat h j).2) : i = j := by
  rw [hat_get hi, hat_get hj] at he
  have hp := List.pairwise_iff_getElem.1 hg.1
  rcases Nat.lt_trichotomy i j with hlt | h1 | hlt
  · refine (hp i j (by simpa using hi) (by simpa using hj) hlt ?_).elim
    simpa using he
  · exact h1
  · refine (hp j i (by simpa using hj) (by simpa using hi) hlt ?_).elim
    simpa using he.symm
theorem Good.at_ {h : List It} (hg : Good h) {i : Nat} (hi : i < h.length) : in64 (hat h i).1 ∧ in64 (hat h i).2 := by
  rw [hat_get hi]; exact hg.2.1 _ (List.getElem_mem hi)
theorem IdxIs.at_ {h : List It} {f : Int → Option Int} (hf : IdxIs h f) {i : Nat} (hi : i < h.length) : f (hat h i).2 = some (i : Int) := (hf _ _).2 ⟨i, hi, rfl, rfl⟩
/-- a heap of items, with each key's place, in blocks of V -/
def RowsAt (r : Nat) (h : List It) : Thing := fun w V =>
  V r ∧ ∃ (v : Value) (R : Nat → Prop) (m : Nat) (f : Int → Option Int), Blk w r 50 #[v, .map (some m)] ∧ Its w R v h ∧ PMap Try.prog 2 3 .i64 .i64 w m h.length f ∧ IdxIs h f ∧ Good h ∧ (∀ b, R b → V b ∧ b ≠ r ∧ b ≠ m) ∧ V m ∧ m ≠ r
theorem RowsAt.framed (r : Nat) (h : List It) : Framed (RowsAt r h) := fun w w' V hh hk => by
  obtain ⟨h1, v, R, m, f, h2, h3, h4, h5, h6, h7, h8, h9⟩ := hh
  exact ⟨h1, v, R, m, f, (hk r h1).trans h2, h3.keep fun b hb _ => hk b (h7 b hb).1, h4.keep (hk m h8), h5, h6, h7, h8, h9⟩
theorem RowsAt.wide {r : Nat} {h : List It} {w : World} {V V' : Nat → Prop} (hh : RowsAt r h w V) (hV : ∀ b, V b → V' b) : RowsAt r h w V' := by
  obtain ⟨h1, v, R, m, f, h2, h3, h4, h5, h6, h7, h8, h9⟩ := hh
  exact ⟨hV r h1, v, R, m, f, h2, h3, h4, h5, h6, fun b hb => ⟨hV b (h7 b hb).1, (h7 b hb).2⟩, hV m h8, h9⟩
end Go.Proofs.Ytjjafpgpnmdjlaa
