/- Sums by a name's values; sums brought low: the plain law. -/
import Derived.Test.YtidkhokecekpgaaDoorWtops
namespace Go.Proofs.YtidkhokecekpgaaDoor
open Go.RowKit Go.Hop
structure Masked (q : List Dl) (n i : Nat) : Prop where
  len : q.length = n
  all : ∀ d ∈ q, d.1 ∈ nameL ∧ d.2 ≤ M64
  low : ∀ j (hj : j < q.length), j < i → q[j].2 < 16777216
theorem Masked.step {q : List Dl} {n i : Nat} (h : Masked q n i) (hi : i < q.length) : Masked (q.set i (q[i].1, q[i].2 % 16777216)) n (i + 1) := by
  refine ⟨by rw [List.length_set]; exact h.len, fun d hd => ?_, fun j hj hji => ?_⟩
  · rcases List.mem_or_eq_of_mem_set hd with hd | hd
    · exact h.all d hd
    · rw [hd]
      exact ⟨(h.all _ (List.getElem_mem hi)).1, by show q[i].2 % 16777216 ≤ M64; unfold M64; omega⟩
  · rw [List.getElem_set]
    split
    · show q[i].2 % 16777216 < 16777216; omega
    · rw [List.length_set] at hj
      exact h.low j hj (by omega)
/-- low sums, of series that there are -/
structure Low (q : List Dl) : Prop where
  all : ∀ d ∈ q, d.1 ∈ nameL ∧ d.2 < 16777216
  few : q.length ≤ 15
theorem Masked.low_ {q : List Dl} {n : Nat} (h : Masked q n n) (hn : n ≤ 15) : Low q := by
  refine ⟨fun d hd => ⟨(h.all d hd).1, ?_⟩, by rw [h.len]; exact hn⟩
  obtain ⟨j, hj, rfl⟩ := List.getElem_of_mem hd
  exact h.low j hj (by rw [← h.len]; exact hj)
theorem sum_le : ∀ {q : List Dl}, (∀ d ∈ q, d.2 < 16777216) → sumN q ≤ 16777216 * q.length
  | [], _ => by simp [sumN]
  | d :: q, h => by
    rw [sumN_cons, List.length_cons]
    have := h d List.mem_cons_self
    have := sum_le (q := q) fun x hx => h x (List.mem_cons_of_mem _ hx)
    omega
theorem Low.sum {q : List Dl} (h : Low q) : sumN q ≤ 251658240 := by
  have := sum_le fun d hd => (h.all d hd).2
  have := h.few
  omega
theorem Low.perm {q q' : List Dl} (h : Low q) (hp : q.Perm q') : Low q' := ⟨fun d hd => h.all d (hp.mem_iff.2 hd), by rw [← hp.length_eq]; exact h.few⟩
theorem Low.fit {q : List Dl} (h : Low q) : Fit q := fun d hd => ⟨Nat.le_trans (nameL_small (h.all d hd).1) (by omega), by have := (h.all d hd).2; unfold M64; omega⟩
theorem sumM_le (L : List Lb) (q : List Dl) : sumM L q ≤ sumN q := sumN_filter _ q
theorem Low.tot {q : List Dl} (h : Low q) (L : List Lb) : totG L q 0 = some (sumM L q) := by
  have h1 := sumM_le L q
  have h2 := h.sum
  rw [tot_small L q 0 (by unfold M64; omega), Nat.zero_add]
theorem Low.sum_nil {q : List Dl} (h : Low q) : sumM [] q = sumN q := by
  unfold sumM
  rw [List.filter_eq_self.2 fun d hd => match_nil (h.all d hd).1]
theorem byM_all {name : ByteArray} {q : List Dl} (h : Low q) : byM name q = q.map fun d => (byV name d.1, d.2) := by
  unfold byM
  rw [List.filter_eq_self.2 fun d hd => decide_eq_true (name_ok (h.all d hd).1)]
theorem Low.by_sum {name : ByteArray} {q : List Dl} (h : Low q) : sumN (byM name q) = sumN q := by
  rw [byM_all h]
  unfold sumN
  rw [List.map_map]
  rfl
theorem byM_perm {name : ByteArray} {q q' : List Dl} (hp : q.Perm q') : (byM name q).Perm (byM name q') := (hp.filter _).map _
theorem sumK_map {v name : ByteArray} : ∀ (q : List Dl), sumK v (q.map fun d => (byV name d.1, d.2)) = sumN (q.filter fun d => decide (byV name d.1 = v))
  | [] => rfl
  | d :: q => by
    have ih := sumK_map (v := v) (name := name) q
    unfold sumK at ih ⊢
    rw [List.map_cons, List.filter_cons, List.filter_cons]
    by_cases hc : byV name d.1 = v
    · rw [if_pos (decide_eq_true hc), if_pos (decide_eq_true hc), sumN_cons, sumN_cons, ih]
    · rw [if_neg (by simpa using hc), if_neg (by simpa using hc), ih]
theorem ByD.part {r q : List Dl} {name : ByteArray} (h : ByD r (byM name q)) (hq : Low q) (hn : name ∈ fourN) {d : Dl} (hd : d ∈ r) (h0 : d.1 ≠ Go.Proofs.YtidkhokecekpgaaDoor.mk []) : sumM [(name, d.1)] q = d.2 := by
  have hj := h.joins (by rw [hq.by_sum]; have := hq.sum; unfold M64; omega)
  obtain ⟨h1, e, he, hed⟩ := (hj.mem d).1 hd
  rw [byM_all hq] at he h1
  obtain ⟨x, hx, rfl⟩ := List.mem_map.1 he
  have hxd : byV name x.1 = d.1 := hed
  rw [h1, sumK_map]
  unfold sumM
  congr 1
  refine List.filter_congr fun y hy => ?_
  rw [← hxd]
  exact by_match (hq.all y hy).1 (hq.all x hx).1 hn (by rw [hxd]; exact h0)
theorem ByD.whole {r q : List Dl} {name : ByteArray} (h : ByD r (byM name q)) (hq : Low q) : sumN r = sumN q := by
  have hj := h.joins (by rw [hq.by_sum]; have := hq.sum; unfold M64; omega)
  rw [hj.sum, hq.by_sum]
theorem sum_take {r : List Dl} {j : Nat} (hj : j < r.length) : sumN (r.take (j + 1)) = sumN (r.take j) + r[j].2 := by
  rw [List.take_succ_eq_append_getElem hj, sumN_app]
  simp [sumN]
theorem sum_take_le (r : List Dl) (j : Nat) : sumN (r.take j) ≤ sumN r := by
  have := sumN_app (r.take j) (r.drop j)
  rw [List.take_append_drop] at this
  omega
theorem and24u (m : Nat) (hm : m < 18446744073709551616) : bits .and .u64 (m : Int) 16777215 = ((m % 16777216 : Nat) : Int) := by
  have h127 : (BitVec.ofInt 64 16777215).toNat = 2 ^ 24 - 1 := by decide
  have key : (BitVec.ofInt 64 (m : Int) &&& BitVec.ofInt 64 16777215).toNat = (((m : Int) % ((2 ^ 64 : Nat) : Int)).toNat) % 2 ^ 24 := by
    rw [BitVec.toNat_and, BitVec.toNat_ofInt, h127, Nat.and_two_pow_sub_one_eq_mod]
  show IntKind.u64.wrap ((BitVec.ofInt 64 (m : Int) &&& BitVec.ofInt 64 16777215).toNat : Nat) = _
  rw [key, IntKind.wrap_u64]
  omega
theorem kin (x : Int) {n : Nat} (hn : 0 < n) : ∃ k : Nat, k < n ∧ -(n : Int) < x.tmod n ∧ x.tmod n < n ∧ (x.tmod n + n).tmod n = (k : Int) := by
  have q1 := Int.tmod_lt_of_pos x (show (0 : Int) < n by omega)
  have q2 := Int.lt_tmod_of_pos x (show (0 : Int) < n by omega)
  refine ⟨((x.tmod n + n) % n).toNat, ?_, q2, q1, ?_⟩
  · have := Int.emod_lt_of_pos (x.tmod n + n) (show (0 : Int) < n by omega)
    have := Int.emod_nonneg (x.tmod n + n) (show (n : Int) ≠ 0 by omega)
    omega
  · have := Int.emod_nonneg (x.tmod n + n) (show (n : Int) ≠ 0 by omega)
    rw [Int.tmod_eq_emod_of_nonneg (by omega)]
    omega
def OneStL (B m1 : Nat) (st : List (Nat × Nat)) : Stages where
  G := Just (FromB B)
  T := fun _ => Just (FromB B)
  I := fun _ _ => True
  muts := [m1]
  stage := fun j => if j = m1 then some 0 else st.lookup j
theorem oneStL_ok (B m1 : Nat) (st : List (Nat × Nat)) : (OneStL B m1 st).Ok := ⟨fun _ _ _ => Just.trans, fun _ _ h => Just.of_grow h, fun _ _ _ h => h, fun _ _ _ _ _ => trivial⟩
end Go.Proofs.YtidkhokecekpgaaDoor
