/- Sums by labels: the plain law. -/
import Derived.Test.YtidkhokecekpgaaDoorLparse
import Derived.Test.YtidkhokecekpgaaDoorTnames
namespace Go.Proofs.YtidkhokecekpgaaDoor
open Go.RowKit Go.Hop
def matchB (s : ByteArray) (L : List Lb) : Bool := decide (parseE s = 0) && L.all fun x => (parseL s).any fun y => decide (y = x)
/-- the total of all that match; none: it runs over -/
def totG (L : List Lb) : List Dl → Nat → Option Nat
  | [], n => some n
  | d :: q, n => if matchB d.1 L then (if M64 - n < d.2 then none else totG L q (n + d.2)) else totG L q n
def sumN (q : List Dl) : Nat := (q.map (·.2)).sum
def sumM (L : List Lb) (q : List Dl) : Nat := sumN (q.filter fun d => matchB d.1 L)
theorem sumN_cons (d : Dl) (q : List Dl) : sumN (d :: q) = d.2 + sumN q := by simp [sumN]
theorem sumN_app (p q : List Dl) : sumN (p ++ q) = sumN p + sumN q := by simp [sumN]
theorem sumN_perm {p q : List Dl} (h : p.Perm q) : sumN p = sumN q := (h.map _).sum_nat
theorem sumN_filter (f : Dl → Bool) : ∀ q : List Dl, sumN (q.filter f) ≤ sumN q
  | [] => Nat.le_refl _
  | d :: q => by
    have := sumN_filter f q
    rw [List.filter_cons, sumN_cons]
    split
    · rw [sumN_cons]; omega
    · omega
theorem tot_small (L : List Lb) : ∀ (q : List Dl) (n : Nat), n + sumM L q ≤ M64 → totG L q n = some (n + sumM L q)
  | [], n, _ => by simp [totG, sumM, sumN]
  | d :: q, n, h => by
    unfold sumM at h ⊢
    rw [List.filter_cons] at h ⊢
    unfold totG
    by_cases hm : matchB d.1 L = true
    · rw [if_pos hm] at h ⊢
      rw [if_pos hm]
      rw [sumN_cons] at h ⊢
      have := tot_small L q (n + d.2) (by unfold sumM; omega)
      unfold sumM at this
      rw [if_neg (by omega), this, Nat.add_assoc]
    · rw [if_neg hm] at h ⊢
      rw [if_neg hm]
      exact tot_small L q n h
/-- by a name's value -/
def byVL (name : ByteArray) (L : List Lb) : ByteArray := L.foldl (fun v y => if y.1 = name then y.2 else v) (mk [])
def byV (name : ByteArray) (s : ByteArray) : ByteArray := byVL name (parseL s)
def byM (name : ByteArray) (q : List Dl) : List Dl := (q.filter fun d => decide (parseE d.1 = 0)).map fun d => (byV name d.1, d.2)
def putD (acc : List Dl) (d : Dl) : List Dl :=
  if h : acc.findIdx (fun e => decide (e.1 = d.1)) < acc.length then acc.set (acc.findIdx fun e => decide (e.1 = d.1)) (acc[acc.findIdx fun e => decide (e.1 = d.1)].1, min (acc[acc.findIdx fun e => decide (e.1 = d.1)].2 + d.2) M64) else acc ++ [d]
def joinD (q : List Dl) : List Dl := q.foldl putD []
def sumK (k : ByteArray) (q : List Dl) : Nat := sumN (q.filter fun d => decide (d.1 = k))
theorem sumK_le (k : ByteArray) (q : List Dl) : sumK k q ≤ sumN q := sumN_filter _ q
theorem sumK_snoc (k : ByteArray) (q : List Dl) (d : Dl) : sumK k (q ++ [d]) = sumK k q + (if d.1 = k then d.2 else 0) := by
  unfold sumK
  rw [List.filter_append, sumN_app]
  by_cases h : d.1 = k
  · rw [if_pos h, List.filter_cons, if_pos (by simpa using h)]; simp [sumN]
  · rw [if_neg h, List.filter_cons, if_neg (by simpa using h)]; simp [sumN]
theorem sumK_none {k : ByteArray} {q : List Dl} (h : ∀ d ∈ q, d.1 ≠ k) : sumK k q = 0 := by
  unfold sumK
  rw [List.filter_eq_nil_iff.2 (fun d hd => by simpa using h d hd)]
  rfl
/-- each key once, with its sum -/
structure JoinsD (r q : List Dl) : Prop where
  nd : (r.map (·.1)).Nodup
  mem : ∀ d : Dl, d ∈ r ↔ (d.2 = sumK d.1 q ∧ ∃ e ∈ q, e.1 = d.1)
  sum : sumN r = sumN q
theorem sumN_set : ∀ (l : List Dl) (i : Nat) (hi : i < l.length) (k : ByteArray) (n : Nat), sumN (l.set i (k, l[i].2 + n)) = sumN l + n
  | [], i, hi, _, _ => absurd hi (Nat.not_lt_zero _)
  | d :: l, 0, _, k, n => by rw [List.set_cons_zero, sumN_cons, sumN_cons]; show d.2 + n + _ = _; omega
  | d :: l, i + 1, hi, k, n => by
    rw [List.set_cons_succ, sumN_cons, sumN_cons]
    have := sumN_set l i (by simpa using hi) k n
    simp only [List.getElem_cons_succ]
    omega
theorem JoinsD.put {r q : List Dl} (h : JoinsD r q) (d : Dl) (hs : sumN q + d.2 ≤ M64) : JoinsD (putD r d) (q ++ [d]) := by
  unfold putD
  split
  · rename_i hi
    obtain ⟨i, HI⟩ : ∃ i, i = r.findIdx fun e => decide (e.1 = d.1) := ⟨_, rfl⟩
    have hk : decide (r[r.findIdx fun e => decide (e.1 = d.1)].1 = d.1) = true := List.findIdx_getElem (p := fun e : Dl => decide (e.1 = d.1)) (w := hi)
    simp only [← HI] at hi hk ⊢
    have hk' : r[i].1 = d.1 := by simpa using hk
    have hm := (h.mem r[i]).1 (List.getElem_mem hi)
    have hle := sumK_le r[i].1 q
    have hmin : min (r[i].2 + d.2) M64 = r[i].2 + d.2 := by omega
    rw [hmin]
    have hkeys : (r.set i (r[i].1, r[i].2 + d.2)).map (·.1) = r.map (·.1) := by
      rw [List.map_set]
      show (r.map (·.1)).set i r[i].1 = _
      have : r[i].1 = (r.map (·.1))[i]'(by simpa using hi) := by simp
      rw [this, List.set_getElem_self]
    refine ⟨by rw [hkeys]; exact h.nd, fun e => ?_, by rw [sumN_set r i hi, sumN_app, h.sum]; simp [sumN]⟩
    have hnd := List.pairwise_iff_getElem.1 h.nd
    constructor
    · intro he
      obtain ⟨j, hj, rfl⟩ := List.getElem_of_mem he
      rw [List.length_set] at hj
      rw [List.getElem_set]
      by_cases hij : i = j
      · rw [if_pos hij]
        refine ⟨?_, d, by simp, hk'.symm⟩
        show r[i].2 + d.2 = sumK r[i].1 (q ++ [d])
        rw [sumK_snoc, if_pos hk'.symm, ← hm.1]
      · rw [if_neg hij]
        have hm2 := (h.mem r[j]).1 (List.getElem_mem hj)
        have hne : ¬ d.1 = r[j].1 := fun e => by
          rw [← hk'] at e
          rcases Nat.lt_or_gt_of_ne hij with hlt | hlt
          · exact hnd i j (by simpa using hi) (by simpa using hj) hlt (by simpa using e)
          · exact hnd j i (by simpa using hj) (by simpa using hi) hlt (by simpa using e.symm)
        obtain ⟨x, hx, hxe⟩ := hm2.2
        exact ⟨by rw [sumK_snoc, if_neg hne]; exact hm2.1, x, by simp [hx], hxe⟩
    · rintro ⟨h1, x, hx, hxe⟩
      rw [sumK_snoc] at h1
      by_cases hde : d.1 = e.1
      · rw [if_pos hde] at h1
        have : e = (r[i].1, r[i].2 + d.2) := by
          refine Prod.ext (by rw [hk', hde]) ?_
          rw [h1, hm.1, hk', hde]
        rw [this]
        exact List.mem_set hi _
      · rw [if_neg hde] at h1
        have hxq : x ∈ q := by
          rcases List.mem_append.1 hx with hx | hx
          · exact hx
          · rw [List.mem_singleton.1 hx] at hxe; exact absurd hxe hde
        have her := (h.mem e).2 ⟨by simpa using h1, x, hxq, hxe⟩
        obtain ⟨j, hj, rfl⟩ := List.getElem_of_mem her
        have hij : i ≠ j := fun e => by subst e; exact hde hk'.symm
        have : (r.set i (r[i].1, r[i].2 + d.2))[j]'(by rw [List.length_set]; exact hj) = r[j] := List.getElem_set_ne hij _
        rw [← this]
        exact List.getElem_mem _
  · rename_i hi
    have hno : ∀ e ∈ r, e.1 ≠ d.1 := fun e he hc => by
      have := List.findIdx_lt_length_of_exists (xs := r) (p := fun e : Dl => decide (e.1 = d.1)) ⟨e, he, by simpa using hc⟩
      exact hi this
    have hnq : ∀ e ∈ q, e.1 ≠ d.1 := fun e he hc => hno (e.1, sumK e.1 q) ((h.mem _).2 ⟨rfl, e, he, rfl⟩) hc
    refine ⟨?_, fun e => ?_, by rw [sumN_app, sumN_app, h.sum]⟩
    · rw [List.map_append]
      refine List.nodup_append.2 ⟨h.nd, by simp, fun a ha b hb => ?_⟩
      obtain ⟨e, he, rfl⟩ := List.mem_map.1 ha
      simp only [List.map_cons, List.map_nil, List.mem_singleton] at hb
      rw [hb]; exact hno e he
    · constructor
      · intro he
        rcases List.mem_append.1 he with he | he
        · obtain ⟨h1, x, hx, hxe⟩ := (h.mem e).1 he
          refine ⟨?_, x, by simp [hx], hxe⟩
          rw [sumK_snoc, if_neg (fun hc => hno e he hc.symm)]
          exact h1
        · rw [List.mem_singleton.1 he]
          exact ⟨by rw [sumK_snoc, if_pos rfl, sumK_none hnq, Nat.zero_add], d, by simp, rfl⟩
      · rintro ⟨h1, x, hx, hxe⟩
        rw [sumK_snoc] at h1
        by_cases hde : d.1 = e.1
        · rw [if_pos hde, ← hde, sumK_none hnq, Nat.zero_add] at h1
          have : e = d := Prod.ext hde.symm h1
          rw [this]; simp
        · rw [if_neg hde] at h1
          have hxq : x ∈ q := by
            rcases List.mem_append.1 hx with hx | hx
            · exact hx
            · rw [List.mem_singleton.1 hx] at hxe; exact absurd hxe hde
          exact List.mem_append.2 (.inl ((h.mem e).2 ⟨by simpa using h1, x, hxq, hxe⟩))
theorem joins_nil : JoinsD [] [] := ⟨by simp, fun d => by simp, rfl⟩
theorem joins_fold : ∀ (q p r : List Dl), JoinsD r p → sumN (p ++ q) ≤ M64 → JoinsD (q.foldl putD r) (p ++ q)
  | [], p, r, h, _ => by simpa using h
  | d :: q, p, r, h, hs => by
    have h1 := h.put d (by rw [sumN_app, sumN_cons] at hs; omega)
    have h2 := joins_fold q (p ++ [d]) (putD r d) h1 (by simpa using hs)
    simpa using h2
theorem joinD_is {q : List Dl} (h : sumN q ≤ M64) : JoinsD (joinD q) q := joins_fold q [] [] joins_nil (by simpa using h)
/-- rising keys, the same members: the same row -/
theorem rise_one : ∀ {p q : List Dl}, p.Pairwise (fun a b => slt a.1 b.1 = true) → q.Pairwise (fun a b => slt a.1 b.1 = true) → p.Perm q → p = q
  | [], q, _, _, hp => by rw [List.nil_perm.1 hp]
  | a :: p, [], _, _, hp => by have := List.perm_nil.1 hp; cases this
  | a :: p, b :: q, h1, h2, hp => by
    have ha := List.pairwise_cons.1 h1
    have hb := List.pairwise_cons.1 h2
    have hab : a = b := by
      rcases List.mem_cons.1 (hp.mem_iff.1 List.mem_cons_self) with e | hm
      · exact e
      · rcases List.mem_cons.1 (hp.mem_iff.2 List.mem_cons_self) with e | hm2
        · exact e.symm
        · have q1 := hb.1 a hm
          have q2 := ha.1 b hm2
          rw [slt_no q1] at q2; cases q2
    subst hab
    rw [rise_one ha.2 hb.2 ((List.perm_cons a).1 hp)]
/-- what By answers -/
structure ByD (r q : List Dl) : Prop where
  perm : r.Perm (joinD q)
  srt : r.Pairwise fun a b => slt b.1 a.1 = false
theorem ByD.joins {r q : List Dl} (h : ByD r q) (hs : sumN q ≤ M64) : JoinsD r q := by
  have hj := joinD_is hs
  exact ⟨(h.perm.map (·.1)).nodup_iff.2 hj.nd, fun d => (h.perm.mem_iff).trans (hj.mem d), (sumN_perm h.perm).trans hj.sum⟩
theorem rise_of {r : List Dl} (hn : (r.map (·.1)).Nodup) (hs : r.Pairwise fun a b => slt b.1 a.1 = false) : r.Pairwise fun a b => slt a.1 b.1 = true := by
  rw [List.pairwise_iff_getElem] at hs ⊢
  have hnd := List.pairwise_iff_getElem.1 hn
  intro i j hi hj hij
  cases hc : slt r[i].1 r[j].1 with
  | true => rfl
  | false =>
    have := slt_tri hc (hs i j hi hj hij)
    exact absurd (by rw [List.getElem_map, List.getElem_map]; exact this) (hnd i j (by simpa using hi) (by simpa using hj) hij)
theorem ByD.one {r r' q q' : List Dl} (h : ByD r q) (h' : ByD r' q') (hp : q.Perm q') (hs : sumN q ≤ M64) : r = r' := by
  have j := h.joins hs
  have j' := h'.joins (by rw [← sumN_perm hp]; exact hs)
  have hk : ∀ k, sumK k q = sumK k q' := fun k => sumN_perm (hp.filter _)
  have nd : r.Nodup := (List.pairwise_map.1 j.nd).imp fun hab e => hab (by rw [e])
  have nd' : r'.Nodup := (List.pairwise_map.1 j'.nd).imp fun hab e => hab (by rw [e])
  refine rise_one (rise_of j.nd h.srt) (rise_of j'.nd h'.srt) ((List.perm_ext_iff_of_nodup nd nd').2 fun d => ?_)
  rw [j.mem, j'.mem, hk]
  exact ⟨fun ⟨a, e, he, hd⟩ => ⟨a, e, hp.mem_iff.1 he, hd⟩, fun ⟨a, e, he, hd⟩ => ⟨a, e, hp.mem_iff.2 he, hd⟩⟩
/-- ahead of: more, or as much and an earlier text -/
def aheadB (a b : Dl) : Bool := decide (b.2 < a.2) || (decide (a.2 = b.2) && slt a.1 b.1)
structure TopD (r q : List Dl) : Prop where
  perm : r.Perm q
  srt : r.Pairwise fun a b => aheadB b a = false
theorem ahead_tri {a b : Dl} (h : aheadB a b = false) (k : aheadB b a = false) : a = b := by
  unfold aheadB at h k
  simp only [Bool.or_eq_false_iff, Bool.and_eq_false_iff, decide_eq_false_iff_not] at h k
  have h2 : a.2 = b.2 := by omega
  refine Prod.ext (slt_tri ?_ ?_) h2
  · rcases h.2 with hc | hc
    · exact absurd h2 hc
    · exact hc
  · rcases k.2 with hc | hc
    · exact absurd h2.symm hc
    · exact hc
theorem top_one : ∀ {p q : List Dl}, p.Pairwise (fun a b => aheadB b a = false) → q.Pairwise (fun a b => aheadB b a = false) → p.Perm q → p = q
  | [], q, _, _, hp => by rw [List.nil_perm.1 hp]
  | a :: p, [], _, _, hp => by have := List.perm_nil.1 hp; cases this
  | a :: p, b :: q, h1, h2, hp => by
    have ha := List.pairwise_cons.1 h1
    have hb := List.pairwise_cons.1 h2
    have hab : a = b := by
      rcases List.mem_cons.1 (hp.mem_iff.1 List.mem_cons_self) with e | hm
      · exact e
      · rcases List.mem_cons.1 (hp.mem_iff.2 List.mem_cons_self) with e | hm2
        · exact e.symm
        · exact ahead_tri (hb.1 a hm) (ha.1 b hm2)
    subst hab
    rw [top_one ha.2 hb.2 ((List.perm_cons a).1 hp)]
theorem TopD.one {r r' q q' : List Dl} (h : TopD r q) (h' : TopD r' q') (hp : q.Perm q') : r = r' := top_one h.srt h'.srt ((h.perm.trans hp).trans h'.perm.symm)
theorem TopD.falls {r q : List Dl} (h : TopD r q) {i j : Nat} (hj : j < r.length) (hij : i < j) : r[j].2 ≤ r[i].2 := by
  have := List.pairwise_iff_getElem.1 h.srt i j (by omega) hj hij
  unfold aheadB at this
  simp only [Bool.or_eq_false_iff, decide_eq_false_iff_not] at this
  omega
/-- how many Top tells -/
def topN (n : Int) (m : Nat) : Nat := (max 0 (min n m)).toNat
theorem parse_tab {s : ByteArray} {L : List Lb} (h1 : labelsOf s = L) (h2 : rightE L = 0) (h3 : L.Pairwise fun a b => slt b.1 a.1 = false) (h4 : txt L = s) : parseE s = 0 ∧ parseL s = L := by
  have hf := right_zero h2
  have hn := ((fineB_is L).1 hf.2).2.1
  have hc : can L = L := ((⟨List.Perm.refl _, h3⟩ : ByName L L).can_ hn).symm
  have h := parse_yes (s := s) (by rw [h1]; exact h2) (by rw [h1, text_zero h2, hc]; exact h4)
  rw [h1] at h
  exact h
/-- the names that there are, with their labels -/
def tabL : List (ByteArray × List Lb) := [({ data := #[97, 61, 49] }, [({ data := #[97] }, { data := #[49] })]), ({ data := #[97, 61, 50] }, [({ data := #[97] }, { data := #[50] })]), ({ data := #[97, 61, 49, 44, 98, 61, 120] }, [({ data := #[97] }, { data := #[49] }), ({ data := #[98] }, { data := #[120] })]), ({ data := #[106, 111, 98, 61, 97, 112, 105, 44, 122, 111, 110, 101, 61, 101, 117] }, [({ data := #[106, 111, 98] }, { data := #[97, 112, 105] }), ({ data := #[122, 111, 110, 101] }, { data := #[101, 117] })]), ({ data := #[106, 111, 98, 61, 119, 101, 98] }, [({ data := #[106, 111, 98] }, { data := #[119, 101, 98] })]), ({ data := #[107, 61, 118] }, [({ data := #[107] }, { data := #[118] })]), ({ data := #[110, 61, 48] }, [({ data := #[110] }, { data := #[48] })]), ({ data := #[97, 61, 51, 44, 99, 61, 57] }, [({ data := #[97] }, { data := #[51] }), ({ data := #[99] }, { data := #[57] })])]
theorem tab_ok : ∀ p ∈ tabL, parseE p.1 = 0 ∧ parseL p.1 = p.2 := by
  have hw : ∀ p ∈ tabL, rightE p.2 = 0 := by decide +kernel
  have hx : ∀ p ∈ tabL, ∀ (i j : Fin 2) (hi : i.val < p.2.length) (hj : j.val < p.2.length), i < j → slt p.2[j].1 p.2[i].1 = false := by decide +kernel
  have hlen : ∀ p ∈ tabL, p.2.length ≤ 2 := by decide +kernel
  have hl : ∀ p ∈ tabL, labelsOf p.1 = p.2 := by
    intro p hp
    simp only [tabL, List.mem_cons, List.not_mem_nil, or_false] at hp
    rcases hp with rfl | rfl | rfl | rfl | rfl | rfl | rfl | rfl <;> kernel_rfl
  have ht : ∀ p ∈ tabL, txt p.2 = p.1 := by
    intro p hp
    simp only [tabL, List.mem_cons, List.not_mem_nil, or_false] at hp
    rcases hp with rfl | rfl | rfl | rfl | rfl | rfl | rfl | rfl <;> kernel_rfl
  intro p hp
  refine parse_tab (hl p hp) (hw p hp) (List.pairwise_iff_getElem.2 fun i j hi hj hij => ?_) (ht p hp)
  have := hlen p hp
  exact hx p hp ⟨i, by omega⟩ ⟨j, by omega⟩ hi hj hij
theorem tab_of {s : ByteArray} (h : s ∈ nameL) : ∃ L, (s, L) ∈ tabL := by
  have : nameL = tabL.map (·.1) := by decide +kernel
  rw [this] at h
  obtain ⟨p, hp, rfl⟩ := List.mem_map.1 h
  exact ⟨p.2, hp⟩
theorem name_ok {s : ByteArray} (h : s ∈ nameL) : parseE s = 0 := by
  obtain ⟨L, hL⟩ := tab_of h
  exact (tab_ok _ hL).1
theorem match_nil {s : ByteArray} (h : s ∈ nameL) : matchB s [] = true := by unfold matchB; rw [name_ok h]; rfl
theorem match_less {s : ByteArray} {L : List Lb} {k : Nat} (h : matchB s (L.take (k + 1)) = true) : matchB s (L.take k) = true := by
  unfold matchB at h ⊢
  simp only [Bool.and_eq_true, List.all_eq_true] at h ⊢
  exact ⟨h.1, fun x hx => h.2 x ((List.take_sublist_take_left (Nat.le_succ k)).subset hx)⟩
def fourN : List ByteArray := [{ data := #[97] }, { data := #[98] }, { data := #[106, 111, 98] }, { data := #[110, 111, 110, 101] }]
theorem by_match {s s' name : ByteArray} (h : s ∈ nameL) (h' : s' ∈ nameL) (hn : name ∈ fourN) (h0 : byV name s' ≠ mk []) : matchB s [(name, byV name s')] = decide (byV name s = byV name s') := by
  obtain ⟨L, hL⟩ := tab_of h
  obtain ⟨L', hL'⟩ := tab_of h'
  have key : ∀ p ∈ tabL, ∀ p' ∈ tabL, ∀ name ∈ fourN, byVL name p'.2 ≠ mk [] → (p.2.any fun y => decide (y = (name, byVL name p'.2))) = decide (byVL name p.2 = byVL name p'.2) := by decide +kernel
  have e := tab_ok _ hL
  have e' := tab_ok _ hL'
  have := key _ hL _ hL' name hn (by unfold byV at h0; rw [e'.2] at h0; exact h0)
  unfold matchB byV
  rw [e.1, e.2, e'.2]
  simpa using this
end Go.Proofs.YtidkhokecekpgaaDoor
