/- Labels, in plain words: which may be, how they are written, how a text is read. -/
import Derived.Test.YtidkhokecekpgaaDoorLsort
import Derived.Test.YtidkhokecekpgaaDoorLname
import Derived.Lib.SplitLaws
import Derived.Lib.CutLaws
import Derived.Lib.IndexBytes
import Derived.Lib.Join
namespace Go.Proofs.YtidkhokecekpgaaDoor
open Go.RowKit Go.Hop
/-! ### cutting at a byte -/
def cutAll (c : UInt8) : List UInt8 → List (List UInt8)
  | [] => [[]]
  | b :: r => if b = c then [] :: cutAll c r else match cutAll c r with
    | [] => [[b]]
    | p :: ps => (b :: p) :: ps
theorem cutAll_ne (c : UInt8) : ∀ l, cutAll c l ≠ []
  | [] => by simp [cutAll]
  | b :: r => by
    unfold cutAll
    split
    · simp
    · split <;> simp
theorem cutAll_no {c : UInt8} : ∀ {a : List UInt8}, c ∉ a → cutAll c a = [a]
  | [], _ => rfl
  | b :: r, h => by
    have h1 : b ≠ c := fun e => h (by rw [e]; exact List.mem_cons_self)
    have h2 := cutAll_no (c := c) (a := r) fun hr => h (List.mem_cons_of_mem _ hr)
    unfold cutAll
    rw [if_neg h1, h2]
theorem cutAll_hit {c : UInt8} {r : List UInt8} : ∀ {a : List UInt8}, c ∉ a → cutAll c (a ++ c :: r) = a :: cutAll c r
  | [], _ => by rw [List.nil_append, cutAll, if_pos rfl]
  | b :: a, h => by
    have h1 : b ≠ c := fun e => h (by rw [e]; exact List.mem_cons_self)
    have h2 := cutAll_hit (c := c) (r := r) (a := a) fun hr => h (List.mem_cons_of_mem _ hr)
    rw [List.cons_append, cutAll, if_neg h1, h2]
theorem cut_cases (c : UInt8) (s : List UInt8) : c ∉ s ∨ ∃ a r, s = a ++ c :: r ∧ c ∉ a := by
  by_cases h : c ∈ s
  · obtain ⟨a, r, e, ha⟩ := List.eq_append_cons_of_mem h
    exact .inr ⟨a, r, e, ha⟩
  · exact .inl h
theorem index_hit1 {c : UInt8} {r : List UInt8} : ∀ {a : List UInt8}, c ∉ a → Lib.index (a ++ c :: r) [c] = (a.length : Int)
  | [], _ => by rw [Lib.index_one]; simp [Lib.indexByte]
  | b :: a, h => by
    have h1 : (b == c) = false := beq_eq_false_iff_ne.2 fun e => h (by rw [e]; exact List.mem_cons_self)
    have h2 := index_hit1 (c := c) (r := r) (a := a) fun hr => h (List.mem_cons_of_mem _ hr)
    rw [Lib.index_one] at h2 ⊢
    rw [List.cons_append, Lib.indexByte, h1, h2]
    have : ((a.length : Int) == -1) = false := beq_eq_false_iff_ne.2 (by omega)
    rw [this]
    simp
theorem index_no1 {c : UInt8} : ∀ {a : List UInt8}, c ∉ a → Lib.index a [c] = -1
  | [], _ => rfl
  | b :: a, h => by
    have h1 : (b == c) = false := beq_eq_false_iff_ne.2 fun e => h (by rw [e]; exact List.mem_cons_self)
    have h2 := index_no1 (c := c) (a := a) fun hr => h (List.mem_cons_of_mem _ hr)
    rw [Lib.index_one] at h2 ⊢
    rw [Lib.indexByte, h1, h2]
    rfl
theorem split_is (c : UInt8) : ∀ (n : Nat) (s : List UInt8), s.length ≤ n → Lib.splitK [c] 0 (Lib.count s [c]) s = cutAll c s
  | 0, s, h => by
    obtain rfl : s = [] := List.eq_nil_of_length_eq_zero (by omega)
    rfl
  | n + 1, s, h => by
    rw [Lib.count_one]
    rcases cut_cases c s with hno | ⟨a, r, rfl, ha⟩
    · rw [List.count_eq_zero.2 hno, cutAll_no hno]; rfl
    · rw [List.count_append, List.count_eq_zero.2 ha, List.count_cons_self, Nat.zero_add]
      rw [cutAll_hit ha, Lib.splitK, index_hit1 ha]
      have : ((a.length : Int) == -1) = false := beq_eq_false_iff_ne.2 (by omega)
      rw [this, ← split_is c n r (by simp at h; omega), Lib.count_one]
      simp
theorem cutB_is {c : UInt8} {a r : List UInt8} (h : c ∉ a) : Lib.cut (a ++ c :: r) [c] = (a, r, true) := by
  unfold Lib.cut
  rw [index_hit1 h, if_pos (by omega)]
  simp
theorem cutB_no {c : UInt8} {a : List UInt8} (h : c ∉ a) : Lib.cut a [c] = (a, [], false) := by
  unfold Lib.cut
  rw [index_no1 h, if_neg (by omega)]
def mk (l : List UInt8) : ByteArray := ⟨l.toArray⟩
theorem mk_data (l : List UInt8) : (mk l).data.toList = l := rfl
theorem mk_of (s : ByteArray) : mk s.data.toList = s := rfl
theorem mk_inj {a b : List UInt8} (h : mk a = mk b) : a = b := by
  have := congrArg (fun x : ByteArray => x.data.toList) h
  exact this
theorem ba_ext {a b : ByteArray} (h : a.data.toList = b.data.toList) : a = b := ByteArray.ext (Array.toList_inj.1 h)
/-- a label out of a piece -/
def labelOf (p : List UInt8) : Lb := (mk (Lib.cut p [61]).1, mk (Lib.cut p [61]).2.1)
def labelsOf (s : ByteArray) : List Lb := (cutAll 44 s.data.toList).map labelOf
theorem name_mem {s : ByteArray} (h : nameB s = true) {c : UInt8} (hc : okc c.toNat = false) : c ∉ s.data.toList := fun hm => by
  unfold nameB allB at h
  simp only [Bool.and_eq_true] at h
  have := List.all_eq_true.1 h.2 c hm
  rw [hc] at this; cases this
theorem name_small {s : ByteArray} (h : nameB s = true) : 1 ≤ s.size ∧ s.size ≤ 32 := by
  unfold nameB at h
  simp only [Bool.and_eq_true, decide_eq_true_eq] at h
  exact h.1
theorem labelOf_two {p x y : List UInt8} (h : cutAll 61 p = [x, y]) : labelOf p = (mk x, mk y) := by
  rcases cut_cases 61 p with hno | ⟨a, r, rfl, ha⟩
  · rw [cutAll_no hno] at h; cases h
  · rw [cutAll_hit ha] at h
    injection h with h1 h2
    subst h1
    unfold labelOf
    rw [cutB_is ha]
    rcases cut_cases 61 r with hno | ⟨b, t, rfl, hb⟩
    · rw [cutAll_no hno] at h2
      injection h2 with h2
      rw [h2]
    · rw [cutAll_hit hb] at h2
      injection h2 with _ h2
      exact absurd h2 (cutAll_ne 61 t)
theorem labelOf_not {p : List UInt8} (h : (cutAll 61 p).length ≠ 2) : nameB (labelOf p).2 = false := by
  rcases cut_cases 61 p with hno | ⟨a, r, rfl, ha⟩
  · unfold labelOf
    rw [cutB_no hno]
    rfl
  · rw [cutAll_hit ha] at h
    unfold labelOf
    rw [cutB_is ha]
    rcases cut_cases 61 r with hno | ⟨b, t, rfl, hb⟩
    · rw [cutAll_no hno] at h; exact absurd rfl h
    · cases hn : nameB (mk (b ++ 61 :: t)) with
      | false => rfl
      | true => exact absurd (List.mem_append.2 (.inr List.mem_cons_self)) (name_mem hn (c := 61) (by decide))
/-! ### which labels may be -/
def okL (d : Lb) : Bool := nameB d.1 && nameB d.2
def fineB (l : List Lb) : Bool := l.all okL && decide ((l.map (·.1)).Nodup) && !l.isEmpty
def rightE (l : List Lb) : Int := if 8 < l.length then 3 else if fineB l then 0 else 1
theorem fineB_is (l : List Lb) : fineB l = true ↔ (∀ d ∈ l, okL d = true) ∧ (l.map (·.1)).Nodup ∧ l ≠ [] := by
  unfold fineB
  cases l with
  | nil => simp
  | cons a l => simp only [Bool.and_eq_true, List.all_eq_true, decide_eq_true_eq, List.isEmpty_cons, Bool.not_false, and_true, ne_eq, reduceCtorEq, not_false_eq_true]
theorem fine_perm {p q : List Lb} (h : p.Perm q) : fineB p = fineB q := by
  rw [Bool.eq_iff_iff, fineB_is, fineB_is, (h.map (·.1)).nodup_iff]
  constructor
  · rintro ⟨h1, h2, h3⟩
    exact ⟨fun d hd => h1 d (h.mem_iff.2 hd), h2, fun e => h3 (by rw [e] at h; exact h.eq_nil)⟩
  · rintro ⟨h1, h2, h3⟩
    exact ⟨fun d hd => h1 d (h.mem_iff.1 hd), h2, fun e => h3 (by rw [e] at h; exact h.symm.eq_nil)⟩
theorem right_perm {p q : List Lb} (h : p.Perm q) : rightE p = rightE q := by unfold rightE; rw [h.length_eq, fine_perm h]
theorem right_zero {l : List Lb} (h : rightE l = 0) : l.length ≤ 8 ∧ fineB l = true := by
  unfold rightE at h
  split at h
  · cases h
  · split at h
    · exact ⟨by omega, by assumption⟩
    · cases h
theorem right_ok {l : List Lb} (h8 : l.length ≤ 8) (h : fineB l = true) : rightE l = 0 := by unfold rightE; rw [if_neg (by omega), if_pos h]
theorem right_bad {l : List Lb} (h8 : l.length ≤ 8) (h : fineB l = false) : rightE l = 1 := by unfold rightE; rw [if_neg (by omega), if_neg (by rw [h]; simp)]
theorem right_long {l : List Lb} (h8 : 8 < l.length) : rightE l = 3 := by unfold rightE; rw [if_pos h8]
theorem bad_one {l : List Lb} {d : Lb} (hd : d ∈ l) (h : okL d = false) : fineB l = false := by
  cases hf : fineB l with
  | false => rfl
  | true => have := ((fineB_is l).1 hf).1 d hd; rw [h] at this; cases this
theorem bad_two {l : List Lb} {i j : Nat} (hi : i < l.length) (hj : j < l.length) (hij : i < j) (h : l[i].1 = l[j].1) : fineB l = false := by
  cases hf : fineB l with
  | false => rfl
  | true =>
    have h2 := List.pairwise_iff_getElem.1 ((fineB_is l).1 hf).2.1 i j (by simpa using hi) (by simpa using hj) hij
    simp only [List.getElem_map] at h2
    exact absurd h h2
theorem fine_mk {l : List Lb} (h0 : l ≠ []) (h1 : ∀ d ∈ l, okL d = true) (h2 : ∀ i j (hi : i < l.length) (hj : j < l.length), i < j → l[i].1 ≠ l[j].1) : fineB l = true :=
  (fineB_is l).2 ⟨h1, List.pairwise_iff_getElem.2 fun i j hi hj hij => by
    simp only [List.getElem_map]
    exact h2 i j (by simpa using hi) (by simpa using hj) hij, h0⟩
/-! ### by name -/
theorem ByName.step {q l : List Lb} (h : ByName q l) (ha : ∀ i (hi : i + 1 < q.length), q[i].1 ≠ q[i + 1].1) : ∀ i j (hi : i < q.length) (hj : j < q.length), i < j → q[i].1 ≠ q[j].1 := fun i j hi hj hij e => by
  have hs := List.pairwise_iff_getElem.1 h.srt
  have h1 := hs i (i + 1) hi (by omega) (by omega)
  by_cases hj1 : j = i + 1
  · subst hj1; exact ha i (by omega) e
  · have h2 := hs (i + 1) j (by omega) hj (by omega)
    rw [← e] at h2
    exact ha i (by omega) (slt_tri h2 h1)
theorem ByName.len {q l : List Lb} (h : ByName q l) : q.length = l.length := h.perm.length_eq
def can (l : List Lb) : List Lb := l.mergeSort fun a b => !slt b.1 a.1
theorem can_by (l : List Lb) : ByName (can l) l := by
  refine ⟨List.mergeSort_perm .., ?_⟩
  have := List.pairwise_mergeSort (le := fun a b : Lb => !slt b.1 a.1) (fun a b c h k => by
    simp only [Bool.not_eq_true'] at *
    exact slt_ntr k h) (fun a b => by
    cases h : slt b.1 a.1 with
    | false => rfl
    | true => rw [slt_no h]; rfl) l
  exact this.imp fun h => by simpa using h
theorem strict_one : ∀ {p q : List Lb}, p.Pairwise (fun a b => slt a.1 b.1 = true) → q.Pairwise (fun a b => slt a.1 b.1 = true) → p.Perm q → p = q
  | [], q, _, _, h => h.nil_eq
  | a :: p, [], _, _, h => h.eq_nil
  | a :: p, b :: q, hp, hq, h => by
    have hp' := List.pairwise_cons.1 hp
    have hq' := List.pairwise_cons.1 hq
    have e : a = b := by
      rcases List.mem_cons.1 (h.mem_iff.1 List.mem_cons_self) with e | h1
      · exact e
      · rcases List.mem_cons.1 (h.mem_iff.2 List.mem_cons_self) with e | h2
        · exact e.symm
        · have := slt_tr (hp'.1 b h2) (hq'.1 a h1)
          rw [slt_irr] at this; cases this
    subst e
    rw [strict_one hp'.2 hq'.2 ((List.perm_cons a).1 h)]
theorem ByName.strict {q l : List Lb} (h : ByName q l) (hn : (l.map (·.1)).Nodup) : q.Pairwise fun a b => slt a.1 b.1 = true := by
  have hn' : (q.map (·.1)).Nodup := (h.perm.map (·.1)).nodup_iff.2 hn
  refine List.pairwise_iff_getElem.2 fun i j hi hj hij => ?_
  have h1 := List.pairwise_iff_getElem.1 h.srt i j hi hj hij
  cases h2 : slt q[i].1 q[j].1 with
  | true => rfl
  | false =>
    have e := slt_tri h2 h1
    have := List.pairwise_iff_getElem.1 hn' i j (by simpa using hi) (by simpa using hj) hij
    simp only [List.getElem_map] at this
    exact absurd e this
theorem ByName.can_ {q l : List Lb} (h : ByName q l) (hn : (l.map (·.1)).Nodup) : q = can l := strict_one (h.strict hn) ((can_by l).strict hn) (h.perm.trans (can_by l).perm.symm)
theorem can_perm {p q : List Lb} (h : p.Perm q) (hn : (p.map (·.1)).Nodup) : can p = can q := by
  have hn' : (q.map (·.1)).Nodup := (h.map (·.1)).nodup_iff.1 hn
  exact strict_one ((can_by p).strict hn) ((can_by q).strict hn') ((can_by p).perm.trans (h.trans (can_by q).perm.symm))
/-! ### how they are written, and read -/
def partL (d : Lb) : List UInt8 := d.1.data.toList ++ 61 :: d.2.data.toList
def txtL (q : List Lb) : List UInt8 := Lib.join (q.map partL) [44]
def txt (q : List Lb) : ByteArray := mk (txtL q)
def textOf (l : List Lb) : ByteArray := if rightE l = 0 then txt (can l) else mk []
theorem txtL_cons (d : Lb) (q : List Lb) : txtL (d :: q) = partL d ++ (q.map fun d => 44 :: partL d).flatten := by
  unfold txtL
  rw [List.map_cons, Lib.join_cons]
  unfold Lib.joinTail
  rw [List.map_map]
  rfl
theorem txtL_snoc (q : List Lb) (d : Lb) : txtL (q ++ [d]) = if q = [] then partL d else txtL q ++ 44 :: partL d := by
  cases q with
  | nil => rw [if_pos rfl, List.nil_append, txtL_cons]; simp
  | cons a q =>
    rw [if_neg (by simp), List.cons_append, txtL_cons, txtL_cons, List.map_append, List.flatten_append]
    simp
theorem cut_txt : ∀ (q : List Lb), q ≠ [] → (∀ d ∈ q, (44 : UInt8) ∉ partL d) → cutAll 44 (txtL q) = q.map partL
  | [], h, _ => absurd rfl h
  | [d], _, h => by
    rw [txtL_cons]
    simp only [List.map_nil, List.flatten_nil, List.append_nil, List.map_cons]
    exact cutAll_no (h d (by simp))
  | d :: e :: q, _, h => by
    rw [txtL_cons, List.map_cons, List.flatten_cons, List.cons_append, cutAll_hit (h d (by simp)), ← txtL_cons, cut_txt (e :: q) (by simp) fun x hx => h x (List.mem_cons_of_mem _ hx)]
    rfl
theorem ok_part {d : Lb} (h : okL d = true) : (44 : UInt8) ∉ partL d ∧ labelOf (partL d) = d := by
  unfold okL at h
  simp only [Bool.and_eq_true] at h
  have h1 := name_mem h.1 (c := 44) (by decide)
  have h2 := name_mem h.2 (c := 44) (by decide)
  have h3 := name_mem h.1 (c := 61) (by decide)
  refine ⟨fun hm => ?_, ?_⟩
  · unfold partL at hm
    rcases List.mem_append.1 hm with hm | hm
    · exact h1 hm
    · rcases List.mem_cons.1 hm with hm | hm
      · exact absurd hm (by decide)
      · exact h2 hm
  · unfold labelOf partL
    rw [cutB_is h3]
    rfl
theorem labels_txt {q : List Lb} (h0 : q ≠ []) (h : ∀ d ∈ q, okL d = true) : labelsOf (txt q) = q := by
  unfold labelsOf
  show (cutAll 44 (txtL q)).map labelOf = q
  rw [cut_txt q h0 fun d hd => (ok_part (h d hd)).1, List.map_map]
  conv => rhs; rw [← List.map_id q]
  exact List.map_congr_left fun d hd => (ok_part (h d hd)).2
def parseOk (s : ByteArray) : Bool := decide (rightE (labelsOf s) = 0) && decide (txt (can (labelsOf s)) = s)
def parseL (s : ByteArray) : List Lb := if parseOk s then labelsOf s else []
def parseE (s : ByteArray) : Int := if parseOk s then 0 else 12
theorem can_can {l : List Lb} (hn : (l.map (·.1)).Nodup) : can (can l) = can l := can_perm (can_by l).perm (((can_by l).perm.map (·.1)).nodup_iff.2 hn)
theorem parse_text {l : List Lb} (h : rightE l = 0) : parseOk (txt (can l)) = true ∧ labelsOf (txt (can l)) = can l := by
  obtain ⟨h8, hf⟩ := right_zero h
  obtain ⟨h1, h2, h3⟩ := (fineB_is l).1 hf
  have hb := can_by l
  have e : labelsOf (txt (can l)) = can l := labels_txt (fun e => h3 (by have := hb.perm; rw [e] at this; exact this.nil_eq.symm)) fun d hd => h1 d (hb.perm.mem_iff.1 hd)
  refine ⟨?_, e⟩
  unfold parseOk
  rw [e, can_can h2, right_perm hb.perm, h]
  simp
theorem txt_inj {p q : List Lb} (hp : rightE p = 0) (hq : rightE q = 0) (h : txt (can p) = txt (can q)) : can p = can q := by
  rw [← (parse_text hp).2, ← (parse_text hq).2, h]
theorem part_len {d : Lb} (h : okL d = true) : (partL d).length ≤ 65 := by
  unfold okL at h
  simp only [Bool.and_eq_true] at h
  have h1 := (name_small h.1).2
  have h2 := (name_small h.2).2
  have e1 : d.1.data.toList.length = d.1.size := by rw [Array.length_toList]; rfl
  have e2 : d.2.data.toList.length = d.2.size := by rw [Array.length_toList]; rfl
  unfold partL
  rw [List.length_append, List.length_cons]
  omega
theorem txt_len : ∀ (q : List Lb), (∀ d ∈ q, okL d = true) → (txtL q).length ≤ 66 * q.length
  | [], _ => by show 0 ≤ _; omega
  | d :: q, h => by
    rw [txtL_cons, List.length_append, List.length_cons]
    have h1 := part_len (h d List.mem_cons_self)
    have h2 : ∀ r : List Lb, (∀ d ∈ r, okL d = true) → ((r.map fun d => 44 :: partL d).flatten).length ≤ 66 * r.length := by
      intro r
      induction r with
      | nil => intro _; simp
      | cons a r ih =>
        intro hr
        rw [List.map_cons, List.flatten_cons, List.length_append, List.length_cons, List.length_cons]
        have := part_len (hr a List.mem_cons_self)
        have := ih fun x hx => hr x (List.mem_cons_of_mem _ hx)
        omega
    have := h2 q fun x hx => h x (List.mem_cons_of_mem _ hx)
    omega
theorem text_small {l : List Lb} : (textOf l).size ≤ 528 := by
  unfold textOf
  split
  · rename_i h
    obtain ⟨h8, hf⟩ := right_zero h
    obtain ⟨h1, _, _⟩ := (fineB_is l).1 hf
    have hb := can_by l
    have := txt_len (can l) fun d hd => h1 d (hb.perm.mem_iff.1 hd)
    have hl := hb.len
    show (txtL (can l)).toArray.size ≤ _
    rw [List.size_toArray]
    omega
  · show 0 ≤ _
    omega
end Go.Proofs.YtidkhokecekpgaaDoor
