/- A region that draws its order, whose operations only read or make new memory: ONE walk, in the text's order, serves every order. -/
import Derived.Test.YtiebjjmgbgibcaaBase
namespace Go.Hop
open Go.RowKit

/-- what an operation, carried out, must have come to -/
def flowUpon (P : Program) (R : Value → World → Prop) : Result Next → Prop
  | .ok (.value u) w' => R u w'
  | .ok .skip w' => R undef w'
  | .ok (.enter f args) w' => Calls P f args w' (fun e w'' => ∃ u, e = .returned u ∧ R u w'')
  | _ => False

/-- what is known of an operation's value: none: it is found on the walk; inl c: it is c; inr φ: it is some value of which φ holds, from then on -/
abbrev Kind := Option (Value ⊕ (Value → World → Prop))

section
variable (P : Program) (ops : Array Oper) (A : Nat → List Nat) (K : Nat → Kind) (G : World → World → Prop) (w0 : World) (m : Nat) (Q : Exit → Act → World → Prop)

def dstOf (i : Nat) : Option Tmp := (ops[i]?).bind (·.dst)

/-- the facts of which operation j may make use -/
def FactsAt (as : List Nat) : List (Nat × Value × (Value → World → Prop)) → World → Prop
  | [], _ => True
  | (i, v, φ) :: F, w => if as.contains i then φ v w ∧ FactsAt as F w else FactsAt as F w
def FactsAll : List (Nat × Value × (Value → World → Prop)) → World → Prop
  | [], _ => True
  | (_, v, φ) :: F, w => φ v w ∧ FactsAll F w

def FlowGo (tail : Act → World → Prop) : List Oper → Nat → Act → List (Nat × Value × (Value → World → Prop)) → Prop
  | [], _, a, F => ∀ w, G w0 w → FactsAll F w → tail a w
  | o :: l, j, a, F =>
    if Region.wanted o (yielded ops a.tmps) = true then
      match K j with
      | none => ∃ v0, (∀ w, G w0 w → FactsAt (A j) F w → ∃ w', (execOp a.eval o).run P w = .ok (.value v0) w' ∧ G w w') ∧ FlowGo tail l (j + 1) (a.put o.dst v0) F
      | some (.inl c) => (∀ w, G w0 w → FactsAt (A j) F w → flowUpon P (fun u w' => u = c ∧ G w w') ((execOp a.eval o).run P w)) ∧ FlowGo tail l (j + 1) (a.put o.dst c) F
      | some (.inr φ) => (∀ w, G w0 w → FactsAt (A j) F w → flowUpon P (fun u w' => G w w' ∧ φ u w') ((execOp a.eval o).run P w)) ∧ ∀ v, FlowGo tail l (j + 1) (a.put o.dst v) ((j, v, φ) :: F)
    else FlowGo tail l (j + 1) (a.put o.dst undef) F

/-- the puts of the operations in S, in the text's order -/
def laid (a0 : Act) (D : Nat → Value) (S : Nat → Bool) (l : List Nat) : Act := l.foldl (fun a i => if S i then a.put (dstOf ops i) (D i) else a) a0
def frameAt (a0 : Act) (D : Nat → Value) (j : Nat) : Act := laid ops a0 D (fun _ => true) (List.range j)
def wantedAt (a0 : Act) (D : Nat → Value) (i : Nat) : Prop := ∃ o, ops[i]? = some o ∧ Region.wanted o (yielded ops (frameAt ops a0 D i).tmps) = true
def factsOf (a0 : Act) (D : Nat → Value) (as : List Nat) (w : World) : Prop := ∀ i φ, i ∈ as → K i = some (.inr φ) → wantedAt ops a0 D i → φ (D i) w

structure Flow (a0 : Act) (V D : Nat → Value) : Prop where
  skip : ∀ j o, j < m → ops[j]? = some o → Region.wanted o (yielded ops (frameAt ops a0 D j).tmps) = false → D j = undef
  det : ∀ j o, j < m → ops[j]? = some o → Region.wanted o (yielded ops (frameAt ops a0 D j).tmps) = true → K j = none →
    ∀ w, G w0 w → factsOf ops K a0 D ((A j).filter (· < j)) w → ∃ w', (execOp (frameAt ops a0 D j).eval o).run P w = .ok (.value (D j)) w' ∧ G w w'
  val : ∀ j o c, j < m → ops[j]? = some o → Region.wanted o (yielded ops (frameAt ops a0 D j).tmps) = true → K j = some (.inl c) →
    D j = c ∧ ∀ w, G w0 w → factsOf ops K a0 D ((A j).filter (· < j)) w → flowUpon P (fun u w' => u = c ∧ G w w') ((execOp (frameAt ops a0 D j).eval o).run P w)
  any : ∀ j o φ, j < m → ops[j]? = some o → Region.wanted o (yielded ops (frameAt ops a0 D j).tmps) = true → K j = some (.inr φ) →
    D j = V j ∧ ∀ w, G w0 w → factsOf ops K a0 D ((A j).filter (· < j)) w → flowUpon P (fun u w' => G w w' ∧ φ u w') ((execOp (frameAt ops a0 D j).eval o).run P w)
end

theorem laid_append (ops : Array Oper) (a0 : Act) (D : Nat → Value) (S : Nat → Bool) (l l' : List Nat) : laid ops a0 D S (l ++ l') = laid ops (laid ops a0 D S l) D S l' := by
  simp [laid]
theorem frameAt_succ (ops : Array Oper) (a0 : Act) (D : Nat → Value) (j : Nat) : frameAt ops a0 D (j + 1) = (frameAt ops a0 D j).put (dstOf ops j) (D j) := by
  unfold frameAt
  rw [List.range_succ, laid_append]
  simp [laid]
theorem laid_congr (ops : Array Oper) (D D' : Nat → Value) (S : Nat → Bool) : ∀ (l : List Nat) (a0 : Act), (∀ i ∈ l, S i = true → D i = D' i) → laid ops a0 D S l = laid ops a0 D' S l
  | [], _, _ => rfl
  | i :: l, a0, h => by
    have ih := laid_congr ops D D' S l
    show laid ops (if S i then a0.put (dstOf ops i) (D i) else a0) D S l = laid ops (if S i then a0.put (dstOf ops i) (D' i) else a0) D' S l
    by_cases hs : S i = true
    · rw [if_pos hs, if_pos hs, h i (by simp) hs]; exact ih _ (fun k hk => h k (by simp [hk]))
    · rw [if_neg hs, if_neg hs]; exact ih _ (fun k hk => h k (by simp [hk]))
theorem put_tmps_size (a : Act) (d : Option Tmp) (v : Value) : (a.put d v).tmps.size = a.tmps.size := by
  cases d <;> simp [Act.put]
theorem put_tmps_ne {a : Act} {d : Option Tmp} {v : Value} {t : Tmp} (h : d ≠ some t) : (a.put d v).tmps[t]? = a.tmps[t]? := by
  cases d with
  | none => rfl
  | some d => simp [Act.put, Array.getElem?_setIfInBounds_ne (show d ≠ t from fun e => h (by rw [e]))]
theorem put_tmps_eq {a b : Act} {t : Tmp} {v : Value} (h : a.tmps.size = b.tmps.size) : (a.put (some t) v).tmps[t]? = (b.put (some t) v).tmps[t]? := by
  simp [Act.put, Array.getElem?_setIfInBounds, h]
/-- what a slot holds hangs on the operations that write it -/
theorem laid_read (ops : Array Oper) (D : Nat → Value) (S S' : Nat → Bool) (t : Tmp) : ∀ (l : List Nat) (a b : Act), a.tmps.size = b.tmps.size → a.tmps[t]? = b.tmps[t]? →
    (∀ i ∈ l, dstOf ops i = some t → S i = S' i) → (laid ops a D S l).tmps[t]? = (laid ops b D S' l).tmps[t]? ∧ (laid ops a D S l).tmps.size = (laid ops b D S' l).tmps.size
  | [], a, b, hs, h, _ => ⟨h, hs⟩
  | i :: l, a, b, hs, h, hw => by
    have ih := laid_read ops D S S' t l
    show (laid ops (if S i then a.put (dstOf ops i) (D i) else a) D S l).tmps[t]? = (laid ops (if S' i then b.put (dstOf ops i) (D i) else b) D S' l).tmps[t]? ∧
      (laid ops (if S i then a.put (dstOf ops i) (D i) else a) D S l).tmps.size = (laid ops (if S' i then b.put (dstOf ops i) (D i) else b) D S' l).tmps.size
    refine ih _ _ ?_ ?_ (fun k hk => hw k (by simp [hk]))
    · split <;> split <;> simp [put_tmps_size, hs]
    · by_cases hd : dstOf ops i = some t
      · have := hw i (by simp) hd
        rw [this]
        by_cases hs' : S' i = true
        · rw [if_pos hs', if_pos hs', hd]; exact put_tmps_eq hs
        · rw [if_neg hs', if_neg hs']; exact h
      · have e1 : (if S i then a.put (dstOf ops i) (D i) else a).tmps[t]? = a.tmps[t]? := by split; exact put_tmps_ne hd; rfl
        have e2 : (if S' i then b.put (dstOf ops i) (D i) else b).tmps[t]? = b.tmps[t]? := by split; exact put_tmps_ne hd; rfl
        rw [e1, e2, h]
theorem laid_defers (ops : Array Oper) (D : Nat → Value) (S : Nat → Bool) : ∀ (l : List Nat) (a : Act), (laid ops a D S l).defers = a.defers
  | [], _ => rfl
  | i :: l, a => by
    show (laid ops (if S i then a.put (dstOf ops i) (D i) else a) D S l).defers = a.defers
    rw [laid_defers ops D S l]
    split
    · cases dstOf ops i <;> rfl
    · rfl
/-- a put that nothing behind it writes over -/
theorem laid_put (ops : Array Oper) (D : Nat → Value) (S : Nat → Bool) (d : Option Tmp) (v : Value) : ∀ (l : List Nat) (a : Act), (∀ i ∈ l, S i = true → ∀ t, d = some t → dstOf ops i ≠ some t) →
    laid ops (a.put d v) D S l = (laid ops a D S l).put d v
  | [], _, _ => rfl
  | i :: l, a, h => by
    have ih := laid_put ops D S d v l
    show laid ops (if S i then (a.put d v).put (dstOf ops i) (D i) else a.put d v) D S l = (laid ops (if S i then a.put (dstOf ops i) (D i) else a) D S l).put d v
    by_cases hs : S i = true
    · rw [if_pos hs, if_pos hs, Act.put_comm a v (D i) (fun t ht => h i (by simp) hs t ht)]
      exact ih _ (fun k hk => h k (by simp [hk]))
    · rw [if_neg hs, if_neg hs]; exact ih _ (fun k hk => h k (by simp [hk]))

/-- what is asked of the region's edges: by reckoning -/
def flowOk (ops : Array Oper) (A : Nat → List Nat) (m : Nat) : Bool :=
  Region.noSelect ops && decide (m ≤ ops.size) &&
  (List.range ops.size).all fun j => match ops[j]? with
    | none => true
    | some o =>
      ((A j).all fun i => o.after.toList.any fun e => Region.binds .any e && (e.on == i || (A e.on).contains i)) &&
      (o.after.toList.all fun e => !Region.binds .any e || decide (e.on < j)) &&
      ((List.range ops.size).all fun i => i == j || match dstOf ops i with
        | none => true
        | some t => if (o.looksAt ops).contains t || o.dst == some t then (if i < j then (A j).contains i else (A i).contains j) else true) &&
      (decide (j < m) || (List.range j).all fun i => (A j).contains i)

structure FlowOk (ops : Array Oper) (A : Nat → List Nat) (m : Nat) : Prop where
  sel : Region.noSelect ops = true
  le : m ≤ ops.size
  near : ∀ j o i, ops[j]? = some o → i ∈ A j → ∃ e ∈ o.after, Region.binds .any e = true ∧ (e.on = i ∨ i ∈ A e.on)
  back : ∀ j o e, ops[j]? = some o → e ∈ o.after → Region.binds .any e = true → e.on < j
  clash : ∀ j o i t, ops[j]? = some o → i ≠ j → dstOf ops i = some t → (t ∈ o.looksAt ops ∨ o.dst = some t) → (i < j → i ∈ A j) ∧ (j < i → j ∈ A i)
  tail : ∀ j i, j < ops.size → m ≤ j → i < j → i ∈ A j

theorem dstOf_lt {ops : Array Oper} {i : Nat} {t : Tmp} (h : dstOf ops i = some t) : i < ops.size := by
  rcases Nat.lt_or_ge i ops.size with h1 | h1
  · exact h1
  · unfold dstOf at h; rw [Array.getElem?_eq_none h1] at h; cases h

theorem flowOk_spec {ops : Array Oper} {A : Nat → List Nat} {m : Nat} (h : flowOk ops A m = true) : FlowOk ops A m := by
  unfold flowOk at h
  simp only [Bool.and_eq_true, decide_eq_true_eq, List.all_eq_true, List.mem_range] at h
  obtain ⟨⟨hs, hm⟩, h⟩ := h
  have hj : ∀ j o, ops[j]? = some o → _ := fun j o ho => by
    have h1 := h j (Array.getElem?_eq_some_iff.1 ho).1
    rw [ho] at h1
    simp only [Bool.and_eq_true, List.all_eq_true, List.any_eq_true, Bool.or_eq_true, Bool.not_eq_true', decide_eq_true_eq, beq_iff_eq, List.contains_iff_mem, List.mem_range] at h1
    exact h1
  refine ⟨hs, hm, fun j o i ho hi => ?_, fun j o e ho he hb => ?_, fun j o i t ho hne hd ht => ?_, fun j i hjn hmj hij => ?_⟩
  · obtain ⟨e, he, hb⟩ := (hj j o ho).1.1.1 i hi
    exact ⟨e, by simpa using he, hb⟩
  · rcases (hj j o ho).1.1.2 e (by simpa using he) with h1 | h1
    · rw [hb] at h1; cases h1
    · exact h1
  · have h1 := (hj j o ho).1.2 i (dstOf_lt hd)
    rcases h1 with h1 | h1
    · exact absurd h1 hne
    · rw [hd] at h1
      simp only at h1
      rw [if_pos (by simpa [List.contains_iff_mem] using ht)] at h1
      refine ⟨fun hlt => ?_, fun hlt => ?_⟩
      · rw [if_pos hlt] at h1; simpa [List.contains_iff_mem] using h1
      · rw [if_neg (by omega)] at h1; simpa [List.contains_iff_mem] using h1
  · obtain ⟨o, ho⟩ : ∃ o, ops[j]? = some o := ⟨_, Array.getElem?_eq_getElem hjn⟩
    rcases (hj j o ho).2 with h1 | h1
    · omega
    · exact h1 i hij

section
variable {P : Program} {ops : Array Oper} {A : Nat → List Nat} {K : Nat → Kind} {G : World → World → Prop} {w0 : World} {m : Nat} {Q : Exit → Act → World → Prop}

theorem FlowOk.lt (hA : FlowOk ops A m) : ∀ j, j < ops.size → ∀ i, i ∈ A j → i < j := by
  intro j
  induction j using Nat.strongRecOn with
  | _ j ih =>
    intro hj i hi
    obtain ⟨e, he, hb, h⟩ := hA.near j _ i (Array.getElem?_eq_getElem hj) hi
    have hlt := hA.back j _ e (Array.getElem?_eq_getElem hj) he hb
    rcases h with h | h
    · omega
    · have := ih e.on hlt (by omega) i h; omega

theorem getD_eq {listed : Array Bool} {i : Nat} (h : i < listed.size) (b c : Bool) : listed.getD i b = listed.getD i c := by
  simp [h]

theorem ready_nil (hA : FlowOk ops A m) {listed : Array Bool} (hs : listed.size = ops.size) (h : Region.ready .any ops listed = []) : ∀ i, i < ops.size → listed.getD i false = true := by
  intro i
  induction i using Nat.strongRecOn with
  | _ i ih =>
    intro hi
    cases hl : listed.getD i false with
    | true => rfl
    | false =>
      have hm : i ∈ Region.ready .any ops listed := by
        rw [mem_ready]
        refine ⟨by rw [getD_eq (by omega) true false]; exact hl, _, Array.getElem?_eq_getElem hi, fun e he hb => ?_⟩
        have hlt := hA.back i _ e (Array.getElem?_eq_getElem hi) he hb
        exact ih e.on hlt (by omega)
      rw [h] at hm
      cases hm

theorem flow_tail (hA : FlowOk ops A m) : ∀ (fuel : Nat) (listed : Array Bool) (k : Nat) (a : Act) (w : World), listed.size = ops.size → m ≤ k → k ≤ ops.size →
    (∀ i, i < ops.size → listed.getD i false = decide (i < k)) → ops.size - k ≤ fuel → wpList P ops Q (ops.toList.drop k) a w → wpAny P .any ops Q fuel listed a w := by
  intro fuel
  have hnil : ∀ (listed : Array Bool) (k : Nat) (a : Act) (w : World), k ≤ ops.size → (∀ i, i < ops.size → listed.getD i false = decide (i < k)) → (∀ i, i < ops.size → listed.getD i false = true) →
      wpList P ops Q (ops.toList.drop k) a w → Q .normal a w := by
    intro listed k a w hk hl hall hw
    have hkn : k = ops.size := by
      rcases Nat.lt_or_ge k ops.size with h | h
      · have := hl k h; rw [hall k h] at this; simp at this
      · omega
    rw [hkn, List.drop_of_length_le (by simp)] at hw
    exact hw
  induction fuel with
  | zero =>
    intro listed k a w hs hm hk hl hf hw
    have hall : ∀ i, i < ops.size → listed.getD i false = true := fun i hi => by rw [hl i hi]; simp; omega
    refine ⟨?_, hnil listed k a w hk hl hall hw⟩
    cases hr : Region.ready .any ops listed with
    | nil => rfl
    | cons i r =>
      have hi : i ∈ Region.ready .any ops listed := by rw [hr]; simp
      obtain ⟨h0, o, ho, _⟩ := mem_ready.1 hi
      have hlt := (Array.getElem?_eq_some_iff.1 ho).1
      rw [getD_eq (by omega) true false, hall i hlt] at h0
      cases h0
  | succ fuel ih =>
    intro listed k a w hs hm hk hl hf hw
    refine ⟨fun hr => hnil listed k a w hk hl (ready_nil hA hs hr) hw, fun i hi => ?_⟩
    obtain ⟨h0, o, ho, hall⟩ := mem_ready.1 hi
    have hlt := (Array.getElem?_eq_some_iff.1 ho).1
    rw [getD_eq (by omega) true false, hl i hlt] at h0
    have hik : k ≤ i := by simpa using h0
    have hki : i = k := by
      rcases Nat.lt_or_ge k i with h | h
      · exfalso
        have hmem := hA.tail i k hlt (by omega) h
        obtain ⟨e, he, hb, h2⟩ := hA.near i o k ho hmem
        have h3 := hall e he hb
        have h4 := hA.back i o e ho he hb
        rw [hl e.on (by omega)] at h3
        have h5 : e.on < k := by simpa using h3
        rcases h2 with h2 | h2
        · omega
        · have := hA.lt e.on (by omega) k h2; omega
      · omega
    subst hki
    have hd : ops.toList.drop i = o :: ops.toList.drop (i + 1) := by
      rw [List.drop_eq_getElem_cons (by simpa using hlt)]
      congr 1
      have := (Array.getElem?_eq_some_iff.1 ho).2
      simpa using this
    rw [hd] at hw
    have hstep : wpOp P ops Q i (wpList P ops Q (ops.toList.drop (i + 1))) a w := by
      unfold wpOp
      rw [ho]
      unfold wpList at hw
      exact hw
    refine wpOp_mono (fun a' w' h' => ih _ (i + 1) a' w' (by simpa using hs) (by omega) (by omega) (fun j hj => ?_) (by omega) h') hstep
    by_cases hji : i = j
    · subst hji; simp [hs, hlt]
    · rw [getD_set_ne false hji, hl j hj]
      simp; omega

def cnt (S : Nat → Bool) (l : List Nat) : Nat := (l.filter fun i => !S i).length
theorem cnt_mono {S S' : Nat → Bool} : ∀ (l : List Nat), (∀ i, S i = true → S' i = true) → cnt S' l ≤ cnt S l
  | [], _ => Nat.le_refl _
  | i :: l, h => by
    have ih := cnt_mono l h
    unfold cnt at ih ⊢
    rw [List.filter_cons, List.filter_cons]
    cases h1 : S i <;> cases h2 : S' i <;> simp <;> first | omega | (have := h i h1; rw [h2] at this; cases this)
theorem cnt_lt {S S' : Nat → Bool} {j : Nat} (h0 : S j = false) (h1 : S' j = true) : ∀ (l : List Nat), (∀ i, S i = true → S' i = true) → j ∈ l → cnt S' l < cnt S l
  | [], _, hj => by cases hj
  | i :: l, h, hj => by
    have hm := cnt_mono l h
    by_cases hij : j = i
    · subst hij
      unfold cnt at hm ⊢
      rw [List.filter_cons, List.filter_cons]
      simp [h0, h1]; omega
    · have ih := cnt_lt h0 h1 l h (by simpa [hij] using hj)
      unfold cnt at ih ⊢
      rw [List.filter_cons, List.filter_cons]
      cases h2 : S i <;> cases h3 : S' i <;> simp <;> first | omega | (have := h i h2; rw [h3] at this; cases this)
end

section
variable {P : Program} {ops : Array Oper} {A : Nat → List Nat} {K : Nat → Kind} {G : World → World → Prop} {w0 : World} {m : Nat} {Q : Exit → Act → World → Prop}

theorem laid_none (D : Nat → Value) (S : Nat → Bool) : ∀ (l : List Nat) (a : Act), (∀ i ∈ l, S i = false) → laid ops a D S l = a
  | [], _, _ => rfl
  | i :: l, a, h => by
    show laid ops (if S i then a.put (dstOf ops i) (D i) else a) D S l = a
    rw [if_neg (by rw [h i (by simp)]; exact Bool.false_ne_true)]
    exact laid_none D S l a (fun k hk => h k (by simp [hk]))
theorem laid_sets (D : Nat → Value) (S S' : Nat → Bool) : ∀ (l : List Nat) (a : Act), (∀ i ∈ l, S i = S' i) → laid ops a D S l = laid ops a D S' l
  | [], _, _ => rfl
  | i :: l, a, h => by
    show laid ops (if S i then a.put (dstOf ops i) (D i) else a) D S l = laid ops (if S' i then a.put (dstOf ops i) (D i) else a) D S' l
    rw [h i (by simp)]
    exact laid_sets D S S' l _ (fun k hk => h k (by simp [hk]))
theorem range_split {j n : Nat} (h : j ≤ n) : List.range n = List.range j ++ (List.range (n - j)).map (j + ·) := by
  rw [← List.range_add]; congr 1; omega
theorem frameAt_eq (a0 : Act) (D : Nat → Value) {j n : Nat} (h : j ≤ n) : frameAt ops a0 D j = laid ops a0 D (fun i => decide (i < j)) (List.range n) := by
  rw [range_split h, laid_append]
  rw [laid_none D _ ((List.range (n - j)).map (j + ·)) _ (fun i hi => by
    obtain ⟨k, _, rfl⟩ := List.mem_map.1 hi
    simp)]
  unfold frameAt
  exact laid_sets D _ _ _ _ (fun i hi => by simpa using List.mem_range.1 hi)

theorem frame_read (hA : FlowOk ops A m) {S : Nat → Bool} (hdown : ∀ j i, S j = true → i ∈ A j → S i = true) {j : Nat} {o : Oper} (ho : ops[j]? = some o) (hj : S j = false) (hall : ∀ i ∈ A j, S i = true)
    (a0 : Act) (D : Nat → Value) {t : Tmp} (ht : t ∈ o.looksAt ops) : (laid ops a0 D S (List.range ops.size)).tmps[t]? = (frameAt ops a0 D j).tmps[t]? := by
  have hjn := (Array.getElem?_eq_some_iff.1 ho).1
  rw [frameAt_eq a0 D (Nat.le_of_lt hjn)]
  refine (laid_read ops D _ _ t _ a0 a0 rfl rfl (fun i _ hd => ?_)).1
  rcases Nat.lt_trichotomy i j with h | h | h
  · have := (hA.clash j o i t ho (by omega) hd (.inl ht)).1 h
    rw [hall i this]; simp [h]
  · subst h; rw [hj]; simp
  · have h1 := (hA.clash j o i t ho (by omega) hd (.inl ht)).2 h
    have h2 : S i = false := by
      cases hs : S i with
      | false => rfl
      | true => rw [hdown i j hs h1] at hj; cases hj
    rw [h2]; simp; omega

theorem laid_insert (hA : FlowOk ops A m) {S S' : Nat → Bool} (hdown : ∀ j i, S j = true → i ∈ A j → S i = true) {j : Nat} {o : Oper} (ho : ops[j]? = some o) (hj : S j = false) (hj' : S' j = true) (hS : ∀ i, i ≠ j → S' i = S i)
    (a0 : Act) (D : Nat → Value) : laid ops a0 D S' (List.range ops.size) = (laid ops a0 D S (List.range ops.size)).put o.dst (D j) := by
  have hjn := (Array.getElem?_eq_some_iff.1 ho).1
  have hdst : dstOf ops j = o.dst := by simp [dstOf, ho]
  rw [range_split (j := j + 1) (n := ops.size) (by omega), List.range_succ, List.append_assoc, laid_append, laid_append]
  rw [laid_append ops a0 D S, laid_append ops _ D S]
  have e1 : laid ops a0 D S' (List.range j) = laid ops a0 D S (List.range j) := laid_sets D _ _ _ _ (fun i hi => hS i (by have := List.mem_range.1 hi; omega))
  rw [e1]
  have e2 : laid ops (laid ops a0 D S (List.range j)) D S' [j] = (laid ops a0 D S (List.range j)).put o.dst (D j) := by
    show (if S' j then _ else _) = _
    rw [if_pos hj', hdst]
  have e3 : laid ops (laid ops a0 D S (List.range j)) D S [j] = laid ops a0 D S (List.range j) := by
    show (if S j then _ else _) = _
    rw [if_neg (by rw [hj]; exact Bool.false_ne_true)]
  rw [e2, e3]
  have hgt : ∀ i ∈ (List.range (ops.size - (j + 1))).map (j + 1 + ·), j < i := fun i hi => by
    obtain ⟨k, _, rfl⟩ := List.mem_map.1 hi
    omega
  rw [laid_sets D S' S _ _ (fun i hi => hS i (by have := hgt i hi; omega))]
  refine laid_put ops D S o.dst (D j) _ _ (fun i hi hs t ht hd => ?_)
  have h1 := (hA.clash j o i t ho (by have := hgt i hi; omega) hd (.inr ht)).2 (hgt i hi)
  rw [hdown i j hs h1] at hj
  cases hj

theorem execOp_read (hA : FlowOk ops A m) {j : Nat} {o : Oper} (ho : ops[j]? = some o) {a b : Act} (h : ∀ t ∈ o.looksAt ops, a.tmps[t]? = b.tmps[t]?) :
    execOp a.eval o = execOp b.eval o := by
  refine execOp_congr o (Region.noSelect_spec hA.sel j o · · ho) (fun x hx => ?_)
  cases x with
  | tmp t =>
    have := h t (List.mem_append_left _ (List.mem_filterMap.2 ⟨.tmp t, by simpa using hx, rfl⟩))
    simp only [Act.eval, Array.getD_eq_getD_getElem?, this]
  | _ => rfl
theorem wanted_read {o : Oper} {a b : Act} (h : ∀ t ∈ o.looksAt ops, a.tmps[t]? = b.tmps[t]?) :
    Region.wanted o (yielded ops a.tmps) = Region.wanted o (yielded ops b.tmps) := by
  unfold Region.wanted
  cases hg : o.guard with
  | none => rfl
  | some gw =>
    obtain ⟨g, want⟩ := gw
    have hy : yielded ops a.tmps g = yielded ops b.tmps g := by
      unfold yielded
      cases ht : (ops[g]?).bind (·.dst) with
      | none => rfl
      | some t =>
        have := h t (List.mem_append_right _ (by simp [hg, ht]))
        simp [this]
    simp only [hy]
end

section
variable {P : Program} {ops : Array Oper} {A : Nat → List Nat} {K : Nat → Kind} {G : World → World → Prop} {w0 : World} {m : Nat} {Q : Exit → Act → World → Prop} {a0 : Act}

structure FInv (P : Program) (ops : Array Oper) (A : Nat → List Nat) (K : Nat → Kind) (G : World → World → Prop) (w0 : World) (m : Nat) (a0 : Act) (listed : Array Bool) (a : Act) (w : World) : Prop where
  size : listed.size = ops.size
  down : ∀ j i, listed.getD j false = true → i ∈ A j → listed.getD i false = true
  flow : ∀ j, listed.getD j false = true → j < m
  grow : G w0 w
  vals : ∃ Vs : Nat → Value, ∀ V D, (∀ i, listed.getD i false = true → V i = Vs i) → Flow P ops A K G w0 m a0 V D →
    a = laid ops a0 D (fun i => listed.getD i false) (List.range ops.size) ∧ ∀ i φ, listed.getD i false = true → K i = some (.inr φ) → wantedAt ops a0 D i → φ (D i) w

theorem upon_flow {o : Oper} {a : Act} {N : Act → World → Prop} {R : Value → World → Prop} {r : Result Next} (h : flowUpon P R r) (hN : ∀ u w', R u w' → N (a.put o.dst u) w') : o.upon P a N Q r := by
  cases r with
  | ok n w' =>
    cases n with
    | value u => exact hN u w' h
    | skip => exact hN undef w' h
    | enter f args => exact Calls.mono h (fun e w'' ⟨u, he, hr⟩ => by subst he; exact hN u w'' hr)
    | _ => exact h.elim
  | halt x w' => exact h.elim

theorem flow_main (hA : FlowOk ops A m) (hrefl : ∀ w, G w w) (htrans : ∀ a b c, G a b → G b c → G a c)
    (hcl : ∀ j φ, K j = some (.inr φ) → ∀ u w w', φ u w → G w w' → φ u w')
    (hV : ∀ V, ∃ D, Flow P ops A K G w0 m a0 V D ∧ ∀ w, G w0 w → (∀ i φ, i < m → K i = some (.inr φ) → wantedAt ops a0 D i → φ (D i) w) → wpList P ops Q (ops.toList.drop m) (frameAt ops a0 D m) w) :
    ∀ (fuel : Nat) (listed : Array Bool) (a : Act) (w : World), FInv P ops A K G w0 m a0 listed a w → cnt (fun i => listed.getD i false) (List.range ops.size) ≤ fuel → wpAny P .any ops Q fuel listed a w := by
  -- all the flow's operations have come up: the tail
  have hend : ∀ (fuel : Nat) (listed : Array Bool) (a : Act) (w : World), FInv P ops A K G w0 m a0 listed a w → (∀ i, i < m → listed.getD i false = true) → cnt (fun i => listed.getD i false) (List.range ops.size) ≤ fuel → wpAny P .any ops Q fuel listed a w := by
    intro fuel listed a w hI hall hf
    obtain ⟨Vs, hvals⟩ := hI.vals
    obtain ⟨D, hF, hfin⟩ := hV Vs
    obtain ⟨ha, hfacts⟩ := hvals Vs D (fun _ _ => rfl) hF
    have hl : ∀ i, i < ops.size → listed.getD i false = decide (i < m) := fun i hi => by
      by_cases him : i < m
      · rw [hall i him]; simp [him]
      · cases hs : listed.getD i false with
        | false => simp; omega
        | true => exact absurd (hI.flow i hs) him
    have hfr : a = frameAt ops a0 D m := by
      rw [ha, frameAt_eq a0 D hA.le]
      exact laid_sets D _ _ _ _ (fun i hi => hl i (List.mem_range.1 hi))
    rw [hfr]
    refine flow_tail hA fuel listed m _ w hI.size (Nat.le_refl _) hA.le hl ?_ (hfin w hI.grow (fun i φ hi hk hw => hfacts i φ (hall i hi) hk hw))
    have : cnt (fun i => decide (i < m)) (List.range ops.size) = ops.size - m := by
      unfold cnt
      rw [range_split hA.le, List.filter_append]
      have e1 : ((List.range m).filter fun i => !decide (i < m)) = [] := by
        rw [List.filter_eq_nil_iff]; intro i hi; simpa using List.mem_range.1 hi
      have e2 : (((List.range (ops.size - m)).map (m + ·)).filter fun i => !decide (i < m)) = (List.range (ops.size - m)).map (m + ·) := by
        rw [List.filter_eq_self]; intro i hi
        obtain ⟨k, _, rfl⟩ := List.mem_map.1 hi
        simp
      rw [e1, e2]; simp
    have e : cnt (fun i => listed.getD i false) (List.range ops.size) = cnt (fun i => decide (i < m)) (List.range ops.size) := by
      unfold cnt
      congr 1
      exact List.filter_congr (fun i hi => by show (!listed.getD i false) = !decide (i < m); rw [hl i (List.mem_range.1 hi)])
    omega
  intro fuel
  induction fuel with
  | zero =>
    intro listed a w hI hf
    refine hend 0 listed a w hI (fun i hi => ?_) hf
    cases hs : listed.getD i false with
    | true => rfl
    | false =>
      have hmem : i ∈ (List.range ops.size).filter (fun i => !listed.getD i false) := List.mem_filter.2 ⟨List.mem_range.2 (Nat.lt_of_lt_of_le hi hA.le), by simp [hs]⟩
      have h0 : ((List.range ops.size).filter (fun i => !listed.getD i false)) = [] := List.eq_nil_of_length_eq_zero (Nat.le_zero.1 hf)
      rw [h0] at hmem; cases hmem
  | succ fuel ih =>
    intro listed a w hI hf
    by_cases hall : ∀ i, i < m → listed.getD i false = true
    · exact hend (fuel + 1) listed a w hI hall hf
    · obtain ⟨k0, hk0⟩ := Classical.not_forall.1 hall
      obtain ⟨hk0m, hk0l⟩ := Classical.not_imp.1 hk0
      refine ⟨fun hr => absurd (ready_nil hA hI.size hr k0 (Nat.lt_of_lt_of_le hk0m hA.le)) hk0l, fun j hj => ?_⟩
      obtain ⟨h0, o, ho, hafter⟩ := mem_ready.1 hj
      have hjn := (Array.getElem?_eq_some_iff.1 ho).1
      have hjl : listed.getD j false = false := by rw [← getD_eq (by rw [hI.size]; omega) true false]; exact h0
      have hanc : ∀ i ∈ A j, listed.getD i false = true := fun i hi => by
        obtain ⟨e, he, hb, h⟩ := hA.near j o i ho hi
        have hel := hafter e he hb
        rcases h with h | h
        · rw [← h]; exact hel
        · exact hI.down e.on i hel h
      have hjm : j < m := by
        rcases Nat.lt_or_ge j m with h | h
        · exact h
        · exact absurd (hanc k0 (hA.tail j k0 hjn h (by omega))) hk0l
      obtain ⟨Vs, hvals⟩ := hI.vals
      -- what is so whatever is chosen for what has not come up
      have hread : ∀ V D, (∀ i, listed.getD i false = true → V i = Vs i) → Flow P ops A K G w0 m a0 V D →
          execOp a.eval o = execOp (frameAt ops a0 D j).eval o ∧ Region.wanted o (yielded ops a.tmps) = Region.wanted o (yielded ops (frameAt ops a0 D j).tmps) ∧ factsOf ops K a0 D ((A j).filter (· < j)) w := by
        intro V D hVD hF
        obtain ⟨ha, hfacts⟩ := hvals V D hVD hF
        have hr : ∀ t ∈ o.looksAt ops, a.tmps[t]? = (frameAt ops a0 D j).tmps[t]? := fun t ht => by
          rw [ha]
          exact frame_read hA (S := fun i => listed.getD i false) (fun j i => hI.down j i) ho hjl hanc a0 D ht
        exact ⟨execOp_read hA ho hr, wanted_read hr, fun i φ hi hk hw => hfacts i φ (hanc i (List.mem_filter.1 hi).1) hk hw⟩
      -- the next state's invariant
      have hnext : ∀ (u : Value) (w' : World), G w w' → (∀ V D, (∀ i, listed.getD i false = true → V i = Vs i) → (∀ φ, K j = some (.inr φ) → Region.wanted o (yielded ops a.tmps) = true → V j = u) → Flow P ops A K G w0 m a0 V D → D j = u) →
          (∀ φ, K j = some (.inr φ) → Region.wanted o (yielded ops a.tmps) = true → φ u w') → wpAny P .any ops Q fuel (listed.setIfInBounds j true) (a.put o.dst u) w' := by
        intro u w' hg hD hφ
        have hset : ∀ i, (listed.setIfInBounds j true).getD i false = if i = j then true else listed.getD i false := fun i => by
          by_cases hij : i = j
          · subst hij; rw [if_pos rfl]; simp [hI.size, hjn]
          · rw [if_neg hij, getD_set_ne false (Ne.symm hij)]
        refine ih _ _ _ ⟨by simpa using hI.size, fun k i hk hi => ?_, fun k hk => ?_, htrans _ _ _ hI.grow hg, ?_⟩ ?_
        · rw [hset] at hk ⊢
          split
          · rfl
          · by_cases hkj : k = j
            · subst hkj; exact hanc i hi
            · rw [if_neg hkj] at hk; exact hI.down k i hk hi
        · rw [hset] at hk
          by_cases hkj : k = j
          · subst hkj; exact hjm
          · rw [if_neg hkj] at hk; exact hI.flow k hk
        · refine ⟨fun i => if i = j then u else Vs i, fun V D hVD hF => ?_⟩
          have hVo : ∀ i, listed.getD i false = true → V i = Vs i := fun i hi => by
            have hij : i ≠ j := fun e => by subst e; rw [hjl] at hi; cases hi
            have := hVD i (by rw [hset, if_neg hij]; exact hi)
            simp only [if_neg hij] at this
            exact this
          have hVj : V j = u := by
            have := hVD j (by rw [hset, if_pos rfl])
            simp only [if_true] at this
            exact this
          obtain ⟨ha, hfacts⟩ := hvals V D hVo hF
          have hDj := hD V D hVo (fun _ _ _ => hVj) hF
          refine ⟨?_, fun i φ hi hk hw => ?_⟩
          · rw [laid_insert hA (S := fun i => listed.getD i false) (fun j i => hI.down j i) ho hjl (S' := fun i => (listed.setIfInBounds j true).getD i false) (by show (listed.setIfInBounds j true).getD j false = true; rw [hset, if_pos rfl]) (fun i hi => by show (listed.setIfInBounds j true).getD i false = listed.getD i false; rw [hset, if_neg hi]) a0 D, ← ha, hDj]
          · rw [hset] at hi
            by_cases hij : i = j
            · subst hij
              rw [hDj]
              obtain ⟨o', ho', hw'⟩ := hw
              rw [ho] at ho'; cases ho'
              exact hφ φ hk (by rw [(hread V D hVo hF).2.1]; exact hw')
            · rw [if_neg hij] at hi
              exact hcl i φ hk _ _ _ (hfacts i φ hi hk hw) hg
        · have hlt : cnt (fun i => (listed.setIfInBounds j true).getD i false) (List.range ops.size) < cnt (fun i => listed.getD i false) (List.range ops.size) :=
            cnt_lt (j := j) hjl (by show (listed.setIfInBounds j true).getD j false = true; rw [hset, if_pos rfl]) _ (fun i hi => by show (listed.setIfInBounds j true).getD i false = true; rw [hset]; split; rfl; exact hi) (List.mem_range.2 hjn)
          omega
      obtain ⟨D0, hF0, _⟩ := hV Vs
      obtain ⟨hex0, hwant0, hfa0⟩ := hread Vs D0 (fun _ _ => rfl) hF0
      unfold wpOp
      rw [ho]
      simp only
      cases hwt : Region.wanted o (yielded ops a.tmps) with
      | false =>
        rw [if_neg Bool.false_ne_true]
        refine hnext undef w ?_ (fun V D hVD _ hF => ?_) (fun φ _ h => by rw [hwt] at h; cases h)
        · exact hrefl w
        · exact hF.skip j o hjm ho (by rw [← (hread V D hVD hF).2.1]; exact hwt)
      | true =>
        rw [if_pos rfl]
        refine .inl ?_
        unfold Oper.wp
        rw [hwant0] at hwt
        cases hK : K j with
        | none =>
          obtain ⟨w', hrun, hg⟩ := hF0.det j o hjm ho hwt hK w hI.grow hfa0
          rw [← hex0] at hrun
          rw [hrun]
          refine hnext (D0 j) w' hg (fun V D hVD _ hF => ?_) (fun φ h => by rw [hK] at h; cases h)
          obtain ⟨hex, hwant, hfa⟩ := hread V D hVD hF
          obtain ⟨w'', hrun', _⟩ := hF.det j o hjm ho (by rw [← hwant, hwant0]; exact hwt) hK w hI.grow hfa
          rw [← hex, hrun] at hrun'
          injection hrun' with h1 _
          injection h1 with h2
          exact h2.symm
        | some k =>
          cases k with
          | inl c =>
            obtain ⟨hc, hrun⟩ := hF0.val j o c hjm ho hwt hK
            have h1 := hrun w hI.grow hfa0
            rw [← hex0] at h1
            refine upon_flow h1 (fun u w' ⟨hu, hg⟩ => ?_)
            subst hu
            refine hnext u w' hg (fun V D hVD _ hF => ?_) (fun φ h => by rw [hK] at h; cases h)
            exact (hF.val j o u hjm ho (by rw [← (hread V D hVD hF).2.1, hwant0]; exact hwt) hK).1
          | inr φ =>
            obtain ⟨_, hrun⟩ := hF0.any j o φ hjm ho hwt hK
            have h1 := hrun w hI.grow hfa0
            rw [← hex0] at h1
            refine upon_flow h1 (fun u w' ⟨hg, hu⟩ => ?_)
            refine hnext u w' hg (fun V D hVD hVu hF => ?_) (fun φ' h _ => by rw [hK] at h; injection h with h; injection h with h; rw [← h]; exact hu)
            rw [(hF.any j o φ hjm ho (by rw [← (hread V D hVD hF).2.1, hwant0]; exact hwt) hK).1]
            exact hVu φ hK (by rw [hwant0]; exact hwt)
end

section
variable {P : Program} {ops : Array Oper} {A : Nat → List Nat} {K : Nat → Kind} {G : World → World → Prop} {w0 : World} {m : Nat} {Q : Exit → Act → World → Prop} {a0 : Act}

theorem frameAt_congr {D D' : Nat → Value} {j : Nat} (h : ∀ i, i < j → D i = D' i) : frameAt ops a0 D j = frameAt ops a0 D' j :=
  laid_congr ops D D' _ _ _ (fun i hi _ => h i (List.mem_range.1 hi))
theorem wantedAt_congr {D D' : Nat → Value} {i : Nat} (h : ∀ k, k < i → D k = D' k) : wantedAt ops a0 D i ↔ wantedAt ops a0 D' i := by
  unfold wantedAt
  rw [frameAt_congr h]

theorem factsAt_of {D : Nat → Value} {j : Nat} {w : World} {as : List Nat} (hf : factsOf ops K a0 D (as.filter (· < j)) w) :
    ∀ (F : List (Nat × Value × (Value → World → Prop))), (∀ x ∈ F, x.1 < j ∧ K x.1 = some (.inr x.2.2) ∧ wantedAt ops a0 D x.1 ∧ x.2.1 = D x.1) → FactsAt as F w
  | [], _ => trivial
  | (i, v, φ) :: F, h => by
    have ih := factsAt_of hf F (fun x hx => h x (by simp [hx]))
    obtain ⟨h1, h2, h3, h4⟩ := h (i, v, φ) (by simp)
    unfold FactsAt
    split
    · rename_i hc
      refine ⟨?_, ih⟩
      simp only at h1 h2 h3 h4
      rw [h4]
      exact hf i φ (List.mem_filter.2 ⟨by simpa [List.contains_iff_mem] using hc, by simpa using h1⟩) h2 h3
    · exact ih
theorem factsAll_of {D : Nat → Value} {w : World} (hf : ∀ i φ, i < m → K i = some (.inr φ) → wantedAt ops a0 D i → φ (D i) w) :
    ∀ (F : List (Nat × Value × (Value → World → Prop))), (∀ x ∈ F, x.1 < m ∧ K x.1 = some (.inr x.2.2) ∧ wantedAt ops a0 D x.1 ∧ x.2.1 = D x.1) → FactsAll F w
  | [], _ => trivial
  | (i, v, φ) :: F, h => by
    have ih := factsAll_of hf F (fun x hx => h x (by simp [hx]))
    obtain ⟨h1, h2, h3, h4⟩ := h (i, v, φ) (by simp)
    refine ⟨?_, ih⟩
    simp only at h1 h2 h3 h4
    rw [h4]
    exact hf i φ h1 h2 h3

theorem flow_of_go (hm : m ≤ ops.size) (tail : Act → World → Prop) (V : Nat → Value) : ∀ (l : List Oper) (j : Nat) (D' : Nat → Value) (F : List (Nat × Value × (Value → World → Prop))),
    l = (ops.toList.take m).drop j → j ≤ m → (∀ x ∈ F, x.1 < j ∧ K x.1 = some (.inr x.2.2) ∧ wantedAt ops a0 D' x.1 ∧ x.2.1 = D' x.1) →
    FlowGo P ops A K G w0 tail l j (frameAt ops a0 D' j) F →
    ∃ D, (∀ i, i < j → D i = D' i) ∧
      (∀ k o, j ≤ k → k < m → ops[k]? = some o → Region.wanted o (yielded ops (frameAt ops a0 D k).tmps) = false → D k = undef) ∧
      (∀ k o, j ≤ k → k < m → ops[k]? = some o → Region.wanted o (yielded ops (frameAt ops a0 D k).tmps) = true → K k = none →
        ∀ w, G w0 w → factsOf ops K a0 D ((A k).filter (· < k)) w → ∃ w', (execOp (frameAt ops a0 D k).eval o).run P w = .ok (.value (D k)) w' ∧ G w w') ∧
      (∀ k o c, j ≤ k → k < m → ops[k]? = some o → Region.wanted o (yielded ops (frameAt ops a0 D k).tmps) = true → K k = some (.inl c) →
        D k = c ∧ ∀ w, G w0 w → factsOf ops K a0 D ((A k).filter (· < k)) w → flowUpon P (fun u w' => u = c ∧ G w w') ((execOp (frameAt ops a0 D k).eval o).run P w)) ∧
      (∀ k o φ, j ≤ k → k < m → ops[k]? = some o → Region.wanted o (yielded ops (frameAt ops a0 D k).tmps) = true → K k = some (.inr φ) →
        D k = V k ∧ ∀ w, G w0 w → factsOf ops K a0 D ((A k).filter (· < k)) w → flowUpon P (fun u w' => G w w' ∧ φ u w') ((execOp (frameAt ops a0 D k).eval o).run P w)) ∧
      (∀ w, G w0 w → (∀ i φ, i < m → K i = some (.inr φ) → wantedAt ops a0 D i → φ (D i) w) → tail (frameAt ops a0 D m) w) := by
  intro l
  induction l with
  | nil =>
    intro j D' F hl hj hF h
    have hjm : j = m := by
      have h1 : ((ops.toList.take m).drop j).length = 0 := by rw [← hl]; rfl
      simp at h1
      omega
    subst hjm
    refine ⟨D', fun _ _ => rfl, fun k o h1 h2 => by omega, fun k o h1 h2 => by omega, fun k o c h1 h2 => by omega, fun k o φ h1 h2 => by omega, fun w hg hf => ?_⟩
    exact h w hg (factsAll_of hf F hF)
  | cons o l ih =>
    intro j D' F hl hj hF h
    have hjm : j < m := by
      rcases Nat.lt_or_ge j m with h1 | h1
      · exact h1
      · rw [List.drop_of_length_le (by simp; omega)] at hl; cases hl
    have hlen : j < (ops.toList.take m).length := by simp; omega
    have hdrop := List.drop_eq_getElem_cons hlen
    rw [← hl] at hdrop
    injection hdrop with ho hl'
    have ho' : ops[j]? = some o := by
      rw [ho]; simp
    have hdst : dstOf ops j = o.dst := by simp [dstOf, ho']
    -- one operation more
    have next : ∀ (v : Value) (F' : List (Nat × Value × (Value → World → Prop))), (∀ x ∈ F', x ∈ F ∨ (x.1 = j ∧ x.2.1 = v ∧ K j = some (.inr x.2.2) ∧ Region.wanted o (yielded ops (frameAt ops a0 D' j).tmps) = true)) →
        FlowGo P ops A K G w0 tail l (j + 1) ((frameAt ops a0 D' j).put o.dst v) F' →
        ∃ D, (∀ i, i < j → D i = D' i) ∧ D j = v ∧
          (∀ k o, j + 1 ≤ k → k < m → ops[k]? = some o → Region.wanted o (yielded ops (frameAt ops a0 D k).tmps) = false → D k = undef) ∧
          (∀ k o, j + 1 ≤ k → k < m → ops[k]? = some o → Region.wanted o (yielded ops (frameAt ops a0 D k).tmps) = true → K k = none →
            ∀ w, G w0 w → factsOf ops K a0 D ((A k).filter (· < k)) w → ∃ w', (execOp (frameAt ops a0 D k).eval o).run P w = .ok (.value (D k)) w' ∧ G w w') ∧
          (∀ k o c, j + 1 ≤ k → k < m → ops[k]? = some o → Region.wanted o (yielded ops (frameAt ops a0 D k).tmps) = true → K k = some (.inl c) →
            D k = c ∧ ∀ w, G w0 w → factsOf ops K a0 D ((A k).filter (· < k)) w → flowUpon P (fun u w' => u = c ∧ G w w') ((execOp (frameAt ops a0 D k).eval o).run P w)) ∧
          (∀ k o φ, j + 1 ≤ k → k < m → ops[k]? = some o → Region.wanted o (yielded ops (frameAt ops a0 D k).tmps) = true → K k = some (.inr φ) →
            D k = V k ∧ ∀ w, G w0 w → factsOf ops K a0 D ((A k).filter (· < k)) w → flowUpon P (fun u w' => G w w' ∧ φ u w') ((execOp (frameAt ops a0 D k).eval o).run P w)) ∧
          (∀ w, G w0 w → (∀ i φ, i < m → K i = some (.inr φ) → wantedAt ops a0 D i → φ (D i) w) → tail (frameAt ops a0 D m) w) := by
      intro v F' hF' h'
      have hc : ∀ i, i < j → (fun i => if i = j then v else D' i) i = D' i := fun i hi => if_neg (by omega)
      have hfr : frameAt ops a0 (fun i => if i = j then v else D' i) (j + 1) = (frameAt ops a0 D' j).put o.dst v := by
        rw [frameAt_succ, hdst, frameAt_congr hc]
        simp
      obtain ⟨D, hD, r1, r2, r3, r4, r5⟩ := ih (j + 1) (fun i => if i = j then v else D' i) F' hl' (by omega) (fun x hx => by
        rcases hF' x hx with h1 | ⟨h1, h2, h3, h4⟩
        · obtain ⟨g1, g2, g3, g4⟩ := hF x h1
          refine ⟨by omega, g2, (wantedAt_congr (fun k hk => hc k (by omega))).2 g3, ?_⟩
          rw [g4]; exact (hc x.1 g1).symm
        · refine ⟨by omega, by rw [h1]; exact h3, ?_, by rw [h1]; simp [h2]⟩
          rw [h1]
          exact (wantedAt_congr hc).2 ⟨o, ho', h4⟩) (by rw [hfr]; exact h')
      refine ⟨D, fun i hi => (hD i (by omega)).trans (hc i hi), ?_, r1, r2, r3, r4, r5⟩
      have := hD j (by omega)
      simpa using this
    have lift : ∀ D : Nat → Value, (∀ i, i < j → D i = D' i) → frameAt ops a0 D j = frameAt ops a0 D' j := fun D hD => frameAt_congr hD
    have facts : ∀ D : Nat → Value, (∀ i, i < j → D i = D' i) → ∀ w, factsOf ops K a0 D ((A j).filter (· < j)) w → FactsAt (A j) F w := fun D hD w hf =>
      factsAt_of hf F (fun x hx => by
        obtain ⟨g1, g2, g3, g4⟩ := hF x hx
        exact ⟨g1, g2, (wantedAt_congr (fun k hk => hD k (by omega))).2 g3, g4.trans (hD x.1 g1).symm⟩)
    unfold FlowGo at h
    cases hwt : Region.wanted o (yielded ops (frameAt ops a0 D' j).tmps) with
    | false =>
      rw [hwt, if_neg Bool.false_ne_true] at h
      obtain ⟨D, hD, hDj, r1, r2, r3, r4, r5⟩ := next undef F (fun x hx => .inl hx) h
      refine ⟨D, hD, fun k o' h1 h2 h3 h4 => ?_, fun k o' h1 h2 h3 h4 => ?_, fun k o' c h1 h2 h3 h4 => ?_, fun k o' φ h1 h2 h3 h4 => ?_, r5⟩ <;> by_cases hkj : k = j
      · subst hkj; exact hDj
      · exact r1 k o' (by omega) h2 h3 h4
      · subst hkj; rw [ho'] at h3; cases h3; rw [lift D hD, hwt] at h4; cases h4
      · exact r2 k o' (by omega) h2 h3 h4
      · subst hkj; rw [ho'] at h3; cases h3; rw [lift D hD, hwt] at h4; cases h4
      · exact r3 k o' c (by omega) h2 h3 h4
      · subst hkj; rw [ho'] at h3; cases h3; rw [lift D hD, hwt] at h4; cases h4
      · exact r4 k o' φ (by omega) h2 h3 h4
    | true =>
      rw [hwt, if_pos rfl] at h
      cases hK : K j with
      | none =>
        simp only [hK] at h
        obtain ⟨v0, hrun, h⟩ := h
        obtain ⟨D, hD, hDj, r1, r2, r3, r4, r5⟩ := next v0 F (fun x hx => .inl hx) h
        refine ⟨D, hD, fun k o' h1 h2 h3 h4 => ?_, fun k o' h1 h2 h3 h4 => ?_, fun k o' c h1 h2 h3 h4 => ?_, fun k o' φ h1 h2 h3 h4 => ?_, r5⟩ <;> by_cases hkj : k = j
        · subst hkj; rw [ho'] at h3; cases h3; rw [lift D hD, hwt] at h4; cases h4
        · exact r1 k o' (by omega) h2 h3 h4
        · subst hkj; rw [ho'] at h3; cases h3
          intro _ w hg hf
          rw [lift D hD, hDj]
          exact hrun w hg (facts D hD w hf)
        · exact r2 k o' (by omega) h2 h3 h4
        · subst hkj; intro h5; rw [hK] at h5; cases h5
        · exact r3 k o' c (by omega) h2 h3 h4
        · subst hkj; intro h5; rw [hK] at h5; cases h5
        · exact r4 k o' φ (by omega) h2 h3 h4
      | some kd =>
        cases kd with
        | inl c =>
          simp only [hK] at h
          obtain ⟨hrun, h⟩ := h
          obtain ⟨D, hD, hDj, r1, r2, r3, r4, r5⟩ := next c F (fun x hx => .inl hx) h
          refine ⟨D, hD, fun k o' h1 h2 h3 h4 => ?_, fun k o' h1 h2 h3 h4 => ?_, fun k o' c' h1 h2 h3 h4 => ?_, fun k o' φ h1 h2 h3 h4 => ?_, r5⟩ <;> by_cases hkj : k = j
          · subst hkj; rw [ho'] at h3; cases h3; rw [lift D hD, hwt] at h4; cases h4
          · exact r1 k o' (by omega) h2 h3 h4
          · subst hkj; intro h5; rw [hK] at h5; cases h5
          · exact r2 k o' (by omega) h2 h3 h4
          · subst hkj; rw [ho'] at h3; cases h3
            intro h5; rw [hK] at h5; injection h5 with h5; injection h5 with h5; subst h5
            refine ⟨hDj, fun w hg hf => ?_⟩
            rw [lift D hD]
            exact hrun w hg (facts D hD w hf)
          · exact r3 k o' c' (by omega) h2 h3 h4
          · subst hkj; intro h5; rw [hK] at h5; cases h5
          · exact r4 k o' φ (by omega) h2 h3 h4
        | inr φ0 =>
          simp only [hK] at h
          obtain ⟨hrun, h⟩ := h
          obtain ⟨D, hD, hDj, r1, r2, r3, r4, r5⟩ := next (V j) ((j, V j, φ0) :: F) (fun x hx => by
            rcases List.mem_cons.1 hx with h1 | h1
            · subst h1; exact .inr ⟨rfl, rfl, hK, hwt⟩
            · exact .inl h1) (h (V j))
          refine ⟨D, hD, fun k o' h1 h2 h3 h4 => ?_, fun k o' h1 h2 h3 h4 => ?_, fun k o' c' h1 h2 h3 h4 => ?_, fun k o' φ h1 h2 h3 h4 => ?_, r5⟩ <;> by_cases hkj : k = j
          · subst hkj; rw [ho'] at h3; cases h3; rw [lift D hD, hwt] at h4; cases h4
          · exact r1 k o' (by omega) h2 h3 h4
          · subst hkj; intro h5; rw [hK] at h5; cases h5
          · exact r2 k o' (by omega) h2 h3 h4
          · subst hkj; intro h5; rw [hK] at h5; cases h5
          · exact r3 k o' c' (by omega) h2 h3 h4
          · subst hkj; rw [ho'] at h3; cases h3
            intro h5; rw [hK] at h5; injection h5 with h5; injection h5 with h5; subst h5
            refine ⟨hDj, fun w hg hf => ?_⟩
            rw [lift D hD]
            exact hrun w hg (facts D hD w hf)
          · exact r4 k o' φ (by omega) h2 h3 h4
end

/-- blocks that were there are as they were -/
def Grow (w w' : World) : Prop := Below w.heap.size w w'
theorem Grow.refl (w : World) : Grow w w := Below.refl _ _
theorem Grow.trans {a b c : World} (h : Grow a b) (k : Grow b c) : Grow a c := Below.trans h (k.mono h.size)
theorem Grow.drew {w w' : World} (h : Grow w w') : Grow w w'.drew := Below.drew h
def Lasting (φ : Value → World → Prop) : Prop := ∀ u w w', φ u w → Grow w w' → φ u w'

/-- THE RULE: 'kinds' says of the operations whose value is not found on the walk what it is -/
theorem wp_region_grow {P : Program} {ops : Array Oper} {id : Nat} {Q : Exit → Act → World → Prop} {a : Act} {w : World} (A : Nat → List Nat) (m : Nat) (kinds : List (Nat × (Value ⊕ (Value → World → Prop))))
    (hmix : P.follows .mixedOrders = true) (hA : flowOk ops A m = true) (hcl : ∀ x ∈ kinds, ∀ φ, x.2 = .inr φ → Lasting φ)
    (h : FlowGo P ops A (fun j => kinds.lookup j) Grow w (fun a' w' => wpList P ops Q (ops.toList.drop m) a' w') (ops.toList.take m) 0 a []) : (Code.region id ops true).wp P Q a w := by
  have hok := flowOk_spec hA
  have hlk : ∀ (l : List (Nat × (Value ⊕ (Value → World → Prop)))) (j : Nat) (x : Value ⊕ (Value → World → Prop)), l.lookup j = some x → (j, x) ∈ l := by
    intro l
    induction l with
    | nil => intro j x h; cases h
    | cons y l ih =>
      intro j x h
      rw [List.lookup_cons] at h
      cases hb : (j == y.1) with
      | true =>
        rw [hb] at h
        simp only [Option.some.injEq] at h
        have : j = y.1 := by simpa using hb
        rw [← h, this]; simp
      | false => rw [hb] at h; exact List.mem_cons_of_mem _ (ih j x h)
  refine wp_region_any hmix (flow_main (A := A) (K := fun j => kinds.lookup j) (G := Grow) (w0 := w) (m := m) (a0 := a) hok Grow.refl (fun _ _ _ => Grow.trans)
    (fun j φ hk u w1 w2 hu hg => hcl (j, .inr φ) (hlk kinds j _ hk) φ rfl u w1 w2 hu hg) (fun V => ?_) ops.size (Array.replicate ops.size false) a _ ?_ ?_)
  · obtain ⟨D, _, r1, r2, r3, r4, r5⟩ := flow_of_go (a0 := a) (K := fun j => kinds.lookup j) hok.le _ V (ops.toList.take m) 0 (fun _ => undef) [] (by simp) (Nat.zero_le _) (by simp) h
    exact ⟨D, ⟨fun j o => r1 j o (Nat.zero_le _), fun j o => r2 j o (Nat.zero_le _), fun j o c => r3 j o c (Nat.zero_le _), fun j o φ => r4 j o φ (Nat.zero_le _)⟩, r5⟩
  · refine ⟨by simp, fun j i hj => ?_, fun j hj => ?_, (Grow.refl w).drew, ⟨fun _ => undef, fun V D _ _ => ⟨?_, fun i φ hi => ?_⟩⟩⟩
    · simp [Array.getElem?_replicate] at hj; split at hj <;> cases hj
    · simp [Array.getElem?_replicate] at hj; split at hj <;> cases hj
    · rw [laid_none D _ _ _ (fun i hi => by simp [Array.getElem?_replicate]; split <;> rfl)]
    · simp [Array.getElem?_replicate] at hi; split at hi <;> cases hi
  · exact Nat.le_trans (List.length_filter_le _ _) (by simp)
end Go.Hop

namespace Go.Hop
open Go.RowKit
/-- all operations that must have come up ahead of operation j -/
def ancOf (ops : Array Oper) (j : Nat) : List Nat := (List.range j).filter fun i => ((Region.before ops).getD j 0).testBit i
theorem lasting_bytes (l : List UInt8) : Lasting (IsBytes l) := fun _ _ _ h hg => h.below hg

section
variable {P : Program} {ops : Array Oper} {A : Nat → List Nat} {K : Nat → Kind} {w0 : World} {tail : Act → World → Prop} {o : Oper} {l : List Oper} {j : Nat} {a : Act} {F : List (Nat × Value × (Value → World → Prop))}
theorem flow_skip (hw : Region.wanted o (yielded ops a.tmps) = false) (h : FlowGo P ops A K Grow w0 tail l (j + 1) (a.put o.dst undef) F) : FlowGo P ops A K Grow w0 tail (o :: l) j a F := by
  unfold FlowGo
  rw [hw, if_neg Bool.false_ne_true]; exact h
theorem flow_det (hw : Region.wanted o (yielded ops a.tmps) = true) (hk : K j = none) {v0 : Value} (hr : ∀ w, Grow w0 w → FactsAt (A j) F w → (execOp a.eval o).run P w = .ok (.value v0) w)
    (h : FlowGo P ops A K Grow w0 tail l (j + 1) (a.put o.dst v0) F) : FlowGo P ops A K Grow w0 tail (o :: l) j a F := by
  unfold FlowGo
  rw [hw, if_pos rfl, hk]
  exact ⟨v0, fun w hg hf => ⟨w, hr w hg hf, Grow.refl w⟩, h⟩
theorem flow_val (hw : Region.wanted o (yielded ops a.tmps) = true) (c : Value) (hk : K j = some (.inl c)) (hr : ∀ w, Grow w0 w → FactsAt (A j) F w → flowUpon P (fun u w' => u = c ∧ Grow w w') ((execOp a.eval o).run P w))
    (h : FlowGo P ops A K Grow w0 tail l (j + 1) (a.put o.dst c) F) : FlowGo P ops A K Grow w0 tail (o :: l) j a F := by
  unfold FlowGo
  rw [hw, if_pos rfl, hk]
  exact ⟨hr, h⟩
theorem flow_any (hw : Region.wanted o (yielded ops a.tmps) = true) (φ : Value → World → Prop) (hk : K j = some (.inr φ)) (hr : ∀ w, Grow w0 w → FactsAt (A j) F w → flowUpon P (fun u w' => Grow w w' ∧ φ u w') ((execOp a.eval o).run P w))
    (h : ∀ v, FlowGo P ops A K Grow w0 tail l (j + 1) (a.put o.dst v) ((j, v, φ) :: F)) : FlowGo P ops A K Grow w0 tail (o :: l) j a F := by
  unfold FlowGo
  rw [hw, if_pos rfl, hk]
  exact ⟨hr, h⟩
end
/-- what was put into slots, the last one first -/
def putsL (a0 : Act) : List (Tmp × Value) → Act
  | [] => a0
  | (d, v) :: L => (putsL a0 L).put (some d) v
/-- what an operand holds behind these puts -/
def rdL (a0 : Act) (L : List (Tmp × Value)) : Operand → Value
  | .tmp t => (L.lookup t).getD (a0.eval (.tmp t))
  | x => a0.eval x
theorem putsL_size (a0 : Act) : ∀ L : List (Tmp × Value), (putsL a0 L).tmps.size = a0.tmps.size
  | [] => rfl
  | (d, v) :: L => by show ((putsL a0 L).put (some d) v).tmps.size = _; rw [put_tmps_size, putsL_size a0 L]
def fits (n : Nat) (L : List (Tmp × Value)) : Prop := ∀ x ∈ L, x.1 < n
theorem putsL_get (a0 : Act) (t : Tmp) : ∀ L : List (Tmp × Value), fits a0.tmps.size L → (putsL a0 L).tmps[t]? = match L.lookup t with | some v => some v | none => a0.tmps[t]?
  | [], _ => rfl
  | (d, v) :: L, h => by
    have ih := putsL_get a0 t L (fun x hx => h x (by simp [hx]))
    have hd : d < a0.tmps.size := h (d, v) (by simp)
    show ((putsL a0 L).put (some d) v).tmps[t]? = _
    rw [List.lookup_cons]
    by_cases htd : t = d
    · subst htd
      simp [Act.put, putsL_size, hd]
    · have hb : (t == d) = false := by simpa using htd
      rw [put_tmps_ne (fun e => htd (by injection e with e; exact e.symm)), ih, hb]
theorem putsL_eval {a0 : Act} {L : List (Tmp × Value)} (h : fits a0.tmps.size L) (x : Operand) : (putsL a0 L).eval x = rdL a0 L x := by
  cases x with
  | tmp t =>
    show ((putsL a0 L).tmps.getD t undef) = (L.lookup t).getD (a0.tmps.getD t undef)
    rw [Array.getD_eq_getD_getElem?, putsL_get a0 t L h]
    cases L.lookup t <;> simp
  | _ => rfl

/-- the goal at operation j -/
def FlowL (P : Program) (ops : Array Oper) (A : Nat → List Nat) (K : Nat → Kind) (w0 : World) (T : Act → World → Prop) (n : Nat) (l : List Oper) (j : Nat) (a0 : Act) (L : List (Tmp × Value)) (F : List (Nat × Value × (Value → World → Prop))) : Prop :=
  a0.tmps.size = n → fits n L → FlowGo P ops A K Grow w0 T l j (putsL a0 L) F

theorem flowUpon_call' {P : Program} {f : FuncId} {args : Array Value} {w : World} {R : Value → World → Prop} {r : Result Next} (hr : r = .ok (.enter f args) w) (h : Calls P f args w (fun e w' => ∃ u, e = .returned u ∧ R u w')) : flowUpon P R r := by
  rw [hr]; exact h
theorem flowUpon_value {P : Program} {u : Value} {w : World} {R : Value → World → Prop} {r : Result Next} (hr : r = .ok (.value u) w) (h : R u w) : flowUpon P R r := by
  rw [hr]; exact h
section
variable {P : Program} {ops : Array Oper} {A : Nat → List Nat} {K : Nat → Kind} {w0 : World} {T : Act → World → Prop} {o : Oper} {l : List Oper} {j n : Nat} {a0 : Act} {L : List (Tmp × Value)} {F : List (Nat × Value × (Value → World → Prop))}

/-- is the operation carried out -/
def Wanted (ops : Array Oper) (o : Oper) (a0 : Act) (L : List (Tmp × Value)) (b : Bool) : Prop := fits a0.tmps.size L → Region.wanted o (yielded ops (putsL a0 L).tmps) = b
theorem wanted_none (h : o.guard = none) : Wanted ops o a0 L true := fun _ => by unfold Region.wanted; rw [h]
theorem wanted_if {ops' : Array Oper} (hops : Hid (ops = ops')) (g : Nat) (want : Bool) (h : o.guard = some (g, want)) (d : Tmp) (hd : dstOf ops' g = some d) (c : Bool) (hv : L.lookup d = some (.bool c)) : Wanted ops o a0 L (c == want) := fun hf => by
  have e : ops = ops' := hops.out
  subst e
  unfold Region.wanted
  rw [h]
  have hd' : (ops[g]?).bind (·.dst) = some d := hd
  have hy : yielded ops (putsL a0 L).tmps g = some c := by
    unfold yielded
    rw [hd']
    simp only [Option.bind_some]
    rw [putsL_get a0 d L hf, hv]
  show (yielded ops (putsL a0 L).tmps g == some want) = _
  rw [hy]
  cases c <;> cases want <;> rfl

theorem fl_end (h : a0.tmps.size = n → fits n L → ∀ w, Grow w0 w → FactsAll F w → T (putsL a0 L) w) : FlowL P ops A K w0 T n [] j a0 L F := fun hn hf => h hn hf
theorem fits_cons {d : Tmp} {v : Value} (h : fits n L) (hd : d < n) : fits n ((d, v) :: L) := fun x hx => by
  rcases List.mem_cons.1 hx with h1 | h1
  · rw [h1]; exact hd
  · exact h x h1
theorem fl_skip (d : Tmp) (hd : o.dst = some d) (hs : d < n) (hw : Wanted ops o a0 L false) (h : FlowL P ops A K w0 T n l (j + 1) a0 ((d, undef) :: L) F) : FlowL P ops A K w0 T n (o :: l) j a0 L F := fun hn hf => by
  refine flow_skip (hw (by rw [hn]; exact hf)) ?_
  rw [hd]; exact h hn (fits_cons hf hs)
theorem fl_skip0 (hd : o.dst = none) (hw : Wanted ops o a0 L false) (h : FlowL P ops A K w0 T n l (j + 1) a0 L F) : FlowL P ops A K w0 T n (o :: l) j a0 L F := fun hn hf => by
  refine flow_skip (hw (by rw [hn]; exact hf)) ?_
  rw [hd]; exact h hn hf
/-- a value found on the walk -/
theorem fl_det (d : Tmp) (hd : o.dst = some d) (hs : d < n) (hw : Wanted ops o a0 L true) (hk : K j = none) (v0 : Value)
    (hr : ∀ w, Grow w0 w → FactsAt (A j) F w → (execOp (rdL a0 L) o).run P w = .ok (.value v0) w)
    (h : FlowL P ops A K w0 T n l (j + 1) a0 ((d, v0) :: L) F) : FlowL P ops A K w0 T n (o :: l) j a0 L F := fun hn hf => by
  have hf' : fits a0.tmps.size L := by rw [hn]; exact hf
  have he : (putsL a0 L).eval = rdL a0 L := funext (putsL_eval hf')
  refine flow_det (hw hf') hk (v0 := v0) (by rw [he]; exact hr) ?_
  rw [hd]; exact h hn (fits_cons hf hs)
theorem fl_mv (d : Tmp) (hd : o.dst = some d) (hs : d < n) (hw : Wanted ops o a0 L true) (hk : K j = none) (x : Operand) (ho : o.op = .move x ∨ o.op = .assign x) (v0 : Value) (hv : rdL a0 L x = v0)
    (h : FlowL P ops A K w0 T n l (j + 1) a0 ((d, v0) :: L) F) : FlowL P ops A K w0 T n (o :: l) j a0 L F := by
  refine fl_det d hd hs hw hk v0 (fun w _ _ => ?_) h
  obtain ⟨dst, op, ty, pos, after, guard⟩ := o
  rcases ho with ho | ho <;> simp only at ho <;> subst ho <;> (rw [← hv]; rfl)
theorem fl_pick (d : Tmp) (hd : o.dst = some d) (hs : d < n) (hw : Wanted ops o a0 L true) (hk : K j = none) (c x y : Operand) (ho : o.op = .pick c x y) (b : Bool) (hc : rdL a0 L c = .bool b) (v0 : Value) (hv : (if b then rdL a0 L x else rdL a0 L y) = v0)
    (h : FlowL P ops A K w0 T n l (j + 1) a0 ((d, v0) :: L) F) : FlowL P ops A K w0 T n (o :: l) j a0 L F := by
  refine fl_det d hd hs hw hk v0 (fun w _ _ => ?_) h
  obtain ⟨dst, op, ty, pos, after, guard⟩ := o
  simp only at ho
  subst ho
  show (execOp (rdL a0 L) { dst, op := .pick c x y, type := ty, pos, after, guard }).run P w = _
  unfold execOp
  simp only [hc]
  rw [← hv]
  rfl
/-- an operation with one operand, with two -/
theorem fl_op1 (d : Tmp) (hd : o.dst = some d) (hs : d < n) (hw : Wanted ops o a0 L true) (hk : K j = none) (x : Operand) (vx : Value) (hx : rdL a0 L x = vx) (v0 : Value)
    (hr : ∀ ρ : Operand → Value, ρ x = vx → ∀ w, Grow w0 w → FactsAt (A j) F w → (execOp ρ o).run P w = .ok (.value v0) w)
    (h : FlowL P ops A K w0 T n l (j + 1) a0 ((d, v0) :: L) F) : FlowL P ops A K w0 T n (o :: l) j a0 L F :=
  fl_det d hd hs hw hk v0 (hr _ hx) h
theorem fl_op2 (d : Tmp) (hd : o.dst = some d) (hs : d < n) (hw : Wanted ops o a0 L true) (hk : K j = none) (x y : Operand) (vx vy : Value) (hx : rdL a0 L x = vx) (hy : rdL a0 L y = vy) (v0 : Value)
    (hr : ∀ ρ : Operand → Value, ρ x = vx → ρ y = vy → ∀ w, Grow w0 w → FactsAt (A j) F w → (execOp ρ o).run P w = .ok (.value v0) w)
    (h : FlowL P ops A K w0 T n l (j + 1) a0 ((d, v0) :: L) F) : FlowL P ops A K w0 T n (o :: l) j a0 L F :=
  fl_det d hd hs hw hk v0 (hr _ hx hy) h
/-- a value known ahead -/
theorem fl_val (d : Tmp) (hd : o.dst = some d) (hs : d < n) (hw : Wanted ops o a0 L true) (c : Value) (hk : K j = some (.inl c))
    (hr : ∀ w, Grow w0 w → FactsAt (A j) F w → flowUpon P (fun u w' => u = c ∧ Grow w w') ((execOp (rdL a0 L) o).run P w))
    (h : FlowL P ops A K w0 T n l (j + 1) a0 ((d, c) :: L) F) : FlowL P ops A K w0 T n (o :: l) j a0 L F := fun hn hf => by
  have hf' : fits a0.tmps.size L := by rw [hn]; exact hf
  have he : (putsL a0 L).eval = rdL a0 L := funext (putsL_eval hf')
  refine flow_val (hw hf') c hk (by rw [he]; exact hr) ?_
  rw [hd]; exact h hn (fits_cons hf hs)
/-- some value of which φ holds -/
theorem fl_any (d : Tmp) (hd : o.dst = some d) (hs : d < n) (hw : Wanted ops o a0 L true) (φ : Value → World → Prop) (hk : K j = some (.inr φ))
    (hr : ∀ w, Grow w0 w → FactsAt (A j) F w → flowUpon P (fun u w' => Grow w w' ∧ φ u w') ((execOp (rdL a0 L) o).run P w))
    (h : ∀ v, FlowL P ops A K w0 T n l (j + 1) a0 ((d, v) :: L) ((j, v, φ) :: F)) : FlowL P ops A K w0 T n (o :: l) j a0 L F := fun hn hf => by
  have hf' : fits a0.tmps.size L := by rw [hn]; exact hf
  have he : (putsL a0 L).eval = rdL a0 L := funext (putsL_eval hf')
  refine flow_any (hw hf') φ hk (by rw [he]; exact hr) (fun v => ?_)
  rw [hd]; exact h v hn (fits_cons hf hs)

/-- a call of a Go function -/
theorem run_callf (P : Program) (ρ : Operand → Value) (o : Oper) (f : FuncId) (xs : List Operand) (ts : Array TypeId) (ho : o.op = .call { callee := .value (.func f), args := xs.toArray, argTypes := ts }) (hρ : ρ (.func f) = .func (.func f) #[] #[]) (hcf : ∀ (vs : Array Value) (w : World), (callFunc f vs).run P w = .ok (.enter f vs) w) (w : World) :
    (execOp ρ o).run P w = .ok (.enter f (xs.map ρ).toArray) w := by
  obtain ⟨dst, op, ty, pos, after, guard⟩ := o
  simp only at ho
  subst ho
  go_simp
theorem fl_call (d : Tmp) (hd : o.dst = some d) (hs : d < n) (hw : Wanted ops o a0 L true) (c : Value) (hk : K j = some (.inl c)) (f : FuncId) (xs : List Operand) (ts : Array TypeId)
    (ho : o.op = .call { callee := .value (.func f), args := xs.toArray, argTypes := ts }) (args : List Value) (hargs : xs.map (rdL a0 L) = args) (hcf : ∀ (vs : Array Value) (w : World), (callFunc f vs).run P w = .ok (.enter f vs) w)
    (hr : ∀ w, Grow w0 w → FactsAt (A j) F w → Calls P f args.toArray w (fun e w' => e = .returned c ∧ Grow w w'))
    (h : FlowL P ops A K w0 T n l (j + 1) a0 ((d, c) :: L) F) : FlowL P ops A K w0 T n (o :: l) j a0 L F :=
  fl_val d hd hs hw c hk (fun w hg hf => flowUpon_call' (by rw [run_callf P _ o f xs ts ho rfl hcf w, hargs]) ((hr w hg hf).mono fun _ _ ⟨he, hg'⟩ => ⟨c, he, rfl, hg'⟩)) h
theorem fl_callAny (d : Tmp) (hd : o.dst = some d) (hs : d < n) (hw : Wanted ops o a0 L true) (φ : Value → World → Prop) (hk : K j = some (.inr φ)) (f : FuncId) (xs : List Operand) (ts : Array TypeId)
    (ho : o.op = .call { callee := .value (.func f), args := xs.toArray, argTypes := ts }) (args : List Value) (hargs : xs.map (rdL a0 L) = args) (hcf : ∀ (vs : Array Value) (w : World), (callFunc f vs).run P w = .ok (.enter f vs) w)
    (hr : ∀ w, Grow w0 w → FactsAt (A j) F w → Calls P f args.toArray w (fun e w' => ∃ u, e = .returned u ∧ Grow w w' ∧ φ u w'))
    (h : ∀ v, FlowL P ops A K w0 T n l (j + 1) a0 ((d, v) :: L) ((j, v, φ) :: F)) : FlowL P ops A K w0 T n (o :: l) j a0 L F :=
  fl_any d hd hs hw φ hk (fun w hg hf => flowUpon_call' (by rw [run_callf P _ o f xs ts ho rfl hcf w, hargs]) (hr w hg hf)) h
end

theorem facts_take {as : List Nat} {i : Nat} {v : Value} {φ : Value → World → Prop} {F : List (Nat × Value × (Value → World → Prop))} {w : World} (h : FactsAt as ((i, v, φ) :: F) w) (hc : as.contains i = true) : φ v w := by
  unfold FactsAt at h; rw [if_pos hc] at h; exact h.1
theorem facts_pass {as : List Nat} {x : Nat × Value × (Value → World → Prop)} {F : List (Nat × Value × (Value → World → Prop))} {w : World} (h : FactsAt as (x :: F) w) : FactsAt as F w := by
  obtain ⟨i, v, φ⟩ := x
  unfold FactsAt at h; split at h
  · exact h.2
  · exact h
/-- a contract that leaves the world as it was -/
theorem grew_same {P : Program} {f : FuncId} {args : Array Value} {w : World} {v : Value} (h : Calls P f args w (fun e w' => e = .returned v ∧ w = w')) : Calls P f args w (fun e w' => e = .returned v ∧ Grow w w') :=
  h.mono fun _ _ ⟨he, hw⟩ => ⟨he, hw ▸ Grow.refl _⟩

/-- THE RULE, as it is walked -/
theorem wp_region_flow {P : Program} {ops : Array Oper} {id : Nat} {Q : Exit → Act → World → Prop} {a : Act} {w : World} (m n : Nat) (kinds : List (Nat × (Value ⊕ (Value → World → Prop)))) (hn : a.tmps.size = n)
    (hmix : P.follows .mixedOrders = true) (hA : flowOk ops (ancOf ops) m = true) (hcl : ∀ x ∈ kinds, ∀ φ, x.2 = .inr φ → Lasting φ)
    (h : ∀ (ops' : Array Oper) (A : Nat → List Nat) (K : Nat → Kind) (T : Act → World → Prop), Hid (ops' = ops) → Hid (A = ancOf ops) → Hid (K = fun j => kinds.lookup j) → (∀ a' w', wpList P ops Q (ops.toList.drop m) a' w' → T a' w') →
      FlowL P ops' A K w T n (ops.toList.take m) 0 a [] []) : (Code.region id ops true).wp P Q a w :=
  wp_region_grow (ancOf ops) m kinds hmix hA hcl (h ops _ _ _ rfl rfl rfl (fun _ _ h => h) hn (fun x hx => by cases hx))
end Go.Hop
