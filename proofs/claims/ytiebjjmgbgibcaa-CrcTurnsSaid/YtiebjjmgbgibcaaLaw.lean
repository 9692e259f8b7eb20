/- The plain law behind CrcTurns: the sum is linear, and no step loses a bit. -/
import Derived.Test.YtiebjjmgbgibcaaNext
namespace Go.Proofs.Ytiebjjmgbgibcaa

theorem stepT_xor (a b : BitVec 32) : stepT (a ^^^ b) = stepT a ^^^ stepT b := by
  unfold stepT
  rw [BitVec.getLsbD_xor, BitVec.ushiftRight_xor_distrib]
  generalize a >>> 1 = x
  generalize b >>> 1 = y
  generalize poly = q
  cases a.getLsbD 0 <;> cases b.getLsbD 0 <;> ext i hi <;> simp only [Bool.xor_false, Bool.xor_true, Bool.not_true, Bool.not_false, Bool.false_eq_true, if_false, if_true, BitVec.xor_zero, BitVec.getElem_xor] <;>
    cases x[i] <;> cases y[i] <;> cases q[i] <;> rfl
theorem stepT_zero : stepT 0#32 = 0#32 := by decide
theorem stepT_inj (a : BitVec 32) (h : stepT a = 0#32) : a = 0#32 := by
  have h31 : (stepT a).getLsbD 31 = a.getLsbD 0 := by
    unfold stepT
    rw [BitVec.getLsbD_xor, BitVec.getLsbD_ushiftRight]
    have : a.getLsbD (1 + 31) = false := BitVec.getLsbD_of_ge _ _ (by omega)
    rw [this]
    cases h0 : a.getLsbD 0 <;> simp [poly] <;> decide
  rw [h] at h31
  have h0 : a.getLsbD 0 = false := by rw [← h31]; simp
  have hs : a >>> 1 = 0#32 := by
    unfold stepT at h
    rw [h0] at h
    simpa using h
  apply BitVec.eq_of_getLsbD_eq
  intro i hi
  cases i with
  | zero => rw [h0]; simp
  | succ i =>
    have := congrArg (fun x => BitVec.getLsbD x i) hs
    simp only [BitVec.getLsbD_ushiftRight] at this
    rw [Nat.add_comm] at this
    rw [this]; simp
theorem stepN_xor (n : Nat) (a b : BitVec 32) : stepN n (a ^^^ b) = stepN n a ^^^ stepN n b := by
  induction n with
  | zero => rfl
  | succ n ih => show stepT _ = stepT _ ^^^ stepT _; rw [ih, stepT_xor]
theorem stepN_zero (n : Nat) : stepN n 0#32 = 0#32 := by
  induction n with
  | zero => rfl
  | succ n ih => show stepT _ = _; rw [ih, stepT_zero]
theorem stepN_inj (n : Nat) (a : BitVec 32) (h : stepN n a = 0#32) : a = 0#32 := by
  induction n with
  | zero => exact h
  | succ n ih => exact ih (stepT_inj _ h)
theorem stepN_add (n k : Nat) (a : BitVec 32) : stepN (n + k) a = stepN n (stepN k a) := by
  induction n with
  | zero => simp [stepN]
  | succ n ih => rw [Nat.add_right_comm]; show stepT _ = stepT _; rw [ih]
/-- low bits that are nought are only shifted out -/
theorem stepN_shift (n : Nat) : ∀ (x : BitVec 32), n ≤ 24 → (∀ i, 8 ≤ i → x.getLsbD i = false) → stepN n (x <<< n) = x := by
  induction n with
  | zero => intro x _ _; simp [stepN]
  | succ n ih =>
    intro x hn hx
    rw [stepN_add n 1]
    show stepN n (stepT (x <<< (n + 1))) = x
    have e : stepT (x <<< (n + 1)) = x <<< n := by
      unfold stepT
      have h0 : (x <<< (n + 1)).getLsbD 0 = false := by simp
      rw [h0, if_neg Bool.false_ne_true, BitVec.xor_zero]
      apply BitVec.eq_of_getLsbD_eq
      intro i hi
      rw [BitVec.getLsbD_ushiftRight, BitVec.getLsbD_shiftLeft, BitVec.getLsbD_shiftLeft]
      by_cases h1 : i < n
      · simp [h1, show 1 + i < n + 1 by omega]
      · by_cases h2 : 1 + i < 32
        · simp [h1, hi, h2, show ¬ (1 + i < n + 1) by omega, show 1 + i - (n + 1) = i - n by omega]
        · have : x.getLsbD (i - n) = false := hx _ (by omega)
          simp [h2, this]
    rw [e]
    exact ih x (by omega) hx

def zx (b : UInt8) : BitVec 32 := b.toBitVec.setWidth 32
theorem zx_high (b : UInt8) (i : Nat) (h : 8 ≤ i) : (zx b).getLsbD i = false := by
  unfold zx; rw [BitVec.getLsbD_setWidth]; simp; intro _; exact BitVec.getLsbD_of_ge _ _ h
theorem zx_xor (a b : UInt8) : zx (a ^^^ b) = zx a ^^^ zx b := by
  unfold zx
  rw [UInt8.toBitVec_xor, BitVec.setWidth_xor]
theorem zx_zero : zx 0 = 0#32 := by decide
theorem next_zx (c : BitVec 32) (b : UInt8) : next c b = stepN 8 (c ^^^ zx b) := rfl
theorem next_xor (c d : BitVec 32) (a b : UInt8) : next (c ^^^ d) (a ^^^ b) = next c a ^^^ next d b := by
  rw [next_zx, next_zx, next_zx, zx_xor, ← stepN_xor]
  congr 1
  generalize zx a = x
  generalize zx b = y
  ext i hi; simp only [BitVec.getElem_xor]; cases c[i] <;> cases d[i] <;> cases x[i] <;> cases y[i] <;> rfl

/-- two rows of one length, byte by byte -/
theorem run_xor : ∀ (l r : List UInt8) (c d : BitVec 32), l.length = r.length → run (c ^^^ d) (List.zipWith (· ^^^ ·) l r) = run c l ^^^ run d r
  | [], [], c, d, _ => rfl
  | x :: l, y :: r, c, d, h => by
    show run (next (c ^^^ d) (x ^^^ y)) (List.zipWith (· ^^^ ·) l r) = run (next c x) l ^^^ run (next d y) r
    rw [next_xor]
    exact run_xor l r _ _ (by simpa using h)
  | [], y :: r, _, _, h => by simp at h
  | x :: l, [], _, _, h => by simp at h
theorem run_noughts (n : Nat) : ∀ c : BitVec 32, run c (List.replicate n 0) = stepN (8 * n) c := by
  induction n with
  | zero => intro c; rfl
  | succ n ih =>
    intro c
    show run (next c 0) (List.replicate n 0) = _
    rw [ih, next_zx, zx_zero, BitVec.xor_zero, show 8 * (n + 1) = 8 * n + 8 by omega, stepN_add]

def tb (t : BitVec 32) (i : Nat) : UInt8 := ⟨(t >>> (8 * i)).setWidth 8⟩
theorem zx_tb (t : BitVec 32) (i j : Nat) : (zx (tb t i)).getLsbD j = (decide (j < 8) && t.getLsbD (8 * i + j)) := by
  unfold zx tb
  simp only [BitVec.getLsbD_setWidth, BitVec.getLsbD_ushiftRight]
  by_cases h : j < 8
  · simp [h, show j < 32 by omega]
  · simp [h]
theorem turn_sum (t : BitVec 32) : t = zx (tb t 0) ^^^ (zx (tb t 1) <<< 8) ^^^ (zx (tb t 2) <<< 16) ^^^ (zx (tb t 3) <<< 24) := by
  apply BitVec.eq_of_getLsbD_eq
  intro i hi
  simp only [BitVec.getLsbD_xor, BitVec.getLsbD_shiftLeft, zx_tb]
  by_cases h1 : i < 8
  · simp [h1, show i < 16 by omega, show i < 24 by omega]
  · by_cases h2 : i < 16
    · simp [h1, h2, hi, show i < 24 by omega, show i - 8 < 8 by omega, show 8 + (i - 8) = i by omega]
    · by_cases h3 : i < 24
      · simp [h1, h2, h3, hi, show ¬ i - 8 < 8 by omega, show i - 16 < 8 by omega, show 16 + (i - 16) = i by omega]
      · simp [h1, h2, h3, hi, show ¬ i - 8 < 8 by omega, show ¬ i - 16 < 8 by omega, show i - 24 < 8 by omega, show 24 + (i - 24) = i by omega]
theorem run_four (t : BitVec 32) : run 0#32 [tb t 0, tb t 1, tb t 2, tb t 3] = stepN 32 t := by
  have e1 := stepN_shift 8 (zx (tb t 1)) (by omega) (zx_high _)
  have e2 := stepN_shift 16 (zx (tb t 2)) (by omega) (zx_high _)
  have e3 := stepN_shift 24 (zx (tb t 3)) (by omega) (zx_high _)
  conv => rhs; rw [turn_sum t]
  rw [stepN_xor, stepN_xor, stepN_xor]
  have f1 : stepN 32 (zx (tb t 1) <<< 8) = stepN 24 (zx (tb t 1)) := (stepN_add 24 8 _).trans (by rw [e1])
  have f2 : stepN 32 (zx (tb t 2) <<< 16) = stepN 16 (zx (tb t 2)) := (stepN_add 16 16 _).trans (by rw [e2])
  have f3 : stepN 32 (zx (tb t 3) <<< 24) = stepN 8 (zx (tb t 3)) := (stepN_add 8 24 _).trans (by rw [e3])
  rw [f1, f2, f3]
  show stepN 8 (stepN 8 (stepN 8 (stepN 8 (0#32 ^^^ zx (tb t 0)) ^^^ zx (tb t 1)) ^^^ zx (tb t 2)) ^^^ zx (tb t 3)) = _
  rw [BitVec.zero_xor, stepN_xor 8, stepN_xor 8, stepN_xor 8, stepN_xor 8, stepN_xor 8, stepN_xor 8]
  rw [← stepN_add, ← stepN_add, ← stepN_add, ← stepN_add, ← stepN_add, ← stepN_add]

/-- four bytes turned, from place k on -/
def turned (x : List UInt8) (k : Nat) (t : BitVec 32) : Nat → List UInt8
  | 0 => x
  | i + 1 => (turned x k t i).set (k + i) ((turned x k t i).getD (k + i) 0 ^^^ tb t i)
theorem turned_length (x : List UInt8) (k : Nat) (t : BitVec 32) : ∀ i, (turned x k t i).length = x.length
  | 0 => rfl
  | i + 1 => by show (List.set _ _ _).length = _; rw [List.length_set, turned_length x k t i]
theorem turned_get (x : List UInt8) (k : Nat) (t : BitVec 32) : ∀ i p, k + i ≤ x.length → p < x.length → (turned x k t i).getD p 0 = if k ≤ p ∧ p < k + i then x.getD p 0 ^^^ tb t (p - k) else x.getD p 0
  | 0, p, _, _ => by rw [if_neg (by omega)]; rfl
  | i + 1, p, h, hp => by
    have ih := turned_get x k t i
    show (List.set _ _ _).getD p 0 = _
    rw [List.getD_eq_getElem?_getD, List.getElem?_set]
    by_cases hkp : k + i = p
    · subst hkp
      rw [if_pos rfl, if_pos (by rw [turned_length]; omega), if_pos (by omega)]
      simp only [Option.getD_some]
      rw [ih (k + i) (by omega) (by omega), if_neg (by omega)]
      congr 2; omega
    · rw [if_neg hkp, ← List.getD_eq_getElem?_getD, ih p (by omega) hp]
      by_cases h1 : k ≤ p ∧ p < k + i
      · rw [if_pos h1, if_pos (by omega)]
      · rw [if_neg h1, if_neg (by omega)]
/-- what was turned, by itself -/
def four (t : BitVec 32) : List UInt8 := [tb t 0, tb t 1, tb t 2, tb t 3]
theorem four_get (t : BitVec 32) (i : Nat) (h : i < 4) : (four t).getD i 0 = tb t i := by
  match i, h with
  | 0, _ => rfl
  | 1, _ => rfl
  | 2, _ => rfl
  | 3, _ => rfl
theorem list_eq (l r : List UInt8) (h : l.length = r.length) (hg : ∀ p, p < l.length → l.getD p 0 = r.getD p 0) : l = r := by
  apply List.ext_getElem h
  intro p h1 h2
  have := hg p h1
  simpa [List.getD, h1, h2] using this
theorem noughts_get (n p : Nat) : (List.replicate n (0 : UInt8)).getD p 0 = 0 := by
  rw [List.getD_eq_getElem?_getD, List.getElem?_replicate]; split <;> rfl
theorem xor_self_u8 (a : UInt8) : a ^^^ a = 0 := by simp
theorem xor_cancel_u8 (a b : UInt8) : a ^^^ (a ^^^ b) = b := by rw [← UInt8.xor_assoc, xor_self_u8, UInt8.zero_xor]
theorem zipxor_get (x y : List UInt8) (h : x.length = y.length) (p : Nat) (hp : p < x.length) : (List.zipWith (· ^^^ ·) x y).getD p 0 = x.getD p 0 ^^^ y.getD p 0 := by
  simp [List.getD, List.getElem?_zipWith, hp, show p < y.length by omega]
theorem diff_eq (x : List UInt8) (k : Nat) (t : BitVec 32) (h : k + 4 ≤ x.length) :
    List.zipWith (· ^^^ ·) x (turned x k t 4) = turned (List.replicate x.length 0) k t 4 := by
  apply list_eq
  · simp [turned_length]
  · intro p hp
    have hp' : p < x.length := by simpa [turned_length] using hp
    rw [zipxor_get x _ (by rw [turned_length]) p hp', turned_get x k t 4 p h hp', turned_get (List.replicate x.length 0) k t 4 p (by simpa using h) (by simpa using hp'), noughts_get]
    split
    · rw [xor_cancel_u8]; simp
    · rw [xor_self_u8]
theorem noughts_turned (n k : Nat) (t : BitVec 32) (h : k + 4 ≤ n) : turned (List.replicate n 0) k t 4 = List.replicate k 0 ++ (four t ++ List.replicate (n - (k + 4)) 0) := by
  apply list_eq
  · simp [turned_length, four]; omega
  · intro p hp
    have hp' : p < n := by simpa [turned_length] using hp
    rw [turned_get _ k t 4 p (by simpa using h) (by simpa using hp'), noughts_get]
    rw [List.getD_eq_getElem?_getD]
    by_cases h1 : p < k
    · rw [if_neg (by omega), List.getElem?_append_left (by simpa using h1), ← List.getD_eq_getElem?_getD, noughts_get]
    · rw [List.getElem?_append_right (by simpa using h1)]
      by_cases h2 : p < k + 4
      · rw [if_pos (by omega), List.getElem?_append_left (by simp [four]; omega), ← List.getD_eq_getElem?_getD]
        simp only [List.length_replicate]
        rw [four_get t (p - k) (by omega)]; simp
      · rw [if_neg (by omega), List.getElem?_append_right (by simp [four]; omega), ← List.getD_eq_getElem?_getD, noughts_get]
theorem run_turned (n k : Nat) (t : BitVec 32) (h : k + 4 ≤ n) : run 0#32 (turned (List.replicate n 0) k t 4) = stepN (8 * (n - (k + 4)) + 32) t := by
  rw [noughts_turned n k t h]
  unfold run
  rw [List.foldl_append, List.foldl_append]
  have e1 := run_noughts k 0#32
  rw [stepN_zero] at e1
  have e2 := run_four t
  have e3 := run_noughts (n - (k + 4)) (stepN 32 t)
  unfold run at e1 e2 e3
  rw [e1]
  show List.foldl next (List.foldl next 0#32 [tb t 0, tb t 1, tb t 2, tb t 3]) _ = _
  rw [e2, e3, ← stepN_add]
theorem run_diff (x : List UInt8) (k : Nat) (t : BitVec 32) (h : k + 4 ≤ x.length) : run ones x ^^^ run ones (turned x k t 4) = stepN (8 * (x.length - (k + 4)) + 32) t := by
  rw [← run_xor x _ ones ones (by rw [turned_length]), BitVec.xor_self, diff_eq x k t h, run_turned _ k t h]
theorem not_xor_not (a b : BitVec 32) : (~~~a) ^^^ (~~~b) = a ^^^ b := by
  ext i hi; simp
/-- the sums are one just where nothing was turned -/
theorem crc_turned (x : List UInt8) (k : Nat) (t : BitVec 32) (h : k + 4 ≤ x.length) : crc x = crc (turned x k t 4) ↔ t = 0#32 := by
  have hd := run_diff x k t h
  constructor
  · intro he
    have h1 : run ones x = run ones (turned x k t 4) := by
      have := congrArg (fun c => ~~~c) he
      simpa [crc] using this
    rw [h1, BitVec.xor_self] at hd
    exact stepN_inj _ _ hd.symm
  · intro ht
    subst ht
    rw [stepN_zero] at hd
    unfold crc
    congr 1
    have := congrArg (fun c => c ^^^ run ones (turned x k 0#32 4)) hd
    simpa [BitVec.xor_assoc] using this
theorem crc_sums (x : List UInt8) (k : Nat) (t : BitVec 32) (h : k + 4 ≤ x.length) :
    crc x ^^^ crc (turned x k t 4) = crc (turned (List.replicate x.length 0) k t 4) ^^^ crc (List.replicate x.length 0) := by
  have hz := run_diff (List.replicate x.length 0) k t (by simpa using h)
  rw [List.length_replicate] at hz
  unfold crc
  rw [not_xor_not, not_xor_not, run_diff x k t h, BitVec.xor_comm, hz]
end Go.Proofs.Ytiebjjmgbgibcaa
