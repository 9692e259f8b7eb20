/- The plain law: a sum is linear, and no step loses a bit. -/
import Derived.Test.YtdpcokekilklfaaCrc
namespace Go.Proofs.Ytdpcokekilklfaa
theorem stepT_xor (a b : BitVec 32) : stepT (a ^^^ b) = stepT a ^^^ stepT b := by
  unfold stepT
  rw [BitVec.getLsbD_xor, BitVec.ushiftRight_xor_distrib]
  generalize a >>> 1 = x
  generalize b >>> 1 = y
  generalize poly = q
  cases a.getLsbD 0 <;> cases b.getLsbD 0 <;> ext i hi <;> simp only [Bool.xor_false, Bool.xor_true, Bool.not_true, Bool.not_false, Bool.false_eq_true, if_false, if_true, BitVec.xor_zero, BitVec.getElem_xor] <;>
    cases x[i] <;> cases y[i] <;> cases q[i] <;> rfl
theorem stepT_zero : stepT 0#32 = 0#32 := by decide
theorem stepT_inj (a : BitVec 32) (h : stepT a = 0#32) : a = 0#32 := by
  have h31 : (stepT a).getLsbD 31 = a.getLsbD 0 := by
    unfold stepT
    rw [BitVec.getLsbD_xor, BitVec.getLsbD_ushiftRight]
    have : a.getLsbD (1 + 31) = false := BitVec.getLsbD_of_ge _ _ (by omega)
    rw [this]
    cases h0 : a.getLsbD 0 <;> simp [poly] <;> decide
  rw [h] at h31
  have h0 : a.getLsbD 0 = false := by rw [← h31]; simp
  have hs : a >>> 1 = 0#32 := by
    unfold stepT at h
    rw [h0] at h
    simpa using h
  apply BitVec.eq_of_getLsbD_eq
  intro i hi
  cases i with
  | zero => rw [h0]; simp
  | succ i =>
    have := congrArg (fun x => BitVec.getLsbD x i) hs
    simp only [BitVec.getLsbD_ushiftRight] at this
    rw [Nat.add_comm] at this
    rw [this]; simp
theorem stepN_xor (n : Nat) (a b : BitVec 32) : stepN n (a ^^^ b) = stepN n a ^^^ stepN n b := by
  induction n with
  | zero => rfl
  | succ n ih => show stepT _ = stepT _ ^^^ stepT _; rw [ih, stepT_xor]
theorem stepN_zero (n : Nat) : stepN n 0#32 = 0#32 := by
  induction n with
  | zero => rfl
  | succ n ih => show stepT _ = _; rw [ih, stepT_zero]
theorem stepN_inj (n : Nat) (a : BitVec 32) (h : stepN n a = 0#32) : a = 0#32 := by
  induction n with
  | zero => exact h
  | succ n ih => exact ih (stepT_inj _ h)
theorem stepN_add (n k : Nat) (a : BitVec 32) : stepN (n + k) a = stepN n (stepN k a) := by
  induction n with
  | zero => simp [stepN]
  | succ n ih => rw [Nat.add_right_comm]; show stepT _ = stepT _; rw [ih]
/-- low bits that are nought are only shifted out -/
theorem stepN_shift (n : Nat) : ∀ (x : BitVec 32), n ≤ 24 → (∀ i, 8 ≤ i → x.getLsbD i = false) → stepN n (x <<< n) = x := by
  induction n with
  | zero => intro x _ _; simp [stepN]
  | succ n ih =>
    intro x hn hx
    rw [stepN_add n 1]
    show stepN n (stepT (x <<< (n + 1))) = x
    have e : stepT (x <<< (n + 1)) = x <<< n := by
      unfold stepT
      have h0 : (x <<< (n + 1)).getLsbD 0 = false := by simp
      rw [h0, if_neg Bool.false_ne_true, BitVec.xor_zero]
      apply BitVec.eq_of_getLsbD_eq
      intro i hi
      rw [BitVec.getLsbD_ushiftRight, BitVec.getLsbD_shiftLeft, BitVec.getLsbD_shiftLeft]
      by_cases h1 : i < n
      · simp [h1, show 1 + i < n + 1 by omega]
      · by_cases h2 : 1 + i < 32
        · simp [h1, hi, h2, show ¬ (1 + i < n + 1) by omega, show 1 + i - (n + 1) = i - n by omega]
        · have : x.getLsbD (i - n) = false := hx _ (by omega)
          simp [h2, this]
    rw [e]
    exact ih x (by omega) hx

def zx (b : UInt8) : BitVec 32 := b.toBitVec.setWidth 32
theorem zx_high (b : UInt8) (i : Nat) (h : 8 ≤ i) : (zx b).getLsbD i = false := by
  unfold zx; rw [BitVec.getLsbD_setWidth]; simp; intro _; exact BitVec.getLsbD_of_ge _ _ h
theorem zx_xor (a b : UInt8) : zx (a ^^^ b) = zx a ^^^ zx b := by
  unfold zx
  rw [UInt8.toBitVec_xor, BitVec.setWidth_xor]
theorem zx_zero : zx 0 = 0#32 := by decide
theorem next_zx (c : BitVec 32) (b : UInt8) : next c b = stepN 8 (c ^^^ zx b) := rfl
theorem next_xor (c d : BitVec 32) (a b : UInt8) : next (c ^^^ d) (a ^^^ b) = next c a ^^^ next d b := by
  rw [next_zx, next_zx, next_zx, zx_xor, ← stepN_xor]
  congr 1
  generalize zx a = x
  generalize zx b = y
  ext i hi; simp only [BitVec.getElem_xor]; cases c[i] <;> cases d[i] <;> cases x[i] <;> cases y[i] <;> rfl

/-- two rows of one length, byte by byte -/
theorem run_xor : ∀ (l r : List UInt8) (c d : BitVec 32), l.length = r.length → run (c ^^^ d) (List.zipWith (· ^^^ ·) l r) = run c l ^^^ run d r
  | [], [], c, d, _ => rfl
  | x :: l, y :: r, c, d, h => by
    show run (next (c ^^^ d) (x ^^^ y)) (List.zipWith (· ^^^ ·) l r) = run (next c x) l ^^^ run (next d y) r
    rw [next_xor]
    exact run_xor l r _ _ (by simpa using h)
  | [], y :: r, _, _, h => by simp at h
  | x :: l, [], _, _, h => by simp at h
theorem run_noughts (n : Nat) : ∀ c : BitVec 32, run c (List.replicate n 0) = stepN (8 * n) c := by
  induction n with
  | zero => intro c; rfl
  | succ n ih =>
    intro c
    show run (next c 0) (List.replicate n 0) = _
    rw [ih, next_zx, zx_zero, BitVec.xor_zero, show 8 * (n + 1) = 8 * n + 8 by omega, stepN_add]

end Go.Proofs.Ytdpcokekilklfaa
