/- A frame with one byte turned is none. -/
import Derived.Test.YtocpepknlnghkaaKnown
namespace Go.Proofs.Ytocpepknlnghkaa
open Go.RowKit Go.Hop
theorem xor_nought {a b : BitVec 32} (h : a ^^^ b = 0#32) : a = b := by
  have h2 := congrArg (fun z => a ^^^ z) h
  simpa [← BitVec.xor_assoc] using h2.symm
theorem next_inj {c d : BitVec 32} {a b : UInt8} (h : next c a = next d b) : c ^^^ zx a = d ^^^ zx b := by
  rw [next_zx, next_zx] at h
  refine xor_nought (stepN_inj 8 _ ?_)
  rw [stepN_xor, h, BitVec.xor_self]
theorem run_inj : ∀ (l : List UInt8) (c d : BitVec 32), run c l = run d l → c = d
  | [], _, _, h => h
  | x :: l, c, d, h => by
    have h1 := next_inj (run_inj l (next c x) (next d x) h)
    have h2 := congrArg (fun z => z ^^^ zx x) h1
    simpa [BitVec.xor_assoc] using h2
theorem run_append (c : BitVec 32) (l r : List UInt8) : run c (l ++ r) = run (run c l) r := List.foldl_append
theorem zx_inj {a b : UInt8} (h : zx a = zx b) : a = b := by
  have h1 := congrArg BitVec.toNat h
  unfold zx at h1
  rw [BitVec.toNat_setWidth, BitVec.toNat_setWidth, Nat.mod_eq_of_lt (Nat.lt_trans a.toBitVec.isLt (by decide)), Nat.mod_eq_of_lt (Nat.lt_trans b.toBitVec.isLt (by decide))] at h1
  exact UInt8.toNat_inj.1 h1
theorem crc_set {l : List UInt8} {i : Nat} (hi : i < l.length) {v : UInt8} (h : crc (l.set i v) = crc l) : v = l[i] := by
  have h1 : run ones (l.set i v) = run ones l := by
    have h2 := congrArg (fun z => ~~~z) h
    simpa [crc] using h2
  have e : l = l.take i ++ l[i] :: l.drop (i + 1) := by rw [List.getElem_cons_drop, List.take_append_drop]
  rw [List.set_eq_take_append_cons_drop, if_pos hi] at h1
  conv at h1 => rhs; rw [e]
  rw [run_append, run_append] at h1
  have h3 := run_inj _ _ _ (show run (next (run ones (l.take i)) v) (l.drop (i + 1)) = run (next (run ones (l.take i)) l[i]) (l.drop (i + 1)) from h1)
  have h4 := next_inj h3
  have h5 := congrArg (fun z => run ones (l.take i) ^^^ z) h4
  refine zx_inj ?_
  simpa [← BitVec.xor_assoc] using h5
theorem xor_same {a d : UInt8} (h : a ^^^ d = a) : d = 0 := by
  have h2 := congrArg (fun z => a ^^^ z) h
  simpa [← UInt8.xor_assoc] using h2
theorem sum4_inj {a b : BitVec 32} (h : sum4 a = sum4 b) : a = b := by
  have h1 := (leN_sum (sum4 a) b rfl).2 h
  have h2 := (leN_sum (sum4 a) a rfl).2 rfl
  exact BitVec.eq_of_toNat_eq (h2.symm.trans h1)
theorem turned_none {b : List UInt8} {p : Nat} {d : UInt8} (hb : b.length < 128) (hp : 1 ≤ p) (hl : p < (frame b).length) (hd : d ≠ 0) : NoFrame ((frame b).set p ((frame b)[p] ^^^ d)) := by
  obtain ⟨j, rfl⟩ : ∃ j, p = j + 1 := ⟨p - 1, by omega⟩
  have he : enc b.length = [UInt8.ofNat b.length] := enc_small hb
  have hf : frame b = UInt8.ofNat b.length :: (sum4 (crc b) ++ b) := by unfold frame; rw [he]; rfl
  have hjl : j < (sum4 (crc b) ++ b).length := by rw [hf] at hl; simpa using hl
  have hg : (frame b)[j + 1] = (sum4 (crc b) ++ b)[j] := by
    have h1 : (frame b)[j + 1]? = some (sum4 (crc b) ++ b)[j] := by rw [hf, List.getElem?_cons_succ]; exact List.getElem?_eq_getElem hjl
    rw [List.getElem?_eq_getElem hl] at h1
    injection h1
  rw [hg, hf, List.set_cons_succ]
  intro y hy hpre
  have h1 : enc b.length <+: UInt8.ofNat b.length :: (sum4 (crc b) ++ b).set j ((sum4 (crc b) ++ b)[j] ^^^ d) := by rw [he]; exact ⟨_, rfl⟩
  have hyl : y.length = b.length := enc_prefix (frame_enc hpre) h1
  have hfy : frame y = UInt8.ofNat b.length :: (sum4 (crc y) ++ y) := by unfold frame; rw [hyl, he]; rfl
  have h2 := hpre.eq_of_length (by rw [hfy, List.length_cons, List.length_cons, List.length_set, List.length_append, List.length_append, sum4_len, sum4_len, hyl])
  rw [hfy] at h2
  injection h2 with _ h2
  by_cases hj : j < 4
  · rw [List.set_append_left _ _ (by rw [sum4_len]; exact hj), List.getElem_append_left (by rw [sum4_len]; exact hj)] at h2
    have h3 := List.append_inj h2 (by rw [sum4_len, List.length_set, sum4_len])
    rw [h3.2] at h3
    have h4 := h3.1
    have h5 : (sum4 (crc b))[j]? = ((sum4 (crc b)).set j ((sum4 (crc b))[j] ^^^ d))[j]? := congrArg (fun z => z[j]?) h4
    rw [List.getElem?_set_self (by rw [sum4_len]; exact hj), List.getElem?_eq_getElem (by rw [sum4_len]; exact hj)] at h5
    injection h5 with h5
    exact hd (xor_same h5.symm)
  · have hjb : j - 4 < b.length := by rw [List.length_append, sum4_len] at hjl; omega
    rw [List.set_append_right _ _ (by rw [sum4_len]; omega), List.getElem_append_right (by rw [sum4_len]; omega)] at h2
    have h3 := List.append_inj h2 (by rw [sum4_len, sum4_len])
    simp only [sum4_len] at h3
    have h4 := sum4_inj h3.1
    rw [h3.2] at h4
    exact hd (xor_same (crc_set hjb h4))
end Go.Proofs.Ytocpepknlnghkaa
