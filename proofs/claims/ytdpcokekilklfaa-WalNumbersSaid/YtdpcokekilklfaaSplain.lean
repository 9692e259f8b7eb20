/- Frames in a row, in plain words. -/
import Derived.Test.YtdpcokekilklfaaFrread
namespace Go.Proofs.Ytdpcokekilklfaa
open Go.RowKit Go.Hop
theorem take_pre {l f : List UInt8} {k : Nat} (h : f <+: l.drop k) : l.take (k + f.length) = l.take k ++ f := by
  obtain ⟨t, ht⟩ := h
  rw [List.take_add, ← ht, List.take_left' rfl]
theorem frame_five (x : List UInt8) : 5 ≤ (frame x).length := by
  have := enc_pos x.length
  rw [frame_len]; omega
/-- no frame stands at the front -/
def NoFrame (l : List UInt8) : Prop := ∀ y : List UInt8, y.length ≤ 65536 → ¬ frame y <+: l
/-- what Scan is to tell -/
def ScanIs (l : List UInt8) (xs : List (List UInt8)) (k : Nat) : Prop := xs.flatMap frame ++ l.drop k = l ∧ k = (xs.flatMap frame).length ∧ (∀ x ∈ xs, x.length ≤ 65536) ∧ NoFrame (l.drop k)
theorem scan_one : ∀ (xs ys : List (List UInt8)) (r s : List UInt8), xs.flatMap frame ++ r = ys.flatMap frame ++ s → (∀ x ∈ xs, x.length ≤ 65536) → (∀ x ∈ ys, x.length ≤ 65536) → NoFrame r → NoFrame s → xs = ys
  | [], [], _, _, _, _, _, _, _ => rfl
  | [], y :: ys, r, s, h, _, hy, hr, _ => absurd (show frame y <+: r by
      rw [List.flatMap_nil, List.nil_append, List.flatMap_cons, List.append_assoc] at h
      rw [h]; exact List.prefix_append _ _) (hr y (hy y List.mem_cons_self))
  | x :: xs, [], r, s, h, hx, _, _, hs => absurd (show frame x <+: s by
      rw [List.flatMap_nil, List.nil_append, List.flatMap_cons, List.append_assoc] at h
      rw [← h]; exact List.prefix_append _ _) (hs x (hx x List.mem_cons_self))
  | x :: xs, y :: ys, r, s, h, hx, hy, hr, hs => by
    rw [List.flatMap_cons, List.flatMap_cons, List.append_assoc, List.append_assoc] at h
    have e : x = y := frame_one (r := frame x ++ (xs.flatMap frame ++ r)) (List.prefix_append _ _) (by rw [h]; exact List.prefix_append _ _)
    subst e
    rw [scan_one xs ys r s (List.append_cancel_left h) (fun z hz => hx z (List.mem_cons_of_mem _ hz)) (fun z hz => hy z (List.mem_cons_of_mem _ hz)) hr hs]
theorem ScanIs.one {l : List UInt8} {xs ys : List (List UInt8)} {k j : Nat} (h : ScanIs l xs k) (h' : ScanIs l ys j) : xs = ys ∧ k = j := by
  have e := scan_one xs ys _ _ (h.1.trans h'.1.symm) h.2.2.1 h'.2.2.1 h.2.2.2 h'.2.2.2
  subst e
  exact ⟨rfl, by rw [h.2.1, h'.2.1]⟩
theorem frames_len (xs : List (List UInt8)) : 5 * xs.length ≤ (xs.flatMap frame).length := by
  induction xs with
  | nil => simp
  | cons x xs ih =>
    have := frame_five x
    rw [List.flatMap_cons, List.length_append, List.length_cons]; omega
/-- one more frame -/
theorem frames_more {l x : List UInt8} {xs : List (List UInt8)} {k : Nat} (h : l.take k = xs.flatMap frame) (hx : frame x <+: l.drop k) : l.take (k + (frame x).length) = (xs ++ [x]).flatMap frame := by
  rw [take_pre hx, h, List.flatMap_append, List.flatMap_cons, List.flatMap_nil, List.append_nil]
theorem frames_done {l : List UInt8} {xs : List (List UInt8)} {k : Nat} (h : l.take k = xs.flatMap frame) (hk : k ≤ l.length) (hx : ∀ x ∈ xs, x.length ≤ 65536) (hn : NoFrame (l.drop k)) : ScanIs l xs k :=
  ⟨by rw [← h, List.take_append_drop], by rw [← h, List.length_take]; omega, hx, hn⟩
/-- bytes, in blocks of V -/
structure BxIn (w : World) (V : Nat → Prop) (b : Bx) : Prop where
  bs : In w V 1 b.A b.m (u8s b.bs)
  le : b.m ≤ b.c
  max : b.c ≤ maxLen
theorem BxIn.mono {w : World} {V V' : Nat → Prop} {b : Bx} (h : BxIn w V b) (hV : ∀ b, V b → V' b) : BxIn w V' b := ⟨In.mono h.bs hV, h.le, h.max⟩
theorem BxIn.grow {w w' : World} {V : Nat → Prop} {b : Bx} (h : BxIn w V b) (hg : Grow w w') : BxIn w' V b := ⟨In.grow h.bs hg, h.le, h.max⟩
theorem BxIn.just {w w' : World} {V U : Nat → Prop} {b : Bx} (h : BxIn w V b) (hj : Just U w w') (hd : ∀ b, V b → ¬ U b) : BxIn w' V b := ⟨In.just h.bs hj hd, h.le, h.max⟩
theorem BxIn.len {w : World} {V : Nat → Prop} {b : Bx} (h : BxIn w V b) : b.bs.length = b.m := by
  have := h.bs.1; simpa using this
theorem BxIn.bytes {w : World} {V : Nat → Prop} {b : Bx} (h : BxIn w V b) : Bytes w w.heap.size b.A b.m b.bs := In.reads h.bs
/-- a row of bytes -/
structure Bxs (w : World) (V D : Nat → Prop) (A : Option Addr) (n : Nat) (q : List Bx) : Prop where
  row : In w V 1 A n (q.flatMap Bx.cells)
  all : ∀ b ∈ q, BxIn w D b
theorem Bxs.len {w : World} {V D : Nat → Prop} {A : Option Addr} {n : Nat} {q : List Bx} (h : Bxs w V D A n q) : q.length = n := by
  have := h.row.1; rw [flat_length Bx.cells 1 bx_len] at this; omega
theorem Bxs.grow {w w' : World} {V D : Nat → Prop} {A : Option Addr} {n : Nat} {q : List Bx} (h : Bxs w V D A n q) (hg : Grow w w') : Bxs w' V D A n q := ⟨h.row.grow hg, fun b hb => (h.all b hb).grow hg⟩
theorem Bxs.mono {w : World} {V D V' D' : Nat → Prop} {A : Option Addr} {n : Nat} {q : List Bx} (h : Bxs w V D A n q) (hV : ∀ b, V b → V' b) (hD : ∀ b, D b → D' b) : Bxs w V' D' A n q := ⟨h.row.mono hV, fun b hb => (h.all b hb).mono hD⟩
/-- rows of bytes by themselves -/
def IsXs (xs : List (List UInt8)) (w0 : World) (u : Value) (w : World) : Prop := ∃ (A : Option Addr) (c : Nat) (q : List Bx), u = .slice A q.length c ∧ Bxs w (New w0 w) (New w0 w) A q.length q ∧ q.map Bx.bs = xs ∧ q.length ≤ c ∧ c ≤ maxLen
theorem bxs_info : (Try.prog.info? 29).map (fun i => (i.zero, i.size, i.bytes)) = some (some (.slice none 0 0), 1, 24) := by kernel_rfl
theorem bxE : Elem Try.prog 22 29 1 24 (.slice none 0 0) := ⟨Try.underlying22, info_parts bxs_info, rfl, by decide, by decide⟩
end Go.Proofs.Ytdpcokekilklfaa
