/- What a disk is, in plain words. -/
import Derived.Test.YtdpcokekilklfaaBts
namespace Go.Proofs.Ytdpcokekilklfaa
open Go.RowKit Go.Hop
def fits (l b : List UInt8) : Bool := decide (l.length + b.length ≤ 1048576)
def appE (l b : List UInt8) : Int := if fits l b then 0 else 24
def appL (l b : List UInt8) : List UInt8 := if fits l b then l ++ b else l
def cutB (l : List UInt8) (n : Int) : Bool := decide (0 ≤ n) && decide (n ≤ (l.length : Int))
def cutL (l : List UInt8) (n : Int) : List UInt8 := if cutB l n then l.take n.toNat else l
def cutK (l : List UInt8) (k : Nat) (n : Int) : Nat := if cutB l n then n.toNat else k
def keepN (l : List UInt8) (k : Nat) (keep : Int) : Nat := (max 0 (min keep ((l.length : Int) - (k : Int)))).toNat
/-- a disk's block and its bytes' -/
def DiskAt (t d : Nat) (l : List UInt8) (k : Nat) : Thing := fun w V =>
  V d ∧ k ≤ l.length ∧ l.length ≤ 1048576 ∧ ∃ v, Blk w d t #[v, .int .i64 (k : Int)] ∧ Own w (fun b => V b ∧ b ≠ d) 5 1 v l.length (u8s l)
theorem DiskAt.framed (t d : Nat) (l : List UInt8) (k : Nat) : Framed (DiskAt t d l k) := fun w w' V h hk => by
  obtain ⟨h1, h2, h3, v, h4, h5⟩ := h
  exact ⟨h1, h2, h3, v, (hk d h1).trans h4, h5.keep fun b hb => hk b hb.1⟩
theorem fits_of {l b : List UInt8} (h : l.length + b.length ≤ 1048576) : fits l b = true := by unfold fits; exact decide_eq_true h
theorem fits_not {l b : List UInt8} (h : ¬ l.length + b.length ≤ 1048576) : fits l b = false := by unfold fits; exact decide_eq_false h
end Go.Proofs.Ytdpcokekilklfaa
