/- Rows of deltas: more. -/
import Derived.Test.YtidkhokecekpgaaDoorTape
import Derived.Test.YtidkhokecekpgaaDoorDlt
namespace Go.Proofs.YtidkhokecekpgaaDoor
open Go.RowKit Go.Hop
def M64 : Nat := 18446744073709551615
theorem just_new {V U : Nat → Prop} {w wa wb : World} (hj : Just V w wa) (hk : Just U wa wb) (hU : ∀ b, U b → w.heap.size ≤ b ∨ V b) : Just V w wb :=
  ⟨hk.os.trans hj.os, hk.tape.trans hj.tape, hk.output.trans hj.output, Nat.le_trans hj.size hk.size, fun k h hv => (hk.block k (Nat.lt_of_lt_of_le h hj.size) fun hu => by
    rcases hU k hu with h1 | h1
    · omega
    · exact hv h1).trans (hj.block k h hv)⟩
theorem del_at {w : World} {V : Nat → Prop} {A : Option Addr} {n : Nat} {q : List Dl} (h : In w V 2 A n (dcells q)) {k : Nat} (hk : k < n) :
    ∃ (ad : Addr) (hq : k < q.length), A = some ad ∧ (∀ w1, Grow w w1 → w1.cell? (ad.add (k * 2)) = some (.string q[k].1)) ∧ ∀ w1, Grow w w1 → w1.cell? ⟨(ad.add (k * 2)).block, (ad.add (k * 2)).off + 1, none⟩ = some (.int .u64 ((q[k].2 : Nat) : Int)) := by
  obtain ⟨ad, hq, e, _, hb, e0, e12⟩ := In.rec_ (cells := dcell) h (by omega) dcell_len hk
  exact ⟨ad, hq, e, fun w1 hg => (hg.cell (by rw [block_add]; exact hb)).trans (e0 _ rfl), fun w1 hg => (hg.cell (p := ⟨(ad.add (k * 2)).block, (ad.add (k * 2)).off + 1, none⟩) (show (ad.add (k * 2)).block < _ by rw [block_add]; exact hb)).trans (e12 0 _ rfl)⟩
end Go.Proofs.YtidkhokecekpgaaDoor
