/- TimerStops: its walk. -/
import Derived.Test.YtjjafpgpnmdjlaaStopsa
import Derived.Test.YtjjafpgpnmdjlaaStopsb
import Derived.Test.YtjjafpgpnmdjlaaStopsc
namespace Go.Proofs.Ytjjafpgpnmdjlaa
open Go.RowKit Go.Hop
theorem stops_any (w : World) (A0 : Option Addr) (n0 c0 : Nat) (xs : List Int) (hx : Reads w w.heap.size 1 A0 n0 (xs.map (Value.int .i64))) (h64 : ∀ z ∈ xs, in64 z) (hnc : n0 ≤ c0) (hcm : c0 ≤ maxLen)
    (A1 : Option Addr) (n1 c1 : Nat) (ys : List Int) (hy : Reads w w.heap.size 1 A1 n1 (ys.map (Value.int .i64))) (h64y : ∀ z ∈ ys, in64 z) (hnc1 : n1 ≤ c1) (hcm1 : c1 ≤ maxLen) :
    Calls Try.prog 6 #[.slice A0 n0 c0, .slice A1 n1 c1] w fun e w' => e = .returned (.bool true) ∧ Grow w w' := by
  rcases Nat.lt_trichotomy n0 40 with h | h | h
  · exact stops_a w A0 n0 c0 xs hx h64 hnc hcm A1 n1 c1 ys hy h64y hnc1 hcm1 h
  · exact stops_b w A0 n0 c0 xs hx h64 hnc hcm A1 n1 c1 ys hy h64y hnc1 hcm1 h
  · exact stops_c w A0 n0 c0 xs hx h64 hnc hcm A1 n1 c1 ys hy h64y hnc1 hcm1 h
end Go.Proofs.Ytjjafpgpnmdjlaa
