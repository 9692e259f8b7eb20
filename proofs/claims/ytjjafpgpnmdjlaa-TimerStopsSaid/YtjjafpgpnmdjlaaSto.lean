/- What TimerStops' walk needs. -/
import Derived.Test.YtjjafpgpnmdjlaaWt
namespace Go.Proofs.Ytjjafpgpnmdjlaa
open Go.RowKit Go.Hop
def SoloSt (P : Nat → Prop) (S0 S1 : Thing) (m1 : Nat) : Stages where
  G := Just P
  T := fun _ => Just P
  I := fun k w => match k with
    | 0 => Solo P S0 w
    | _ => Solo P S1 w
  muts := [m1]
  stage := fun j => if j = m1 then some 0 else none
theorem soloSt_ok {P : Nat → Prop} {S0 S1 : Thing} {m1 : Nat} (h0 : Framed S0) (h1 : Framed S1) : (SoloSt P S0 S1 m1).Ok := by
  refine ⟨fun _ _ _ => Just.trans, fun _ _ h => Just.of_grow h, fun _ _ _ h => h, fun k a b h hg => ?_⟩
  rcases k with _ | k
  · exact Solo.grow h h0 hg
  · exact Solo.grow h h1 hg
theorem stop_val (w : World) (t : Nat) (S : List It) (key : Int) (hkey : in64 key) {b : Bool} (hb : hasKey key S = b) :
    Turns Try.prog 14 #[.pointer (some ⟨t, 0, none⟩), .int .i64 key] (fun e => e = .returned (.bool b)) (TimersAt t S) (TimersAt t (noKey key S)) w := hb ▸ Stop_any w t S key hkey
theorem due_all' {now : Int} {S : List It} (h : ∀ a ∈ S, a.1 ≤ now) : due now S = S ∧ late now S = [] := by
  have := due_at (now := now) S [] h (fun a l e => by cases e)
  rwa [List.append_nil] at this
theorem own_max {w : World} {V : Nat → Prop} {t size n : Nat} {v : Value} {l : List Value} (h : Own w V t size v n l) : n ≤ 2 ^ 63 - 1 := by
  obtain ⟨_, h0 | ⟨g, cap, cur, _, _, _, hnc, hm, _⟩⟩ := h
  · omega
  · unfold maxLen at hm
    omega
theorem just_cell {V : Nat → Prop} {a b : World} (h : Just V a b) {p : Addr} (hp : p.block < a.heap.size) (hv : ¬ V p.block) : b.cell? p = a.cell? p := by
  have := h.block p.block hp hv
  unfold World.cell?
  rw [this]
end Go.Proofs.Ytjjafpgpnmdjlaa
