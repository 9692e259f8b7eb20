/- Rows of asks, as they came in or were made. -/
import Derived.Test.YtdpcokekilklfaaWrec
namespace Go.Proofs.Ytdpcokekilklfaa
open Go.RowKit Go.Hop
structure Ask where
  kind : Int
  A : Option Addr
  m : Nat
  c : Nat
  bs : List UInt8
  N : Int
def Ask.cells (a : Ask) : List Value := [.int .i64 a.kind, .slice a.A a.m a.c, .int .i64 a.N]
def I64 (n : Int) : Prop := -9223372036854775808 ≤ n ∧ n ≤ 9223372036854775807
structure AskIn (w : World) (B : Nat) (a : Ask) : Prop where
  bytes : Bytes w B a.A a.m a.bs
  le : a.m ≤ a.c
  max : a.c ≤ maxLen
  kind : I64 a.kind
  num : I64 a.N
theorem AskIn.below {w w' : World} {B : Nat} {a : Ask} (h : AskIn w B a) (hb : Below B w w') : AskIn w' B a := ⟨h.bytes.below hb, h.le, h.max, h.kind, h.num⟩
theorem AskIn.more {w : World} {B B' : Nat} {a : Ask} (h : AskIn w B a) (hb : B ≤ B') : AskIn w B' a := ⟨h.bytes.more hb, h.le, h.max, h.kind, h.num⟩
def Asks (w : World) (B : Nat) (A : Option Addr) (n : Nat) (l : List Ask) : Prop := Reads w B 3 A n (l.flatMap Ask.cells) ∧ ∀ a ∈ l, AskIn w B a
theorem Asks.len {w : World} {B n : Nat} {A : Option Addr} {l : List Ask} (h : Asks w B A n l) : l.length = n := by
  have := h.1.1
  rw [flat_length Ask.cells 3 (fun _ => rfl)] at this
  omega
theorem Asks.below {w w' : World} {B n : Nat} {A : Option Addr} {l : List Ask} (h : Asks w B A n l) (hb : Below B w w') : Asks w' B A n l := ⟨h.1.below hb, fun a ha => (h.2 a ha).below hb⟩
theorem Asks.more {w : World} {B B' n : Nat} {A : Option Addr} {l : List Ask} (h : Asks w B A n l) (hb : B ≤ B') : Asks w B' A n l := ⟨h.1.more hb, fun a ha => (h.2 a ha).more hb⟩
theorem Asks.at_ {w : World} {B n k : Nat} {A : Option Addr} {l : List Ask} (h : Asks w B A n l) (hk : k < n) :
    ∃ (ad : Addr) (a : Ask), A = some ad ∧ ad.block < B ∧ AskIn w B a ∧ w.cell? (ad.add (k * 3)) = some (.int .i64 a.kind) ∧ w.cell? ⟨(ad.add (k * 3)).block, (ad.add (k * 3)).off + 1, none⟩ = some (.slice a.A a.m a.c) ∧ w.cell? ⟨(ad.add (k * 3)).block, (ad.add (k * 3)).off + 2, none⟩ = some (.int .i64 a.N) := by
  have hl := h.len
  obtain ⟨ad, e, hb, hc⟩ := h.1.2 (by omega)
  have hp : ∀ j, ⟨(ad.add (k * 3)).block, (ad.add (k * 3)).off + (j + 1), none⟩ = ad.add (k * 3 + (j + 1)) := fun j => by
    rw [← add_add]
    generalize ad.add (k * 3) = p
    unfold Addr.add
    rw [if_neg (by omega)]
  have hkl : k < l.length := by omega
  have hg := fun j hj => flat_get Ask.cells 3 (fun _ => rfl) l k j hkl hj
  exact ⟨ad, l[k], e, hb, h.2 _ (List.getElem_mem hkl), hc (k * 3) _ (hg 0 (by omega)), by rw [hp 0]; exact hc (k * 3 + 1) _ (hg 1 (by omega)), by rw [hp 1]; exact hc (k * 3 + 2) _ (hg 2 (by omega))⟩
end Go.Proofs.Ytdpcokekilklfaa
