/- The sums and the answer's, side by side. -/
import Derived.Test.YtnijeemldhmkjaaCknown
import Derived.Test.YtnijeemldhmkjaaCrows
namespace Go.Proofs.Ytnijeemldhmkjaa
open Go.RowKit Go.Hop
/-- the sums hold a, the answer's b; both lie from B on, apart -/
def Both (B s r : Nat) (a b : Sm) (w : World) : Prop := ∃ V1 V2 : Nat → Prop, SumsAt s a w V1 ∧ RSums r b w V2 ∧ (∀ x, V1 x → ¬ V2 x) ∧ (∀ x, V1 x → B ≤ x ∧ x < w.heap.size) ∧ (∀ x, V2 x → B ≤ x ∧ x < w.heap.size)
theorem Both.keep {B s r : Nat} {a b : Sm} {w w' : World} (h : Both B s r a b w) (hk : ∀ x, B ≤ x → x < w.heap.size → w'.heap[x]? = w.heap[x]?) (hs : w.heap.size ≤ w'.heap.size) : Both B s r a b w' := by
  obtain ⟨V1, V2, h1, h2, h3, h4, h5⟩ := h
  exact ⟨V1, V2, SumsAt.framed s a w w' V1 h1 fun x hx => hk x (h4 x hx).1 (h4 x hx).2, RSums.framed r b w w' V2 h2 fun x hx => hk x (h5 x hx).1 (h5 x hx).2, h3, fun x hx => ⟨(h4 x hx).1, Nat.lt_of_lt_of_le (h4 x hx).2 hs⟩, fun x hx => ⟨(h5 x hx).1, Nat.lt_of_lt_of_le (h5 x hx).2 hs⟩⟩
theorem Both.grow {B s r : Nat} {a b : Sm} {w w' : World} (h : Both B s r a b w) (hg : Grow w w') : Both B s r a b w' := h.keep (fun x _ hx => hg.block x hx) hg.size
section
variable {B s r : Nat} {a b : Sm} {w : World} {A : Option Addr} {n c : Nat} {l : List Dl} {D : Nat → Prop} {E : Int}
theorem Both_may1 (h : Both B s r a b w) (hl : In w D 2 A n (dcells l)) (hd : ∀ d ∈ l, d.1.size ≤ maxLen ∧ d.2 ≤ M64) (hn : n ≤ 1000000) (hq : a.length ≤ 16) (hE : E = mayE a l) :
    Calls Try.prog 11 #[.pointer (some ⟨s, 0, none⟩), .slice A n c] w fun e w' => e = .returned (.int .i64 E) ∧ Grow w w' := by
  obtain ⟨V1, V2, h1, h2, h3, h4, h5⟩ := h
  rw [hE]
  exact May_any w s a V1 h1 A n c l D hl hd (by omega) (by omega)
theorem Both_may2 (h : Both B s r a b w) (hl : In w D 2 A n (dcells l)) (hDl : ∀ x, D x → x < w.heap.size) (hd : ∀ d ∈ l, d.1.size ≤ maxLen ∧ d.2 ≤ M64) (hn : n ≤ 1000000) (hq : b.length ≤ 16) (hE : E = mayE b l) :
    Calls Try.prog 24 #[.pointer (some ⟨r, 0, none⟩), .slice A n c] w fun e w' => e = .returned (.int .i64 E) ∧ Grow w w' := by
  obtain ⟨V1, V2, h1, h2, h3, h4, h5⟩ := h
  rw [hE]
  exact rMay_any w r b V2 h2 (fun x hx => (h5 x hx).2) A n c l D hl hDl hd (by omega) hq
theorem Both_same (h : Both B s r a a w) (hq : a.length ≤ 16) :
    Calls Try.prog 25 #[.pointer (some ⟨s, 0, none⟩), .pointer (some ⟨r, 0, none⟩)] w fun e w' => e = .returned (.bool true) ∧ Grow w w' := by
  obtain ⟨V1, V2, h1, h2, h3, h4, h5⟩ := h
  exact same_any w s r a V1 V2 h1 (fun x hx => (h4 x hx).2) h2 (by omega)
theorem Both_add1 {a2 : Sm} (h : Both B s r a b w) (hl : In w D 2 A n (dcells l)) (hDB : ∀ x, D x → x < B) (hd : ∀ d ∈ l, d.1.size ≤ maxLen ∧ d.2 ≤ M64) (hn : n ≤ 1000000) (hq : a.length ≤ 16) (hE : E = mayE a l) (ha : a2 = addM a l) :
    Calls Try.prog 10 #[.pointer (some ⟨s, 0, none⟩), .slice A n c] w fun e w' => e = .returned (.int .i64 E) ∧ Just (FromB B) w w' ∧ Both B s r a2 b w' := by
  obtain ⟨V1, V2, h1, h2, h3, h4, h5⟩ := h
  rw [hE, ha]
  refine (Add_any w s a V1 h1 (fun x hx => (h4 x hx).2) A n c l D hl (fun x hx hv => by have := (h4 x hv).1; have := hDB x hx; omega) hd (by omega) (by omega)).mono ?_
  rintro e w' ⟨he, hS, hj⟩
  have hs := hj.size
  have hB : B ≤ w.heap.size := by have := (h4 s h1.1); omega
  refine ⟨he, hj.imp fun x hx => (h4 x hx).1, _, V2, hS, RSums.framed r b w w' V2 h2 fun x hx => hj.block x (h5 x hx).2 fun hv => h3 x hv hx, fun x hx hv => ?_, fun x hx => ?_, fun x hx => ⟨(h5 x hx).1, Nat.lt_of_lt_of_le (h5 x hx).2 hs⟩⟩
  · rcases hx with hx | hx
    · exact h3 x hx hv
    · have := (h5 x hv).2; have := hx.1; omega
  · rcases hx with hx | hx
    · exact ⟨(h4 x hx).1, Nat.lt_of_lt_of_le (h4 x hx).2 hs⟩
    · exact ⟨by have := hx.1; omega, hx.2⟩
theorem Both_add2 {b2 : Sm} (h : Both B s r a b w) (hl : In w D 2 A n (dcells l)) (hDB : ∀ x, D x → x < B) (hDl : ∀ x, D x → x < w.heap.size) (hd : ∀ d ∈ l, d.1.size ≤ maxLen ∧ d.2 ≤ M64) (hn : n ≤ 1000000) (hq : b.length ≤ 16) (hE : E = mayE b l) (hb : b2 = addM b l) :
    Calls Try.prog 26 #[.pointer (some ⟨r, 0, none⟩), .slice A n c] w fun e w' => e = .returned (.int .i64 E) ∧ Just (FromB B) w w' ∧ Both B s r a b2 w' := by
  obtain ⟨V1, V2, h1, h2, h3, h4, h5⟩ := h
  rw [hE, hb]
  refine (rAdd_any w r b V2 h2 (fun x hx => (h5 x hx).2) A n c l D hl hDl (fun x hx hv => by have := (h5 x hv).1; have := hDB x hx; omega) hd hn hq).mono ?_
  rintro e w' ⟨he, hS, hj⟩
  have hs := hj.size
  have hB : B ≤ w.heap.size := by have := (h4 s h1.1); omega
  refine ⟨he, hj.imp fun x hx => (h5 x hx).1, V1, _, SumsAt.framed s a w w' V1 h1 fun x hx => hj.block x (h4 x hx).2 fun hv => h3 x hx hv, hS, fun x hx hv => ?_, fun x hx => ⟨(h4 x hx).1, Nat.lt_of_lt_of_le (h4 x hx).2 hs⟩, fun x hx => ?_⟩
  · rcases hv with hv | hv
    · exact h3 x hx hv
    · have := (h4 x hx).2; have := hv.1; omega
  · rcases hx with hx | hx
    · exact ⟨(h5 x hx).1, Nat.lt_of_lt_of_le (h5 x hx).2 hs⟩
    · exact ⟨by have := hx.1; omega, hx.2⟩
theorem Both_get1 (h : Both B s r a b w) (x : ByteArray) (hx : x.size ≤ maxLen) {G : Nat} (hG : G = gt a x) :
    Calls Try.prog 15 #[.pointer (some ⟨s, 0, none⟩), .string x] w fun e w' => e = .returned (.int .u64 (G : Int)) ∧ Grow w w' := by
  obtain ⟨V1, V2, h1, h2, h3, h4, h5⟩ := h
  rw [hG]
  exact grew_same (Get_any w s a V1 h1 x hx)
theorem Both_get2 (h : Both B s r a b w) (x : ByteArray) {G : Nat} (hG : G = gt b x) :
    Calls Try.prog 27 #[.pointer (some ⟨r, 0, none⟩), .string x] w fun e w' => e = .returned (.int .u64 (G : Int)) ∧ Grow w w' := by
  obtain ⟨V1, V2, h1, h2, h3, h4, h5⟩ := h
  rw [hG]
  exact rGet_any w r b V2 h2 x
theorem Both_copy (h : Both B s r a b w) :
    Calls Try.prog 28 #[.pointer (some ⟨s, 0, none⟩)] w fun e w' => ∃ c, e = .returned (.pointer (some ⟨c, 0, none⟩)) ∧ SAt (fun x => w.heap.size ≤ x) c a w' ∧ Grow w w' := by
  obtain ⟨V1, V2, h1, h2, h3, h4, h5⟩ := h
  exact (Copy_any w s a V1 h1).mono fun e w' ⟨c, he, hS, hg⟩ => ⟨c, he, ⟨_, hS, fun x hx => hx⟩, hg⟩
theorem Both_same_copy {U : Nat → Prop} {c : Nat} (h : Both B s r a b w) (hc : SAt U c b w) (hq : b.length ≤ 16) :
    Calls Try.prog 25 #[.pointer (some ⟨c, 0, none⟩), .pointer (some ⟨r, 0, none⟩)] w fun e w' => e = .returned (.bool true) ∧ Grow w w' := by
  obtain ⟨V1, V2, h1, h2, h3, h4, h5⟩ := h
  obtain ⟨V, g1, g2⟩ := hc
  exact same_any w c r b V V2 g1 (fun x hx => (g2 x hx).2) h2 (by omega)
end
def PlSt (B s r : Nat) (Q Q2 : Sm) : Stages where
  G := Just (FromB B)
  T := fun _ => Just (FromB B)
  I := fun k w => match k with
    | 0 => Both B s r Q Q w
    | 1 => Both B s r Q2 Q w
    | _ => Both B s r Q2 Q2 w
  muts := [29, 35]
  stage := fun j => if j = 29 then some 0 else if j = 35 then some 1 else [(8, 0), (14, 0), (20, 0), (41, 2)].lookup j
theorem plSt_ok {B s r : Nat} {Q Q2 : Sm} : (PlSt B s r Q Q2).Ok := ⟨fun _ _ _ => Just.trans, fun _ _ h => Just.of_grow h, fun _ _ _ h => h, fun k w w' h hg => by
  match k with
  | 0 => exact Both.grow (show Both B s r Q Q w from h) hg
  | 1 => exact Both.grow (show Both B s r Q2 Q w from h) hg
  | k + 2 => exact Both.grow (show Both B s r Q2 Q2 w from h) hg⟩
end Go.Proofs.Ytnijeemldhmkjaa
