/- What the answer's queue is; what is added to it. -/
import Derived.Test.YtnlfkeajolfboaaAny
namespace Go.Proofs.Ytnlfkeajolfboaa
open Go.RowKit Go.Hop
structure PB where
  p : Nat
  b : Bat
def PB.cells (x : PB) : List Value := [.pointer (some ⟨x.p, 0, none⟩)]
theorem pb_len (x : PB) : x.cells.length = 1 := rfl
theorem pbs_one (q : List PB) : ∀ u ∈ q.flatMap PB.cells, u.oneCell' = true := by
  intro u hu
  obtain ⟨b, _, hb⟩ := List.mem_flatMap.1 hu
  simp only [PB.cells, List.mem_cons, List.not_mem_nil, or_false] at hb
  rw [hb]; rfl
theorem pbs_len (q : List PB) : (q.flatMap PB.cells).length = q.length * 1 := flat_length PB.cells 1 pb_len q
def rcells (b : Bat) : Array Value := #[.int .i64 b.seq, .slice b.A b.m b.c, .bool false, .int .i64 0, .int .i64 0]
def PB.abs (x : PB) : Ab := x.b.abs
structure PBIn (w : World) (D : Nat → Prop) (x : PB) : Prop where
  at_ : D x.p
  blk : Blk w x.p 64 (rcells x.b)
  bat : BatIn w D x.b
theorem PBIn.keep {w w' : World} {D : Nat → Prop} {x : PB} (h : PBIn w D x) (hk : ∀ b, D b → b < w.heap.size → w'.heap[b]? = w.heap[b]?) : PBIn w' D x := ⟨h.at_, (hk _ h.at_ h.blk.lt).trans h.blk, h.bat.keep hk⟩
theorem PBIn.grow {w w' : World} {D : Nat → Prop} {x : PB} (h : PBIn w D x) (hg : Grow w w') : PBIn w' D x := h.keep fun b _ hb => hg.block b hb
theorem PBIn.just {w w' : World} {D U : Nat → Prop} {x : PB} (h : PBIn w D x) (hj : Just U w w') (hd : ∀ b, D b → ¬ U b) : PBIn w' D x := h.keep fun b hv hb => hj.block b hb (hd b hv)
theorem PBIn.mono {w : World} {D D' : Nat → Prop} {x : PB} (h : PBIn w D x) (hD : ∀ b, D b → D' b) : PBIn w D' x := ⟨hD _ h.at_, h.blk, h.bat.mono hD⟩
def RQAt (g : Nat) (l : List Ab) (last : Int) : Thing := fun w U =>
  U g ∧ ∃ (A : Option Addr) (c : Nat) (ps : List PB) (D : Nat → Prop), ps.map PB.abs = l ∧ ps.length ≤ 16 ∧ Blk w g 57 #[.slice A ps.length c, .int .i64 last] ∧ In w D 1 A ps.length (ps.flatMap PB.cells) ∧ ps.length ≤ c ∧ c ≤ maxLen ∧
    (∀ x ∈ ps, PBIn w D x) ∧ (∀ b, D b → U b ∧ b ≠ g)
theorem RQAt.framed (g : Nat) (l : List Ab) (last : Int) : Framed (RQAt g l last) := fun w w' V h hk => by
  obtain ⟨h1, A, c, ps, D, h2, h3, h4, h5, h6, h7, h8, h9⟩ := h
  exact ⟨h1, A, c, ps, D, h2, h3, (hk g h1).trans h4, h5.keep fun b hb _ => hk b (h9 b hb).1, h6, h7, fun x hx => (h8 x hx).keep fun b hb _ => hk b (h9 b hb).1, h9⟩
theorem RQAt.wide {g : Nat} {l : List Ab} {last : Int} {w : World} {V V' : Nat → Prop} (h : RQAt g l last w V) (hV : ∀ b, V b → V' b) : RQAt g l last w V' := by
  obtain ⟨h1, A, c, ps, D, h2, h3, h4, h5, h6, h7, h8, h9⟩ := h
  exact ⟨hV g h1, A, c, ps, D, h2, h3, h4, h5, h6, h7, h8, fun b hb => ⟨hV b (h9 b hb).1, (h9 b hb).2⟩⟩
theorem ptr_info : (Try.prog.info? 65).map (fun i => (i.zero, i.size, i.bytes)) = some (some (.pointer none), 1, 8) := by kernel_rfl
theorem ptrE : Elem Try.prog 55 65 1 8 (.pointer none) := ⟨Try.underlying55, info_parts ptr_info, rfl, by decide, by decide⟩
theorem rAdd_a (w : World) (g : Nat) (l : List Ab) (last seq : Int) (A : Option Addr) (m c : Nat) (ha : seq < 1) :
    Turns Try.prog 22 #[.pointer (some ⟨g, 0, none⟩), .int .i64 seq, .slice A m c] (fun e => e = .returned (.int .i64 1)) (RQAt g l last) (RQAt g l last) w := by
  intro V hQ hV
  have hQ' := hQ
  obtain ⟨h1, A0, c0, ps, D, hl, h3, hB, hI, hnc, hcm, h8, h9⟩ := hQ
  have cc0 := hB.cell 0
  have cc1 := hB.cell 1
  clear hl
  go_enter Try.func22, Try.ntmps22
  go_wp2_with fail
  go_ret
  exact ⟨rfl, hQ'.wide (fun _ => .inl), Just.of_grow (Grow.refl w)⟩
theorem rAdd_b (w : World) (g : Nat) (l : List Ab) (last seq : Int) (A : Option Addr) (m c : Nat) (ha : ¬ seq < 1) (hb : seq ≤ last) :
    Turns Try.prog 22 #[.pointer (some ⟨g, 0, none⟩), .int .i64 seq, .slice A m c] (fun e => e = .returned (.int .i64 1)) (RQAt g l last) (RQAt g l last) w := by
  intro V hQ hV
  have hQ' := hQ
  obtain ⟨h1, A0, c0, ps, D, hl, h3, hB, hI, hnc, hcm, h8, h9⟩ := hQ
  have cc0 := hB.cell 0
  have cc1 := hB.cell 1
  clear hl
  go_enter Try.func22, Try.ntmps22
  go_wp2_with fail
  go_ret
  exact ⟨rfl, hQ'.wide (fun _ => .inl), Just.of_grow (Grow.refl w)⟩
theorem rAdd_c (w : World) (g : Nat) (l : List Ab) (last seq : Int) (A : Option Addr) (m c : Nat) (ha : ¬ seq < 1) (hb : ¬ seq ≤ last) (hc : m < 1) :
    Turns Try.prog 22 #[.pointer (some ⟨g, 0, none⟩), .int .i64 seq, .slice A m c] (fun e => e = .returned (.int .i64 1)) (RQAt g l last) (RQAt g l last) w := by
  intro V hQ hV
  have hQ' := hQ
  obtain ⟨h1, A0, c0, ps, D, hl, h3, hB, hI, hnc, hcm, h8, h9⟩ := hQ
  have cc0 := hB.cell 0
  have cc1 := hB.cell 1
  clear hl
  go_enter Try.func22, Try.ntmps22
  go_wp2_with fail
  go_ret
  exact ⟨rfl, hQ'.wide (fun _ => .inl), Just.of_grow (Grow.refl w)⟩
theorem rAdd_d (w : World) (g : Nat) (l : List Ab) (last seq : Int) (A : Option Addr) (m c : Nat) (ha : ¬ seq < 1) (hb : ¬ seq ≤ last) (hc : ¬ m < 1) (hd : 8 < m) :
    Turns Try.prog 22 #[.pointer (some ⟨g, 0, none⟩), .int .i64 seq, .slice A m c] (fun e => e = .returned (.int .i64 1)) (RQAt g l last) (RQAt g l last) w := by
  intro V hQ hV
  have hQ' := hQ
  obtain ⟨h1, A0, c0, ps, D, hl, h3, hB, hI, hnc, hcm, h8, h9⟩ := hQ
  have cc0 := hB.cell 0
  have cc1 := hB.cell 1
  clear hl
  go_enter Try.func22, Try.ntmps22
  go_wp2_with fail
  go_ret
  exact ⟨rfl, hQ'.wide (fun _ => .inl), Just.of_grow (Grow.refl w)⟩
theorem rAdd_full (w : World) (g : Nat) (l : List Ab) (last seq : Int) (A : Option Addr) (m c : Nat) (ha : ¬ seq < 1) (hb : ¬ seq ≤ last) (hc : ¬ m < 1) (hd : ¬ 8 < m) (he : 16 ≤ l.length) :
    Turns Try.prog 22 #[.pointer (some ⟨g, 0, none⟩), .int .i64 seq, .slice A m c] (fun e => e = .returned (.int .i64 24)) (RQAt g l last) (RQAt g l last) w := by
  intro V hQ hV
  have hQ' := hQ
  obtain ⟨h1, A0, c0, ps, D, hl, h3, hB, hI, hnc, hcm, h8, h9⟩ := hQ
  have cc0 := hB.cell 0
  have cc1 := hB.cell 1
  have hps : 16 ≤ ps.length := by rw [← hl, List.length_map] at he; exact he
  clear he
  clear hl
  go_enter Try.func22, Try.ntmps22
  go_wp2_with fail
  go_ret
  exact ⟨rfl, hQ'.wide (fun _ => .inl), Just.of_grow (Grow.refl w)⟩
end Go.Proofs.Ytnlfkeajolfboaa
