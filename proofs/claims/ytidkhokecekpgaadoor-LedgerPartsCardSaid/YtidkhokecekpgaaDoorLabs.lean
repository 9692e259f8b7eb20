/- Labels of a tape: a few, each name once. -/
import Derived.Test.YtidkhokecekpgaaDoorGknown
import Derived.Test.YtidkhokecekpgaaDoorTnames
namespace Go.Proofs.YtidkhokecekpgaaDoor
open Go.RowKit Go.Hop
def labN : List ByteArray := [{ data := #[97] }, { data := #[122, 111, 110, 101] }, { data := #[98, 95, 49] }, { data := #[106, 111, 98] }, { data := #[120] }]
def labV : List ByteArray := [{ data := #[49] }, { data := #[101, 117] }, { data := #[97, 112, 105] }, { data := #[48, 95, 122] }]
def labNA : Array Value := #[.string { data := #[97] }, .string { data := #[122, 111, 110, 101] }, .string { data := #[98, 95, 49] }, .string { data := #[106, 111, 98] }, .string { data := #[120] }]
def labVA : Array Value := #[.string { data := #[49] }, .string { data := #[101, 117] }, .string { data := #[97, 112, 105] }, .string { data := #[48, 95, 122] }]
theorem labNA_at {k : Nat} (hk : k < 5) : ∃ s : ByteArray, labN[k]? = some s ∧ labNA[k]? = some (.string s) := by
  have : ∀ k : Fin 5, ∃ s : ByteArray, labN[k.val]? = some s ∧ labNA[k.val]? = some (.string s) := by
    intro k
    match k with
    | 0 => exact ⟨_, rfl, rfl⟩
    | 1 => exact ⟨_, rfl, rfl⟩
    | 2 => exact ⟨_, rfl, rfl⟩
    | 3 => exact ⟨_, rfl, rfl⟩
    | 4 => exact ⟨_, rfl, rfl⟩
  exact this ⟨k, hk⟩
theorem labVA_at {k : Nat} (hk : k < 4) : ∃ s : ByteArray, s ∈ labV ∧ labVA[k]? = some (.string s) := by
  have : ∀ k : Fin 4, ∃ s : ByteArray, s ∈ labV ∧ labVA[k.val]? = some (.string s) := by
    intro k
    match k with
    | 0 => exact ⟨_, List.mem_of_getElem? (i := 0) rfl, rfl⟩
    | 1 => exact ⟨_, List.mem_of_getElem? (i := 1) rfl, rfl⟩
    | 2 => exact ⟨_, List.mem_of_getElem? (i := 2) rfl, rfl⟩
    | 3 => exact ⟨_, List.mem_of_getElem? (i := 3) rfl, rfl⟩
  exact this ⟨k, hk⟩
/-- labels of a tape -/
structure Made (l : List Lb) : Prop where
  sub : (l.map (·.1)).Nodup
  all : ∀ d ∈ l, d.1 ∈ labN ∧ d.2 ∈ labV
  few : l.length ≤ 5
theorem Made.perm {l l' : List Lb} (h : Made l) (hp : l.Perm l') : Made l' :=
  ⟨(hp.map _).nodup_iff.1 h.sub, fun d hd => h.all d (hp.mem_iff.2 hd), by rw [← hp.length_eq]; exact h.few⟩
theorem Made.okL {l : List Lb} (h : Made l) : ∀ d ∈ l, okL d = true := fun d hd => by
  have h1 : ∀ s ∈ labN, nameB s = true := by decide +kernel
  have h2 : ∀ s ∈ labV, nameB s = true := by decide +kernel
  have := h.all d hd
  unfold Proofs.YtidkhokecekpgaaDoor.okL
  rw [h1 _ this.1, h2 _ this.2]; rfl
theorem Made.small {l : List Lb} (h : Made l) : ∀ d ∈ l, d.1.size ≤ maxLen ∧ d.2.size ≤ maxLen := fun d hd => by
  have h1 : ∀ s ∈ labN, s.size ≤ 4 := by decide +kernel
  have h2 : ∀ s ∈ labV, s.size ≤ 4 := by decide +kernel
  have := h.all d hd
  have := h1 _ this.1
  have := h2 _ (h.all d hd).2
  unfold maxLen; omega
theorem made_of_sub {l : List Lb} {i : Nat} (h : (l.map (·.1)).Sublist (labN.take i)) (hv : ∀ d ∈ l, d.2 ∈ labV) : Made l := by
  have hn : labN.Nodup := by decide +kernel
  have hs := h.trans (List.take_sublist i labN)
  refine ⟨hs.nodup hn, fun d hd => ⟨hs.subset (List.mem_map_of_mem hd), hv d hd⟩, ?_⟩
  have := hs.length_le
  rw [List.length_map] at this
  exact this
/-- a tape that is read once, in a region that draws its order -/
def TapeSt (x : Nat) (D : Nat → Prop) (m1 : Nat) : Stages where
  G := Just fun b => b = x
  T := fun _ => Just fun b => b = x
  I := fun _ w => TapeAt x D w
  muts := [m1]
  stage := fun j => if j = m1 then some 0 else none
theorem tapeSt_ok {x : Nat} {D : Nat → Prop} {m1 : Nat} : (TapeSt x D m1).Ok :=
  ⟨fun _ _ _ => Just.trans, fun _ _ h => Just.of_grow h, fun _ _ _ h => h, fun _ _ _ h hg => h.grow hg⟩
def TxtsAt (x : Nat) (u : Value) (w : World) : Prop := ∃ g, g ≠ x ∧ u = .slice (some ⟨g, 0, none⟩) 4 4 ∧ Blk w g 9 labVA
def ValAt (x : Nat) (u : Value) (w : World) : Prop := ∃ g k, g ≠ x ∧ k < 4 ∧ u = .pointer (some ⟨g, k, none⟩) ∧ Blk w g 9 labVA
def LabAt (x : Nat) (nm : ByteArray) (u : Value) (w : World) : Prop := ∃ g s, g ≠ x ∧ s ∈ labV ∧ u = .slice (some ⟨g, 0, none⟩) 1 1 ∧ Blk w g 36 #[.string nm, .string s]
section
variable {x : Nat} {D : Nat → Prop} {m1 : Nat} {nm : ByteArray}
theorem txts_lasts : Lasts (TapeSt x D m1) (fun _ u w => TxtsAt x u w) := fun _ _ _ _ ⟨g, h1, h2, h3⟩ => ⟨fun hg => ⟨g, h1, h2, h3.grow hg⟩, fun _ hj => ⟨g, h1, h2, Just.blk hj h3 h1⟩⟩
theorem val_lasts : Lasts (TapeSt x D m1) (fun _ u w => ValAt x u w) := fun _ _ _ _ ⟨g, k, h1, hk, h2, h3⟩ => ⟨fun hg => ⟨g, k, h1, hk, h2, h3.grow hg⟩, fun _ hj => ⟨g, k, h1, hk, h2, Just.blk hj h3 h1⟩⟩
theorem labAt_lasts : Lasts (TapeSt x D m1) (fun _ u w => LabAt x nm u w) := fun _ _ _ _ ⟨g, s, h1, hk, h2, h3⟩ => ⟨fun hg => ⟨g, s, h1, hk, h2, h3.grow hg⟩, fun _ hj => ⟨g, s, h1, hk, h2, Just.blk hj h3 h1⟩⟩
theorem num_lasts (φ : Value → Prop) : Lasts (TapeSt x D m1) (fun _ u _ => φ u) := fun _ _ _ _ h => ⟨fun _ => h, fun _ _ => h⟩
end
theorem next_four {w : World} {x : Nat} {D : Nat → Prop} (h : TapeAt x D w) : Calls Tryd.prog 27 #[.pointer (some ⟨x, 0, none⟩), .int .i64 4] w fun e w' => ∃ u, e = .returned u ∧ Just (fun b => b = x) w w' ∧ TapeAt x D w' ∧ ∃ k : Nat, k < 4 ∧ u = .int .i64 (k : Int) := by
  have := Next_any w x D h 4 (by omega) (by omega)
  rw [show ((4 : Nat) : Int) = 4 from rfl] at this
  exact this.mono fun e w' ⟨k, hk, he, h1, h2⟩ => ⟨_, he, h2, h1, k, hk, rfl⟩
set_option maxRecDepth 20000 in
theorem txts_made {w : World} {x : Nat} {o : Oper} {ρ : Operand → Value} (hx : x < w.heap.size) (ho : o.op = .buildSlice 33 4 #[(0, .const (.string { data := #[49] })), (1, .const (.string { data := #[101, 117] })), (2, .const (.string { data := #[97, 112, 105] })), (3, .const (.string { data := #[48, 95, 122] }))]) (hρ : ∀ v, ρ (.const v) = v) :
    flowUpon Tryd.prog (fun u w' => Grow w w' ∧ TxtsAt x u w') ((execOp ρ o).run Tryd.prog w) := by
  obtain ⟨dst, op, ty, pos, after, guard⟩ := o
  simp only at ho
  subst ho
  refine flowUpon_value (u := .slice (some ⟨w.heap.size, 0, none⟩) 4 4) (w := w.alloc (.cells labVA 9)) ?_ ⟨(Below.refl _ w).alloc (Nat.le_refl _) _, w.heap.size, by omega, rfl, Blk.made w _ _⟩
  unfold labVA
  go_simp
set_option maxRecDepth 20000 in
theorem val_at {w : World} {x : Nat} {o : Oper} {ρ : Operand → Value} {a b : Operand} {u v : Value} (h : TxtsAt x u w) (hk : ∃ k : Nat, k < 4 ∧ v = .int .i64 (k : Int)) (h1 : ρ a = u) (h2 : ρ b = v) (ho : o.op = .indexAddr 33 a b) :
    flowUpon Tryd.prog (fun u w' => Grow w w' ∧ ValAt x u w') ((execOp ρ o).run Tryd.prog w) := by
  obtain ⟨dst, op, ty, pos, after, guard⟩ := o
  simp only at ho
  subst ho
  obtain ⟨g, hgx, rfl, hB⟩ := h
  obtain ⟨k, hk, rfl⟩ := hk
  have hk4 : ¬ 4 ≤ k := by omega
  refine flowUpon_value (u := .pointer (some ⟨g, k, none⟩)) (w := w) ?_ ⟨Grow.refl _, g, k, hgx, hk, rfl, hB⟩
  go_simp
  intro hlt
  omega
set_option maxRecDepth 20000 in
theorem val_load {w : World} {x : Nat} {o : Oper} {ρ : Operand → Value} {a : Operand} {u : Value} (h : ValAt x u w) (h1 : ρ a = u) (ho : o.op = .load 9 a) :
    flowUpon Tryd.prog (fun u w' => Grow w w' ∧ ∃ s ∈ labV, u = .string s) ((execOp ρ o).run Tryd.prog w) := by
  obtain ⟨dst, op, ty, pos, after, guard⟩ := o
  simp only at ho
  subst ho
  obtain ⟨g, k, hgx, hk, rfl, hB⟩ := h
  obtain ⟨s, hs, hc⟩ := labVA_at hk
  have c := (hB.cell k).trans hc
  refine flowUpon_value (u := .string s) (w := w) ?_ ⟨Grow.refl _, s, hs, rfl⟩
  go_simp
set_option maxRecDepth 20000 in
theorem lab_build {w : World} {nm : ByteArray} {o : Oper} {ρ : Operand → Value} {x y : Operand} {u : Value} (h : ∃ s ∈ labV, u = .string s) (h1 : ρ x = .string nm) (h2 : ρ y = u) (ho : o.op = .build 36 #[(0, x), (1, y)]) :
    flowUpon Tryd.prog (fun u w' => Grow w w' ∧ ∃ s ∈ labV, u = .agg #[.string nm, .string s]) ((execOp ρ o).run Tryd.prog w) := by
  obtain ⟨dst, op, ty, pos, after, guard⟩ := o
  simp only at ho
  subst ho
  obtain ⟨s, hs, rfl⟩ := h
  refine flowUpon_value (u := .agg #[.string nm, .string s]) (w := w) ?_ ⟨Grow.refl _, s, hs, rfl⟩
  go_simp
set_option maxRecDepth 20000 in
theorem lab_row {w : World} {x : Nat} {nm : ByteArray} {o : Oper} {ρ : Operand → Value} {a : Operand} {u : Value} (hx : x < w.heap.size) (h : ∃ s ∈ labV, u = .agg #[.string nm, .string s]) (h1 : ρ a = u) (ho : o.op = .buildSlice 37 1 #[(0, a)]) :
    flowUpon Tryd.prog (fun u w' => Grow w w' ∧ LabAt x nm u w') ((execOp ρ o).run Tryd.prog w) := by
  obtain ⟨dst, op, ty, pos, after, guard⟩ := o
  simp only at ho
  subst ho
  obtain ⟨s, hs, rfl⟩ := h
  refine flowUpon_value (u := .slice (some ⟨w.heap.size, 0, none⟩) 1 1) (w := w.alloc (.cells #[.string nm, .string s] 36)) ?_ ⟨(Below.refl _ w).alloc (Nat.le_refl _) _, w.heap.size, s, by omega, hs, rfl, Blk.made w _ _⟩
  go_simp
end Go.Proofs.YtidkhokecekpgaaDoor
