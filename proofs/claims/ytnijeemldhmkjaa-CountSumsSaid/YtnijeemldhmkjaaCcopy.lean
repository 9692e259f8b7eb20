/- Copy: its walk. -/
import Derived.Test.YtnijeemldhmkjaaCsum
import Derived.Shelf.SlMaps.Clone
import Derived.Ground.SlmcProg
namespace Go.Proofs.Ytnijeemldhmkjaa
open Go.RowKit Go.Hop
def cloneM_ren : Go.Shelf.Ren := ⟨fun | 5 => 38 | 7 => 52 | n => n, fun | 23 => 43 | 25 => 9 | 3 => 32 | 4 => 4 | 20 => 20 | n => n, fun | n => n⟩
theorem cloneM : Go.Proofs.SlLaysW.n5 Try.prog cloneM_ren := {
  mixed := by kernel_rfl
  f5 := ⟨Try.f38.name, by decide, Try.func38.trans (congrArg some (by kernel_rfl))⟩
  f7 := Try.func52.trans (congrArg some (by kernel_rfl))
  t4 := Try.underlying4
  a4 := Try.isAgg4
  z4 := Try.sizeOf4
  v4 := Try.zeroValue4
  t20 := Try.underlying20
  a20 := Try.isAgg20
  z20 := Try.sizeOf20
  v20 := Try.zeroValue20
  t23 := Try.underlying43
  a23 := Try.isAgg43
  z23 := Try.sizeOf43
  v23 := Try.zeroValue43 }

theorem mClone_any (w : World) (b : Nat) (q : Sm) (h : MapQ w b q) :
    Calls Try.prog 38 #[.map (some b)] w fun e w' => e = .returned (.map (some w.heap.size)) ∧ MapQ w' w.heap.size q ∧ Grow w w' := by
  obtain ⟨D, h1, h2, h3⟩ := h
  have hc := Go.Proofs.AnyW.maps_Clone_owns cloneM _ _ b _ D w h1
  change Calls Try.prog 38 _ _ _ at hc
  refine hc.mono ?_
  rintro e w' ⟨he, k1, _, hB⟩
  exact ⟨he, ⟨D, k1, h2, h3⟩, hB⟩
theorem Copy_any (w : World) (s : Nat) (q : Sm) (V : Nat → Prop) (h : SumsAt s q w V) :
    Calls Try.prog 28 #[.pointer (some ⟨s, 0, none⟩)] w fun e w' => ∃ s', e = .returned (.pointer (some ⟨s', 0, none⟩)) ∧ SumsAt s' q w' (New w w') ∧ Grow w w' := by
  obtain ⟨h1, h2, b, h3, h4, hB, hM⟩ := h
  have c0 := hB.cell 0
  have hc := mClone_any w b q hM
  go_enter Try.func28, Try.ntmps28
  go_wp2_with fail
  refine hc.mono ?_
  rintro e w1 ⟨rfl, hM1, hg1⟩
  clear hc
  go_wp2_with fail
  go_ret
  have hg2 : Grow w1 (w1.alloc (.cells #[.map (some w.heap.size)] 45)) := (Below.refl _ _).alloc (Nat.le_refl _) _
  have hs1 := hM1.lt
  have hs := hg1.size
  refine ⟨_, rfl, ⟨⟨by omega, by simp⟩, h2, w.heap.size, ⟨Nat.le_refl _, by simp; omega⟩, by omega, Blk.made w1 _ _, hM1.grow hg2⟩, hg1.trans hg2⟩
end Go.Proofs.Ytnijeemldhmkjaa
