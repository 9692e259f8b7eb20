/- slices.SortFunc over deltas, by their texts. -/
import Derived.Test.YtidkhokecekpgaaDoorGdelw
import Derived.Shelf.SlSortCmp.WholeK
import Derived.Shelf.SlSortCmp.NoneTotal
namespace Go.Proofs.YtidkhokecekpgaaDoor
open Go.RowKit Go.Hop Go.Shelf
def sortDl_ren : Go.Shelf.Ren := ⟨fun | 6 => 18 | 15 => 41 | 14 => 40 | 28 => 61 | 29 => 62 | 20 => 53 | 21 => 54 | 22 => 55 | 23 => 56 | 24 => 57 | 25 => 58 | 26 => 59 | 27 => 60 | 46 => 75 | 47 => 76 | 48 => 77 | 49 => 78 | 50 => 79 | 57 => 91 | n => n, fun | 22 => 26 | 24 => 30 | 25 => 53 | 3 => 3 | 39 => 73 | 0 => 0 | 53 => 92 | 55 => 28 | 4 => 4 | 46 => 85 | 45 => 84 | 50 => 89 | 5 => 5 | 9 => 9 | 66 => 106 | 70 => 109 | 76 => 117 | 77 => 118 | n => n, fun | n => n⟩
theorem sortDl : Go.Proofs.SlLaysF0.n6 Tryd.prog sortDl_ren := {
  mixed := by kernel_rfl
  f6 := ⟨Tryd.f18.name, by decide, Tryd.func18.trans (congrArg some (by kernel_rfl))⟩
  f14 := ⟨Tryd.f40.name, by decide, Tryd.func40.trans (congrArg some (by kernel_rfl))⟩
  f15 := Tryd.func41.trans (congrArg some (by kernel_rfl))
  f20 := ⟨Tryd.f53.name, by decide, Tryd.func53.trans (congrArg some (by kernel_rfl))⟩
  f21 := ⟨Tryd.f54.name, by decide, Tryd.func54.trans (congrArg some (by kernel_rfl))⟩
  f22 := ⟨Tryd.f55.name, by decide, Tryd.func55.trans (congrArg some (by kernel_rfl))⟩
  f23 := ⟨Tryd.f56.name, by decide, Tryd.func56.trans (congrArg some (by kernel_rfl))⟩
  f24 := ⟨Tryd.f57.name, by decide, Tryd.func57.trans (congrArg some (by kernel_rfl))⟩
  f25 := ⟨Tryd.f58.name, by decide, Tryd.func58.trans (congrArg some (by kernel_rfl))⟩
  f26 := ⟨Tryd.f59.name, by decide, Tryd.func59.trans (congrArg some (by kernel_rfl))⟩
  f27 := ⟨Tryd.f60.name, by decide, Tryd.func60.trans (congrArg some (by kernel_rfl))⟩
  f28 := Tryd.func61.trans (congrArg some (by kernel_rfl))
  f29 := Tryd.func62.trans (congrArg some (by kernel_rfl))
  f46 := ⟨Tryd.f75.name, by decide, Tryd.func75.trans (congrArg some (by kernel_rfl))⟩
  f47 := Tryd.func76.trans (congrArg some (by kernel_rfl))
  f48 := Tryd.func77.trans (congrArg some (by kernel_rfl))
  f49 := ⟨Tryd.f78.name, by decide, Tryd.func78.trans (congrArg some (by kernel_rfl))⟩
  f50 := ⟨Tryd.f79.name, by decide, Tryd.func79.trans (congrArg some (by kernel_rfl))⟩
  f57 := ⟨Tryd.f91.name, by decide, Tryd.func91.trans (congrArg some (by kernel_rfl))⟩
  t0 := Tryd.underlying0
  a0 := Tryd.isAgg0
  z0 := Tryd.sizeOf0
  v0 := Tryd.zeroValue0
  t3 := Tryd.underlying3
  a3 := Tryd.isAgg3
  z3 := Tryd.sizeOf3
  v3 := Tryd.zeroValue3
  t4 := Tryd.underlying4
  a4 := Tryd.isAgg4
  z4 := Tryd.sizeOf4
  v4 := Tryd.zeroValue4
  t5 := Tryd.underlying5
  a5 := Tryd.isAgg5
  z5 := Tryd.sizeOf5
  v5 := Tryd.zeroValue5
  t9 := Tryd.underlying9
  a9 := Tryd.isAgg9
  z9 := Tryd.sizeOf9
  v9 := Tryd.zeroValue9
  t22 := Tryd.underlying26
  a22 := Tryd.isAgg26
  z22 := Tryd.sizeOf26
  v22 := Tryd.zeroValue26
  t25 := Tryd.underlying53
  a25 := Tryd.isAgg53
  z25 := Tryd.sizeOf53
  v25 := Tryd.zeroValue53
  t39 := Tryd.underlying73
  a39 := Tryd.isAgg73
  z39 := Tryd.sizeOf73
  v39 := Tryd.zeroValue73
  t45 := Tryd.underlying84
  a45 := Tryd.isAgg84
  z45 := Tryd.sizeOf84
  v45 := Tryd.zeroValue84
  t46 := Tryd.underlying85
  a46 := Tryd.isAgg85
  z46 := Tryd.sizeOf85
  v46 := Tryd.zeroValue85
  t50 := Tryd.underlying89
  a50 := Tryd.isAgg89
  z50 := Tryd.sizeOf89
  v50 := Tryd.zeroValue89
  t53 := Tryd.underlying92
  a53 := Tryd.isAgg92
  z53 := Tryd.sizeOf92
  v53 := Tryd.zeroValue92
  t55 := Tryd.underlying28
  a55 := Tryd.isAgg28
  z55 := Tryd.sizeOf28
  v55 := Tryd.zeroValue28
  t66 := Tryd.underlying106
  a66 := Tryd.isAgg106
  z66 := Tryd.sizeOf106
  v66 := Tryd.zeroValue106
  t70 := Tryd.underlying109
  a70 := Tryd.isAgg109
  z70 := Tryd.sizeOf109
  v70 := Tryd.zeroValue109
  t76 := Tryd.underlying117
  a76 := Tryd.isAgg117
  z76 := Tryd.sizeOf117
  v76 := Tryd.zeroValue117
  t77 := Tryd.underlying118
  a77 := Tryd.isAgg118
  z77 := Tryd.sizeOf118
  v77 := Tryd.zeroValue118 }
end Go.Proofs.YtidkhokecekpgaaDoor
namespace Go.Proofs.YtidkhokecekpgaaDoor
open Go.RowKit Go.Hop Go.Shelf
theorem cmp_any (x y : Dl) (W : World) : Calls Tryd.prog 19 #[.agg #[.string x.1, .int .u64 (x.2 : Int)], .agg #[.string y.1, .int .u64 (y.2 : Int)]] W fun e w' => e = .returned (.int .i64 (cmpT x.1 y.1)) ∧ ∃ q os', w' = Sort.grow (W.drewN q) os' := by
  have hcon := fun W' => Compare_any W' x.1 y.1
  generalize cmpT x.1 y.1 = r at hcon ⊢
  go_enter Tryd.func19, Tryd.ntmps19
  go_wp2_with (go_at_call 20; refine (hcon _).mono ?_; rintro e w' ⟨rfl, rfl⟩)
  go_ret
  exact ⟨rfl, 0, _, by rw [Sort.alloc_eq_grow, Sort.alloc_eq_grow, Sort.grow_grow]; rfl⟩
theorem ltOf_is (x y : Dl) : Go.Proofs.ltOf (fun x y : Dl => cmpT x.1 y.1) x y = slt x.1 y.1 := by
  unfold Go.Proofs.ltOf cmpT
  cases h1 : slt x.1 y.1 <;> cases h2 : slt y.1 x.1 <;> simp [h1, h2]
theorem swo : Sort.SWO (Go.Proofs.ltOf fun x y : Dl => cmpT x.1 y.1) where
  irrefl x := by rw [ltOf_is]; exact slt_irr _
  trans x y z h k := by rw [ltOf_is] at *; exact slt_tr h k
  ntrans x y z h k := by
    rw [ltOf_is] at *
    cases hz : slt x.1 z.1 with
    | false => rfl
    | true =>
      cases hzy : slt z.1 y.1 with
      | true => rw [slt_tr hz hzy] at h; cases h
      | false => have e := slt_tri k hzy; rw [e, hz] at h; cases h
theorem cell_flat (l : List Dl) (j : Nat) (hj : j < l.length * 2) : (dcells l)[j]? = some (Sort.flatK dcell 2 l.toArray)[j]! := by
  have h := flat_get dcell 2 dcell_len l (j / 2) (j % 2) (by omega) (Nat.mod_lt _ (by omega))
  rw [show j / 2 * 2 + j % 2 = j by omega] at h
  unfold dcells
  rw [h, Sort.get_flatK dcell 2 l.toArray j (by simpa using hj)]
  have h2 : j / 2 < l.length := by omega
  have h3 : l.toArray[j / 2]! = l[j / 2] := by simp [h2]
  rw [h3]
  have h4 : j % 2 < (dcell l[j / 2]).length := by rw [dcell_len]; exact Nat.mod_lt _ (by omega)
  rw [List.getElem?_eq_getElem h4]
  simp [h4]
theorem sort_any (w : World) (g c : Nat) (l : List Dl) (cur : Array Value) (hg : w.heap[g]? = some (.cells cur 30 (0, 0))) (hcur : cur.toList.take (l.length * 2) = dcells l) (hl : l.length < 4611686018427387904) :
    Calls Tryd.prog 18 #[.slice (some ⟨g, 0, none⟩) l.length c, .func (.func 19) #[] #[]] w fun e w' => e = .returned (.tuple #[]) ∧ ∃ l' : List Dl, l'.Perm l ∧ (∀ i j (hi : i < l'.length) (hj : j < l'.length), i < j → slt l'[j].1 l'[i].1 = false) ∧ In w' (fun b => b = g) 2 (some ⟨g, 0, none⟩) l.length (dcells l') ∧ Just (fun b => b = g) w w' := by
  have hgl : g < w.heap.size := (Array.getElem?_eq_some_iff.1 hg).1
  have hH : Sort.HoldsK dcell 2 w g 0 l.toArray := fun j hj => by
    rw [Sort.size_flatK] at hj
    have hj' : j < l.length * 2 := by simpa using hj
    have hc := cell_flat l j hj'
    rw [← hcur, List.getElem?_take_of_lt hj', Array.getElem?_toList] at hc
    refine ⟨?_, ?_⟩
    · unfold World.cell?
      simp only [hg, Nat.zero_add]
      exact hc
    · unfold World.frozen?
      simp only [hg]
      simp
  have eg : ∀ args w, (callFunc 19 args).run Tryd.prog w = .ok (.enter 19 args) w := fun args w => by go_simp
  have hcon := Go.Proofs.AnyQ.slices_SortFunc sortDl 2 Tryd.isAgg30 Tryd.sizeOf30 dcell dcell_len (fun x v hv => by simp only [dcell, List.mem_cons, List.not_mem_nil, or_false] at hv; rcases hv with rfl | rfl <;> rfl) (fun x y : Dl => cmpT x.1 y.1) swo 19 #[] g 0 c l.toArray w eg (fun m os dk _ x y => cmp_any x y _) hH hgl (by simpa using hl)
  change Calls Tryd.prog 18 _ _ _ at hcon
  rw [List.size_toArray] at hcon
  refine hcon.mono ?_
  rintro e w' ⟨he, d', n, os, hp, hs, rfl⟩
  obtain ⟨l', rfl⟩ : ∃ l' : List Dl, d' = l'.toArray := ⟨d'.toList, by simp⟩
  have hll : l'.length = l.length := by have := hp.1; simpa using this
  have hH' := Go.Proofs.holdsK_sortWorldK dcell 2 w g 0 n l.toArray l'.toArray os hgl hH hp.1
  have hsz := Go.Proofs.size_sortWorldK_c dcell 2 w g 0 n l'.toArray os
  refine ⟨he, l', ?_, fun i j hi hj hij => ?_, ⟨by rw [dcells_len, hll], fun hn => ⟨_, rfl, rfl, Nat.lt_of_lt_of_le hgl hsz, fun j u hu => ?_⟩⟩, ⟨rfl, rfl, rfl, hsz, fun b hb hbg => ?_⟩⟩
  · have := hp.2.2
    simp only [List.extract_toArray, List.extract_eq_take_drop, List.drop_zero, Nat.sub_zero] at this
    rwa [List.take_of_length_le (by omega), List.take_of_length_le (by omega)] at this
  · have := hs i j (Nat.zero_le _) hij (by omega)
    rw [ltOf_is] at this
    simpa [hi, hj] using this
  · have hj : j < l'.length * 2 := by
      have := (List.getElem?_eq_some_iff.1 hu).1
      rwa [dcells_len] at this
    have h1 := (hH' j (by simpa [Sort.size_flatK] using hj)).1
    rw [Addr.add_lit, ← hu, cell_flat l' j hj]
    exact h1
  · have hb' : b < (w.heap.modify g (Sort.onCells (Sort.putCells id 0 (Sort.flatK dcell 2 l'.toArray)))).size := by simpa using hb
    show ((w.heap.modify g (Sort.onCells (Sort.putCells id 0 (Sort.flatK dcell 2 l'.toArray)))) ++ os)[b]? = w.heap[b]?
    rw [Array.getElem?_append_left hb', Array.getElem?_modify, if_neg (fun e => hbg e.symm)]
theorem sort_none (w : World) : Calls Tryd.prog 18 #[.slice none 0 0, .func (.func 19) #[] #[]] w fun e w' => e = .returned (.tuple #[]) ∧ w' = w :=
  Go.Proofs.AnyF.slices_SortFunc_none sortDl none 0 _ w
theorem sort_own (w : World) (V : Nat → Prop) (A : Option Addr) (n : Nat) (l : List Dl) (h : Own w V 30 2 (.slice A n n) n (dcells l)) (hn : n ≤ 1000000) :
    Calls Tryd.prog 18 #[.slice A n n, .func (.func 19) #[] #[]] w fun e w' => e = .returned (.tuple #[]) ∧ ∃ r : List Dl, r.Perm l ∧ (r.Pairwise fun a b => slt b.1 a.1 = false) ∧ In w' V 2 A n (dcells r) ∧ Just V w w' := by
  have hl : l.length = n := by have := h.1; rw [dcells_len] at this; omega
  rcases h.2 with ⟨h1, h0⟩ | ⟨g, cap, cur, h1, hV, hg, hnc, hcm, hsz, htk⟩
  · injection h1 with h1 h2 h3
    subst h1
    subst h0
    obtain rfl : l = [] := List.eq_nil_of_length_eq_zero hl
    refine (sort_none w).mono ?_
    rintro e w' ⟨he, rfl⟩
    exact ⟨he, [], List.Perm.refl _, List.Pairwise.nil, In.nil, Just.of_grow (Grow.refl _)⟩
  · injection h1 with h1 _ h3
    subst h1
    rw [← hl] at htk
    have := sort_any w g n l cur hg htk (by omega)
    rw [hl] at this
    refine this.mono ?_
    rintro e w' ⟨he, r, hp, hs, hI, hj⟩
    exact ⟨he, r, hp, List.pairwise_iff_getElem.2 hs, hI.mono fun b hb => by rw [hb]; exact hV, hj.imp fun b hb => by rw [hb]; exact hV⟩
end Go.Proofs.YtidkhokecekpgaaDoor
