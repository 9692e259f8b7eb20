/- slices.SortFunc over deltas, by their texts. -/
import Derived.Test.YtnijeemldhmkjaaCadd
import Derived.Shelf.SlSortCmp.WholeK
namespace Go.Proofs.Ytnijeemldhmkjaa
open Go.RowKit Go.Hop Go.Shelf
def sortDl_ren : Go.Shelf.Ren := ⟨fun | 6 => 20 | 15 => 33 | 14 => 32 | 28 => 49 | 29 => 50 | 20 => 41 | 21 => 42 | 22 => 43 | 23 => 44 | 24 => 45 | 25 => 46 | 26 => 47 | 27 => 48 | 46 => 53 | 47 => 54 | 48 => 55 | 49 => 56 | 50 => 57 | 57 => 58 | n => n, fun | 22 => 27 | 24 => 34 | 25 => 54 | 3 => 3 | 39 => 65 | 0 => 0 | 53 => 82 | 55 => 32 | 4 => 4 | 46 => 76 | 45 => 75 | 50 => 68 | 5 => 5 | 9 => 9 | 66 => 85 | 70 => 88 | 76 => 90 | 77 => 91 | n => n, fun | n => n⟩
theorem sortDl : Go.Proofs.SlLaysF0.n6 Try.prog sortDl_ren := {
  mixed := by kernel_rfl
  f6 := ⟨Try.f20.name, by decide, Try.func20.trans (congrArg some (by kernel_rfl))⟩
  f14 := ⟨Try.f32.name, by decide, Try.func32.trans (congrArg some (by kernel_rfl))⟩
  f15 := Try.func33.trans (congrArg some (by kernel_rfl))
  f20 := ⟨Try.f41.name, by decide, Try.func41.trans (congrArg some (by kernel_rfl))⟩
  f21 := ⟨Try.f42.name, by decide, Try.func42.trans (congrArg some (by kernel_rfl))⟩
  f22 := ⟨Try.f43.name, by decide, Try.func43.trans (congrArg some (by kernel_rfl))⟩
  f23 := ⟨Try.f44.name, by decide, Try.func44.trans (congrArg some (by kernel_rfl))⟩
  f24 := ⟨Try.f45.name, by decide, Try.func45.trans (congrArg some (by kernel_rfl))⟩
  f25 := ⟨Try.f46.name, by decide, Try.func46.trans (congrArg some (by kernel_rfl))⟩
  f26 := ⟨Try.f47.name, by decide, Try.func47.trans (congrArg some (by kernel_rfl))⟩
  f27 := ⟨Try.f48.name, by decide, Try.func48.trans (congrArg some (by kernel_rfl))⟩
  f28 := Try.func49.trans (congrArg some (by kernel_rfl))
  f29 := Try.func50.trans (congrArg some (by kernel_rfl))
  f46 := ⟨Try.f53.name, by decide, Try.func53.trans (congrArg some (by kernel_rfl))⟩
  f47 := Try.func54.trans (congrArg some (by kernel_rfl))
  f48 := Try.func55.trans (congrArg some (by kernel_rfl))
  f49 := ⟨Try.f56.name, by decide, Try.func56.trans (congrArg some (by kernel_rfl))⟩
  f50 := ⟨Try.f57.name, by decide, Try.func57.trans (congrArg some (by kernel_rfl))⟩
  f57 := ⟨Try.f58.name, by decide, Try.func58.trans (congrArg some (by kernel_rfl))⟩
  t0 := Try.underlying0
  a0 := Try.isAgg0
  z0 := Try.sizeOf0
  v0 := Try.zeroValue0
  t3 := Try.underlying3
  a3 := Try.isAgg3
  z3 := Try.sizeOf3
  v3 := Try.zeroValue3
  t4 := Try.underlying4
  a4 := Try.isAgg4
  z4 := Try.sizeOf4
  v4 := Try.zeroValue4
  t5 := Try.underlying5
  a5 := Try.isAgg5
  z5 := Try.sizeOf5
  v5 := Try.zeroValue5
  t9 := Try.underlying9
  a9 := Try.isAgg9
  z9 := Try.sizeOf9
  v9 := Try.zeroValue9
  t22 := Try.underlying27
  a22 := Try.isAgg27
  z22 := Try.sizeOf27
  v22 := Try.zeroValue27
  t25 := Try.underlying54
  a25 := Try.isAgg54
  z25 := Try.sizeOf54
  v25 := Try.zeroValue54
  t39 := Try.underlying65
  a39 := Try.isAgg65
  z39 := Try.sizeOf65
  v39 := Try.zeroValue65
  t45 := Try.underlying75
  a45 := Try.isAgg75
  z45 := Try.sizeOf75
  v45 := Try.zeroValue75
  t46 := Try.underlying76
  a46 := Try.isAgg76
  z46 := Try.sizeOf76
  v46 := Try.zeroValue76
  t50 := Try.underlying68
  a50 := Try.isAgg68
  z50 := Try.sizeOf68
  v50 := Try.zeroValue68
  t53 := Try.underlying82
  a53 := Try.isAgg82
  z53 := Try.sizeOf82
  v53 := Try.zeroValue82
  t55 := Try.underlying32
  a55 := Try.isAgg32
  z55 := Try.sizeOf32
  v55 := Try.zeroValue32
  t66 := Try.underlying85
  a66 := Try.isAgg85
  z66 := Try.sizeOf85
  v66 := Try.zeroValue85
  t70 := Try.underlying88
  a70 := Try.isAgg88
  z70 := Try.sizeOf88
  v70 := Try.zeroValue88
  t76 := Try.underlying90
  a76 := Try.isAgg90
  z76 := Try.sizeOf90
  v76 := Try.zeroValue90
  t77 := Try.underlying91
  a77 := Try.isAgg91
  z77 := Try.sizeOf91
  v77 := Try.zeroValue91 }
end Go.Proofs.Ytnijeemldhmkjaa
namespace Go.Proofs.Ytnijeemldhmkjaa
open Go.RowKit Go.Hop Go.Shelf
/-- what the comparison tells -/
def cmpT (a b : ByteArray) : Int := if slt a b then -1 else if slt b a then 1 else 0
theorem gtr_is (a b : ByteArray) : (!(Op.bytesLess a.toList b.toList || a.toList == b.toList)) = slt b a := by
  cases h1 : slt a b with
  | true =>
    have h2 := slt_no h1
    unfold slt at h1
    rw [h1, h2]; rfl
  | false =>
    have h1' := h1
    unfold slt at h1'
    rw [h1', Bool.false_or]
    cases h2 : slt b a with
    | false =>
      have := slt_tri h1 h2
      subst this
      simp
    | true =>
      have hne : a.toList ≠ b.toList := fun e => by
        have := txt_eq.1 e
        rw [this, slt_irr] at h2; cases h2
      simp [hne]
theorem isNaN_any (w : World) (a : ByteArray) : Calls Try.prog 34 #[.string a] w fun e w' => e = .returned (.bool false) ∧ w = w' := by
  go_enter Try.func34, Try.ntmps34
  go_wp2_with fail
  go_ret
  exact ⟨by simp, rfl⟩
theorem Compare_any (w : World) (a b : ByteArray) : Calls Try.prog 22 #[.string a, .string b] w fun e w' => e = .returned (.int .i64 (cmpT a b)) ∧ w = w' := by
  have hg := gtr_is a b
  unfold cmpT
  cases h1 : slt a b with
  | true =>
    rw [if_pos rfl]
    unfold slt at h1
    go_enter Try.func22, Try.ntmps22
    go_wp2_with (go_at_call 34; refine (isNaN_any _ _).mono ?_; rintro e w' ⟨rfl, rfl⟩)
    go_ret
    exact ⟨rfl, rfl⟩
  | false =>
    rw [if_neg (by simp)]
    unfold slt at h1
    cases h2 : slt b a with
    | true =>
      rw [if_pos rfl]
      rw [h2] at hg
      go_enter Try.func22, Try.ntmps22
      go_wp2_with (go_at_call 34; refine (isNaN_any _ _).mono ?_; rintro e w' ⟨rfl, rfl⟩)
      all_goals first | (go_ret; exact ⟨rfl, rfl⟩) | simp_all
    | false =>
      rw [if_neg (by simp)]
      rw [h2] at hg
      go_enter Try.func22, Try.ntmps22
      go_wp2_with (go_at_call 34; refine (isNaN_any _ _).mono ?_; rintro e w' ⟨rfl, rfl⟩)
      all_goals first | (go_ret; exact ⟨rfl, rfl⟩) | simp_all
theorem cmp_any (x y : Dl) (W : World) : Calls Try.prog 21 #[.agg #[.string x.1, .int .u64 (x.2 : Int)], .agg #[.string y.1, .int .u64 (y.2 : Int)]] W fun e w' => e = .returned (.int .i64 (cmpT x.1 y.1)) ∧ ∃ q os', w' = Sort.grow (W.drewN q) os' := by
  have hcon := fun W' => Compare_any W' x.1 y.1
  generalize cmpT x.1 y.1 = r at hcon ⊢
  go_enter Try.func21, Try.ntmps21
  go_wp2_with (go_at_call 22; refine (hcon _).mono ?_; rintro e w' ⟨rfl, rfl⟩)
  go_ret
  exact ⟨rfl, 0, _, by rw [Sort.alloc_eq_grow, Sort.alloc_eq_grow, Sort.grow_grow]; rfl⟩
theorem ltOf_is (x y : Dl) : Go.Proofs.ltOf (fun x y : Dl => cmpT x.1 y.1) x y = slt x.1 y.1 := by
  unfold Go.Proofs.ltOf cmpT
  cases h1 : slt x.1 y.1 <;> cases h2 : slt y.1 x.1 <;> simp [h1, h2]
theorem swo : Sort.SWO (Go.Proofs.ltOf fun x y : Dl => cmpT x.1 y.1) where
  irrefl x := by rw [ltOf_is]; exact slt_irr _
  trans x y z h k := by rw [ltOf_is] at *; exact slt_tr h k
  ntrans x y z h k := by
    rw [ltOf_is] at *
    cases hz : slt x.1 z.1 with
    | false => rfl
    | true =>
      cases hzy : slt z.1 y.1 with
      | true => rw [slt_tr hz hzy] at h; cases h
      | false => have e := slt_tri k hzy; rw [e, hz] at h; cases h
theorem cell_flat (l : List Dl) (j : Nat) (hj : j < l.length * 2) : (dcells l)[j]? = some (Sort.flatK dcell 2 l.toArray)[j]! := by
  have h := flat_get dcell 2 dcell_len l (j / 2) (j % 2) (by omega) (Nat.mod_lt _ (by omega))
  rw [show j / 2 * 2 + j % 2 = j by omega] at h
  unfold dcells
  rw [h, Sort.get_flatK dcell 2 l.toArray j (by simpa using hj)]
  have h2 : j / 2 < l.length := by omega
  have h3 : l.toArray[j / 2]! = l[j / 2] := by simp [h2]
  rw [h3]
  have h4 : j % 2 < (dcell l[j / 2]).length := by rw [dcell_len]; exact Nat.mod_lt _ (by omega)
  rw [List.getElem?_eq_getElem h4]
  simp [h4]
theorem sort_any (w : World) (g c : Nat) (l : List Dl) (cur : Array Value) (hg : w.heap[g]? = some (.cells cur 34 (0, 0))) (hcur : cur.toList.take (l.length * 2) = dcells l) (hl : l.length < 4611686018427387904) :
    Calls Try.prog 20 #[.slice (some ⟨g, 0, none⟩) l.length c, .func (.func 21) #[] #[]] w fun e w' => e = .returned (.tuple #[]) ∧ ∃ l' : List Dl, l'.Perm l ∧ (∀ i j (hi : i < l'.length) (hj : j < l'.length), i < j → slt l'[j].1 l'[i].1 = false) ∧ In w' (fun b => b = g) 2 (some ⟨g, 0, none⟩) l.length (dcells l') ∧ Just (fun b => b = g) w w' := by
  have hgl : g < w.heap.size := (Array.getElem?_eq_some_iff.1 hg).1
  have hH : Sort.HoldsK dcell 2 w g 0 l.toArray := fun j hj => by
    rw [Sort.size_flatK] at hj
    have hj' : j < l.length * 2 := by simpa using hj
    have hc := cell_flat l j hj'
    rw [← hcur, List.getElem?_take_of_lt hj', Array.getElem?_toList] at hc
    refine ⟨?_, ?_⟩
    · unfold World.cell?
      simp only [hg, Nat.zero_add]
      exact hc
    · unfold World.frozen?
      simp only [hg]
      simp
  have eg : ∀ args w, (callFunc 21 args).run Try.prog w = .ok (.enter 21 args) w := fun args w => by go_simp
  have hcon := Go.Proofs.AnyQ.slices_SortFunc sortDl 2 Try.isAgg34 Try.sizeOf34 dcell dcell_len (fun x v hv => by simp only [dcell, List.mem_cons, List.not_mem_nil, or_false] at hv; rcases hv with rfl | rfl <;> rfl) (fun x y : Dl => cmpT x.1 y.1) swo 21 #[] g 0 c l.toArray w eg (fun m os dk _ x y => cmp_any x y _) hH hgl (by simpa using hl)
  change Calls Try.prog 20 _ _ _ at hcon
  rw [List.size_toArray] at hcon
  refine hcon.mono ?_
  rintro e w' ⟨he, d', n, os, hp, hs, rfl⟩
  obtain ⟨l', rfl⟩ : ∃ l' : List Dl, d' = l'.toArray := ⟨d'.toList, by simp⟩
  have hll : l'.length = l.length := by have := hp.1; simpa using this
  have hH' := Go.Proofs.holdsK_sortWorldK dcell 2 w g 0 n l.toArray l'.toArray os hgl hH hp.1
  have hsz := Go.Proofs.size_sortWorldK_c dcell 2 w g 0 n l'.toArray os
  refine ⟨he, l', ?_, fun i j hi hj hij => ?_, ⟨by rw [dcells_len, hll], fun hn => ⟨_, rfl, rfl, Nat.lt_of_lt_of_le hgl hsz, fun j u hu => ?_⟩⟩, ⟨rfl, rfl, rfl, hsz, fun b hb hbg => ?_⟩⟩
  · have := hp.2.2
    simp only [List.extract_toArray, List.extract_eq_take_drop, List.drop_zero, Nat.sub_zero] at this
    rwa [List.take_of_length_le (by omega), List.take_of_length_le (by omega)] at this
  · have := hs i j (Nat.zero_le _) hij (by omega)
    rw [ltOf_is] at this
    simpa [hi, hj] using this
  · have hj : j < l'.length * 2 := by
      have := (List.getElem?_eq_some_iff.1 hu).1
      rwa [dcells_len] at this
    have h1 := (hH' j (by simpa [Sort.size_flatK] using hj)).1
    rw [Addr.add_lit, ← hu, cell_flat l' j hj]
    exact h1
  · have hb' : b < (w.heap.modify g (Sort.onCells (Sort.putCells id 0 (Sort.flatK dcell 2 l'.toArray)))).size := by simpa using hb
    show ((w.heap.modify g (Sort.onCells (Sort.putCells id 0 (Sort.flatK dcell 2 l'.toArray)))) ++ os)[b]? = w.heap[b]?
    rw [Array.getElem?_append_left hb', Array.getElem?_modify, if_neg (fun e => hbg e.symm)]
end Go.Proofs.Ytnijeemldhmkjaa
