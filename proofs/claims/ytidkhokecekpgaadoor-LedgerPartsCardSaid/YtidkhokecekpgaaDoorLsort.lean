/- label.sorted: labels by name. -/
import Derived.Test.YtidkhokecekpgaaDoorSlt
import Derived.Shelf.SlSortCmp.InsertionK
import Derived.Ground.SlsfProg
namespace Go.Proofs.YtidkhokecekpgaaDoor
open Go.Shelf
def insL_ren : Go.Shelf.Ren := ⟨fun | 20 => 96 | n => n, fun | 24 => 36 | 22 => 37 | 3 => 3 | 25 => 96 | 4 => 4 | 0 => 0 | n => n, fun | n => n⟩
theorem insL : Go.Proofs.SlLaysF0.n20 Tryd.prog insL_ren := {
  mixed := by kernel_rfl
  f20 := ⟨Tryd.f96.name, by decide, Tryd.func96.trans (congrArg some (by kernel_rfl))⟩
  t0 := Tryd.underlying0
  a0 := Tryd.isAgg0
  z0 := Tryd.sizeOf0
  v0 := Tryd.zeroValue0
  t3 := Tryd.underlying3
  a3 := Tryd.isAgg3
  z3 := Tryd.sizeOf3
  v3 := Tryd.zeroValue3
  t4 := Tryd.underlying4
  a4 := Tryd.isAgg4
  z4 := Tryd.sizeOf4
  v4 := Tryd.zeroValue4
  t22 := Tryd.underlying37
  a22 := Tryd.isAgg37
  z22 := Tryd.sizeOf37
  v22 := Tryd.zeroValue37
  t25 := Tryd.underlying96
  a25 := Tryd.isAgg96
  z25 := Tryd.sizeOf96
  v25 := Tryd.zeroValue96 }
end Go.Proofs.YtidkhokecekpgaaDoor
namespace Go.Proofs.YtidkhokecekpgaaDoor
open Go.RowKit Go.Hop Go.Shelf
theorem clone_lab (w : World) (V : Nat → Prop) (A : Option Addr) (n c : Nat) (l : List Lb) (h : In w V 2 A n (lcells l)) (hn : n ≤ 1048576) :
    Calls Tryd.prog 69 #[.slice A n c] w fun e w' => ∃ v, e = .returned v ∧ Own w' (New w w') 36 2 v n (lcells l) ∧ Grow w w' := by
  have hnil := fun (w' : World) => Lib.run_eql_slice_nil (P := Tryd.prog) w' 37 36 A n c 0 0 Tryd.underlying37
  cases A with
  | none =>
    have hn0 : n = 0 := by
      rcases Nat.eq_zero_or_pos n with h0 | h0
      · exact h0
      · obtain ⟨_, e, _⟩ := h.2 h0; cases e
    subst hn0
    obtain rfl : l = [] := List.eq_nil_of_length_eq_zero (LIn.len h)
    go_enter Tryd.func69, Tryd.ntmps69
    go_wp2_with fail
    go_ret
    exact ⟨_, rfl, Own.nil, Grow.refl _⟩
  | some ad =>
    go_enter Tryd.func69, Tryd.ntmps69
    go_wp2_with (at_builtin; refine stay ?_)
    refine stay_out ?_
    refine wpList_own (V := fun b => b = w.heap.size) labelE _ rfl (.tmp 5) (.tmp 6) rfl (.slice (some ⟨w.heap.size, 0, none⟩) 0 0) 0 [] rfl (made_own w _ _) w.heap.size (some ad) n c (lcells l) rfl (Reads.alloc (In.reads h) (Nat.le_refl _) _) (lcells_one l) (by omega) ?_
    intro v1 w1 hO1 hj1
    simp only [Nat.zero_add, List.nil_append] at hO1
    obtain ⟨hO2, hg1⟩ := own_new hO1 hj1
    go_wp2_with fail
    go_ret
    exact ⟨v1, rfl, hO2, hg1⟩
theorem clip_lab (w : World) (A : Option Addr) (n c : Nat) (hn : n ≤ c) :
    Calls Tryd.prog 36 #[.slice A n c] w fun e w' => e = .returned (.slice A n n) ∧ w = w' := by
  go_enter Tryd.func36, Tryd.ntmps36
  go_wp2_with fail
  go_ret
  exact ⟨rfl, rfl⟩
theorem cmpL_any (x y : Lb) (W : World) : Calls Tryd.prog 71 #[.agg #[.string x.1, .string x.2], .agg #[.string y.1, .string y.2]] W fun e w' => e = .returned (.int .i64 (cmpT x.1 y.1)) ∧ ∃ q os', w' = Sort.grow (W.drewN q) os' := by
  have hcon := fun W' => Compare_any W' x.1 y.1
  generalize cmpT x.1 y.1 = r at hcon ⊢
  go_enter Tryd.func71, Tryd.ntmps71
  go_wp2_with (go_at_call 20; refine (hcon _).mono ?_; rintro e w' ⟨rfl, rfl⟩)
  go_ret
  exact ⟨rfl, 0, _, by rw [Sort.alloc_eq_grow, Sort.alloc_eq_grow, Sort.grow_grow]; rfl⟩
theorem ltL_is (x y : Lb) : Go.Proofs.ltOf (fun x y : Lb => cmpT x.1 y.1) x y = slt x.1 y.1 := by
  unfold Go.Proofs.ltOf cmpT
  cases h1 : slt x.1 y.1 <;> cases h2 : slt y.1 x.1 <;> simp [h1, h2]
theorem swoL : Sort.SWO (Go.Proofs.ltOf fun x y : Lb => cmpT x.1 y.1) where
  irrefl x := by rw [ltL_is]; exact slt_irr _
  trans x y z h k := by rw [ltL_is] at *; exact slt_tr h k
  ntrans x y z h k := by rw [ltL_is] at *; exact slt_ntr h k
theorem cell_flatL (l : List Lb) (j : Nat) (hj : j < l.length * 2) : (lcells l)[j]? = some (Sort.flatK lcell 2 l.toArray)[j]! := by
  have h := flat_get lcell 2 lcell_len l (j / 2) (j % 2) (by omega) (Nat.mod_lt _ (by omega))
  rw [show j / 2 * 2 + j % 2 = j by omega] at h
  unfold lcells
  rw [h, Sort.get_flatK lcell 2 l.toArray j (by simpa using hj)]
  have h2 : j / 2 < l.length := by omega
  have h3 : l.toArray[j / 2]! = l[j / 2] := by simp [h2]
  rw [h3]
  have h4 : j % 2 < (lcell l[j / 2]).length := by rw [lcell_len]; exact Nat.mod_lt _ (by omega)
  rw [List.getElem?_eq_getElem h4]
  simp [h4]
/-- labels by name -/
structure ByName (q l : List Lb) : Prop where
  perm : q.Perm l
  srt : q.Pairwise fun a b => slt b.1 a.1 = false
theorem ins_any (w : World) (g c : Nat) (l : List Lb) (cur : Array Value) (hg : w.heap[g]? = some (.cells cur 36 (0, 0))) (hcur : cur.toList.take (l.length * 2) = lcells l) (hl : l.length < 4611686018427387904) :
    Calls Tryd.prog 96 #[.slice (some ⟨g, 0, none⟩) l.length c, .int .i64 0, .int .i64 (l.length : Int), .func (.func 71) #[] #[]] w fun e w' => e = .returned (.tuple #[]) ∧ ∃ q : List Lb, ByName q l ∧ In w' (fun b => b = g) 2 (some ⟨g, 0, none⟩) l.length (lcells q) ∧ Just (fun b => b = g) w w' := by
  have hgl : g < w.heap.size := (Array.getElem?_eq_some_iff.1 hg).1
  have hH : Sort.HoldsK lcell 2 w g 0 l.toArray := fun j hj => by
    rw [Sort.size_flatK] at hj
    have hj' : j < l.length * 2 := by simpa using hj
    have hc := cell_flatL l j hj'
    rw [← hcur, List.getElem?_take_of_lt hj', Array.getElem?_toList] at hc
    refine ⟨?_, ?_⟩
    · unfold World.cell?
      simp only [hg, Nat.zero_add]
      exact hc
    · unfold World.frozen?
      simp only [hg]
      simp
  have eg : ∀ args w, (callFunc 71 args).run Tryd.prog w = .ok (.enter 71 args) w := fun args w => by go_simp
  have hcon := Go.Proofs.AnyQ.insertionSortCmpFunc insL 2 Tryd.isAgg36 Tryd.sizeOf36 lcell lcell_len (fun x v hv => by simp only [lcell, List.mem_cons, List.not_mem_nil, or_false] at hv; rcases hv with rfl | rfl <;> rfl) (fun x y : Lb => cmpT x.1 y.1) 71 #[] g 0 c 0 l.length l.toArray w eg (fun m os dk _ x y => cmpL_any x y _) hH hgl (Nat.zero_le _) (by simp) (by simpa using hl)
  change Calls Tryd.prog 96 _ _ _ at hcon
  rw [List.size_toArray] at hcon
  refine hcon.mono ?_
  rintro e w' ⟨he, n, os, rfl⟩
  have hh := Sort.insertionSort_holds swoL l.toArray 0 l.length (Nat.zero_le _) (by simp)
  generalize Sort.insertionSort (Go.Proofs.ltOf fun x y : Lb => cmpT x.1 y.1) l.toArray 0 l.length = d' at hh ⊢
  obtain ⟨q, rfl⟩ : ∃ q : List Lb, d' = q.toArray := ⟨d'.toList, by simp⟩
  have hp := hh.1
  have hs := hh.2
  have hll : q.length = l.length := by have := hp.1; simpa using this
  have hH' := Go.Proofs.holdsK_sortWorldK_c lcell 2 w g 0 l.toArray q.toArray n os hH hgl hp.1
  have hsz := Go.Proofs.size_sortWorldK_c lcell 2 w g 0 n q.toArray os
  refine ⟨he, q, ⟨?_, List.pairwise_iff_getElem.2 fun i j hi hj hij => ?_⟩, ⟨by rw [lcells_len, hll], fun hn => ⟨_, rfl, rfl, Nat.lt_of_lt_of_le hgl hsz, fun j u hu => ?_⟩⟩, ⟨rfl, rfl, rfl, hsz, fun b hb hbg => ?_⟩⟩
  · have := hp.2.2
    simp only [List.extract_toArray, List.extract_eq_take_drop, List.drop_zero, Nat.sub_zero] at this
    rwa [List.take_of_length_le (by omega), List.take_of_length_le (by omega)] at this
  · have := hs i j (Nat.zero_le _) hij (by omega)
    rw [ltL_is] at this
    simpa [hi, hj] using this
  · have hj : j < q.length * 2 := by
      have := (List.getElem?_eq_some_iff.1 hu).1
      rwa [lcells_len] at this
    have h1 := (hH' j (by simpa [Sort.size_flatK] using hj)).1
    rw [Addr.add_lit, ← hu, cell_flatL q j hj]
    exact h1
  · have hb' : b < (w.heap.modify g (Sort.onCells (Sort.putCells id 0 (Sort.flatK lcell 2 q.toArray)))).size := by simpa using hb
    show ((w.heap.modify g (Sort.onCells (Sort.putCells id 0 (Sort.flatK lcell 2 q.toArray)))) ++ os)[b]? = w.heap[b]?
    rw [Array.getElem?_append_left hb', Array.getElem?_modify, if_neg (fun e => hbg e.symm)]
theorem ins_none (w : World) (A : Option Addr) (c : Nat) (f : Value) : Calls Tryd.prog 96 #[.slice A 0 c, .int .i64 0, .int .i64 0, f] w fun e w' => e = .returned (.tuple #[]) ∧ w = w' := by
  go_enter Tryd.func96, Tryd.ntmps96
  go_wp2_with fail
  go_loop [8] (fun i => i = .int .i64 1) (fun _ => 0)
  case atStart => rfl
  case round =>
    obtain rfl := hrel
    go_wp2_with fail
    go_end0
    exact ⟨rfl, rfl⟩
theorem stable_any (w : World) (A : Option Addr) (n c : Nat) (l : List Lb) (hn : n ≤ 19) (V : Nat → Prop) (hO : Own w V 36 2 (.slice A n c) n (lcells l)) :
    Calls Tryd.prog 70 #[.slice A n c, .func (.func 71) #[] #[]] w fun e w' => e = .returned (.tuple #[]) ∧ ∃ q : List Lb, ByName q l ∧ In w' V 2 A n (lcells q) ∧ Just V w w' := by
  have hl : l.length = n := by have := hO.1; rw [lcells_len] at this; omega
  have hins : Calls Tryd.prog 96 #[.slice A n c, .int .i64 0, .int .i64 (n : Int), .func (.func 71) #[] #[]] w fun e w' => e = .returned (.tuple #[]) ∧ ∃ q : List Lb, ByName q l ∧ In w' V 2 A n (lcells q) ∧ Just V w w' := by
    rcases hO.2 with ⟨h1, h0⟩ | ⟨g, cap, cur, h1, hV, hg, hnc, hcm, hsz, htk⟩
    · subst h0
      obtain rfl : l = [] := List.eq_nil_of_length_eq_zero hl
      refine (ins_none w A c _).mono ?_
      rintro e w' ⟨he, rfl⟩
      exact ⟨he, [], ⟨List.Perm.refl _, List.Pairwise.nil⟩, In.nil, Just.of_grow (Grow.refl _)⟩
    · injection h1 with h1 _ h3
      subst h1 h3
      rw [← hl] at htk
      have := ins_any w g c l cur hg htk (by omega)
      rw [hl] at this
      refine this.mono ?_
      rintro e w' ⟨he, q, hq, hI, hj⟩
      exact ⟨he, q, hq, hI.mono fun b hb => by rw [hb]; exact hV, hj.imp fun b hb => by rw [hb]; exact hV⟩
  have hst : Calls Tryd.prog 88 #[.slice A n c, .int .i64 (n : Int), .func (.func 71) #[] #[]] w fun e w' => e = .returned (.tuple #[]) ∧ ∃ q : List Lb, ByName q l ∧ In w' V 2 A n (lcells q) ∧ Just V w w' := by
    have h20 : decide ((20 : Int) ≤ (n : Int)) = false := decide_eq_false (by omega)
    have h20' : decide ((20 : Int) < (n : Int)) = false := decide_eq_false (by omega)
    clear hO
    go_enter Tryd.func88, Tryd.ntmps88
    go_wp2_with fail
    go_loop [7, 8] (fun a b => a = .int .i64 0 ∧ b = .int .i64 20) (fun _ _ => 0)
    case atStart => exact ⟨rfl, rfl⟩
    case round =>
      obtain ⟨rfl, rfl⟩ := hrel
      go_wp2_with fail
      refine hins.mono ?_
      rintro e w2 ⟨rfl, H⟩
      clear hins
      have HH := Lib.hid H
      clear H
      go_wp2_with fail
      go_loop [6] (fun a => a = .int .i64 20) (fun _ => 0)
      case atStart => rfl
      case round =>
        obtain rfl := hrel
        go_wp2_with fail
        go_end0
        exact ⟨rfl, HH.out⟩
  clear hins hO
  go_enter Tryd.func70, Tryd.ntmps70
  go_wp2_with fail
  refine hst.mono ?_
  rintro e w2 ⟨rfl, H⟩
  clear hst
  have HH := Lib.hid H
  clear H
  go_wp2_with fail
  go_end0
  exact ⟨rfl, HH.out⟩
theorem sorted_any (w : World) (V : Nat → Prop) (A : Option Addr) (n c : Nat) (l : List Lb) (h : In w V 2 A n (lcells l)) (hn : n ≤ 19) :
    Calls Tryd.prog 51 #[.slice A n c] w fun e w' => ∃ A' q, e = .returned (.slice A' n n) ∧ ByName q l ∧ In w' (New w w') 2 A' n (lcells q) ∧ Grow w w' := by
  go_enter Tryd.func51, Tryd.ntmps51
  go_wp2_with fail
  refine (clone_lab w V A n c l h (by omega)).mono ?_
  rintro e w1 ⟨v, rfl, hO, hg1⟩
  obtain ⟨A1, c1, rfl, _, hnc, _⟩ := hO.in_
  have hst := stable_any w1 A1 n c1 l hn (New w w1) hO
  clear hO
  go_wp2_with fail
  refine hst.mono ?_
  rintro e w2 ⟨rfl, q, hq, hI, hj⟩
  clear hst
  go_wp2_with (go_at_call 36; refine (clip_lab _ _ _ _ hnc).mono ?_; rintro e w' ⟨rfl, rfl⟩)
  go_ret
  have hs := hg1.size
  have hs2 := hj.size
  exact ⟨A1, q, rfl, hq, hI.mono fun b hb => ⟨hb.1, by have := hb.2; omega⟩, Below.trans hg1 (hj.below (B := w.heap.size) (fun b hb => hb.1) hs)⟩
end Go.Proofs.YtidkhokecekpgaaDoor
