/- What a net is; what is read of it. -/
import Derived.Test.YtacigekkfgeipaaLt
namespace Go.Proofs.Ytacigekkfgeipaa
open Go.RowKit Go.Hop
/-- a net's cells: nodes, its row, who is parted -/
def netc (nodes : Int) (v : Value) (P : Nat → Bool) : Array Value := (Value.int .i64 nodes :: v :: (List.range 64).map fun i => Value.bool (P i)).toArray
theorem netc_0 (nodes : Int) (v : Value) (P : Nat → Bool) : (netc nodes v P)[0]? = some (.int .i64 nodes) := rfl
theorem netc_1 (nodes : Int) (v : Value) (P : Nat → Bool) : (netc nodes v P)[1]? = some v := rfl
theorem netc_p (nodes : Int) (v : Value) (P : Nat → Bool) {i : Nat} (hi : i < 64) : (netc nodes v P)[2 + i]? = some (.bool (P i)) := by
  unfold netc
  rw [Nat.add_comm]
  simp [List.getElem?_range hi]
theorem netc_set1 (nodes : Int) (v v' : Value) (P : Nat → Bool) : (netc nodes v P).setIfInBounds 1 v' = netc nodes v' P := by
  unfold netc; simp
theorem netc_setp (nodes : Int) (v : Value) (P : Nat → Bool) (i : Nat) (b : Bool) : (netc nodes v P).setIfInBounds (2 + i) (.bool b) = netc nodes v (fun j => if j = i then b else P j) := by
  unfold netc
  rw [Nat.add_comm]
  apply Array.ext'
  simp only [Array.toList_setIfInBounds, List.set_cons_succ]
  congr 2
  apply List.ext_getElem?
  intro j
  rw [List.getElem?_set, List.getElem?_map, List.getElem?_map]
  simp only [List.length_map, List.length_range]
  by_cases hj : j < 64
  · rw [List.getElem?_range hj]
    by_cases hij : i = j
    · subst hij; simp [hj]
    · rw [if_neg hij]; simp [show ¬ j = i from fun h => hij h.symm]
  · rw [List.getElem?_eq_none (l := List.range 64) (by simp; omega)]
    by_cases hij : i = j
    · subst hij; simp [hj]
    · rw [if_neg hij]; simp
def nodeB (nodes i : Int) : Bool := decide (0 ≤ i) && decide (i < nodes)
theorem nodeB_yes {nodes i : Int} (h : 0 ≤ i ∧ i < nodes) : nodeB nodes i = true := by unfold nodeB; rw [decide_eq_true h.1, decide_eq_true h.2]; rfl
theorem nodeB_no {nodes i : Int} (h : ¬ (0 ≤ i ∧ i < nodes)) : nodeB nodes i = false := by
  unfold nodeB; rw [Bool.and_eq_false_iff, decide_eq_false_iff_not, decide_eq_false_iff_not]; omega
theorem nodeB_is {nodes i : Int} (h : nodeB nodes i = true) : 0 ≤ i ∧ i < nodes := by
  unfold nodeB at h; rw [Bool.and_eq_true, decide_eq_true_eq, decide_eq_true_eq] at h; exact h
def InN (nodes : Int) (a : Lb) : Prop := (0 ≤ a.1 ∧ a.1 < nodes) ∧ (0 ≤ a.2.1 ∧ a.2.1 < nodes)
def NetAt (g : Nat) (nodes : Int) (l : List Lb) (P : Nat → Bool) : Thing := fun w V =>
  V g ∧ ∃ (v : Value) (q : List Lt) (R D : Nat → Prop), q.map Lt.abs = l ∧ q.length ≤ 64 ∧ (1 ≤ nodes ∧ nodes ≤ 8) ∧ (∀ a ∈ l, InN nodes a) ∧ Blk w g 57 (netc nodes v P) ∧ Row w R 35 3 v q.length (q.flatMap Lt.cells) ∧ (∀ b ∈ q, LtIn w D b) ∧ (∀ b, R b → V b ∧ b ≠ g ∧ ¬ D b) ∧ (∀ b, D b → V b ∧ b ≠ g)
theorem NetAt.framed (g : Nat) (nodes : Int) (l : List Lb) (P : Nat → Bool) : Framed (NetAt g nodes l P) := fun w w' V h hk => by
  obtain ⟨h1, v, q, R, D, h2, h3, hn, hi, h4, h5, h6, h7, h8⟩ := h
  exact ⟨h1, v, q, R, D, h2, h3, hn, hi, (hk g h1).trans h4, h5.keep fun b hb _ => hk b (h7 b hb).1, fun b hb => (h6 b hb).keep fun x hx _ => hk x (h8 x hx).1, h7, h8⟩
theorem NetAt.wide {g : Nat} {nodes : Int} {l : List Lb} {P : Nat → Bool} {w : World} {V V' : Nat → Prop} (h : NetAt g nodes l P w V) (hV : ∀ b, V b → V' b) : NetAt g nodes l P w V' := by
  obtain ⟨h1, v, q, R, D, h2, h3, hn, hi, h4, h5, h6, h7, h8⟩ := h
  exact ⟨hV g h1, v, q, R, D, h2, h3, hn, hi, h4, h5, h6, fun b hb => ⟨hV b (h7 b hb).1, (h7 b hb).2⟩, fun b hb => ⟨hV b (h8 b hb).1, (h8 b hb).2⟩⟩
/-- letters in a row -/
structure Lts (w : World) (V D : Nat → Prop) (A : Option Addr) (n : Nat) (q : List Lt) : Prop where
  row : In w V 3 A n (q.flatMap Lt.cells)
  all : ∀ b ∈ q, LtIn w D b
theorem Lts.len {w : World} {V D : Nat → Prop} {A : Option Addr} {n : Nat} {q : List Lt} (h : Lts w V D A n q) : q.length = n := by
  have := h.row.1; rw [lts_len] at this; omega
theorem Lts.grow {w w' : World} {V D : Nat → Prop} {A : Option Addr} {n : Nat} {q : List Lt} (h : Lts w V D A n q) (hg : Grow w w') : Lts w' V D A n q := ⟨h.row.grow hg, fun b hb => (h.all b hb).grow hg⟩
theorem Lts.mono {w : World} {V D V' D' : Nat → Prop} {A : Option Addr} {n : Nat} {q : List Lt} (h : Lts w V D A n q) (hV : ∀ b, V b → V' b) (hD : ∀ b, D b → D' b) : Lts w V' D' A n q := ⟨h.row.mono hV, fun b hb => (h.all b hb).mono hD⟩
theorem NetAt.lts {g : Nat} {nodes : Int} {l : List Lb} {P : Nat → Bool} {w : World} {V : Nat → Prop} (h : NetAt g nodes l P w V) :
    ∃ A c q, Hid (q.map Lt.abs = l) ∧ Hid (l.length = q.length) ∧ q.length ≤ 64 ∧ (1 ≤ nodes ∧ nodes ≤ 8) ∧ (∀ a ∈ l, InN nodes a) ∧ Blk w g 57 (netc nodes (.slice A q.length c) P) ∧ Lts w V V A q.length q ∧ q.length ≤ c ∧ c ≤ maxLen := by
  obtain ⟨h1, v, q, R, D, rfl, h3, hn, hi, h4, h5, h6, h7, h8⟩ := h
  obtain ⟨A, c, rfl, hI, hnc, hm⟩ := h5.in_
  exact ⟨A, c, q, Lib.hid rfl, Lib.hid (List.length_map ..), h3, hn, hi, h4, ⟨hI.mono fun b hb => (h7 b hb).1, fun b hb => (h6 b hb).mono fun x hx => (h8 x hx).1⟩, hnc, hm⟩
theorem node_any (w : World) (g : Nat) (nodes i : Int) (v : Value) (P : Nat → Bool) (hB : Blk w g 57 (netc nodes v P)) :
    Calls Try.prog 25 #[.pointer (some ⟨g, 0, none⟩), .int .i64 i] w fun e w' => e = .returned (.bool (nodeB nodes i)) ∧ w = w' := by
  have c0 : w.cell? ⟨g, 0, none⟩ = some (.int .i64 nodes) := hB.cell 0
  unfold nodeB
  by_cases h : 0 ≤ i
  · go_enter Try.func25, Try.ntmps25
    go_wp2_with fail
    go_ret
    exact ⟨ret_bool (by rw [decide_eq_true h]; simp), rfl⟩
  · go_enter Try.func25, Try.ntmps25
    go_wp2_with fail
    go_ret
    exact ⟨ret_bool (by rw [decide_eq_false (p := 0 ≤ i) (by omega)]; rfl), rfl⟩
theorem there_any (w : World) (g : Nat) (nodes i : Int) (A : Option Addr) (n c : Nat) (P : Nat → Bool) (hB : Blk w g 57 (netc nodes (.slice A n c) P)) :
    Calls Try.prog 27 #[.pointer (some ⟨g, 0, none⟩), .int .i64 i] w fun e w' => e = .returned (.bool (nodeB (n : Int) i)) ∧ w = w' := by
  have c1 : w.cell? ⟨g, 1, none⟩ = some (.slice A n c) := hB.cell 1
  unfold nodeB
  by_cases h : 0 ≤ i
  · go_enter Try.func27, Try.ntmps27
    go_wp2_with fail
    go_ret
    exact ⟨ret_bool (by rw [decide_eq_true h]; simp), rfl⟩
  · go_enter Try.func27, Try.ntmps27
    go_wp2_with fail
    go_ret
    exact ⟨ret_bool (by rw [decide_eq_false (p := 0 ≤ i) (by omega)]; rfl), rfl⟩
theorem New_no (w : World) (nodes : Int) (h : nodes < 1 ∨ 8 < nodes) : Calls Try.prog 10 #[.int .i64 nodes] w fun e w' => e = .returned (.pointer none) ∧ w = w' := by
  by_cases h1 : nodes < 1
  · go_enter Try.func10, Try.ntmps10
    go_wp2_with fail
    go_ret
    exact ⟨rfl, rfl⟩
  · have h2 : 8 < nodes := h.resolve_left h1
    go_enter Try.func10, Try.ntmps10
    go_wp2_with fail
    go_ret
    exact ⟨rfl, rfl⟩
theorem net_info : (Try.prog.info? 57).map (fun i => (i.zero, i.size, i.bytes)) = some (some (.agg (netc 0 (.slice none 0 0) (fun _ => false))), 66, 96) := by kernel_rfl
theorem net_zero (w : World) : (zeroValue 57).run Try.prog w = .ok (.agg (netc 0 (.slice none 0 0) (fun _ => false))) w := by
  obtain ⟨i, hi, hz, _, _⟩ := info_parts net_info
  simp [zeroValue, typeInfo, hi, hz]
theorem netc_set0 (nodes nodes' : Int) (v : Value) (P : Nat → Bool) : (netc nodes v P).setIfInBounds 0 (.int .i64 nodes') = netc nodes' v P := by
  unfold netc; simp
theorem netc_ne (nodes : Int) (v : Value) (P : Nat → Bool) : ¬ netc nodes v P = #[] := fun h => by
  have := congrArg (fun a : Array Value => a[0]?) h
  simp [netc] at this
theorem New_any (w : World) (nodes : Int) (h1 : 1 ≤ nodes) (h8 : nodes ≤ 8) :
    Calls Try.prog 10 #[.int .i64 nodes] w fun e w' => e = .returned (.pointer (some ⟨w.heap.size, 0, none⟩)) ∧ NetAt w.heap.size nodes [] (fun _ => false) w' (New w w') ∧ Grow w w' := by
  have ha : ¬ nodes < 1 := by omega
  have hb : ¬ 8 < nodes := by omega
  have hz := net_zero
  have hc := netc_set0 0 nodes (.slice none 0 0) (fun _ => false)
  have hne := netc_ne 0 (.slice none 0 0) (fun _ => false)
  generalize netc 0 (.slice none 0 0) (fun _ => false) = np at hz hc hne
  go_enter Try.func10, Try.ntmps10
  go_wp2_with fail
  go_ret
  exact ⟨rfl, ⟨⟨Nat.le_refl _, by simp⟩, _, [], fun _ => False, fun _ => False, rfl, by simp, ⟨h1, h8⟩, by simp, Blk.made w _ _, Row.nil, by simp, fun _ h => h.elim, fun _ h => h.elim⟩, (Below.refl w.heap.size w).alloc (Nat.le_refl _) _⟩
/-- letters by themselves -/
def IsLts (l : List Lb) (w0 : World) (u : Value) (w : World) : Prop := ∃ (A : Option Addr) (n c : Nat) (q : List Lt), u = .slice A n c ∧ Lts w (New w0 w) (New w0 w) A n q ∧ q.map Lt.abs = l ∧ n ≤ c ∧ c ≤ maxLen
set_option maxRecDepth 20000 in
theorem All_any (w : World) (g : Nat) (nodes : Int) (l : List Lb) (P : Nat → Bool) (V : Nat → Prop) (hQ : NetAt g nodes l P w V) :
    Calls Try.prog 16 #[.pointer (some ⟨g, 0, none⟩)] w fun e w' => ∃ u, e = .returned u ∧ IsLts l w u w' ∧ Grow w w' := by
  obtain ⟨A, c, q, HQ, HL, h64, hN, hInv, hB, hI, hnc, hcm⟩ := hQ.lts
  have cc1 : w.cell? ⟨g, 1, none⟩ = some (.slice A q.length c) := hB.cell 1
  go_enter Try.func16, Try.ntmps16
  go_wp2_with fail
  go_loopw [3, 11] (fun s i wr => ∃ (k : Nat) (q' : List Lt) (R D' : Nat → Prop), k ≤ q.length ∧ i = .int .i64 k ∧ Own wr R 35 3 s k (q'.flatMap Lt.cells) ∧ (∀ b ∈ q', LtIn wr D' b) ∧ q'.map Lt.abs = (q.take k).map Lt.abs ∧ (∀ b, R b → New w wr b ∧ ¬ D' b) ∧ (∀ b, D' b → New w wr b) ∧ Grow w wr) (fun _ i _ => q.length - (intOf i).toNat)
  case atStart => exact ⟨0, [], fun _ => False, fun _ => False, by omega, rfl, Own.nil, by simp, by simp, fun _ h => h.elim, fun _ h => h.elim, Grow.refl _⟩
  case round =>
    obtain ⟨k, q', R, D', hkn, rfl, hO, hin, habs, hR, hD, hg⟩ := hrel
    obtain ⟨A1, c1, rfl, hI1, hnc1, hm1⟩ := hO.in_
    by_cases hk : k < q.length
    · obtain ⟨ad, hkq, rfl, hV, hB, e0, e1⟩ := (hI.row.grow hg).rec_ (by omega) lt_len hk
      have hbin := (hI.all q[k] (List.getElem_mem hkq)).grow hg
      have hsn : q.take (k + 1) = q.take k ++ [q[k]] := List.take_succ_eq_append_getElem hkq
      have e0 := e0 _ rfl
      have e2 := e1 1 _ rfl
      have e1 := e1 0 _ rfl
      have HS := Lib.hid hsn
      clear hsn
      generalize q[k] = b at hbin e0 e1 e2 HS
      obtain ⟨f, t, Ab, mb, cb, bs⟩ := b
      dsimp only [Lt.cells] at e0 e1 e2
      have hga : Grow wr (wr.alloc (.cells #[.int .i64 f, .int .i64 t, .slice Ab mb cb] 35)) := (Below.refl wr.heap.size wr).alloc (Nat.le_refl _) _
      go_wp2_with fail
      refine (own_any _ V ⟨f, t, Ab, mb, cb, bs⟩ (hbin.grow hga)).mono ?_
      rintro e w1 ⟨A2, c2, rfl, hb2, hg1⟩
      have hs1 := hg1.size
      simp only [alloc_size] at hs1
      have hgB := (Below.refl w1.heap.size w1).alloc (Nat.le_refl _) (.cells #[.int .i64 f, .int .i64 t, .slice A2 mb c2] 35)
      go_wp2_with (at_builtin; refine stay ?_)
      refine stay_out ?_
      have hsr := hg.size
      have hRlt : ∀ b, R b → b < wr.heap.size := fun b hb => (hR b hb).1.2
      refine wpList_own (V := R) letterE _ rfl (.tmp 15) (.tmp 18) rfl (.slice A1 k c1) k (q'.flatMap Lt.cells) rfl (((hO.grow hRlt (hga.trans hg1)).grow (fun b hb => by have := hRlt b hb; omega) hgB)) (w1.heap.size + 1) (some ⟨w1.heap.size, 0, none⟩) 1 1 (Lt.cells ⟨f, t, A2, mb, c2, bs⟩) rfl (reads_laid w1 _ 35 _ rfl _ rfl) (lt_one _) (by omega) ?_
      intro v2 w2 hO2 hj2
      have hs2 := hj2.size
      simp only [alloc_size] at hs2
      have hgj : Below w.heap.size w1 w2 := Below.trans (hgB.mono (by omega)) (hj2.below (B := w.heap.size) (fun b hb => (hR b hb).1.1) (by simp; omega))
      have hg2 : Grow w w2 := Below.trans (hg.trans (hga.trans hg1)) hgj
      have hD2 : ∀ b : Lt, LtIn w1 D' b → LtIn w2 D' b := fun b hb => (hb.grow hgB).just hj2 fun x hx hr => (hR x hr).2 hx
      have hN2 : ∀ b : Lt, LtIn w1 (New (wr.alloc (.cells #[.int .i64 f, .int .i64 t, .slice Ab mb cb] 35)) w1) b → LtIn w2 (New (wr.alloc (.cells #[.int .i64 f, .int .i64 t, .slice Ab mb cb] 35)) w1) b := fun b hb => (hb.grow hgB).just hj2 fun x hx hr => by have := hx.1; have := hRlt x hr; simp at *; omega
      go_wp2_with fail
      go_roundw
      case rel =>
        refine ⟨k + 1, q' ++ [⟨f, t, A2, mb, c2, bs⟩], Ext R (w1.alloc (.cells #[.int .i64 f, .int .i64 t, .slice A2 mb c2] 35)) w2, fun b => D' b ∨ New (wr.alloc (.cells #[.int .i64 f, .int .i64 t, .slice Ab mb cb] 35)) w1 b, by omega, by go_num, ?_, fun b hb => ?_, ?_, fun b hb => ?_, fun b hb => ?_, hg2⟩
        · rw [List.flatMap_append, List.flatMap_cons, List.flatMap_nil, List.append_nil]; exact hO2
        · rcases List.mem_append.1 hb with hb | hb
          · exact (hD2 b ((hin b hb).grow (hga.trans hg1))).mono fun _ => .inl
          · rw [List.mem_singleton.1 hb]; exact (hN2 _ hb2).mono fun _ => .inr
        · rw [List.map_append, habs, HS.out, List.map_append]; rfl
        · rcases hb with hb | ⟨h1, h2⟩
          · refine ⟨⟨(hR b hb).1.1, by have := hRlt b hb; omega⟩, fun hd => ?_⟩
            rcases hd with hd | hd
            · exact (hR b hb).2 hd
            · have := hd.1; have := hRlt b hb; simp at *; omega
          · simp only [alloc_size] at h1
            refine ⟨⟨by omega, h2⟩, fun hd => ?_⟩
            rcases hd with hd | hd
            · have := (hD b hd).2; omega
            · have := hd.2; omega
        · rcases hb with hb | hb
          · have := hD b hb; exact ⟨this.1, by have := this.2; omega⟩
          · have h1 := hb.1; have h2 := hb.2; simp only [alloc_size] at h1; exact ⟨by omega, by omega⟩
      case measure => simp [intOf]; omega
    · obtain rfl : k = q.length := by omega
      go_wp2_with fail
      go_ret
      refine ⟨_, rfl, ⟨A1, q.length, c1, q', rfl, ⟨hI1.mono fun b hb => (hR b hb).1, fun b hb => (hin b hb).mono hD⟩, ?_, hnc1, hm1⟩, hg⟩
      rw [habs, List.take_of_length_le (by omega), HQ.out]
end Go.Proofs.Ytacigekkfgeipaa
