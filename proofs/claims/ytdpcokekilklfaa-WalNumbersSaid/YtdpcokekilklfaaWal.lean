/- What a log's functions compute. -/
import Derived.Test.YtdpcokekilklfaaScan
import Derived.Test.YtdpcokekilklfaaCrash
import Derived.Test.YtdpcokekilklfaaDref
import Derived.Test.YtdpcokekilklfaaDreads
namespace Go.Proofs.Ytdpcokekilklfaa
open Go.RowKit Go.Hop
theorem Bxs.just {w w' : World} {V D U : Nat → Prop} {A : Option Addr} {n : Nat} {q : List Bx} (h : Bxs w V D A n q) (hj : Just U w w') (hV : ∀ b, V b → ¬ U b) (hD : ∀ b, D b → ¬ U b) : Bxs w' V D A n q := ⟨h.row.just hj hV, fun b hb => (h.all b hb).just hj hD⟩
/-- a log over a disk: its block, and the disk's -/
def LogAt (x d : Nat) (n : Int) (l : List UInt8) (k : Nat) : Thing := fun w V =>
  V x ∧ Blk w x 50 #[.pointer (some ⟨d, 0, none⟩), .int .i64 n] ∧ DiskAt 44 d l k w (fun b => V b ∧ b ≠ x)
theorem LogAt.framed (x d : Nat) (n : Int) (l : List UInt8) (k : Nat) : Framed (LogAt x d n l k) := fun w w' V h hk => by
  obtain ⟨h1, h2, h3⟩ := h
  exact ⟨h1, (hk x h1).trans h2, DiskAt.framed _ d l k w w' _ h3 fun b hb => hk b hb.1⟩
theorem LogAt.wide {x d : Nat} {n : Int} {l : List UInt8} {k : Nat} {w : World} {V V' : Nat → Prop} (h : LogAt x d n l k w V) (hV : ∀ b, V b → V' b) : LogAt x d n l k w V' :=
  ⟨hV x h.1, h.2.1, h.2.2.wide fun b hb => ⟨hV b hb.1, hb.2⟩⟩
theorem LogAt.disk {x d : Nat} {n : Int} {l : List UInt8} {k : Nat} {w : World} {V : Nat → Prop} (h : LogAt x d n l k w V) : DiskAt 44 d l k w V := h.2.2.wide fun _ hb => hb.1
/-- a call that turns the disk under it -/
theorem LogAt.turn {f : FuncId} {args : Array Value} {C : Ending → Prop} {x d : Nat} {n : Int} {l l' : List UInt8} {k k' : Nat} {w : World} (h : Turns Try.prog f args C (DiskAt 44 d l k) (DiskAt 44 d l' k') w) : Turns Try.prog f args C (LogAt x d n l k) (LogAt x d n l' k') w := by
  intro V ⟨h1, h2, h3⟩ hV
  refine (h _ h3 fun b hb => hV b hb.1).mono fun e w' ⟨he, hd, hj⟩ => ⟨he, ⟨.inl h1, hj.blk h2 fun h => h.2 rfl, hd.wide fun b hb => ?_⟩, hj.imp fun b hb => hb.1⟩
  have := hV x h1
  rcases hb with hb | hb
  · exact ⟨.inl hb.1, hb.2⟩
  · exact ⟨.inr hb, by have := hb.1; omega⟩
theorem Len_any (w : World) (d : Nat) (l : List UInt8) (k : Nat) (V : Nat → Prop) (hD : DiskAt 44 d l k w V) :
    Calls Try.prog 27 #[.pointer (some ⟨d, 0, none⟩)] w fun e w' => e = .returned (.int .i64 (l.length : Int)) ∧ w = w' := by
  obtain ⟨hd, hk, hl, v, hB, hO⟩ := hD
  obtain ⟨A1, c1, rfl, hR, hnc, hm⟩ := hO.reads
  have c0 := hB.cell 0
  go_enter Try.func27, Try.ntmps27
  go_wp2_with fail
  go_ret
  exact ⟨rfl, rfl⟩
theorem lSync_any (w : World) (x d : Nat) (n : Int) (l : List UInt8) (k : Nat) :
    Turns Try.prog 11 #[.pointer (some ⟨x, 0, none⟩)] (fun e => e = .returned (.tuple #[])) (LogAt x d n l k) (LogAt x d n l l.length) w := by
  intro V hL hV
  have c0 := hL.2.1.cell 0
  have ht := LogAt.turn (x := x) (n := n) (Sync_any w d l k) V hL hV
  go_enter Try.func11, Try.ntmps11
  go_wp2_with fail
  refine ht.mono ?_
  rintro e w1 ⟨rfl, hL1, hj⟩
  go_wp2_with fail
  go_end0
  exact ⟨rfl, hL1, hj⟩
theorem lLen_any (w : World) (x d : Nat) (n : Int) (l : List UInt8) (k : Nat) (V : Nat → Prop) (hL : LogAt x d n l k w V) :
    Calls Try.prog 14 #[.pointer (some ⟨x, 0, none⟩)] w fun e w' => e = .returned (.int .i64 n) ∧ w = w' := by
  have c1 := hL.2.1.cell 1
  go_enter Try.func14, Try.ntmps14
  go_wp2_with fail
  go_ret
  exact ⟨rfl, rfl⟩
theorem lBytes_any (w : World) (x d : Nat) (n : Int) (l : List UInt8) (k : Nat) (V : Nat → Prop) (hL : LogAt x d n l k w V) :
    Calls Try.prog 17 #[.pointer (some ⟨x, 0, none⟩)] w fun e w' => e = .returned (.int .i64 (l.length : Int)) ∧ w = w' := by
  have c0 := hL.2.1.cell 0
  have hLn := Len_any w d l k V hL.disk
  go_enter Try.func17, Try.ntmps17
  go_wp2_with fail
  refine hLn.mono ?_
  rintro e w1 ⟨rfl, rfl⟩
  go_wp2_with fail
  go_ret
  exact ⟨rfl, rfl⟩
theorem Torn_nil (w : World) : Calls Try.prog 16 #[.pointer none] w fun e w' => e = .returned (.int .i64 0) ∧ w = w' := by
  go_enter Try.func16, Try.ntmps16
  go_wp2_with fail
  go_ret
  exact ⟨rfl, rfl⟩
theorem Torn_any (w : World) (d : Nat) (l : List UInt8) (k : Nat) (V : Nat → Prop) (hD : DiskAt 44 d l k w V) (hV : ∀ b, V b → b < w.heap.size) :
    Calls Try.prog 16 #[.pointer (some ⟨d, 0, none⟩)] w fun e w' => ∃ (xs : List (List UInt8)) (j : Nat), ScanIs l xs j ∧ e = .returned (.int .i64 ((l.length : Int) - (j : Int))) ∧ Grow w w' := by
  have hl := hD.2.2.1
  have hAll := All_any w d l k V hD
  go_enter Try.func16, Try.ntmps16
  go_wp2_with fail
  refine hAll.mono ?_
  rintro e w1 ⟨v1, rfl, hO1, hg1⟩
  obtain ⟨A1, c1, rfl, hR1, hn1, hm1⟩ := hO1.reads
  go_wp2_with fail
  refine (Scan_any w1 A1 l.length c1 l hR1 hn1 hm1 (by omega)).mono ?_
  rintro e w2 ⟨xs, j, u, hs, rfl, _, hg2⟩
  have hD2 := DiskAt.framed _ d l k w w2 V hD fun b hb => (hg1.trans hg2).block b (hV b hb)
  have hj := frames_len xs
  have hjl : j ≤ l.length := by rw [hs.2.1, ← hs.1, List.length_append]; omega
  have hsub : IntKind.i64.wrap ((l.length : Int) - (j : Int)) = (l.length : Int) - (j : Int) := by rw [IntKind.wrap_i64]; omega
  have hLn := Len_any w2 d l k V hD2
  go_wp2_with fail
  refine hLn.mono ?_
  rintro e w3 ⟨rfl, rfl⟩
  go_wp2_with fail
  go_ret
  exact ⟨xs, j, hs, rfl, hg1.trans hg2⟩
theorem Open_any (w : World) (d : Nat) (l : List UInt8) (k : Nat) (V : Nat → Prop) (hD : DiskAt 44 d l k w V) (hV : ∀ b, V b → b < w.heap.size) :
    Calls Try.prog 9 #[.pointer (some ⟨d, 0, none⟩)] w fun e w' => ∃ (xs : List (List UInt8)) (j x : Nat) (u : Value), ScanIs l xs j ∧ e = .returned (.tuple #[.pointer (some ⟨x, 0, none⟩), u]) ∧ IsXs xs w u w' ∧
      LogAt x d (xs.length : Int) (l.take j) j w' (Ext V w w') ∧ Just V w w' := by
  have hl := hD.2.2.1
  have hd := hD.1
  have hAll := All_any w d l k V hD
  go_enter Try.func9, Try.ntmps9
  go_wp2_with fail
  refine hAll.mono ?_
  rintro e w1 ⟨v1, rfl, hO1, hg1⟩
  obtain ⟨A1, c1, rfl, hR1, hn1, hm1⟩ := hO1.reads
  go_wp2_with fail
  refine (Scan_any w1 A1 l.length c1 l hR1 hn1 hm1 (by omega)).mono ?_
  rintro e w2 ⟨xs, j, u, hs, rfl, hX, hg2⟩
  have hg12 := hg1.trans hg2
  have hD2 := DiskAt.framed _ d l k w w2 V hD fun b hb => hg12.block b (hV b hb)
  have hjl : j ≤ l.length := by rw [hs.2.1, ← hs.1, List.length_append]; omega
  have hC := Cut_yes w2 d l k j hjl V hD2 (fun b hb => Nat.lt_of_lt_of_le (hV b hb) hg12.size)
  obtain ⟨A2, c2, q, rfl, hB2, hq, hqc, hcm⟩ := hX
  clear hO1 hR1
  go_wp2_with fail
  refine hC.mono ?_
  rintro e w3 ⟨rfl, hD3, hj3⟩
  go_wp2_with fail
  go_ret2
  have hga : Grow w3 (w3.alloc (.cells #[.pointer (some ⟨d, 0, none⟩), .int .i64 (q.length : Int)] 50)) := (Below.refl _ w3).alloc (Nat.le_refl _) _
  have hs1 := hg1.size
  have hs2 := hg2.size
  have hs3 := hj3.size
  have hsa : (w3.alloc (.cells #[.pointer (some ⟨d, 0, none⟩), .int .i64 (q.length : Int)] 50)).heap.size = w3.heap.size + 1 := by simp
  refine ⟨xs, j, w3.heap.size, _, hs, rfl, ⟨A2, c2, q, rfl, ?_, hq, hqc, hcm⟩, ⟨.inr ⟨by omega, by omega⟩, ?_, ?_⟩, (Just.of_grow hg12).trans (hj3.trans (Just.of_grow hga))⟩
  · have hn : ∀ b, New w1 w2 b → ¬ V b := fun b hb hv => by have := hV b hv; have := hb.1; omega
    exact ((hB2.just hj3 hn hn).grow hga).mono (fun b hb => ⟨by have := hb.1; omega, by have := hb.2; omega⟩) (fun b hb => ⟨by have := hb.1; omega, by have := hb.2; omega⟩)
  · have h := Blk.made w3 50 #[.pointer (some ⟨d, 0, none⟩), .int .i64 (q.length : Int)]
    rw [← hq, List.length_map]
    exact h
  · refine (DiskAt.framed _ d _ _ w3 _ _ hD3 fun b hb => hga.block b ?_).wide fun b hb => ?_
    · rcases hb with hb | hb
      · have := hV b hb; omega
      · exact hb.2
    · rcases hb with hb | hb
      · exact ⟨.inl hb, by have := hV b hb; omega⟩
      · exact ⟨.inr ⟨by have := hb.1; omega, by have := hb.2; omega⟩, by have := hb.2; omega⟩
/-- what is answered when a record is appended, and what the disk has then -/
def recE (l b : List UInt8) : Int := if b.length ≤ 65536 then appE l (frame b) else 3
def recL (l b : List UInt8) : List UInt8 := if b.length ≤ 65536 then appL l (frame b) else l
theorem appE_zero {l b : List UInt8} : appE l b = 0 ↔ fits l b = true := by
  unfold appE
  split
  · simp_all
  · simp_all
theorem lAppend_any (w : World) (x d : Nat) (n : Int) (l : List UInt8) (k : Nat) (A : Option Addr) (m c : Nat) (b : List UInt8) (hb : Bytes w w.heap.size A m b) (hn : 0 ≤ n ∧ n ≤ 1099511627776) :
    Turns Try.prog 12 #[.pointer (some ⟨x, 0, none⟩), .slice A m c] (fun e => e = .returned (.int .i64 (recE l b))) (LogAt x d n l k) (LogAt x d (if recE l b = 0 then n + 1 else n) (recL l b) k) w := by
  intro V hL hV
  have hbl := hb.len
  by_cases hm : m ≤ 65536
  · have hm' : b.length ≤ 65536 := by omega
    unfold recE recL
    rw [if_pos hm', if_pos hm']
    cases hf : fits l (frame b) with
    | true =>
      have he0 : appE l (frame b) = 0 := appE_zero.2 hf
      rw [he0, if_pos rfl]
      have hB := hL.2.1
      go_enter Try.func12, Try.ntmps12
      go_wp2_with fail
      refine (Bytes_any w A m c b hb hm).mono ?_
      rintro e w1 ⟨v1, rfl, hO1, hg1⟩
      obtain ⟨A1, c1, rfl, hR1, hn1, hm1⟩ := hO1.reads
      have c0 := (hB.grow hg1).cell 0
      have hL1 := LogAt.framed x d n l k w w1 V hL fun b hb => hg1.block b (hV b hb)
      have ht := LogAt.turn (x := x) (n := n) (Append_any w1 d l k A1 (frame b).length c1 (frame b) hR1) V hL1 (fun b hb => Nat.lt_of_lt_of_le (hV b hb) hg1.size)
      rw [he0] at ht
      clear he0
      go_wp2_with fail
      refine ht.mono ?_
      rintro e w2 ⟨rfl, hL2, hj2⟩
      have c1 := hL2.2.1.cell 1
      have f1 := hL2.2.1.frozen 1
      have hw1 : IntKind.i64.wrap (n + 1) = n + 1 := by rw [IntKind.wrap_i64]; omega
      go_wp2_with fail
      go_ret
      refine ⟨rfl, ⟨.inl hL.1, hL2.2.1.put 1 _, ?_⟩, ((Just.of_grow hg1).trans hj2).put hL.1 1 _⟩
      refine (DiskAt.framed _ d _ _ w2 _ _ hL2.2.2 fun b hb => (just_at w2 x 1 _).block b ?_ hb.2).wide fun b hb => ⟨?_, hb.2⟩
      · have := hj2.size
        rcases hb.1 with h | h
        · have := hV b h; have := hg1.size; omega
        · exact h.2
      · rcases hb.1 with h | h
        · exact .inl h
        · exact .inr ⟨Nat.le_trans hg1.size h.1, by rw [setCell_size]; exact h.2⟩
    | false =>
      have he0 : appE l (frame b) = 24 := by unfold appE; rw [hf]; rfl
      rw [he0, if_neg (by decide)]
      have hB := hL.2.1
      go_enter Try.func12, Try.ntmps12
      go_wp2_with fail
      refine (Bytes_any w A m c b hb hm).mono ?_
      rintro e w1 ⟨v1, rfl, hO1, hg1⟩
      obtain ⟨A1, c1, rfl, hR1, hn1, hm1⟩ := hO1.reads
      have c0 := (hB.grow hg1).cell 0
      have hL1 := LogAt.framed x d n l k w w1 V hL fun b hb => hg1.block b (hV b hb)
      have ht := LogAt.turn (x := x) (n := n) (Append_any w1 d l k A1 (frame b).length c1 (frame b) hR1) V hL1 (fun b hb => Nat.lt_of_lt_of_le (hV b hb) hg1.size)
      rw [he0] at ht
      clear he0
      go_wp2_with fail
      refine ht.mono ?_
      rintro e w2 ⟨rfl, hL2, hj2⟩
      go_wp2_with fail
      go_ret
      refine ⟨rfl, hL2.wide fun b hb => ?_, (Just.of_grow hg1).trans hj2⟩
      rcases hb with h | h
      · exact .inl h
      · exact .inr ⟨Nat.le_trans hg1.size h.1, h.2⟩
  · have hm' : ¬ b.length ≤ 65536 := by omega
    unfold recE recL
    rw [if_neg hm', if_neg hm', if_neg (by omega)]
    go_enter Try.func12, Try.ntmps12
    go_wp2_with fail
    refine (Bytes_long w A m c (by omega)).mono ?_
    rintro e w1 ⟨rfl, rfl⟩
    go_wp2_with fail
    go_ret
    exact ⟨rfl, hL.wide fun b hb => .inl hb, Just.of_grow (Grow.refl w)⟩
/-- the answer's log -/
theorem rOpen_any (w : World) (d : Nat) (l : List UInt8) (k : Nat) (V : Nat → Prop) (hD : DiskAt 61 d l k w V) (hV : ∀ b, V b → b < w.heap.size) :
    Calls Try.prog 32 #[.pointer (some ⟨d, 0, none⟩)] w fun e w' => ∃ (xs : List (List UInt8)) (j : Nat) (u : Value), ScanIs l xs j ∧ e = .returned u ∧ IsXs xs w u w' ∧
      DiskAt 61 d (l.take j) j w' (Ext V w w') ∧ Just V w w' := by
  obtain ⟨hd, hk, hl, v, hB, hO⟩ := id hD
  obtain ⟨A1, c1, rfl, hR1, hn1, hm1⟩ := hO.reads
  have c0 := hB.cell 0
  go_enter Try.func32, Try.ntmps32
  go_wp2_with fail
  refine (rScan_any w A1 l.length c1 l hR1 hn1 hm1 (by omega)).mono ?_
  rintro e w2 ⟨xs, j, u, hs, rfl, hX, hg12⟩
  have hD2 := DiskAt.framed _ d l k w w2 V hD fun b hb => hg12.block b (hV b hb)
  have hjl : j ≤ l.length := by rw [hs.2.1, ← hs.1, List.length_append]; omega
  have hC := rCut_yes w2 d l k j hjl V hD2 (fun b hb => Nat.lt_of_lt_of_le (hV b hb) hg12.size)
  obtain ⟨A2, c2, q, rfl, hB2, hq, hqc, hcm⟩ := hX
  clear hO hR1
  go_wp2_with fail
  refine hC.mono ?_
  rintro e w3 ⟨rfl, hD3, hj3⟩
  go_wp2_with fail
  go_ret
  have hs2 := hg12.size
  have hs3 := hj3.size
  refine ⟨xs, j, _, hs, rfl, ⟨A2, c2, q, rfl, ?_, hq, hqc, hcm⟩, hD3.wide fun b hb => ?_, (Just.of_grow hg12).trans hj3⟩
  · have hn : ∀ b, New w w2 b → ¬ V b := fun b hb hv => by have := hV b hv; have := hb.1; omega
    exact (hB2.just hj3 hn hn).mono (fun b hb => ⟨hb.1, by have := hb.2; omega⟩) (fun b hb => ⟨hb.1, by have := hb.2; omega⟩)
  · rcases hb with hb | hb
    · exact .inl hb
    · exact .inr ⟨by have := hb.1; omega, hb.2⟩
theorem rRecord_any (w : World) (d : Nat) (l : List UInt8) (k : Nat) (A : Option Addr) (m c : Nat) (b : List UInt8) (hb : Bytes w w.heap.size A m b) :
    Turns Try.prog 36 #[.pointer (some ⟨d, 0, none⟩), .slice A m c] (fun e => e = .returned (.int .i64 (recE l b))) (DiskAt 61 d l k) (DiskAt 61 d (recL l b) k) w := by
  intro V hD hV
  have hbl := hb.len
  unfold recE recL
  by_cases hm : m ≤ 65536
  · have hm' : b.length ≤ 65536 := by omega
    rw [if_pos hm', if_pos hm']
    go_enter Try.func36, Try.ntmps36
    go_wp2_with fail
    refine (rFrame_any w A m c b hb (by omega)).mono ?_
    rintro e w1 ⟨v1, rfl, hO1, hg1⟩
    obtain ⟨A1, c1, rfl, hR1, hn1, hm1⟩ := hO1.reads
    have hD1 := DiskAt.framed _ d l k w w1 V hD fun b hb => hg1.block b (hV b hb)
    have ht := rAppend_any w1 d l k A1 (frame b).length c1 (frame b) hR1 V hD1 (fun b hb => Nat.lt_of_lt_of_le (hV b hb) hg1.size)
    go_wp2_with fail
    refine ht.mono ?_
    rintro e w2 ⟨rfl, hD2, hj2⟩
    go_wp2_with fail
    go_ret
    refine ⟨rfl, hD2.wide fun b hb => ?_, (Just.of_grow hg1).trans hj2⟩
    rcases hb with h | h
    · exact .inl h
    · exact .inr ⟨Nat.le_trans hg1.size h.1, h.2⟩
  · have hm' : ¬ b.length ≤ 65536 := by omega
    rw [if_neg hm', if_neg hm']
    go_enter Try.func36, Try.ntmps36
    go_wp2_with fail
    go_ret
    exact ⟨rfl, hD.wide fun b hb => .inl hb, Just.of_grow (Grow.refl w)⟩
end Go.Proofs.Ytdpcokekilklfaa
