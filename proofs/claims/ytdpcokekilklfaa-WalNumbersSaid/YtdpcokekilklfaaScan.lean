/- What Scan tells. -/
import Derived.Test.YtdpcokekilklfaaSplain
namespace Go.Proofs.Ytdpcokekilklfaa
open Go.RowKit Go.Hop
set_option maxRecDepth 100000 in
theorem Scan_any (w : World) (A : Option Addr) (n c : Nat) (l : List UInt8) (hb : Bytes w w.heap.size A n l) (hnc : n ≤ c) (hcm : c ≤ maxLen) (hn : n ≤ 1099511627776) :
    Calls Try.prog 20 #[.slice A n c] w fun e w' => ∃ (xs : List (List UInt8)) (k : Nat) (u : Value), ScanIs l xs k ∧ e = .returned (.tuple #[u, .int .i64 (k : Int)]) ∧ IsXs xs w u w' ∧ Grow w w' := by
  have hlen := hb.len
  go_enter Try.func20, Try.ntmps20
  go_wp2_with fail
  go_loopw [4, 5] (fun s i wr => ∃ (k : Nat) (q : List Bx) (R D : Nat → Prop), k ≤ n ∧ i = .int .i64 (k : Int) ∧ Own wr R 29 1 s q.length (q.flatMap Bx.cells) ∧ (∀ b ∈ q, BxIn wr D b) ∧ (∀ x ∈ q.map Bx.bs, x.length ≤ 65536) ∧ l.take k = (q.map Bx.bs).flatMap frame ∧ (∀ b, R b → New w wr b ∧ ¬ D b) ∧ (∀ b, D b → New w wr b) ∧ Grow w wr) (fun _ i _ => n - (intOf i).toNat)
  case atStart => exact ⟨0, [], fun _ => False, fun _ => False, by omega, rfl, Own.nil, by simp, by simp, by simp, fun _ h => h.elim, fun _ h => h.elim, Grow.refl _⟩
  case round =>
    obtain ⟨k, q, R, D, hkn, rfl, hO, hin, h6, hfr, hR, hD, hg⟩ := hrel
    obtain ⟨A1, c1, rfl, hI1, hnc1, hm1⟩ := hO.in_
    have hq5 : 5 * q.length ≤ k := by
      have h1 := frames_len (q.map Bx.bs)
      rw [← hfr, List.length_take, List.length_map] at h1; omega
    have hsr := hg.size
    have hbr : Bytes wr wr.heap.size A n l := Reads.more (Reads.below hb hg) hg.size
    have hR' := Reads.cut hbr (k := k) (cap := c) hkn hnc
    have hb' : Bytes wr wr.heap.size (if c = k then A else A.map (·.add k)) (n - k) (l.drop k) := by
      simp only [Nat.mul_one] at hR'
      unfold Bytes; rw [u8s_drop, Nat.mul_one]; exact hR'
    have hdone : ∀ (w1 : World), Grow wr w1 → NoFrame (l.drop k) → ∃ (xs : List (List UInt8)) (k' : Nat) (u : Value), ScanIs l xs k' ∧ Ending.returned (.tuple #[.slice A1 q.length c1, .int .i64 (k : Int)]) = .returned (.tuple #[u, .int .i64 (k' : Int)]) ∧ IsXs xs w u w1 ∧ Grow w w1 := fun w1 hg1 hno =>
      ⟨q.map Bx.bs, k, _, frames_done hfr (by omega) h6 hno, rfl, ⟨A1, c1, q, rfl, ⟨(hI1.mono fun b hb => (⟨(hR b hb).1.1, by have := (hR b hb).1.2; have := hg1.size; omega⟩ : New w w1 b)).grow hg1, fun b hb => ((hin b hb).mono fun x hx => (⟨(hD x hx).1, by have := (hD x hx).2; have := hg1.size; omega⟩ : New w w1 x)).grow hg1⟩, rfl, hnc1, hm1⟩, hg.trans hg1⟩
    by_cases hck : c = k
    · rw [if_pos hck] at hb'
      have hnk : n = k := by omega
      go_wp2_with fail
      go_at_call 37
      rw [show n - k = 0 by omega] at hb'
      refine (Read_any _ _ 0 0 (l.drop k) hb' (by omega) (by omega)).mono ?_
      rintro e w1 ⟨x, k', ok, v, hRd, rfl, hO1, hg1⟩
      rcases hRd with ⟨_, hx6, hpre, hk'⟩ | ⟨rfl, hno, rfl, rfl⟩
      · exfalso
        have h1 := hpre.length_le
        have h2 := frame_five x
        rw [List.length_drop] at h1; omega
      · go_wp2_with fail
        go_ret2
        exact hdone w1 hg1 hno
    · rw [if_neg hck] at hb'
      go_wp2_with fail
      go_at_call 37
      refine (Read_any _ _ (n - k) (c - k) (l.drop k) hb' (by omega) (by omega)).mono ?_
      rintro e w1 ⟨x, k', ok, v, hRd, rfl, hO1, hg1⟩
      rcases hRd with ⟨rfl, hx6, hpre, hk'⟩ | ⟨rfl, hno, rfl, rfl⟩
      · have hpl := hpre.length_le
        rw [List.length_drop] at hpl
        have h5 := frame_five x
        have HF := Lib.hid (frames_more hfr hpre)
        obtain ⟨A2, c2, rfl, hI2, hnc2, hm2⟩ := hO1.in_
        have hwk : IntKind.i64.wrap ((k : Int) + (k' : Int)) = (k : Int) + (k' : Int) := by rw [IntKind.wrap_i64]; omega
        have hs1 := hg1.size
        have hgB := (Below.refl w1.heap.size w1).alloc (Nat.le_refl _) (.cells #[.slice A2 x.length c2] 29)
        have hRlt : ∀ b, R b → b < wr.heap.size := fun b hb => (hR b hb).1.2
        go_wp2_with (at_builtin; refine stay ?_)
        refine stay_out ?_
        refine wpList_own (V := R) bxE _ rfl (.tmp 21) (.tmp 23) rfl (.slice A1 q.length c1) q.length (q.flatMap Bx.cells) rfl (((hO.grow hRlt hg1).grow (fun b hb => by have := hRlt b hb; omega) hgB)) (w1.heap.size + 1) (some ⟨w1.heap.size, 0, none⟩) 1 1 (Bx.cells ⟨A2, x.length, c2, x⟩) rfl (reads_laid w1 _ 29 _ rfl _ rfl) (bx_one _) (by omega) ?_
        intro v2 w2 hO2 hj2
        have hs2 := hj2.size
        simp only [alloc_size] at hs2
        have hgj : Below w.heap.size w1 w2 := Below.trans (hgB.mono (by omega)) (hj2.below (B := w.heap.size) (fun b hb => (hR b hb).1.1) (by simp; omega))
        have hg2 : Grow w w2 := Below.trans (hg.trans hg1) hgj
        have hD2 : ∀ b : Bx, BxIn w1 D b → BxIn w2 D b := fun b hb => (hb.grow hgB).just hj2 fun x hx hr => (hR x hr).2 hx
        have hN2 : ∀ b : Bx, BxIn w1 (New wr w1) b → BxIn w2 (New wr w1) b := fun b hb => (hb.grow hgB).just hj2 fun x hx hr => by have := hx.1; have := hRlt x hr; omega
        go_wp2_with fail
        go_roundw
        case rel =>
          refine ⟨k + k', q ++ [⟨A2, x.length, c2, x⟩], Ext R (w1.alloc (.cells #[.slice A2 x.length c2] 29)) w2, fun b => D b ∨ New wr w1 b, by omega, by go_num, ?_, fun b hb => ?_, fun y hy => ?_, ?_, fun b hb => ?_, fun b hb => ?_, hg2⟩
          · rw [List.flatMap_append, List.flatMap_cons, List.flatMap_nil, List.append_nil, List.length_append]; exact hO2
          · rcases List.mem_append.1 hb with hb | hb
            · exact (hD2 b ((hin b hb).grow hg1)).mono fun _ => .inl
            · rw [List.mem_singleton.1 hb]; exact (hN2 ⟨A2, x.length, c2, x⟩ ⟨hI2, hnc2, hm2⟩).mono fun _ => .inr
          · rw [List.map_append] at hy
            rcases List.mem_append.1 hy with hy | hy
            · exact h6 y hy
            · rw [List.mem_singleton.1 hy]; exact hx6
          · rw [List.map_append, hk', HF.out]; rfl
          · rcases hb with hb | ⟨h1, h2⟩
            · refine ⟨⟨(hR b hb).1.1, by have := hRlt b hb; omega⟩, fun hd => ?_⟩
              rcases hd with hd | hd
              · exact (hR b hb).2 hd
              · have := hd.1; have := hRlt b hb; omega
            · simp only [alloc_size] at h1
              refine ⟨⟨by omega, h2⟩, fun hd => ?_⟩
              rcases hd with hd | hd
              · have := (hD b hd).2; omega
              · have := hd.2; omega
          · rcases hb with hb | hb
            · have := hD b hb; exact ⟨this.1, by have := this.2; omega⟩
            · have h1 := hb.1; have h2 := hb.2; exact ⟨by omega, by omega⟩
        case measure => simp [intOf]; omega
      · go_wp2_with fail
        go_ret2
        exact hdone w1 hg1 hno
set_option maxRecDepth 100000 in
theorem rScan_any (w : World) (A : Option Addr) (n c : Nat) (l : List UInt8) (hb : Bytes w w.heap.size A n l) (hnc : n ≤ c) (hcm : c ≤ maxLen) (hn : n ≤ 1099511627776) :
    Calls Try.prog 31 #[.slice A n c] w fun e w' => ∃ (xs : List (List UInt8)) (k : Nat) (u : Value), ScanIs l xs k ∧ e = .returned (.tuple #[u, .int .i64 (k : Int)]) ∧ IsXs xs w u w' ∧ Grow w w' := by
  have hlen := hb.len
  go_enter Try.func31, Try.ntmps31
  go_wp2_with fail
  go_loopw [4, 5] (fun s i wr => ∃ (k : Nat) (q : List Bx) (R D : Nat → Prop), k ≤ n ∧ i = .int .i64 (k : Int) ∧ Own wr R 29 1 s q.length (q.flatMap Bx.cells) ∧ (∀ b ∈ q, BxIn wr D b) ∧ (∀ x ∈ q.map Bx.bs, x.length ≤ 65536) ∧ l.take k = (q.map Bx.bs).flatMap frame ∧ (∀ b, R b → New w wr b ∧ ¬ D b) ∧ (∀ b, D b → New w wr b) ∧ Grow w wr) (fun _ i _ => n - (intOf i).toNat)
  case atStart => exact ⟨0, [], fun _ => False, fun _ => False, by omega, rfl, Own.nil, by simp, by simp, by simp, fun _ h => h.elim, fun _ h => h.elim, Grow.refl _⟩
  case round =>
    obtain ⟨k, q, R, D, hkn, rfl, hO, hin, h6, hfr, hR, hD, hg⟩ := hrel
    obtain ⟨A1, c1, rfl, hI1, hnc1, hm1⟩ := hO.in_
    have hq5 : 5 * q.length ≤ k := by
      have h1 := frames_len (q.map Bx.bs)
      rw [← hfr, List.length_take, List.length_map] at h1; omega
    have hsr := hg.size
    have hbr : Bytes wr wr.heap.size A n l := Reads.more (Reads.below hb hg) hg.size
    have hR' := Reads.cut hbr (k := k) (cap := c) hkn hnc
    have hb' : Bytes wr wr.heap.size (if c = k then A else A.map (·.add k)) (n - k) (l.drop k) := by
      simp only [Nat.mul_one] at hR'
      unfold Bytes; rw [u8s_drop, Nat.mul_one]; exact hR'
    have hdone : ∀ (w1 : World), Grow wr w1 → NoFrame (l.drop k) → ∃ (xs : List (List UInt8)) (k' : Nat) (u : Value), ScanIs l xs k' ∧ Ending.returned (.tuple #[.slice A1 q.length c1, .int .i64 (k : Int)]) = .returned (.tuple #[u, .int .i64 (k' : Int)]) ∧ IsXs xs w u w1 ∧ Grow w w1 := fun w1 hg1 hno =>
      ⟨q.map Bx.bs, k, _, frames_done hfr (by omega) h6 hno, rfl, ⟨A1, c1, q, rfl, ⟨(hI1.mono fun b hb => (⟨(hR b hb).1.1, by have := (hR b hb).1.2; have := hg1.size; omega⟩ : New w w1 b)).grow hg1, fun b hb => ((hin b hb).mono fun x hx => (⟨(hD x hx).1, by have := (hD x hx).2; have := hg1.size; omega⟩ : New w w1 x)).grow hg1⟩, rfl, hnc1, hm1⟩, hg.trans hg1⟩
    by_cases hck : c = k
    · rw [if_pos hck] at hb'
      have hnk : n = k := by omega
      go_wp2_with fail
      go_at_call 44
      rw [show n - k = 0 by omega] at hb'
      refine (rRead_any _ _ 0 0 (l.drop k) hb' (by omega) (by omega)).mono ?_
      rintro e w1 ⟨x, k', ok, v, hRd, rfl, hO1, hg1⟩
      rcases hRd with ⟨_, hx6, hpre, hk'⟩ | ⟨rfl, hno, rfl, rfl⟩
      · exfalso
        have h1 := hpre.length_le
        have h2 := frame_five x
        rw [List.length_drop] at h1; omega
      · go_wp2_with fail
        go_ret2
        exact hdone w1 hg1 hno
    · rw [if_neg hck] at hb'
      go_wp2_with fail
      go_at_call 44
      refine (rRead_any _ _ (n - k) (c - k) (l.drop k) hb' (by omega) (by omega)).mono ?_
      rintro e w1 ⟨x, k', ok, v, hRd, rfl, hO1, hg1⟩
      rcases hRd with ⟨rfl, hx6, hpre, hk'⟩ | ⟨rfl, hno, rfl, rfl⟩
      · have hpl := hpre.length_le
        rw [List.length_drop] at hpl
        have h5 := frame_five x
        have HF := Lib.hid (frames_more hfr hpre)
        obtain ⟨A2, c2, rfl, hI2, hnc2, hm2⟩ := hO1.in_
        have hwk : IntKind.i64.wrap ((k : Int) + (k' : Int)) = (k : Int) + (k' : Int) := by rw [IntKind.wrap_i64]; omega
        have hs1 := hg1.size
        have hgB := (Below.refl w1.heap.size w1).alloc (Nat.le_refl _) (.cells #[.slice A2 x.length c2] 29)
        have hRlt : ∀ b, R b → b < wr.heap.size := fun b hb => (hR b hb).1.2
        go_wp2_with (at_builtin; refine stay ?_)
        refine stay_out ?_
        refine wpList_own (V := R) bxE _ rfl (.tmp 21) (.tmp 23) rfl (.slice A1 q.length c1) q.length (q.flatMap Bx.cells) rfl (((hO.grow hRlt hg1).grow (fun b hb => by have := hRlt b hb; omega) hgB)) (w1.heap.size + 1) (some ⟨w1.heap.size, 0, none⟩) 1 1 (Bx.cells ⟨A2, x.length, c2, x⟩) rfl (reads_laid w1 _ 29 _ rfl _ rfl) (bx_one _) (by omega) ?_
        intro v2 w2 hO2 hj2
        have hs2 := hj2.size
        simp only [alloc_size] at hs2
        have hgj : Below w.heap.size w1 w2 := Below.trans (hgB.mono (by omega)) (hj2.below (B := w.heap.size) (fun b hb => (hR b hb).1.1) (by simp; omega))
        have hg2 : Grow w w2 := Below.trans (hg.trans hg1) hgj
        have hD2 : ∀ b : Bx, BxIn w1 D b → BxIn w2 D b := fun b hb => (hb.grow hgB).just hj2 fun x hx hr => (hR x hr).2 hx
        have hN2 : ∀ b : Bx, BxIn w1 (New wr w1) b → BxIn w2 (New wr w1) b := fun b hb => (hb.grow hgB).just hj2 fun x hx hr => by have := hx.1; have := hRlt x hr; omega
        go_wp2_with fail
        go_roundw
        case rel =>
          refine ⟨k + k', q ++ [⟨A2, x.length, c2, x⟩], Ext R (w1.alloc (.cells #[.slice A2 x.length c2] 29)) w2, fun b => D b ∨ New wr w1 b, by omega, by go_num, ?_, fun b hb => ?_, fun y hy => ?_, ?_, fun b hb => ?_, fun b hb => ?_, hg2⟩
          · rw [List.flatMap_append, List.flatMap_cons, List.flatMap_nil, List.append_nil, List.length_append]; exact hO2
          · rcases List.mem_append.1 hb with hb | hb
            · exact (hD2 b ((hin b hb).grow hg1)).mono fun _ => .inl
            · rw [List.mem_singleton.1 hb]; exact (hN2 ⟨A2, x.length, c2, x⟩ ⟨hI2, hnc2, hm2⟩).mono fun _ => .inr
          · rw [List.map_append] at hy
            rcases List.mem_append.1 hy with hy | hy
            · exact h6 y hy
            · rw [List.mem_singleton.1 hy]; exact hx6
          · rw [List.map_append, hk', HF.out]; rfl
          · rcases hb with hb | ⟨h1, h2⟩
            · refine ⟨⟨(hR b hb).1.1, by have := hRlt b hb; omega⟩, fun hd => ?_⟩
              rcases hd with hd | hd
              · exact (hR b hb).2 hd
              · have := hd.1; have := hRlt b hb; omega
            · simp only [alloc_size] at h1
              refine ⟨⟨by omega, h2⟩, fun hd => ?_⟩
              rcases hd with hd | hd
              · have := (hD b hd).2; omega
              · have := hd.2; omega
          · rcases hb with hb | hb
            · have := hD b hb; exact ⟨this.1, by have := this.2; omega⟩
            · have h1 := hb.1; have h2 := hb.2; exact ⟨by omega, by omega⟩
        case measure => simp [intOf]; omega
      · go_wp2_with fail
        go_ret2
        exact hdone w1 hg1 hno
end Go.Proofs.Ytdpcokekilklfaa
