/- The answer's Get; does a sum run over. -/
import Derived.Test.YtnijeemldhmkjaaCmay
namespace Go.Proofs.Ytnijeemldhmkjaa
open Go.RowKit Go.Hop
theorem rGet_any (w : World) (r : Nat) (q : Sm) (V : Nat → Prop) (h : RSums r q w V) (x : ByteArray) :
    Calls Try.prog 27 #[.pointer (some ⟨r, 0, none⟩), .string x] w fun e w' => e = .returned (.int .u64 ((gt q x : Nat) : Int)) ∧ Grow w w' := by
  have hat := rAt_any w r q V h x
  obtain ⟨h1, h2, h3, v, hB0, hO0⟩ := h
  obtain ⟨A, c, rfl, hI0, hnc, hcm⟩ := hO0.in_
  have hcut := Lib.hid (cut_at h2.srt x)
  have hgt : gt q x = (lk q x).getD 0 := rfl
  obtain ⟨C, HC⟩ : ∃ C : Nat, Hid (C = (cutA q x).length) := ⟨_, rfl⟩
  rw [← HC.out] at hat
  cases hl : lk q x with
  | none =>
    rw [hl] at hat hgt
    rw [hgt]
    go_enter Try.func27, Try.ntmps27
    go_wp2_with fail
    refine hat.mono ?_
    rintro e w1 ⟨rfl, hg1⟩
    go_wp2_with fail
    go_ret
    exact ⟨rfl, hg1⟩
  | some v =>
    have hv : gt q x = v := by rw [hgt, hl]; rfl
    obtain ⟨d, hd, hdx⟩ := hcut.out.1 (by rw [hl]; rfl)
    rw [← HC.out] at hd
    obtain ⟨hC, hd⟩ := List.getElem?_eq_some_iff.1 hd
    have hdv : d.2 = v := by
      have := srt_lk h2.srt (List.getElem_mem hC)
      rw [hd, hdx, hl] at this
      injection this with this; exact this.symm
    rw [hl] at hat
    rw [hv]
    clear hgt hv hl hcut HC
    obtain ⟨ad, hqk, rfl, he0, he1⟩ := del_at hI0 hC
    rw [hd, hdv] at he1
    clear he0 hd hdv hdx
    go_enter Try.func27, Try.ntmps27
    go_wp2_with fail
    refine hat.mono ?_
    rintro e w1 ⟨rfl, hg1⟩
    have c0 := (hB0.grow hg1).cell 0
    have e1 := he1 w1 hg1
    clear hat he1
    go_wp2_with fail
    go_ret
    exact ⟨rfl, hg1⟩
theorem tot_take_succ {l : List Dl} {k : Nat} (hk : k < l.length) (x : ByteArray) : tot (l.take (k + 1)) x = tot (l.take k) x + (if l[k].1 = x then l[k].2 else 0) := by
  rw [List.take_succ_eq_append_getElem hk]
  unfold tot
  rw [List.filter_append, List.map_append, List.sum_append]
  by_cases h : l[k].1 = x <;> simp [h]
theorem tot_take_le (l : List Dl) (k : Nat) (x : ByteArray) : tot (l.take k) x ≤ tot l x := by
  have := gt_add [] (l.take k ++ l.drop k) x
  rw [add_append, gt_add, gt_add, List.take_append_drop] at this
  have h0 : gt ([] : Sm) x = 0 := rfl
  omega
set_option maxRecDepth 100000 in
theorem rOver_any (w : World) (r : Nat) (q : Sm) (V : Nat → Prop) (h : RSums r q w V) (A : Option Addr) (n c : Nat) (l : List Dl) (D : Nat → Prop) (hl : In w D 2 A n (dcells l)) (hd : ∀ d ∈ l, d.1.size ≤ maxLen ∧ d.2 ≤ M64) (hn : n ≤ 1048576) (x : ByteArray) :
    Calls Try.prog 35 #[.pointer (some ⟨r, 0, none⟩), .slice A n c, .string x] w fun e w' => e = .returned (.bool (decide (M64 < gt q x + tot l x))) ∧ Grow w w' := by
  have hln : l.length = n := by have := hl.1; rw [dcells_len] at this; omega
  have hget := rGet_any w r q V h x
  have hgm := h.2.1.gt x
  obtain ⟨B, HB⟩ : ∃ B : Bool, Hid (B = decide (M64 < gt q x + tot l x)) := ⟨_, rfl⟩
  rw [← HB.out]
  generalize hG : gt q x = G at hget hgm HB
  clear hG
  go_enter Try.func35, Try.ntmps35
  go_wp2_with fail
  refine hget.mono ?_
  rintro e w1 ⟨rfl, hg1⟩
  clear hget
  go_wp2_with fail
  go_loopw [7, 15] (fun g i wr => ∃ k : Nat, k ≤ n ∧ i = .int .i64 (k : Int) ∧ g = .int .u64 ((G + tot (l.take k) x : Nat) : Int) ∧ G + tot (l.take k) x ≤ M64 ∧ Grow w wr) (fun _ i _ => n - (intOf i).toNat)
  case atStart => exact ⟨0, by omega, rfl, rfl, hgm, hg1⟩
  case round =>
    obtain ⟨k, hkn, rfl, rfl, hle, hgw⟩ := hrel
    by_cases hk : k < n
    · have hkt : decide ((k : Int) < (n : Int)) = true := decide_eq_true (by omega)
      obtain ⟨ad, hqk, rfl, he0, he1⟩ := del_at (hl.grow hgw) hk
      have hdk := hd _ (List.getElem_mem hqk)
      have hts := tot_take_succ hqk x
      have htl := tot_take_le l (k + 1) x
      generalize l[k] = dk at he0 he1 hdk hts
      have f0 := he0 _ (Grow.refl _)
      have f1 := he1 _ (Grow.refl _)
      have hga : Grow wr (wr.alloc (.cells #[.string dk.1, .int .u64 (dk.2 : Int)] 34)) := (Below.refl _ wr).alloc (Nat.le_refl _) _
      have hgwa := below_trans hgw hga hgw.size
      have k0 := (Blk.made wr 34 #[.string dk.1, .int .u64 (dk.2 : Int)]).cell 0
      have k1 := (Blk.made wr 34 #[.string dk.1, .int .u64 (dk.2 : Int)]).cell 1
      generalize tot (l.take k) x = T at hle hts ⊢
      generalize hT2 : tot (l.take (k + 1)) x = T2 at hts htl
      by_cases hx : dk.1 = x
      · rw [if_pos hx] at hts
        have hx' : (dk.1.toList == x.toList) = true := beq_iff_eq.2 (txt_eq.2 hx)
        clear hx
        by_cases ho : G + T + dk.2 ≤ M64
        · unfold M64 at ho hle
          have hw : IntKind.u64.wrap (((G + T : Nat) : Int) + (dk.2 : Int)) = ((G + T + dk.2 : Nat) : Int) := by rw [IntKind.wrap_u64]; omega
          have hlt : decide (((G + T + dk.2 : Nat) : Int) < ((G + T : Nat) : Int)) = false := decide_eq_false (by omega)
          obtain ⟨GT, HGT⟩ : ∃ GT : Nat, Hid (GT = G + T) := ⟨_, rfl⟩
          rw [← HGT.out] at hw hlt ⊢
          have hlt' : decide (GT + dk.2 < GT) = false := decide_eq_false (by omega)
          go_wp2_with fail
          go_roundw
          case rel => exact ⟨k + 1, by omega, by go_num, by rw [hT2, hts, HGT.out]; go_num, by rw [hT2, hts]; unfold M64; omega, hgwa⟩
          case measure => simp [intOf]; omega
        · obtain rfl : B = true := by rw [HB.out]; exact decide_eq_true (by omega)
          unfold M64 at ho hle hdk
          have hw : IntKind.u64.wrap (((G + T : Nat) : Int) + (dk.2 : Int)) = ((G + T + dk.2 - 18446744073709551616 : Nat) : Int) := by rw [IntKind.wrap_u64]; omega
          obtain ⟨GT, HGT⟩ : ∃ GT : Nat, Hid (GT = G + T) := ⟨_, rfl⟩
          have hle2 : GT ≤ 18446744073709551615 := by rw [HGT.out]; exact hle
          have hgt2 : 18446744073709551615 < GT + dk.2 := by rw [HGT.out]; omega
          rw [← HGT.out] at hw ⊢
          have hlt' : decide (GT + dk.2 - 18446744073709551616 < GT) = true := decide_eq_true (by omega)
          clear hle ho
          go_wp2_with fail
          go_ret
          exact ⟨rfl, hgwa⟩
      · rw [if_neg hx] at hts
        have hx' : (dk.1.toList == x.toList) = false := beq_eq_false_iff_ne.2 fun e => hx (txt_eq.1 e)
        clear hx
        go_wp2_with fail
        go_roundw
        case rel => exact ⟨k + 1, by omega, by go_num, by rw [hT2, hts]; first | rfl | go_num, by rw [hT2, hts]; omega, hgwa⟩
        case measure => simp [intOf]; omega
    · obtain rfl : k = n := by omega
      have hkt : decide ((k : Int) < (k : Int)) = false := decide_eq_false (by omega)
      rw [List.take_of_length_le (by omega)] at hle
      obtain rfl : B = false := by rw [HB.out]; exact decide_eq_false (by omega)
      go_wp2_with fail
      go_ret
      exact ⟨rfl, hgw⟩
end Go.Proofs.Ytnijeemldhmkjaa
