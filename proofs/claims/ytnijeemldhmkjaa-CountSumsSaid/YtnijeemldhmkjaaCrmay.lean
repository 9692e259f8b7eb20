/- The answer's May. -/
import Derived.Test.YtnijeemldhmkjaaCjoin
namespace Go.Proofs.Ytnijeemldhmkjaa
open Go.RowKit Go.Hop
theorem news_is {q : Sm} {l jl : List Dl} (hJ : Joined l jl) : news q (add [] l) = (jl.filter fun d => (lk q d.1).isNone).length := by
  have hsrt : Srt (add [] l) := by
    have : ∀ (l : List Dl) (q : Sm), Srt q → Srt (add q l) := by
      intro l
      induction l with
      | nil => intro q h; exact h
      | cons a l ih => intro q h; rw [add_cons]; exact ih _ (put_srt h _ _)
    exact this l [] List.Pairwise.nil
  have hn : ((add [] l).map (·.1)).Nodup := by
    unfold List.Nodup
    rw [List.pairwise_map]
    exact hsrt.imp fun h e => by rw [e, slt_irr] at h; cases h
  have hp : ((add [] l).map (·.1)).Perm (jl.map (·.1)) := (List.perm_ext_iff_of_nodup hn hJ.nodup).2 fun x => by
    rw [hJ.mem]
    have h1 := lk_add [] l x
    rw [lk_nil, Option.isSome_none, Bool.false_or, Bool.eq_iff_iff, List.any_eq_true] at h1
    constructor
    · intro hx
      obtain ⟨d, hd, rfl⟩ := List.mem_map.1 hx
      obtain ⟨e, he, hex⟩ := h1.1 (by rw [srt_lk hsrt hd]; rfl)
      exact ⟨e, he, of_decide_eq_true hex⟩
    · rintro ⟨d, hd, rfl⟩
      obtain ⟨v, hv⟩ := Option.isSome_iff_exists.1 (h1.2 ⟨d, hd, decide_eq_true rfl⟩)
      exact List.mem_map.2 ⟨_, lk_mem hv, rfl⟩
  have key : ∀ m : List Dl, (m.filter fun d => (lk q d.1).isNone).length = ((m.map (·.1)).filter fun x => (lk q x).isNone).length := fun m => by
    rw [List.filter_map, List.length_map]; rfl
  unfold news
  rw [key, key]
  exact (hp.filter _).length_eq
theorem mayE_over {q : Sm} {l : List Dl} (h : ∃ d ∈ l, M64 < gt q d.1 + tot l d.1) : mayE q l = 25 := by
  unfold mayE
  cases ho : okRun q [] l with
  | false => rfl
  | true =>
    obtain ⟨d, hd, hlt⟩ := h
    have := (okRun_is q l []).1 ho d hd
    have h0 : gt ([] : Sm) d.1 = 0 := rfl
    omega
theorem mayE_fits {q : Sm} {l jl : List Dl} (hJ : Joined l jl) (h : ∀ d ∈ l, gt q d.1 + tot l d.1 ≤ M64) : mayE q l = if q.length + (jl.filter fun d => (lk q d.1).isNone).length > 16 then 24 else 0 := by
  unfold mayE
  rw [(okRun_is q l []).2 fun d hd => by have := h d hd; have h0 : gt ([] : Sm) d.1 = 0 := rfl; omega, news_is hJ]
  rfl
set_option maxRecDepth 100000 in
set_option maxHeartbeats 1000000 in
theorem rMay_any (w : World) (r : Nat) (q : Sm) (V : Nat → Prop) (h : RSums r q w V) (hV : ∀ b, V b → b < w.heap.size) (A : Option Addr) (n c : Nat) (l : List Dl) (D : Nat → Prop) (hl : In w D 2 A n (dcells l)) (hDl : ∀ b, D b → b < w.heap.size) (hd : ∀ d ∈ l, d.1.size ≤ maxLen ∧ d.2 ≤ M64) (hn : n ≤ 1048576) (hq : q.length ≤ 16) :
    Calls Try.prog 24 #[.pointer (some ⟨r, 0, none⟩), .slice A n c] w fun e w' => e = .returned (.int .i64 (mayE q l)) ∧ Grow w w' := by
  have hln : l.length = n := by have := hl.1; rw [dcells_len] at this; omega
  have hS1 := fun w1 (hg : Grow w w1) => RSums.framed r q w w1 V h fun b hb => hg.block b (hV b hb)
  have hB0 : ∃ A c, Blk w r 58 #[.slice A q.length c] := by
    obtain ⟨_, _, _, v, hB, hO⟩ := h
    obtain ⟨A, c, rfl, _⟩ := hO.in_
    exact ⟨A, c, hB⟩
  obtain ⟨Aq, cq, hB0⟩ := hB0
  obtain ⟨E, HE⟩ : ∃ E : Int, Hid (E = mayE q l) := ⟨_, rfl⟩
  rw [← HE.out]
  go_enter Try.func24, Try.ntmps24
  go_wp2_with fail
  go_loopw [14] (fun i wr => ∃ k : Nat, k ≤ n ∧ i = .int .i64 (k : Int) ∧ (∀ d ∈ l.take k, gt q d.1 + tot l d.1 ≤ M64) ∧ Grow w wr) (fun i _ => n - (intOf i).toNat)
  case atStart => exact ⟨0, by omega, rfl, by simp, Grow.refl _⟩
  case round =>
    obtain ⟨k, hkn, rfl, hfit, hgw⟩ := hrel
    by_cases hk : k < n
    · have hkt : decide ((k : Int) < (n : Int)) = true := decide_eq_true (by omega)
      obtain ⟨ad, hqk, rfl, he0, he1⟩ := del_at (hl.grow hgw) hk
      have hmem : l[k] ∈ l := List.getElem_mem hqk
      have htk : l.take (k + 1) = l.take k ++ [l[k]] := List.take_succ_eq_append_getElem hqk
      generalize l[k] = dk at he0 he1 hmem htk
      have f0 := he0 _ (Grow.refl _)
      have f1 := he1 _ (Grow.refl _)
      have hga : Grow wr (wr.alloc (.cells #[.string dk.1, .int .u64 (dk.2 : Int)] 34)) := (Below.refl _ wr).alloc (Nat.le_refl _) _
      have hgwa := below_trans hgw hga hgw.size
      have k0 := (Blk.made wr 34 #[.string dk.1, .int .u64 (dk.2 : Int)]).cell 0
      have hov := rOver_any _ r q V (hS1 _ hgwa) (some ad) n c l D (hl.grow hgwa) hd hn dk.1
      clear he0 he1
      by_cases ho : M64 < gt q dk.1 + tot l dk.1
      · obtain rfl : E = 25 := HE.out.trans (mayE_over ⟨dk, hmem, ho⟩)
        rw [decide_eq_true ho] at hov
        go_wp2_with fail
        refine hov.mono ?_
        rintro e w1 ⟨rfl, hg1⟩
        go_wp2_with fail
        go_ret
        exact ⟨rfl, below_trans hgwa hg1 hgwa.size⟩
      · rw [decide_eq_false ho] at hov
        go_wp2_with fail
        refine hov.mono ?_
        rintro e w1 ⟨rfl, hg1⟩
        clear hov
        go_wp2_with fail
        go_roundw
        case rel =>
          refine ⟨k + 1, by omega, by go_num, fun d hd' => ?_, below_trans hgwa hg1 hgwa.size⟩
          rw [htk] at hd'
          rcases List.mem_append.1 hd' with hd' | hd'
          · exact hfit d hd'
          · rw [List.mem_singleton.1 hd']; omega
        case measure => simp [intOf]; omega
    · obtain rfl : k = n := by omega
      have hkt : decide ((k : Int) < (k : Int)) = false := decide_eq_false (by omega)
      rw [List.take_of_length_le (by omega)] at hfit
      have hjn := Join_any wr A k c l D (hl.grow hgw) (fun b hb => Nat.lt_of_lt_of_le (hDl b hb) hgw.size) hd hn
      go_wp2_with fail
      refine hjn.mono ?_
      rintro e w2 ⟨v, jl, rfl, hO, hJ, hjl, hg2⟩
      clear hjn
      obtain ⟨A1, c1, rfl, hI1, hn1, hm1⟩ := hO.in_
      have hgw2 := hgw.trans hg2
      have hE := HE.out.trans (mayE_fits hJ hfit)
      go_wp2_with fail
      go_loopw [5, 27] (fun m i wz => ∃ j : Nat, j ≤ jl.length ∧ i = .int .i64 (j : Int) ∧ m = .int .i64 ((((jl.take j).filter fun d => (lk q d.1).isNone).length : Nat) : Int) ∧ Grow w2 wz) (fun _ i _ => jl.length - (intOf i).toNat)
      case atStart => exact ⟨0, by omega, rfl, rfl, Grow.refl _⟩
      case round =>
        obtain ⟨j, hjn, rfl, rfl, hgz⟩ := hrel
        have hgwz := hgw2.trans hgz
        by_cases hj : j < jl.length
        · have hjt : decide ((j : Int) < (jl.length : Int)) = true := decide_eq_true (by omega)
          obtain ⟨ad, hqj, rfl, he0, he1⟩ := del_at (hI1.grow hgz) hj
          have htk : jl.take (j + 1) = jl.take j ++ [jl[j]] := List.take_succ_eq_append_getElem hqj
          have hle : ((jl.take j).filter fun d => (lk q d.1).isNone).length ≤ j := Nat.le_trans (List.length_filter_le _ _) (by rw [List.length_take]; omega)
          generalize jl[j] = dk at he0 he1 htk
          have f0 := he0 _ (Grow.refl _)
          have f1 := he1 _ (Grow.refl _)
          have hga : Grow wr (wr.alloc (.cells #[.string dk.1, .int .u64 (dk.2 : Int)] 34)) := (Below.refl _ wr).alloc (Nat.le_refl _) _
          have hgwa := below_trans hgwz hga hgwz.size
          have hgwb := below_trans hgz hga hgz.size
          have k0 := (Blk.made wr 34 #[.string dk.1, .int .u64 (dk.2 : Int)]).cell 0
          have hat := rAt_any _ r q V (hS1 _ hgwa) dk.1
          have hnx : ((jl.take (j + 1)).filter fun d => (lk q d.1).isNone).length = ((jl.take j).filter fun d => (lk q d.1).isNone).length + (if (lk q dk.1).isNone then 1 else 0) := by
            rw [htk, List.filter_append, List.length_append]
            congr 1
            rw [List.filter_cons]
            split <;> rfl
          clear he0 he1 htk
          generalize ((jl.take j).filter fun d => (lk q d.1).isNone).length = C at hle hnx
          generalize hC2 : ((jl.take (j + 1)).filter fun d => (lk q d.1).isNone).length = C2 at hnx
          by_cases hin : (lk q dk.1).isSome = true
          · have hN : (lk q dk.1).isNone = false := by cases hq' : lk q dk.1 with
              | none => rw [hq'] at hin; cases hin
              | some _ => rfl
            rw [hN] at hnx
            rw [hin] at hat
            clear hN hin
            simp only [Bool.false_eq_true, if_false, Nat.add_zero] at hnx
            go_wp2_with fail
            refine hat.mono ?_
            rintro e w3 ⟨rfl, hg3⟩
            clear hat
            go_wp2_with fail
            go_roundw
            case rel => exact ⟨j + 1, by omega, by go_num, by rw [hC2, hnx], below_trans hgwb hg3 hgwb.size⟩
            case measure => simp [intOf]; omega
          · have hinf : (lk q dk.1).isSome = false := by simpa using hin
            have hN : (lk q dk.1).isNone = true := by cases hq' : lk q dk.1 with
              | none => rfl
              | some _ => rw [hq'] at hinf; cases hinf
            rw [hN] at hnx
            rw [hinf] at hat
            clear hN hin hinf
            simp only [if_true] at hnx
            go_wp2_with fail
            refine hat.mono ?_
            rintro e w3 ⟨rfl, hg3⟩
            clear hat
            go_wp2_with fail
            go_roundw
            case rel => exact ⟨j + 1, by omega, by go_num, by rw [hC2, hnx]; go_num, below_trans hgwb hg3 hgwb.size⟩
            case measure => simp [intOf]; omega
        · obtain rfl : j = jl.length := by omega
          have hjt : decide ((jl.length : Int) < (jl.length : Int)) = false := decide_eq_false (by omega)
          rw [List.take_length] at *
          have hle : (jl.filter fun d => (lk q d.1).isNone).length ≤ jl.length := List.length_filter_le _ _
          have c0 := (hB0.grow hgwz).cell 0
          generalize (jl.filter fun d => (lk q d.1).isNone).length = C at hE hle ⊢
          by_cases h0 : 0 < C
          · have h0' : decide ((0 : Int) < (C : Int)) = true := decide_eq_true (by omega)
            by_cases hT : q.length + C > 16
            · rw [if_pos hT] at hE
              subst hE
              have hT' : decide ((16 : Int) < (q.length : Int) + (C : Int)) = true := decide_eq_true (by omega)
              go_wp2_with fail
              go_ret
              exact ⟨rfl, hgwz⟩
            · rw [if_neg hT] at hE
              subst hE
              have hT' : decide ((16 : Int) < (q.length : Int) + (C : Int)) = false := decide_eq_false (by omega)
              go_wp2_with fail
              go_ret
              exact ⟨rfl, hgwz⟩
          · have h0' : decide ((0 : Int) < (C : Int)) = false := decide_eq_false (by omega)
            rw [if_neg (by omega)] at hE
            subst hE
            go_wp2_with fail
            go_ret
            exact ⟨rfl, hgwz⟩
end Go.Proofs.Ytnijeemldhmkjaa
