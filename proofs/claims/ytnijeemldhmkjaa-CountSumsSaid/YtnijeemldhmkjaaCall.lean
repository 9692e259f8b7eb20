/- All: its walk. -/
import Derived.Test.YtnijeemldhmkjaaCsort
namespace Go.Proofs.Ytnijeemldhmkjaa
open Go.RowKit Go.Hop
theorem srt_mem {q : Sm} (hs : Srt q) {x : ByteArray} {v : Nat} : lk q x = some v ↔ (x, v) ∈ q := ⟨lk_mem, fun h => srt_lk hs h⟩
/-- what is sorted and has the same entries is the same -/
theorem sorted_is {q l : Sm} (hq : Srt q) (hp : l.Perm q) (hs : ∀ i j (hi : i < l.length) (hj : j < l.length), i < j → slt l[j].1 l[i].1 = false) : l = q := by
  have hn : (q.map (·.1)).Nodup := by
    unfold List.Nodup
    rw [List.pairwise_map]
    exact hq.imp fun h e => by rw [e, slt_irr] at h; cases h
  have hnl : (l.map (·.1)).Nodup := (hp.map (·.1)).nodup_iff.2 hn
  have hl : Srt l := by
    refine List.pairwise_iff_getElem.2 fun i j hi hj hij => ?_
    cases h : slt l[i].1 l[j].1 with
    | true => rfl
    | false =>
      have e := slt_tri h (hs i j hi hj hij)
      have := (List.pairwise_iff_getElem.1 hnl) i j (by simpa using hi) (by simpa using hj) hij
      simp only [List.getElem_map] at this
      exact absurd e this
  refine srt_ext hl hq fun x => ?_
  cases h1 : lk l x with
  | some v => exact ((srt_mem hq).2 (hp.mem_iff.1 ((srt_mem hl).1 h1))).symm
  | none =>
    cases h2 : lk q x with
    | none => rfl
    | some v => rw [(srt_mem hl).2 (hp.mem_iff.2 ((srt_mem hq).1 h2))] at h1; cases h1
/-- lists without repeats that hold the same are the same, but for their order -/
theorem perm_of {l q : List Dl} (h1 : l.Nodup) (h2 : q.Nodup) (h : ∀ d, d ∈ l ↔ d ∈ q) : l.Perm q := (List.perm_ext_iff_of_nodup h1 h2).2 h
theorem clip_any (w : World) (A : Option Addr) (n c : Nat) (hn : n ≤ c) :
    Calls Try.prog 23 #[.slice A n c] w fun e w' => e = .returned (.slice A n n) ∧ w = w' := by
  go_enter Try.func23, Try.ntmps23
  go_wp2_with fail
  go_ret
  exact ⟨rfl, rfl⟩
set_option maxRecDepth 100000 in
set_option maxHeartbeats 1000000 in
theorem All_some (hnone : ∀ w : World, Calls Try.prog 20 #[.slice none 0 0, .func (.func 21) #[] #[]] w fun e w' => e = .returned (.tuple #[]) ∧ w' = w) (w : World) (s : Nat) (q : Sm) (V : Nat → Prop) (h : SumsAt s q w V) (hq : q.length ≤ 1048576) :
    Calls Try.prog 13 #[.pointer (some ⟨s, 0, none⟩)] w fun e w' => ∃ A, e = .returned (.slice A q.length q.length) ∧ In w' (New w w') 2 A q.length (dcells q) ∧ Grow w w' := by
  obtain ⟨h1, h2, b, h3, h4, hB0, hM0⟩ := h
  have c0 := hB0.cell 0
  obtain ⟨w1, hrun, ⟨left0, hsr0, hleft0⟩, hg1, hsz1⟩ := SMap.range smT hM0
  have hnd : q.Nodup := h2.srt.imp fun h e => by rw [e, slt_irr] at h; cases h
  obtain ⟨r, HR⟩ : ∃ r : Nat, Hid (r = w.heap.size) := ⟨_, rfl⟩
  go_enter Try.func13, Try.ntmps13
  go_wp2_with fail
  rw [← HR.out] at hsr0 ⊢
  clear hrun c0
  go_loopw [3] (fun o wr => ∃ (left : ByteArray → Bool) (cnt : Nat) (es : List Dl), Own wr (fun b => New w wr b ∧ b ≠ r) 34 2 o es.length (dcells es) ∧ SRange Try.prog 9 32 .u64 wr b r q.length (fq q) left cnt ∧ es.Nodup ∧ (∀ d, d ∈ es ↔ d ∈ q ∧ left d.1 = false) ∧ Grow w wr) (fun _ wr => wr.rangeLeft b r)
  case atStart =>
    refine ⟨left0, _, [], Own.nil, hsr0, List.nodup_nil, fun d => ⟨fun h => absurd h List.not_mem_nil, fun ⟨hd, hl⟩ => ?_⟩, hg1⟩
    have : (lk q d.1).isSome = true := by rw [srt_lk h2.srt hd]; rfl
    rw [hleft0 d.1 (h2.txt d hd), fq_some, this] at hl
    cases hl
  case round =>
    clear hsr0 hleft0 hg1
    obtain ⟨left, cnt, es, hO, hsr, hnd2, hes, hgw⟩ := hrel
    obtain ⟨A1, c1, rfl, hI1, hn1, hm1⟩ := hO.in_
    have hel : es.length ≤ q.length := by
      have hp := perm_of hnd2 (hnd.filter fun d => !left d.1) (fun d => by rw [hes, List.mem_filter]; simp)
      rw [hp.length_eq]
      exact List.length_filter_le _ _
    rcases hsr.next smT 0 with ⟨h0, hl0, hrun⟩ | ⟨x, v, w3, cnt3, hxl, hlx, hfx, hwv, hrun, hsr3, hlt, hj3, hen⟩
    · have hperm : es.Perm q := perm_of hnd2 hnd fun d => by rw [hes, hl0]; simp
      have hlen := Lib.hid hperm.length_eq
      have hrl := hsr.lt
      rcases hO.2 with ⟨hv, hn0⟩ | ⟨g, cap, cur, hv, hVg, hgc, hnc, hcm, hsz, htk⟩
      · obtain rfl : es = [] := List.eq_nil_of_length_eq_zero hn0
        obtain rfl : q = [] := List.eq_nil_of_length_eq_zero hlen.out.symm
        injection hv with hv1 hv2 hv3
        subst hv1 hv3
        clear hO hI1
        go_wp2_with fail
        refine (hnone _).mono ?_
        rintro e w5 ⟨rfl, rfl⟩
        go_wp2_with fail
        refine (clip_any _ none 0 0 (Nat.le_refl _)).mono ?_
        rintro e w6 ⟨rfl, rfl⟩
        go_wp2_with fail
        go_ret
        exact ⟨none, rfl, In.nil, hgw⟩
      · injection hv with hv1 hv2 hv3
        subst hv1 hv3
        have hsort := sort_any wr g c1 es cur hgc htk (by omega)
        clear hO hI1 hgc htk hcm hsz
        go_wp2_with fail
        refine hsort.mono ?_
        rintro e w5 ⟨rfl, l', hp, hs, hI, hj⟩
        obtain rfl : l' = q := sorted_is h2.srt (hp.trans hperm) hs
        clear hsort
        go_wp2_with fail
        refine (clip_any _ (some ⟨g, 0, none⟩) es.length c1 hn1).mono ?_
        rintro e w6 ⟨rfl, rfl⟩
        go_wp2_with fail
        go_ret
        have hs5 := hj.size
        refine ⟨some ⟨g, 0, none⟩, by first | rfl | (rw [hlen.out]; rfl), ?_, Below.trans hgw (hj.below (B := w.heap.size) (fun b hb => by rw [hb]; exact hVg.1.1) hgw.size)⟩
        rw [hlen.out] at hI
        exact In.mono hI fun b hb => by rw [hb]; exact ⟨hVg.1.1, Nat.lt_of_lt_of_le hVg.1.2 hs5⟩
    · obtain ⟨v', hv'⟩ : ∃ v', lk q x = some v' := by
        unfold fq at hfx
        cases hl : lk q x with
        | none => rw [hl] at hfx; cases hfx
        | some v' => exact ⟨v', rfl⟩
      obtain rfl : v = (v' : Int) := by unfold fq at hfx; rw [hv'] at hfx; injection hfx with hfx; exact hfx.symm
      have hmem := (srt_mem h2.srt).1 hv'
      have hrw : w.heap.size ≤ r := by rw [HR.out]; exact Nat.le_refl _
      have hbr : b ≠ r := hsr.ne.symm
      have hbl := hM0.lt
      have hrl := hsr.lt
      have hg3 : Grow w w3 := Below.trans hgw (hj3.below (B := w.heap.size) (fun b hb => by rw [hb]; exact hrw) hgw.size)
      have hs3 := hj3.size
      have hO3 : Own w3 (fun b => New w wr b ∧ b ≠ r) 34 2 (.slice A1 es.length c1) es.length (dcells es) := hO.keep fun b hb => hj3.block b hb.1.2 hb.2
      have hmeas : w3.rangeLeft b r < wr.rangeLeft b r := by rw [hsr3.left_eq, hsr.left_eq]; exact hlt
      have hnot : (x, v') ∉ es := fun h => by have := ((hes _).1 h).2; rw [hlx] at this; cases this
      have hga : Grow w3 (w3.alloc (.cells #[.string x, .int .u64 (v' : Int)] 34)) := (Below.refl _ _).alloc (Nat.le_refl _) _
      clear hO hI1 hfx hwv
      go_wp2_with (at_builtin; refine stay ?_)
      refine stay_out ?_
      refine wpList_own (V := fun b => New w wr b ∧ b ≠ r) deltaE _ rfl (.tmp 16) (.tmp 20) rfl (.slice A1 es.length c1) es.length (dcells es) rfl (hO3.grow (fun b hb => by have := hb.1.2; omega) hga) (w3.heap.size + 1) (some ⟨w3.heap.size, 0, none⟩) 1 1 (dcells [(x, v')]) rfl (reads_laid w3 _ 34 _ rfl _ rfl) (dcells_one _) (by omega) ?_
      intro v5 w5 hO5 hj5
      have hs5 := hj5.size
      simp at hs5
      have hg5 : Grow w w5 := Below.trans (below_trans hg3 hga hg3.size) (hj5.below (B := w.heap.size) (fun b hb => hb.1.1) (by simp; omega))
      have hO6 : Own w5 (fun b => New w w5 b ∧ b ≠ r) 34 2 v5 (es ++ [(x, v')]).length (dcells (es ++ [(x, v')])) := by
        rw [List.length_append]
        have : dcells (es ++ [(x, v')]) = dcells es ++ dcells [(x, v')] := by unfold dcells; rw [List.flatMap_append]
        rw [this]
        refine hO5.mono fun b hb => ?_
        rcases hb with hb | hb
        · exact ⟨⟨hb.1.1, by have := hb.1.2; omega⟩, hb.2⟩
        · have h6 := hb.1
          simp at h6
          exact ⟨⟨by omega, hb.2⟩, by omega⟩
      have hsr5 := (hsr3.grow hga).just hj5 (fun h => by have := h.1.1; omega) (fun h => h.2 rfl)
      have hmeas5 : w5.rangeLeft b r < wr.rangeLeft b r := by rw [hsr5.left_eq, hsr.left_eq]; exact hlt
      have hes5 : ∀ d, d ∈ es ++ [(x, v')] ↔ d ∈ q ∧ (left d.1 && decide (d.1 ≠ x)) = false := fun d => by
        rw [List.mem_append, List.mem_singleton, hes]
        constructor
        · rintro (⟨h, hl⟩ | rfl)
          · exact ⟨h, by rw [hl]; rfl⟩
          · exact ⟨hmem, by simp⟩
        · rintro ⟨h, hl⟩
          by_cases hdx : d.1 = x
          · right
            have h8 := srt_lk h2.srt h
            rw [hdx, hv'] at h8
            injection h8 with h8
            exact Prod.ext hdx h8.symm
          · left
            refine ⟨h, ?_⟩
            simpa [hdx] using hl
      have hnd5 : (es ++ [(x, v')]).Nodup := List.nodup_append.2 ⟨hnd2, by simp, fun a ha c hc e => by rw [List.mem_singleton.1 hc] at e; exact hnot (e ▸ ha)⟩
      clear hO5 hj5 hO3 hj3 hmeas hsr3 hes hnd2 hg3 hga
      generalize es ++ [(x, v')] = es5 at hO6 hes5 hnd5
      go_wp2_with fail
      go_roundw
      case rel => exact ⟨_, cnt3, es5, hO6, hsr5, hnd5, hes5, hg5⟩
      case measure => exact hmeas5
end Go.Proofs.Ytnijeemldhmkjaa
