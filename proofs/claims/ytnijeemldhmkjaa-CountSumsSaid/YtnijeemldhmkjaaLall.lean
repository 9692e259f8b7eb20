/- CountAll: its walk. -/
import Derived.Test.YtnijeemldhmkjaaCknown
import Derived.Test.YtnijeemldhmkjaaCrows
namespace Go.Proofs.Ytnijeemldhmkjaa
open Go.RowKit Go.Hop
theorem SAt.within {U U' : Nat → Prop} {s : Nat} {q : Sm} {w : World} (h : SAt U s q w) (hU : ∀ b, U b → b < w.heap.size → U' b) : SAt U' s q w := by
  obtain ⟨V, h1, h2⟩ := h
  exact ⟨V, h1, fun b hb => ⟨hU b (h2 b hb).1 (h2 b hb).2, (h2 b hb).2⟩⟩
theorem put_mem {q : Sm} {x : ByteArray} {v : Nat} {d : Dl} (h : d ∈ put q x v) : d = (x, v) ∨ d ∈ q := by
  unfold put at h
  split at h
  · obtain ⟨e, he, rfl⟩ := List.mem_map.1 h
    split
    · exact .inl rfl
    · exact .inr he
  · rcases List.mem_append.1 h with h | h
    · exact .inr (by rw [← cut_all q x]; exact List.mem_append.2 (.inl h))
    · rcases List.mem_cons.1 h with h | h
      · exact .inl h
      · exact .inr (by rw [← cut_all q x]; exact List.mem_append.2 (.inr h))
/-- sums of what a tape gave -/
structure KeptQ (q : Sm) : Prop where
  few : q.length ≤ 16
  all : ∀ d ∈ q, d.1 ∈ nameL ∧ 1 ≤ d.2
theorem add_all {P : Dl → Prop} (hP : ∀ (x : ByteArray) (a b : Nat), P (x, b) → P (x, a + b)) : ∀ (l : List Dl) (q : Sm), (∀ d ∈ q, P d) → (∀ d ∈ l, P d) → ∀ d ∈ add q l, P d := by
  intro l
  induction l with
  | nil => intro q h _; exact h
  | cons a l ih =>
    intro q h hl
    rw [add_cons]
    refine ih _ (fun d hd => ?_) fun d hd => hl d (List.mem_cons_of_mem _ hd)
    rcases put_mem hd with rfl | hd
    · exact hP a.1 _ _ (hl a List.mem_cons_self)
    · exact h d hd
theorem KeptQ.nil : KeptQ [] := ⟨by simp, by simp⟩
theorem KeptQ.add {q : Sm} (h : KeptQ q) (hs : Srt q) {l : List Dl} (hl : Kept l) : KeptQ (addM q l) := by
  refine ⟨addM_length hs h.few l, ?_⟩
  unfold addM
  split
  · exact add_all (P := fun d => d.1 ∈ nameL ∧ 1 ≤ d.2) (fun x a b hb => ⟨hb.1, by have := hb.2; dsimp only at this ⊢; omega⟩) l q h.all fun d hd => ⟨(hl d hd).1, (hl d hd).2.1⟩
  · exact h.all
theorem KeptQ.none_ {q : Sm} (h : KeptQ q) : gt q { data := #[110, 111, 110, 101, 61, 48] } = 0 := by
  unfold Proofs.Ytnijeemldhmkjaa.gt
  cases hl : lk q { data := #[110, 111, 110, 101, 61, 48] } with
  | none => rfl
  | some v =>
    have h1 := (h.all _ (lk_mem hl)).1
    have h2 : ∀ x ∈ nameL, ¬ x.data = #[110, 111, 110, 101, 61, 48] := by decide +kernel
    exact absurd rfl (h2 _ h1)
set_option maxRecDepth 100000 in
set_option maxHeartbeats 1000000 in
theorem all_any (w : World) (A0 : Option Addr) (n0 c0 : Nat) (l0 : List Int) (hl0 : Reads w w.heap.size 1 A0 n0 (l0.map (Value.int .i64))) (hx0 : ∀ z ∈ l0, -9223372036854775808 ≤ z ∧ z ≤ 9223372036854775807) (hn0 : n0 ≤ 9223372036854775807) :
    Calls Try.prog 5 #[.slice A0 n0 c0] w fun e w' => e = .returned (.bool true) ∧ Grow w w' := by
  have hI0 : In w (fun b => b < w.heap.size) 1 A0 n0 (l0.map (Value.int .i64)) := Reads.in_ hl0 (Nat.le_refl _) fun _ h => h
  have k15 : ∀ (vs : Array Value) (w : World), (callFunc 15 vs).run Try.prog w = .ok (.enter 15 vs) w := fun vs w => by go_simp
  go_enter Try.func5, Try.ntmps5
  go_wp2_with fail
  refine (New_at w).mono ?_
  rintro e w1 ⟨s, rfl, hS1, hg1⟩
  have hs1 := hg1.size
  have hrows := rows_any w1 A0 n0 c0 l0 (fun b => b < w.heap.size) (hI0.grow hg1) (fun b hb => by omega) hn0 hx0 25 (by omega)
  rw [show ((25 : Nat) : Int) = 25 from rfl] at hrows
  go_wp2_with fail
  refine hrows.mono ?_
  rintro e w2 ⟨v, rq, rfl, hR, hrl, hg2⟩
  clear hrows
  have hK : ∀ b ∈ rq, Kept b.l := fun b hb => (hR.all b hb).2.kept
  obtain ⟨A, c, rfl, hnc, hcm, hRI⟩ := hR.ins
  have hS2 : SAt (fun b => w.heap.size ≤ b ∧ ¬ New w1 w2 b) s [] w2 := (hS1.within (U' := fun b => w.heap.size ≤ b ∧ ¬ New w1 w2 b) fun b hb hlt => ⟨hb, fun h => by have := h.1; omega⟩).grow hg2
  have hg2 := below_trans hg1 hg2 hs1
  have hs2 := hg2.size
  clear hR hS1
  go_wp2_with fail
  go_loopw [14] (fun i wr => ∃ (k : Nat) (Q : Sm), k ≤ rq.length ∧ i = .int .i64 (k : Int) ∧ SAt (fun b => w.heap.size ≤ b ∧ ¬ New w1 w2 b) s Q wr ∧ KeptQ Q ∧ Just (fun b => w.heap.size ≤ b ∧ ¬ New w1 w2 b) w2 wr) (fun i _ => rq.length - (intOf i).toNat)
  case atStart => exact ⟨0, [], by omega, rfl, hS2, KeptQ.nil, Just.of_grow (Grow.refl _)⟩
  case round =>
    clear hS2
    obtain ⟨k, Q, hkn, rfl, hS, hQ, hj⟩ := hrel
    have hsr := hj.size
    by_cases hk : k < rq.length
    · have hkt : decide ((k : Int) < (rq.length : Int)) = true := decide_eq_true (by omega)
      have hRr := hRI.just hj fun b hb h => h.2 hb
      obtain ⟨ad, rfl, hc⟩ := row_at hRr (k := k) (by rw [List.length_map]; exact hk)
      have hc0 := hc wr (Grow.refl _)
      have hri := hRr.all _ (List.getElem_mem (show k < (rq.map Dr.rr).length by rw [List.length_map]; exact hk))
      simp only [List.getElem_map] at hc0 hri
      have hKk := hK _ (List.getElem_mem hk)
      generalize rq[k] = b at hc0 hri hKk
      have hadd := Add_at hS (Grow.refl wr) (fun b hb => ⟨by omega, fun h => by have := h.2; omega⟩) (c := b.c) hri.ins (fun b hb => .inl fun h => h.2 hb) hri.ok (Nat.le_trans hri.small (by omega)) (Nat.le_trans hQ.few (by omega))
      have hQ2 := hQ.add hS.right.srt hKk
      unfold Rr.val at hc0
      obtain ⟨n9, hn9⟩ : ∃ n9, n9 = b.rr.l.length := ⟨_, rfl⟩
      rw [← hn9] at hc0 hadd
      change Calls Try.prog _ #[_, .slice b.rr.A n9 b.rr.c] _ _ at hadd
      have HN9 := Lib.hid hn9
      have hql : k < (rq.map Dr.rr).length := by rw [List.length_map]; exact hk
      clear hn9 hc hRr hri
      generalize b.rr.A = A9 at hc0 hadd
      generalize b.rr.c = c9 at hc0 hadd
      go_wp2_with fail
      refine hadd.mono ?_
      rintro e w3 ⟨rfl, hS3, hj3⟩
      clear hadd
      go_wp2_with fail
      go_roundw
      case rel => exact ⟨k + 1, _, by omega, by go_num, hS3, hQ2, hj.trans hj3⟩
      case measure => simp [intOf]; omega
    · obtain rfl : k = rq.length := by omega
      have hkt : decide ((rq.length : Int) < (rq.length : Int)) = false := decide_eq_false (by omega)
      have hall := All_at hS (Nat.le_trans hQ.few (by omega))
      have hgr : Grow w wr := Below.trans hg2 (hj.below (B := w.heap.size) (fun b hb => hb.1) hs2)
      have hsr := hgr.size
      have hsrt := hS.right.srt
      go_wp2_with fail
      refine hall.mono ?_
      rintro e w3 ⟨A, rfl, hI, hg3⟩
      clear hall
      have hS3 := hS.grow hg3
      have hgr := below_trans hgr hg3 hsr
      clear hg3 hS hRI hj hsr
      go_wp2_with fail
      go_loopw [26] (fun i wz => ∃ i' : Nat, i' ≤ Q.length ∧ i = .int .i64 (i' : Int) ∧ Grow w3 wz) (fun i _ => Q.length - (intOf i).toNat)
      case atStart => exact ⟨0, by omega, rfl, Grow.refl _⟩
      case round =>
        obtain ⟨i, hin, rfl, hgz⟩ := hrel
        have hfew2 := hQ.few
        by_cases hi : i < Q.length
        · have hit : decide ((i : Int) < (Q.length : Int)) = true := decide_eq_true (by omega)
          obtain ⟨ad, hqi, rfl, e0, e1⟩ := del_at (hI.grow hgz) hi
          have hS4 := hS3.grow hgz
          have hgi : gt Q Q[i].1 = Q[i].2 := by
            unfold Proofs.Ytnijeemldhmkjaa.gt
            rw [srt_lk hsrt (List.getElem_mem hqi)]; rfl
          have hdi := hQ.all _ (List.getElem_mem hqi)
          have hsz : Q[i].1.size ≤ maxLen := by have := nameL_small hdi.1; unfold maxLen; omega
          have hget : ∀ w1, Grow wr w1 → Calls Try.prog 15 #[.pointer (some ⟨s, 0, none⟩), .string Q[i].1] w1 fun e w' => e = .returned (.int .u64 (Q[i].2 : Int)) ∧ w1 = w' := fun w1 hg => by
            have := Get_at (hS4.grow hg) Q[i].1 hsz
            rwa [hgi] at this
          by_cases h0 : i = 0
          · have h0' : decide ((0 : Int) < (i : Int)) = false := decide_eq_false (by omega)
            generalize Q[i] = di at e0 e1 hget hdi
            have hz : ¬ di.2 = 0 := by omega
            have hi0 : ¬ 0 < i := by omega
            have H0 := Lib.hid h0
            clear h0
            go_wp2_with fail
            refine wp_region_flow 39 80 [(23, .inl (.int .u64 (di.2 : Int)))] rfl rfl (by kernel_rfl) (by kernel_rfl) (by kernel_rfl) ?_ ?_
            · intro x hx φ he
              simp only [List.mem_cons, List.not_mem_nil, or_false] at hx
              rcases hx with rfl <;> cases he
            intro ops' A' K' T hops hA' hK hT
            refine fl_mv 29 (by rfl) (by decide) (wanted_none (by rfl)) (by rw [hK.out]; rfl) (by rfl) _ (Or.inl (by rfl)) (.int .i64 (i : Int)) (by rfl) ?_
            refine fl_op2 30 (by rfl) (by decide) (wanted_none (by rfl)) (by rw [hK.out]; rfl) (by rfl) (.tmp 29) (.const (.int .i64 0)) (.int .i64 (i : Int)) (.int .i64 0) (by rfl) (by rfl) (.bool false) (fun ρ h1 h2 kk w1 (hg : Grow _ w1) hb hf => by go_simp) ?_
            refine fl_mv 31 (by rfl) (by decide) (wanted_none (by rfl)) (by rw [hK.out]; rfl) (by rfl) _ (Or.inl (by rfl)) (.bool false) (by rfl) ?_
            refine fl_skip 32 (by rfl) (by decide) (wanted_if hops 2 true (by rfl) 31 (by rfl) false (by rfl)) (by rfl) ?_
            refine fl_skip 33 (by rfl) (by decide) (wanted_if hops 2 true (by rfl) 31 (by rfl) false (by rfl)) (by rfl) ?_
            refine fl_skip 34 (by rfl) (by decide) (wanted_if hops 2 true (by rfl) 31 (by rfl) false (by rfl)) (by rfl) ?_
            refine fl_skip 35 (by rfl) (by decide) (wanted_if hops 2 true (by rfl) 31 (by rfl) false (by rfl)) (by rfl) ?_
            refine fl_skip 36 (by rfl) (by decide) (wanted_if hops 2 true (by rfl) 31 (by rfl) false (by rfl)) (by rfl) ?_
            refine fl_skip 37 (by rfl) (by decide) (wanted_if hops 2 true (by rfl) 31 (by rfl) false (by rfl)) (by rfl) ?_
            refine fl_skip 38 (by rfl) (by decide) (wanted_if hops 2 true (by rfl) 31 (by rfl) false (by rfl)) (by rfl) ?_
            refine fl_skip 39 (by rfl) (by decide) (wanted_if hops 2 true (by rfl) 31 (by rfl) false (by rfl)) (by rfl) ?_
            refine fl_skip 40 (by rfl) (by decide) (wanted_if hops 2 true (by rfl) 31 (by rfl) false (by rfl)) (by rfl) ?_
            refine fl_skip 41 (by rfl) (by decide) (wanted_if hops 2 true (by rfl) 31 (by rfl) false (by rfl)) (by rfl) ?_
            refine fl_skip 42 (by rfl) (by decide) (wanted_if hops 2 true (by rfl) 31 (by rfl) false (by rfl)) (by rfl) ?_
            refine fl_skip 43 (by rfl) (by decide) (wanted_if hops 2 true (by rfl) 31 (by rfl) false (by rfl)) (by rfl) ?_
            refine fl_pick 44 (by rfl) (by decide) (wanted_none (by rfl)) (by rw [hK.out]; rfl) (by rfl) _ _ _ (by rfl) false (by rfl) (.bool false) (by rfl) ?_
            refine fl_mv 45 (by rfl) (by decide) (wanted_none (by rfl)) (by rw [hK.out]; rfl) (by rfl) _ (Or.inl (by rfl)) (.bool false) (by rfl) ?_
            refine fl_mv 46 (by rfl) (by decide) (wanted_if hops 16 false (by rfl) 45 (by rfl) false (by rfl)) (by rw [hK.out]; rfl) (by rfl) _ (Or.inl (by rfl)) (.pointer (some ⟨s, 0, none⟩)) (by rfl) ?_
            refine fl_mv 47 (by rfl) (by decide) (wanted_if hops 16 false (by rfl) 45 (by rfl) false (by rfl)) (by rw [hK.out]; rfl) (by rfl) _ (Or.inl (by rfl)) (.slice (some ad) Q.length Q.length) (by rfl) ?_
            refine fl_mv 48 (by rfl) (by decide) (wanted_if hops 16 false (by rfl) 45 (by rfl) false (by rfl)) (by rw [hK.out]; rfl) (by rfl) _ (Or.inl (by rfl)) (.int .i64 (i : Int)) (by rfl) ?_
            refine fl_op2 49 (by rfl) (by decide) (wanted_if hops 16 false (by rfl) 45 (by rfl) false (by rfl)) (by rw [hK.out]; rfl) (by rfl) (.tmp 47) (.tmp 48) (.slice (some ad) Q.length Q.length) (.int .i64 (i : Int)) (by rfl) (by rfl) (.pointer (some (ad.add (i * 2)))) (fun ρ h1 h2 kk w1 (hg : Grow _ w1) hb hf => by go_simp; try (intro hlt; omega)) ?_
            refine fl_op1 50 (by rfl) (by decide) (wanted_if hops 16 false (by rfl) 45 (by rfl) false (by rfl)) (by rw [hK.out]; rfl) (by rfl) (.tmp 49) (.pointer (some (ad.add (i * 2)))) (by rfl) (.pointer (some (ad.add (i * 2)))) (fun ρ h1 kk w1 (hg : Grow _ w1) hb hf => by go_simp) ?_
            refine fl_op1 51 (by rfl) (by decide) (wanted_if hops 16 false (by rfl) 45 (by rfl) false (by rfl)) (by rw [hK.out]; rfl) (by rfl) (.tmp 50) (.pointer (some (ad.add (i * 2)))) (by rfl) (.string di.1) (fun ρ h1 kk w1 (hg : Grow _ w1) hb hf => by have c := e0 w1 hg; go_simp) ?_
            refine fl_call 52 (by rfl) (by decide) (wanted_if hops 16 false (by rfl) 45 (by rfl) false (by rfl)) (.int .u64 (di.2 : Int)) (by rw [hK.out]; rfl) 15 _ _ (by rfl) [.pointer (some ⟨s, 0, none⟩), .string di.1] (by rfl) k15 (fun kk w1 (hg : Grow _ w1) hb hf => calls_behind (by rfl) (by exact grew_same (hget w1 hg))) ?_
            refine fl_mv 53 (by rfl) (by decide) (wanted_if hops 16 false (by rfl) 45 (by rfl) false (by rfl)) (by rw [hK.out]; rfl) (by rfl) _ (Or.inl (by rfl)) (.slice (some ad) Q.length Q.length) (by rfl) ?_
            refine fl_mv 54 (by rfl) (by decide) (wanted_if hops 16 false (by rfl) 45 (by rfl) false (by rfl)) (by rw [hK.out]; rfl) (by rfl) _ (Or.inl (by rfl)) (.int .i64 (i : Int)) (by rfl) ?_
            refine fl_op2 55 (by rfl) (by decide) (wanted_if hops 16 false (by rfl) 45 (by rfl) false (by rfl)) (by rw [hK.out]; rfl) (by rfl) (.tmp 53) (.tmp 54) (.slice (some ad) Q.length Q.length) (.int .i64 (i : Int)) (by rfl) (by rfl) (.pointer (some (ad.add (i * 2)))) (fun ρ h1 h2 kk w1 (hg : Grow _ w1) hb hf => by go_simp; try (intro hlt; omega)) ?_
            refine fl_op1 56 (by rfl) (by decide) (wanted_if hops 16 false (by rfl) 45 (by rfl) false (by rfl)) (by rw [hK.out]; rfl) (by rfl) (.tmp 55) (.pointer (some (ad.add (i * 2)))) (by rfl) (.pointer (some ⟨(ad.add (i * 2)).block, (ad.add (i * 2)).off + 1, none⟩)) (fun ρ h1 kk w1 (hg : Grow _ w1) hb hf => by go_simp) ?_
            refine fl_op1 57 (by rfl) (by decide) (wanted_if hops 16 false (by rfl) 45 (by rfl) false (by rfl)) (by rw [hK.out]; rfl) (by rfl) (.tmp 56) (.pointer (some ⟨(ad.add (i * 2)).block, (ad.add (i * 2)).off + 1, none⟩)) (by rfl) (.int .u64 (di.2 : Int)) (fun ρ h1 kk w1 (hg : Grow _ w1) hb hf => by have c := e1 w1 hg; go_simp) ?_
            refine fl_op2 58 (by rfl) (by decide) (wanted_if hops 16 false (by rfl) 45 (by rfl) false (by rfl)) (by rw [hK.out]; rfl) (by rfl) (.tmp 52) (.tmp 57) (.int .u64 (di.2 : Int)) (.int .u64 (di.2 : Int)) (by rfl) (by rfl) (.bool false) (fun ρ h1 h2 kk w1 (hg : Grow _ w1) hb hf => by go_simp) ?_
            refine fl_pick 59 (by rfl) (by decide) (wanted_none (by rfl)) (by rw [hK.out]; rfl) (by rfl) _ _ _ (by rfl) false (by rfl) (.bool false) (by rfl) ?_
            refine fl_mv 60 (by rfl) (by decide) (wanted_none (by rfl)) (by rw [hK.out]; rfl) (by rfl) _ (Or.inl (by rfl)) (.bool false) (by rfl) ?_
            refine fl_mv 61 (by rfl) (by decide) (wanted_if hops 31 false (by rfl) 60 (by rfl) false (by rfl)) (by rw [hK.out]; rfl) (by rfl) _ (Or.inl (by rfl)) (.slice (some ad) Q.length Q.length) (by rfl) ?_
            refine fl_mv 62 (by rfl) (by decide) (wanted_if hops 31 false (by rfl) 60 (by rfl) false (by rfl)) (by rw [hK.out]; rfl) (by rfl) _ (Or.inl (by rfl)) (.int .i64 (i : Int)) (by rfl) ?_
            refine fl_op2 63 (by rfl) (by decide) (wanted_if hops 31 false (by rfl) 60 (by rfl) false (by rfl)) (by rw [hK.out]; rfl) (by rfl) (.tmp 61) (.tmp 62) (.slice (some ad) Q.length Q.length) (.int .i64 (i : Int)) (by rfl) (by rfl) (.pointer (some (ad.add (i * 2)))) (fun ρ h1 h2 kk w1 (hg : Grow _ w1) hb hf => by go_simp; try (intro hlt; omega)) ?_
            refine fl_op1 64 (by rfl) (by decide) (wanted_if hops 31 false (by rfl) 60 (by rfl) false (by rfl)) (by rw [hK.out]; rfl) (by rfl) (.tmp 63) (.pointer (some (ad.add (i * 2)))) (by rfl) (.pointer (some ⟨(ad.add (i * 2)).block, (ad.add (i * 2)).off + 1, none⟩)) (fun ρ h1 kk w1 (hg : Grow _ w1) hb hf => by go_simp) ?_
            refine fl_op1 65 (by rfl) (by decide) (wanted_if hops 31 false (by rfl) 60 (by rfl) false (by rfl)) (by rw [hK.out]; rfl) (by rfl) (.tmp 64) (.pointer (some ⟨(ad.add (i * 2)).block, (ad.add (i * 2)).off + 1, none⟩)) (by rfl) (.int .u64 (di.2 : Int)) (fun ρ h1 kk w1 (hg : Grow _ w1) hb hf => by have c := e1 w1 hg; go_simp) ?_
            refine fl_op2 66 (by rfl) (by decide) (wanted_if hops 31 false (by rfl) 60 (by rfl) false (by rfl)) (by rw [hK.out]; rfl) (by rfl) (.tmp 65) (.const (.int .u64 0)) (.int .u64 (di.2 : Int)) (.int .u64 0) (by rfl) (by rfl) (.bool false) (fun ρ h1 h2 kk w1 (hg : Grow _ w1) hb hf => by go_simp) ?_
            refine fl_pick 67 (by rfl) (by decide) (wanted_none (by rfl)) (by rw [hK.out]; rfl) (by rfl) _ _ _ (by rfl) false (by rfl) (.bool false) (by rfl) ?_
            refine fl_end (fun _ _ w1 (hg : Grow _ w1) _ hfacts => hT _ _ ?_)
            clear hops hA' hK hT
            simp only [putsL, Act.put, List.setIfInBounds_toArray, List.set_cons_zero, List.set_cons_succ, List.drop_succ_cons, List.drop_zero]
            clear hfacts
            go_wp2_with fail
            go_roundw
            case rel => exact ⟨i + 1, by omega, by go_num, hgz.trans hg⟩
            case measure => simp [intOf]; omega
          · have h0' : decide ((0 : Int) < (i : Int)) = true := decide_eq_true (by omega)
            obtain ⟨j, Hij⟩ : ∃ j : Nat, Hid (i = j + 1) := ⟨i - 1, Lib.hid (by omega)⟩
            have hjl : j < Q.length := by have := Hij.out; omega
            obtain ⟨ad', hqj, ea, j0, _⟩ := del_at (hI.grow hgz) hjl
            injection ea with ea
            subst ea
            have hlt : slt Q[j].1 Q[i].1 = true := (List.pairwise_iff_getElem.1 hsrt) j i hqj hqi (by have := Hij.out; omega)
            have hleq := gtr_is Q[i].1 Q[j].1
            rw [hlt, Bool.not_eq_true'] at hleq
            have hij : (i : Int) - 1 = (j : Int) := by have := Hij.out; omega
            generalize Q[i] = di at e0 e1 hget hdi hleq
            generalize Q[j] = dj at j0 hleq
            have hz : ¬ di.2 = 0 := by omega
            clear hlt
            have hjneg : ¬ (j : Int) < 0 := by omega
            have hpos : 0 < i := by omega
            have hjw : IntKind.i64.wrap (j : Int) = (j : Int) := by rw [IntKind.wrap_i64]; (try unfold wrap64); omega
            go_wp2_with fail
            refine wp_region_flow 39 80 [(23, .inl (.int .u64 (di.2 : Int)))] rfl rfl (by kernel_rfl) (by kernel_rfl) (by kernel_rfl) ?_ ?_
            · intro x hx φ he
              simp only [List.mem_cons, List.not_mem_nil, or_false] at hx
              rcases hx with rfl <;> cases he
            intro ops' A' K' T hops hA' hK hT
            refine fl_mv 29 (by rfl) (by decide) (wanted_none (by rfl)) (by rw [hK.out]; rfl) (by rfl) _ (Or.inl (by rfl)) (.int .i64 (i : Int)) (by rfl) ?_
            refine fl_op2 30 (by rfl) (by decide) (wanted_none (by rfl)) (by rw [hK.out]; rfl) (by rfl) (.tmp 29) (.const (.int .i64 0)) (.int .i64 (i : Int)) (.int .i64 0) (by rfl) (by rfl) (.bool true) (fun ρ h1 h2 kk w1 (hg : Grow _ w1) hb hf => by go_simp) ?_
            refine fl_mv 31 (by rfl) (by decide) (wanted_none (by rfl)) (by rw [hK.out]; rfl) (by rfl) _ (Or.inl (by rfl)) (.bool true) (by rfl) ?_
            refine fl_mv 32 (by rfl) (by decide) (wanted_if hops 2 true (by rfl) 31 (by rfl) true (by rfl)) (by rw [hK.out]; rfl) (by rfl) _ (Or.inl (by rfl)) (.slice (some ad) Q.length Q.length) (by rfl) ?_
            refine fl_mv 33 (by rfl) (by decide) (wanted_if hops 2 true (by rfl) 31 (by rfl) true (by rfl)) (by rw [hK.out]; rfl) (by rfl) _ (Or.inl (by rfl)) (.int .i64 (i : Int)) (by rfl) ?_
            refine fl_op2 34 (by rfl) (by decide) (wanted_if hops 2 true (by rfl) 31 (by rfl) true (by rfl)) (by rw [hK.out]; rfl) (by rfl) (.tmp 32) (.tmp 33) (.slice (some ad) Q.length Q.length) (.int .i64 (i : Int)) (by rfl) (by rfl) (.pointer (some (ad.add (i * 2)))) (fun ρ h1 h2 kk w1 (hg : Grow _ w1) hb hf => by go_simp; try (intro hlt; omega)) ?_
            refine fl_op1 35 (by rfl) (by decide) (wanted_if hops 2 true (by rfl) 31 (by rfl) true (by rfl)) (by rw [hK.out]; rfl) (by rfl) (.tmp 34) (.pointer (some (ad.add (i * 2)))) (by rfl) (.pointer (some (ad.add (i * 2)))) (fun ρ h1 kk w1 (hg : Grow _ w1) hb hf => by go_simp) ?_
            refine fl_op1 36 (by rfl) (by decide) (wanted_if hops 2 true (by rfl) 31 (by rfl) true (by rfl)) (by rw [hK.out]; rfl) (by rfl) (.tmp 35) (.pointer (some (ad.add (i * 2)))) (by rfl) (.string di.1) (fun ρ h1 kk w1 (hg : Grow _ w1) hb hf => by have c := e0 w1 hg; go_simp) ?_
            refine fl_mv 37 (by rfl) (by decide) (wanted_if hops 2 true (by rfl) 31 (by rfl) true (by rfl)) (by rw [hK.out]; rfl) (by rfl) _ (Or.inl (by rfl)) (.slice (some ad) Q.length Q.length) (by rfl) ?_
            refine fl_mv 38 (by rfl) (by decide) (wanted_if hops 2 true (by rfl) 31 (by rfl) true (by rfl)) (by rw [hK.out]; rfl) (by rfl) _ (Or.inl (by rfl)) (.int .i64 (i : Int)) (by rfl) ?_
            refine fl_op2 39 (by rfl) (by decide) (wanted_if hops 2 true (by rfl) 31 (by rfl) true (by rfl)) (by rw [hK.out]; rfl) (by rfl) (.tmp 38) (.const (.int .i64 1)) (.int .i64 (i : Int)) (.int .i64 1) (by rfl) (by rfl) (.int .i64 (j : Int)) (fun ρ h1 h2 kk w1 (hg : Grow _ w1) hb hf => by go_simp) ?_
            refine fl_op2 40 (by rfl) (by decide) (wanted_if hops 2 true (by rfl) 31 (by rfl) true (by rfl)) (by rw [hK.out]; rfl) (by rfl) (.tmp 37) (.tmp 39) (.slice (some ad) Q.length Q.length) (.int .i64 (j : Int)) (by rfl) (by rfl) (.pointer (some (ad.add (j * 2)))) (fun ρ h1 h2 kk w1 (hg : Grow _ w1) hb hf => by go_simp; try (intro hlt; omega)) ?_
            refine fl_op1 41 (by rfl) (by decide) (wanted_if hops 2 true (by rfl) 31 (by rfl) true (by rfl)) (by rw [hK.out]; rfl) (by rfl) (.tmp 40) (.pointer (some (ad.add (j * 2)))) (by rfl) (.pointer (some (ad.add (j * 2)))) (fun ρ h1 kk w1 (hg : Grow _ w1) hb hf => by go_simp) ?_
            refine fl_op1 42 (by rfl) (by decide) (wanted_if hops 2 true (by rfl) 31 (by rfl) true (by rfl)) (by rw [hK.out]; rfl) (by rfl) (.tmp 41) (.pointer (some (ad.add (j * 2)))) (by rfl) (.string dj.1) (fun ρ h1 kk w1 (hg : Grow _ w1) hb hf => by have c := j0 w1 hg; go_simp) ?_
            refine fl_op2 43 (by rfl) (by decide) (wanted_if hops 2 true (by rfl) 31 (by rfl) true (by rfl)) (by rw [hK.out]; rfl) (by rfl) (.tmp 36) (.tmp 42) (.string di.1) (.string dj.1) (by rfl) (by rfl) (.bool false) (fun ρ h1 h2 kk w1 (hg : Grow _ w1) hb hf => by go_simp) ?_
            refine fl_pick 44 (by rfl) (by decide) (wanted_none (by rfl)) (by rw [hK.out]; rfl) (by rfl) _ _ _ (by rfl) true (by rfl) (.bool false) (by rfl) ?_
            refine fl_mv 45 (by rfl) (by decide) (wanted_none (by rfl)) (by rw [hK.out]; rfl) (by rfl) _ (Or.inl (by rfl)) (.bool false) (by rfl) ?_
            refine fl_mv 46 (by rfl) (by decide) (wanted_if hops 16 false (by rfl) 45 (by rfl) false (by rfl)) (by rw [hK.out]; rfl) (by rfl) _ (Or.inl (by rfl)) (.pointer (some ⟨s, 0, none⟩)) (by rfl) ?_
            refine fl_mv 47 (by rfl) (by decide) (wanted_if hops 16 false (by rfl) 45 (by rfl) false (by rfl)) (by rw [hK.out]; rfl) (by rfl) _ (Or.inl (by rfl)) (.slice (some ad) Q.length Q.length) (by rfl) ?_
            refine fl_mv 48 (by rfl) (by decide) (wanted_if hops 16 false (by rfl) 45 (by rfl) false (by rfl)) (by rw [hK.out]; rfl) (by rfl) _ (Or.inl (by rfl)) (.int .i64 (i : Int)) (by rfl) ?_
            refine fl_op2 49 (by rfl) (by decide) (wanted_if hops 16 false (by rfl) 45 (by rfl) false (by rfl)) (by rw [hK.out]; rfl) (by rfl) (.tmp 47) (.tmp 48) (.slice (some ad) Q.length Q.length) (.int .i64 (i : Int)) (by rfl) (by rfl) (.pointer (some (ad.add (i * 2)))) (fun ρ h1 h2 kk w1 (hg : Grow _ w1) hb hf => by go_simp; try (intro hlt; omega)) ?_
            refine fl_op1 50 (by rfl) (by decide) (wanted_if hops 16 false (by rfl) 45 (by rfl) false (by rfl)) (by rw [hK.out]; rfl) (by rfl) (.tmp 49) (.pointer (some (ad.add (i * 2)))) (by rfl) (.pointer (some (ad.add (i * 2)))) (fun ρ h1 kk w1 (hg : Grow _ w1) hb hf => by go_simp) ?_
            refine fl_op1 51 (by rfl) (by decide) (wanted_if hops 16 false (by rfl) 45 (by rfl) false (by rfl)) (by rw [hK.out]; rfl) (by rfl) (.tmp 50) (.pointer (some (ad.add (i * 2)))) (by rfl) (.string di.1) (fun ρ h1 kk w1 (hg : Grow _ w1) hb hf => by have c := e0 w1 hg; go_simp) ?_
            refine fl_call 52 (by rfl) (by decide) (wanted_if hops 16 false (by rfl) 45 (by rfl) false (by rfl)) (.int .u64 (di.2 : Int)) (by rw [hK.out]; rfl) 15 _ _ (by rfl) [.pointer (some ⟨s, 0, none⟩), .string di.1] (by rfl) k15 (fun kk w1 (hg : Grow _ w1) hb hf => calls_behind (by rfl) (by exact grew_same (hget w1 hg))) ?_
            refine fl_mv 53 (by rfl) (by decide) (wanted_if hops 16 false (by rfl) 45 (by rfl) false (by rfl)) (by rw [hK.out]; rfl) (by rfl) _ (Or.inl (by rfl)) (.slice (some ad) Q.length Q.length) (by rfl) ?_
            refine fl_mv 54 (by rfl) (by decide) (wanted_if hops 16 false (by rfl) 45 (by rfl) false (by rfl)) (by rw [hK.out]; rfl) (by rfl) _ (Or.inl (by rfl)) (.int .i64 (i : Int)) (by rfl) ?_
            refine fl_op2 55 (by rfl) (by decide) (wanted_if hops 16 false (by rfl) 45 (by rfl) false (by rfl)) (by rw [hK.out]; rfl) (by rfl) (.tmp 53) (.tmp 54) (.slice (some ad) Q.length Q.length) (.int .i64 (i : Int)) (by rfl) (by rfl) (.pointer (some (ad.add (i * 2)))) (fun ρ h1 h2 kk w1 (hg : Grow _ w1) hb hf => by go_simp; try (intro hlt; omega)) ?_
            refine fl_op1 56 (by rfl) (by decide) (wanted_if hops 16 false (by rfl) 45 (by rfl) false (by rfl)) (by rw [hK.out]; rfl) (by rfl) (.tmp 55) (.pointer (some (ad.add (i * 2)))) (by rfl) (.pointer (some ⟨(ad.add (i * 2)).block, (ad.add (i * 2)).off + 1, none⟩)) (fun ρ h1 kk w1 (hg : Grow _ w1) hb hf => by go_simp) ?_
            refine fl_op1 57 (by rfl) (by decide) (wanted_if hops 16 false (by rfl) 45 (by rfl) false (by rfl)) (by rw [hK.out]; rfl) (by rfl) (.tmp 56) (.pointer (some ⟨(ad.add (i * 2)).block, (ad.add (i * 2)).off + 1, none⟩)) (by rfl) (.int .u64 (di.2 : Int)) (fun ρ h1 kk w1 (hg : Grow _ w1) hb hf => by have c := e1 w1 hg; go_simp) ?_
            refine fl_op2 58 (by rfl) (by decide) (wanted_if hops 16 false (by rfl) 45 (by rfl) false (by rfl)) (by rw [hK.out]; rfl) (by rfl) (.tmp 52) (.tmp 57) (.int .u64 (di.2 : Int)) (.int .u64 (di.2 : Int)) (by rfl) (by rfl) (.bool false) (fun ρ h1 h2 kk w1 (hg : Grow _ w1) hb hf => by go_simp) ?_
            refine fl_pick 59 (by rfl) (by decide) (wanted_none (by rfl)) (by rw [hK.out]; rfl) (by rfl) _ _ _ (by rfl) false (by rfl) (.bool false) (by rfl) ?_
            refine fl_mv 60 (by rfl) (by decide) (wanted_none (by rfl)) (by rw [hK.out]; rfl) (by rfl) _ (Or.inl (by rfl)) (.bool false) (by rfl) ?_
            refine fl_mv 61 (by rfl) (by decide) (wanted_if hops 31 false (by rfl) 60 (by rfl) false (by rfl)) (by rw [hK.out]; rfl) (by rfl) _ (Or.inl (by rfl)) (.slice (some ad) Q.length Q.length) (by rfl) ?_
            refine fl_mv 62 (by rfl) (by decide) (wanted_if hops 31 false (by rfl) 60 (by rfl) false (by rfl)) (by rw [hK.out]; rfl) (by rfl) _ (Or.inl (by rfl)) (.int .i64 (i : Int)) (by rfl) ?_
            refine fl_op2 63 (by rfl) (by decide) (wanted_if hops 31 false (by rfl) 60 (by rfl) false (by rfl)) (by rw [hK.out]; rfl) (by rfl) (.tmp 61) (.tmp 62) (.slice (some ad) Q.length Q.length) (.int .i64 (i : Int)) (by rfl) (by rfl) (.pointer (some (ad.add (i * 2)))) (fun ρ h1 h2 kk w1 (hg : Grow _ w1) hb hf => by go_simp; try (intro hlt; omega)) ?_
            refine fl_op1 64 (by rfl) (by decide) (wanted_if hops 31 false (by rfl) 60 (by rfl) false (by rfl)) (by rw [hK.out]; rfl) (by rfl) (.tmp 63) (.pointer (some (ad.add (i * 2)))) (by rfl) (.pointer (some ⟨(ad.add (i * 2)).block, (ad.add (i * 2)).off + 1, none⟩)) (fun ρ h1 kk w1 (hg : Grow _ w1) hb hf => by go_simp) ?_
            refine fl_op1 65 (by rfl) (by decide) (wanted_if hops 31 false (by rfl) 60 (by rfl) false (by rfl)) (by rw [hK.out]; rfl) (by rfl) (.tmp 64) (.pointer (some ⟨(ad.add (i * 2)).block, (ad.add (i * 2)).off + 1, none⟩)) (by rfl) (.int .u64 (di.2 : Int)) (fun ρ h1 kk w1 (hg : Grow _ w1) hb hf => by have c := e1 w1 hg; go_simp) ?_
            refine fl_op2 66 (by rfl) (by decide) (wanted_if hops 31 false (by rfl) 60 (by rfl) false (by rfl)) (by rw [hK.out]; rfl) (by rfl) (.tmp 65) (.const (.int .u64 0)) (.int .u64 (di.2 : Int)) (.int .u64 0) (by rfl) (by rfl) (.bool false) (fun ρ h1 h2 kk w1 (hg : Grow _ w1) hb hf => by go_simp) ?_
            refine fl_pick 67 (by rfl) (by decide) (wanted_none (by rfl)) (by rw [hK.out]; rfl) (by rfl) _ _ _ (by rfl) false (by rfl) (.bool false) (by rfl) ?_
            refine fl_end (fun _ _ w1 (hg : Grow _ w1) _ hfacts => hT _ _ ?_)
            clear hops hA' hK hT
            simp only [putsL, Act.put, List.setIfInBounds_toArray, List.set_cons_zero, List.set_cons_succ, List.drop_succ_cons, List.drop_zero]
            clear hfacts
            go_wp2_with fail
            go_roundw
            case rel => exact ⟨i + 1, by omega, by go_num, hgz.trans hg⟩
            case measure => simp [intOf]; omega
        · obtain rfl : i = Q.length := by omega
          have hit : decide ((Q.length : Int) < (Q.length : Int)) = false := decide_eq_false (by omega)
          have hfew : decide ((Q.length : Int) ≤ 16) = true := decide_eq_true (by have := hQ.few; omega)
          have hget := Get_at (hS3.grow hgz) { data := #[110, 111, 110, 101, 61, 48] } (by unfold maxLen; decide +kernel)
          rw [hQ.none_] at hget
          go_wp2_with fail
          refine hget.mono ?_
          rintro e w5 ⟨rfl, rfl⟩
          go_wp2_with fail
          refine (known_any _).mono ?_
          rintro e w5 ⟨rfl, hg5⟩
          go_wp2_with fail
          go_ret
          exact ⟨rfl, below_trans (below_trans hgr hgz hgr.size) hg5 (below_trans hgr hgz hgr.size).size⟩
end Go.Proofs.Ytnijeemldhmkjaa
