/- Cut, of both: what they tell. -/
import Derived.Test.YtoeffekghmmmjaaVrget
namespace Go.Proofs.Ytoeffekghmmmjaa
open Go.RowKit Go.Hop
/-- what Cut is to tell -/
def CutIs (l t : List UInt8) (k : Nat) : Prop := (t.length < 18446744073709551616 ∧ enc t.length ++ t <+: l ∧ k = (enc t.length).length + t.length) ∨ ((∀ t' : List UInt8, t'.length < 18446744073709551616 → ¬ (enc t'.length ++ t') <+: l) ∧ t = [] ∧ k = 0)
theorem CutIs.none {l : List UInt8} (h : ∀ t' : List UInt8, t'.length < 18446744073709551616 → ¬ (enc t'.length ++ t') <+: l) : CutIs l [] 0 := .inr ⟨h, rfl, rfl⟩
theorem cut_prefix {t t' l : List UInt8} (h1 : enc t.length ++ t <+: l) (h2 : enc t'.length ++ t' <+: l) : t = t' := by
  have he := enc_prefix ((List.prefix_append _ _).trans h1) ((List.prefix_append _ _).trans h2)
  rw [← he] at h2
  obtain ⟨r, rfl⟩ := h1
  rw [List.append_assoc] at h2
  have h3 := (List.prefix_append_right_inj _).1 h2
  have h4 : t <+: t ++ r := List.prefix_append _ _
  exact List.IsPrefix.eq_of_length (List.prefix_of_prefix_length_le h4 h3 (by omega)) he
theorem CutIs.one {l t t' : List UInt8} {k k' : Nat} (h : CutIs l t k) (h' : CutIs l t' k') : t = t' ∧ k = k' := by
  rcases h with ⟨h1, h2, h3⟩ | ⟨h1, h2, h3⟩ <;> rcases h' with ⟨g1, g2, g3⟩ | ⟨g1, g2, g3⟩
  · have := cut_prefix h2 g2
    subst this
    exact ⟨rfl, by omega⟩
  · exact absurd h2 (g1 _ h1)
  · exact absurd g2 (h1 _ g1)
  · exact ⟨by rw [h2, g2], by omega⟩
theorem cut_here {l : List UInt8} {v k : Nat} (hv : v < 18446744073709551616) (hE : enc v <+: l) (hk : k = (enc v).length) (hl : v ≤ l.length - k) : CutIs l ((l.drop k).take v) (k + v) := by
  obtain ⟨r, rfl⟩ := hE
  subst hk
  rw [List.drop_left']
  · rw [List.length_append, Nat.add_sub_cancel_left] at hl
    have hlen : (r.take v).length = v := by rw [List.length_take]; omega
    refine .inl ⟨by rw [hlen]; exact hv, ?_, by rw [hlen]⟩
    rw [hlen]
    exact (List.prefix_append_right_inj _).2 (List.take_prefix _ _)
  · rfl
set_option maxRecDepth 100000 in
theorem Cut_any (w : World) (B : Nat) (A : Option Addr) (n c : Nat) (l : List UInt8) (hb : Bytes w B A n l) (HB0 : B ≤ w.heap.size) (hnc : n ≤ c) (hnm : c ≤ maxLen) :
    Calls Try.prog 19 #[.slice A n c] w fun e w' => ∃ (t : List UInt8) (k : Nat), CutIs l t k ∧ e = .returned (.tuple #[.string ⟨t.toArray⟩, .int .i64 (k : Int)]) ∧ Grow w w' := by
  have hlen := hb.len
  unfold maxLen at hnm
  go_enter Try.func19, Try.ntmps19
  go_wp2_with fail
  go_at_call 9
  refine (Get_any w B A n c l hb (by unfold maxLen; omega)).mono ?_
  rintro e w1 ⟨v, k, hG, rfl, rfl⟩
  obtain ⟨hv, hk10, hkl⟩ := hG.lt
  by_cases hk : k ≤ 0
  · go_wp2_with fail
    go_ret2
    exact ⟨[], 0, CutIs.none (fun t ht hp => by
      rcases hG with ⟨_, _, h3⟩ | ⟨h1, _, _⟩
      · have := enc_pos v; omega
      · exact h1 _ ht ((List.prefix_append _ _).trans hp)), rfl, Grow.refl _⟩
  · have hE : enc v <+: l ∧ k = (enc v).length := by
      rcases hG with ⟨_, h2, h3⟩ | ⟨_, _, h3⟩
      · exact ⟨h2, h3⟩
      · omega
    obtain ⟨hE, hkE⟩ := hE
    have HKE := Lib.hid hkE
    clear hkE
    have hgr : (n : Int) - (k : Int) < (v : Int) ∨ (v : Int) ≤ (n : Int) - (k : Int) := by omega
    have hwn : IntKind.u64.wrap ((n : Int) - (k : Int)) = (n : Int) - (k : Int) := by rw [wrap_u64]; omega
    have hw64 : wrap64 ((n : Int) - (k : Int)) = (n : Int) - (k : Int) := by unfold wrap64; omega
    have hkb : ((k : Int) == 0) = false := by rw [beq_eq_false_iff_ne]; omega
    by_cases hvn : (n : Int) - (k : Int) < (v : Int)
    · clear hgr
      go_wp2_with fail
      go_ret2
      exact ⟨[], 0, CutIs.none (fun t ht hp => by
        have h1 := enc_prefix hE ((List.prefix_append _ _).trans hp)
        have h2 := hp.length_le
        rw [List.length_append, ← h1, ← HKE.out] at h2
        omega), rfl, Grow.refl _⟩
    · clear hgr
      have hvn' : (v : Int) ≤ (n : Int) - (k : Int) := by omega
      have hwv : IntKind.i64.wrap (v : Int) = (v : Int) := by rw [IntKind.wrap_i64]; omega
      have hR := (Reads.cut hb (k := k) (cap := c) (by omega) hnc).take (k := v) (by omega)
      rw [Nat.mul_one] at hR
      have hR' : Bytes w B (if c = k then A else A.map (·.add k)) v ((l.drop k).take v) := by
        unfold Bytes; rw [u8s_take, u8s_drop, Nat.mul_one k]; exact hR
      have hkv : (k : Int) + (v : Int) ≤ (c : Int) := by omega
      have hfin := cut_here hv hE HKE.out (show v ≤ l.length - k by omega)
      by_cases hck : c = k
      · rw [if_pos hck] at hR'
        obtain rfl : k = c := hck.symm
        obtain rfl : v = 0 := by omega
        have hR' : Bytes w B A 0 [] := hR'
        have cv := fun c' => conv_bytes w (c := c') hR'
        go_wp2_with fail
        go_ret2
        exact ⟨_, _, hfin, by push_cast; rfl, Grow.refl _⟩
      · rw [if_neg hck] at hR'
        have cv := fun c' => conv_bytes w (c := c') hR'
        go_wp2_with fail
        go_ret2
        exact ⟨_, _, hfin, by push_cast; rfl, Grow.refl _⟩
set_option maxRecDepth 100000 in
theorem rCut_any (w : World) (B : Nat) (A : Option Addr) (n c : Nat) (l : List UInt8) (hb : Bytes w B A n l) (hBw : B ≤ w.heap.size) (hnc : n ≤ c) (hnm : c ≤ maxLen) :
    Calls Try.prog 25 #[.slice A n c] w fun e w' => ∃ (t : List UInt8) (k : Nat), CutIs l t k ∧ e = .returned (.tuple #[.string ⟨t.toArray⟩, .int .i64 (k : Int)]) ∧ Grow w w' := by
  have hlen := hb.len
  unfold maxLen at hnm
  go_enter Try.func25, Try.ntmps25
  go_wp2_with fail
  go_at_call 24
  refine (rGet_any w B A n c l hb hBw hnc (by unfold maxLen; exact hnm)).mono ?_
  rintro e w1 ⟨v, k, hG, rfl, hg1⟩
  obtain ⟨hv, hk10, hkl⟩ := hG.lt
  by_cases hk : k ≤ 0
  · go_wp2_with fail
    go_ret2
    exact ⟨[], 0, CutIs.none (fun t ht hp => by
      rcases hG with ⟨_, _, h3⟩ | ⟨h1, _, _⟩
      · have := enc_pos v; omega
      · exact h1 _ ht ((List.prefix_append _ _).trans hp)), rfl, hg1⟩
  · have hE : enc v <+: l ∧ k = (enc v).length := by
      rcases hG with ⟨_, h2, h3⟩ | ⟨_, _, h3⟩
      · exact ⟨h2, h3⟩
      · omega
    obtain ⟨hE, hkE⟩ := hE
    have HKE := Lib.hid hkE
    clear hkE
    have hgr : (n : Int) - (k : Int) < (v : Int) ∨ (v : Int) ≤ (n : Int) - (k : Int) := by omega
    have hwn : IntKind.u64.wrap ((n : Int) - (k : Int)) = (n : Int) - (k : Int) := by rw [wrap_u64]; omega
    have hw64 : wrap64 ((n : Int) - (k : Int)) = (n : Int) - (k : Int) := by unfold wrap64; omega
    have hkb : ((k : Int) == 0) = false := by rw [beq_eq_false_iff_ne]; omega
    by_cases hvn : (n : Int) - (k : Int) < (v : Int)
    · clear hgr
      go_wp2_with fail
      go_ret2
      exact ⟨[], 0, CutIs.none (fun t ht hp => by
        have h1 := enc_prefix hE ((List.prefix_append _ _).trans hp)
        have h2 := hp.length_le
        rw [List.length_append, ← h1, ← HKE.out] at h2
        omega), rfl, hg1⟩
    · clear hgr
      have hvn' : (v : Int) ≤ (n : Int) - (k : Int) := by omega
      have hwv : IntKind.i64.wrap (v : Int) = (v : Int) := by rw [IntKind.wrap_i64]; omega
      have hR := (Reads.cut hb (k := k) (cap := c) (by omega) hnc).take (k := v) (by omega)
      rw [Nat.mul_one] at hR
      have hR' : Bytes w B (if c = k then A else A.map (·.add k)) v ((l.drop k).take v) := by
        unfold Bytes; rw [u8s_take, u8s_drop, Nat.mul_one k]; exact hR
      have hkv : (k : Int) + (v : Int) ≤ (c : Int) := by omega
      have hfin := cut_here hv hE HKE.out (show v ≤ l.length - k by omega)
      by_cases hck : c = k
      · rw [if_pos hck] at hR'
        obtain rfl : k = c := hck.symm
        obtain rfl : v = 0 := by omega
        have hR' : Bytes w B A 0 [] := hR'
        have cv := fun c' => conv_bytes w1 (c := c') (hR'.below (Below.mono hg1 hBw))
        go_wp2_with fail
        go_ret2
        exact ⟨_, _, hfin, by push_cast; rfl, hg1⟩
      · rw [if_neg hck] at hR'
        have cv := fun c' => conv_bytes w1 (c := c') (hR'.below (Below.mono hg1 hBw))
        go_wp2_with fail
        go_ret2
        exact ⟨_, _, hfin, by push_cast; rfl, hg1⟩
end Go.Proofs.Ytoeffekghmmmjaa
