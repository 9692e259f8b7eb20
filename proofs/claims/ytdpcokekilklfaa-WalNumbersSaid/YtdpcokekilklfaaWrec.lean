/- Records that were read, of both. -/
import Derived.Test.YtdpcokekilklfaaWsteps2
namespace Go.Proofs.Ytdpcokekilklfaa
open Go.RowKit Go.Hop
/-- rows of bytes, in blocks of D -/
def XsIn (xs : List (List UInt8)) (D : Nat → Prop) (u : Value) (w : World) : Prop := ∃ (A : Option Addr) (c : Nat) (q : List Bx), u = .slice A q.length c ∧ Bxs w D D A q.length q ∧ q.map Bx.bs = xs ∧ q.length ≤ c ∧ c ≤ maxLen
theorem XsIn.keep {xs : List (List UInt8)} {D : Nat → Prop} {u : Value} {w w' : World} (h : XsIn xs D u w) (hk : ∀ b, D b → w'.heap[b]? = w.heap[b]?) : XsIn xs D u w' := by
  obtain ⟨A, c, q, hu, hB, hq, h1, h2⟩ := h
  exact ⟨A, c, q, hu, ⟨hB.row.keep fun b hb _ => hk b hb, fun b hb => ⟨(hB.all b hb).bs.keep fun b hb _ => hk b hb, (hB.all b hb).le, (hB.all b hb).max⟩⟩, hq, h1, h2⟩
theorem XsIn.at_ {xs : List (List UInt8)} {D : Nat → Prop} {w : World} {u : Value} (h : XsIn xs D u w) : ∃ (A : Option Addr) (c : Nat), u = .slice A xs.length c ∧ xs.length ≤ c ∧ c ≤ maxLen ∧ ∀ j x, xs[j]? = some x → ∃ (ad : Addr) (b : Bx), A = some ad ∧ b.bs = x ∧ ∀ w1, Grow w w1 → w1.cell? (ad.add j) = some (.slice b.A b.m b.c) ∧ Bytes w1 w1.heap.size b.A b.m x := by
  obtain ⟨A, c, q, rfl, hB, hq, h1, h2⟩ := h
  have hl : xs.length = q.length := by rw [← hq, List.length_map]
  refine ⟨A, c, by rw [hl], by omega, h2, fun j x hx => ?_⟩
  obtain ⟨hj, e⟩ := List.getElem?_eq_some_iff.1 hx
  obtain ⟨ad, hqj, rfl, hc⟩ := rec1 hB.row (k := j) (by omega)
  have hbs : q[j].bs = x := by
    have h3 : (q.map Bx.bs)[j]? = some q[j].bs := by rw [List.getElem?_map, List.getElem?_eq_getElem hqj]; rfl
    rw [hq, hx] at h3
    injection h3 with h3
    exact h3.symm
  refine ⟨ad, q[j], rfl, hbs, fun w1 hg => ⟨hc w1 hg, ?_⟩⟩
  rw [← hbs]
  exact ((hB.all _ (List.getElem_mem hqj)).grow hg).bytes
/-- an object, and rows of bytes beside it -/
def With (S : Thing) (xs : List (List UInt8)) (u : Value) : Thing := fun w V => ∃ V1 D : Nat → Prop, S w V1 ∧ XsIn xs D u w ∧ (∀ b, V1 b → V b) ∧ (∀ b, D b → V b)
theorem With.framed {S : Thing} (hS : Framed S) (xs : List (List UInt8)) (u : Value) : Framed (With S xs u) := fun w w' V h hk => by
  obtain ⟨V1, D, h1, h2, h3, h4⟩ := h
  exact ⟨V1, D, hS w w' V1 h1 fun b hb => hk b (h3 b hb), h2.keep fun b hb => hk b (h4 b hb), h3, h4⟩
section
variable {P : Nat → Prop} {S R : Thing} {w : World} {d x : Nat} {n : Int} {l : List UInt8} {k : Nat} {xs : List (List UInt8)} {u : Value}
theorem with_drop (h : Duo P (With S xs u) R w) : Duo P S R w := by
  obtain ⟨h0, V, U, ⟨V1, D, h1, _, h6, _⟩, h2, h3, h4, h5⟩ := h
  exact ⟨h0, V1, U, h1, h2, fun b hb => h3 b (h6 b hb), fun b hb => h4 b (h6 b hb), h5⟩
theorem with_drop2 (h : Duo P S (With R xs u) w) : Duo P S R w := by
  obtain ⟨h0, V, U, h1, ⟨V1, D, h2, _, h6, _⟩, h3, h4, h5⟩ := h
  exact ⟨h0, V, V1, h1, h2, fun b hb hu => h3 b hb (h6 b hu), h4, fun b hb => h5 b (h6 b hb)⟩
theorem open_both (hS : ∀ w V, S w V → DiskAt 44 d l k w V) (hR : Framed R) (h : Duo P S R w) : Calls Try.prog 9 #[.pointer (some ⟨d, 0, none⟩)] w fun e w' => ∃ (xs : List (List UInt8)) (j x : Nat) (u : Value), ScanIs l xs j ∧ e = .returned (.tuple #[.pointer (some ⟨x, 0, none⟩), u]) ∧
      Just P w w' ∧ Duo P (With (LogAt x d (xs.length : Int) (l.take j) j) xs u) R w' := by
  obtain ⟨h0, V, U, h1, h2, h3, h4, h5⟩ := h
  refine (Open_any w d l k V (hS w V h1) fun b hb => (h4 b hb).2).mono ?_
  rintro e w' ⟨xs, j, x, u, hs, he, hX, hL, hj⟩
  refine ⟨xs, j, x, u, hs, he, hj.imp fun b hb => (h4 b hb).1, fun b hb => h0 b (Nat.le_trans hj.size hb), Ext V w w', U, ⟨_, New w w', hL, hX, fun _ h => h, fun b hb => .inr hb⟩, hR w w' U h2 (fun b hb => hj.block b (h5 b hb).2 fun hv => h3 b hv hb), fun b hb hu => ?_, ext_lt h4 h0 hj.size, fun b hb => ⟨(h5 b hb).1, Nat.lt_of_lt_of_le (h5 b hb).2 hj.size⟩⟩
  rcases hb with hb | hb
  · exact h3 b hb hu
  · have := (h5 b hu).2; have := hb.1; omega
theorem ropen_both (hS : Framed S) (h : Duo P S (DiskAt 61 d l k) w) : Calls Try.prog 32 #[.pointer (some ⟨d, 0, none⟩)] w fun e w' => ∃ (xs : List (List UInt8)) (j : Nat) (u : Value), ScanIs l xs j ∧ e = .returned u ∧
      Just P w w' ∧ Duo P S (With (DiskAt 61 d (l.take j) j) xs u) w' := by
  obtain ⟨h0, V, U, h1, h2, h3, h4, h5⟩ := h
  refine (rOpen_any w d l k U h2 fun b hb => (h5 b hb).2).mono ?_
  rintro e w' ⟨xs, j, u, hs, he, hX, hL, hj⟩
  refine ⟨xs, j, u, hs, he, hj.imp fun b hb => (h5 b hb).1, fun b hb => h0 b (Nat.le_trans hj.size hb), V, Ext U w w', hS w w' V h1 (fun b hb => hj.block b (h4 b hb).2 fun hu => h3 b hb hu), ⟨_, New w w', hL, hX, fun _ h => h, fun b hb => .inr hb⟩, fun b hb hu => ?_, fun b hb => ⟨(h4 b hb).1, Nat.lt_of_lt_of_le (h4 b hb).2 hj.size⟩, ext_lt h5 h0 hj.size⟩
  rcases hu with hu | hu
  · exact h3 b hb hu
  · have := (h4 b hb).2; have := hu.1; omega
end
theorem both_rows {P : Nat → Prop} {S R : Thing} {w : World} {xs : List (List UInt8)} {u v : Value} (h : Duo P (With S xs u) (With R xs v) w) : ∃ D1 D2 : Nat → Prop, XsIn xs D1 u w ∧ XsIn xs D2 v w := by
  obtain ⟨_, V, U, ⟨_, D1, _, h1, _⟩, ⟨_, D2, _, h2, _⟩, _⟩ := h
  exact ⟨D1, D2, h1, h2⟩
theorem Torn_is (w : World) (d : Nat) (l : List UInt8) (k : Nat) (V : Nat → Prop) (hD : DiskAt 44 d l k w V) (hV : ∀ b, V b → b < w.heap.size) {xs : List (List UInt8)} {j : Nat} (hs : ScanIs l xs j) :
    Calls Try.prog 16 #[.pointer (some ⟨d, 0, none⟩)] w fun e w' => e = .returned (.int .i64 ((l.length : Int) - (j : Int))) ∧ Grow w w' :=
  (Torn_any w d l k V hD hV).mono fun e w' ⟨ys, i, hs', he, hg⟩ => by
    obtain ⟨_, rfl⟩ := hs.one hs'
    exact ⟨he, hg⟩
set_option maxRecDepth 100000 in
theorem records_any (w : World) (xs : List (List UInt8)) (D1 D2 : Nat → Prop) (u1 u2 : Value) (h1 : XsIn xs D1 u1 w) (h2 : XsIn xs D2 u2 w) (hl : xs.length ≤ 1099511627776) :
    Calls Try.prog 33 #[u1, u2] w fun e w' => e = .returned (.bool true) ∧ Grow w w' := by
  obtain ⟨A1, c1, rfl, hn1, hm1, hrow1⟩ := h1.at_
  obtain ⟨A2, c2, rfl, hn2, hm2, hrow2⟩ := h2.at_
  generalize hi : xs.length = i at *
  go_enter Try.func33, Try.ntmps33
  go_wp2_with fail
  go_loopw [5, 13] (fun _ z wr => ∃ jj : Nat, jj ≤ i ∧ z = .int .i64 (jj : Int) ∧ Grow w wr) (fun _ z _ => i - (intOf z).toNat)
  case atStart => exact ⟨0, by omega, rfl, Grow.refl _⟩
  case round =>
    obtain ⟨jj, hji, rfl, hgr⟩ := hrel
    by_cases hj : jj < i
    · have hj' : decide ((jj : Int) < (i : Int)) = true := decide_eq_true (by omega)
      have hxj : xs[jj]? = some (xs[jj]'(by omega)) := List.getElem?_eq_getElem _
      generalize xs[jj]'(by omega) = x at hxj
      obtain ⟨a1, b1, rfl, _, hr1⟩ := hrow1 jj _ hxj
      obtain ⟨a2, b2, rfl, _, hr2⟩ := hrow2 jj _ hxj
      have hjc : jj < c1 := by omega
      have hjc2 : jj < c2 := by omega
      clear hrow1 hrow2 hxj
      go_wp2_with fail
      refine wp_region_flow 11 28 [] rfl rfl (by kernel_rfl) (by kernel_rfl) (by kernel_rfl) ?_ ?_
      · intro x hx φ he
        cases hx
      intro ops' A' K' T hops hA' hK hT
      refine fl_mv 16 (by rfl) (by decide) (wanted_none (by rfl)) (by rw [hK.out]; rfl) (by rfl) _ (Or.inl (by rfl)) (.slice (some a1) i c1) (by rfl) ?_
      refine fl_mv 17 (by rfl) (by decide) (wanted_none (by rfl)) (by rw [hK.out]; rfl) (by rfl) _ (Or.inl (by rfl)) (.int .i64 (jj : Int)) (by rfl) ?_
      refine fl_op2 18 (by rfl) (by decide) (wanted_none (by rfl)) (by rw [hK.out]; rfl) (by rfl) (.tmp 16) (.tmp 17) (.slice (some a1) i c1) (.int .i64 (jj : Int)) (by rfl) (by rfl) (.pointer (some (a1.add jj))) (fun ρ h1 h2 kk w1 (hg : Grow _ w1) hb hf => by go_simp) ?_
      refine fl_op1 19 (by rfl) (by decide) (wanted_none (by rfl)) (by rw [hK.out]; rfl) (by rfl) (.tmp 18) (.pointer (some (a1.add jj))) (by rfl) (.slice b1.A b1.m b1.c) (fun ρ h1 kk w1 (hg : Grow _ w1) hb hf => by have c := (hr1 w1 (hgr.trans hg)).1; go_simp) ?_
      refine fl_op1 20 (by rfl) (by decide) (wanted_none (by rfl)) (by rw [hK.out]; rfl) (by rfl) (.tmp 19) (.slice b1.A b1.m b1.c) (by rfl) (.string ⟨x.toArray⟩) (fun ρ h1 kk w1 (hg : Grow _ w1) hb hf => by have cv := conv_bytes w1 (c := b1.c) (hr1 w1 (hgr.trans hg)).2; go_simp) ?_
      refine fl_mv 21 (by rfl) (by decide) (wanted_none (by rfl)) (by rw [hK.out]; rfl) (by rfl) _ (Or.inl (by rfl)) (.slice (some a2) i c2) (by rfl) ?_
      refine fl_mv 22 (by rfl) (by decide) (wanted_none (by rfl)) (by rw [hK.out]; rfl) (by rfl) _ (Or.inl (by rfl)) (.int .i64 (jj : Int)) (by rfl) ?_
      refine fl_op2 23 (by rfl) (by decide) (wanted_none (by rfl)) (by rw [hK.out]; rfl) (by rfl) (.tmp 21) (.tmp 22) (.slice (some a2) i c2) (.int .i64 (jj : Int)) (by rfl) (by rfl) (.pointer (some (a2.add jj))) (fun ρ h1 h2 kk w1 (hg : Grow _ w1) hb hf => by go_simp) ?_
      refine fl_op1 24 (by rfl) (by decide) (wanted_none (by rfl)) (by rw [hK.out]; rfl) (by rfl) (.tmp 23) (.pointer (some (a2.add jj))) (by rfl) (.slice b2.A b2.m b2.c) (fun ρ h1 kk w1 (hg : Grow _ w1) hb hf => by have c := (hr2 w1 (hgr.trans hg)).1; go_simp) ?_
      refine fl_op1 25 (by rfl) (by decide) (wanted_none (by rfl)) (by rw [hK.out]; rfl) (by rfl) (.tmp 24) (.slice b2.A b2.m b2.c) (by rfl) (.string ⟨x.toArray⟩) (fun ρ h1 kk w1 (hg : Grow _ w1) hb hf => by have cv := conv_bytes w1 (c := b2.c) (hr2 w1 (hgr.trans hg)).2; go_simp) ?_
      refine fl_op2 26 (by rfl) (by decide) (wanted_none (by rfl)) (by rw [hK.out]; rfl) (by rfl) (.tmp 20) (.tmp 25) (.string ⟨x.toArray⟩) (.string ⟨x.toArray⟩) (by rfl) (by rfl) (.bool false) (fun ρ h1 h2 kk w1 (hg : Grow _ w1) hb hf => by go_simp) ?_
      refine fl_end (fun _ _ w1 (hg : Grow _ w1) _ hfacts => hT _ _ ?_)
      clear hops hA' hK hT
      simp only [putsL, Act.put, List.setIfInBounds_toArray, List.set_cons_zero, List.set_cons_succ, List.drop_succ_cons, List.drop_zero]
      go_wp2_with fail
      go_roundw
      case rel => exact ⟨jj + 1, by omega, by go_num, hgr.trans hg⟩
      case measure => simp [intOf]; omega
    · obtain rfl : jj = i := by omega
      have hj' : decide ((jj : Int) < (jj : Int)) = false := decide_eq_false (by omega)
      go_wp2_with fail
      go_ret
      exact ⟨rfl, hgr⟩
end Go.Proofs.Ytdpcokekilklfaa
