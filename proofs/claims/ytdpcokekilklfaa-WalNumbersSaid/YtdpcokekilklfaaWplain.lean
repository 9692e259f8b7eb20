/- Frames in a row, cut off: in plain words. -/
import Derived.Test.YtdpcokekilklfaaWal
namespace Go.Proofs.Ytdpcokekilklfaa
open Go.RowKit Go.Hop
theorem no_short {x : List UInt8} {j : Nat} (hj : j < (frame x).length) : NoFrame ((frame x).take j) := fun y _ hp => by
  have h1 := frame_one (hp.trans (List.take_prefix _ _)) (List.prefix_refl (frame x))
  subst h1
  have := hp.length_le
  rw [List.length_take] at this
  omega
theorem no_none : NoFrame [] := fun y _ hp => by
  have h1 : (frame y).length ≤ 0 := hp.length_le
  have := frame_five y
  omega
theorem scan_nil : ScanIs [] [] 0 := ⟨rfl, rfl, by simp, no_none⟩
theorem scan_rows (xs : List (List UInt8)) (r : List UInt8) (hx : ∀ x ∈ xs, x.length ≤ 65536) (hr : NoFrame r) : ScanIs (xs.flatMap frame ++ r) xs (xs.flatMap frame).length := by
  refine ⟨?_, rfl, hx, ?_⟩
  · rw [List.drop_left' rfl]
  · rw [List.drop_left' rfl]; exact hr
/-- frames in a row, cut off at m -/
theorem scan_cut : ∀ (xs : List (List UInt8)) (m : Nat), (∀ x ∈ xs, x.length ≤ 65536) → ∃ i, i ≤ xs.length ∧ ScanIs ((xs.flatMap frame).take m) (xs.take i) ((xs.take i).flatMap frame).length ∧ ∀ k, k ≤ xs.length → ((xs.take k).flatMap frame).length ≤ m → k ≤ i
  | [], m, _ => ⟨0, Nat.le_refl _, by simp only [List.flatMap_nil, List.take_nil, List.length_nil]; exact scan_nil, fun k hk _ => hk⟩
  | x :: xs, m, hx => by
    by_cases hm : (frame x).length ≤ m
    · obtain ⟨i, hi, hs, hk⟩ := scan_cut xs (m - (frame x).length) (fun y hy => hx y (List.mem_cons_of_mem _ hy))
      refine ⟨i + 1, by simp; omega, ?_, fun k hkl hkm => ?_⟩
      · have e : ((x :: xs).flatMap frame).take m = ((x :: xs).take (i + 1)).flatMap frame ++ ((xs.flatMap frame).take (m - (frame x).length)).drop ((xs.take i).flatMap frame).length := by
          rw [List.flatMap_cons, List.take_append, List.take_of_length_le hm, List.take_succ_cons, List.flatMap_cons, List.append_assoc, hs.1]
        rw [e]
        exact scan_rows _ _ (fun y hy => hx y (List.mem_of_mem_take hy)) hs.2.2.2
      · rcases k with _ | k
        · omega
        · have := hk k (by simp at hkl; omega) (by rw [List.take_succ_cons, List.flatMap_cons, List.length_append] at hkm; omega)
          omega
    · refine ⟨0, Nat.zero_le _, ?_, fun k hkl hkm => ?_⟩
      · have e : ((x :: xs).flatMap frame).take m = ([] : List (List UInt8)).flatMap frame ++ (frame x).take m := by
          rw [List.flatMap_cons, List.take_append, show m - (frame x).length = 0 by omega, List.take_zero, List.append_nil]
          rfl
        rw [e]
        exact scan_rows [] _ (by simp) (no_short (by omega))
      · rcases k with _ | k
        · omega
        · rw [List.take_succ_cons, List.flatMap_cons, List.length_append] at hkm
          omega
theorem scan_all (xs : List (List UInt8)) (hx : ∀ x ∈ xs, x.length ≤ 65536) : ScanIs (xs.flatMap frame) xs (xs.flatMap frame).length := by
  have := scan_rows xs [] hx no_none
  rwa [List.append_nil] at this
theorem ScanIs.opened {l : List UInt8} {xs : List (List UInt8)} {j : Nat} (h : ScanIs l xs j) : l.take j = xs.flatMap frame := by
  rw [← h.1, h.2.1, List.take_left' rfl]
theorem frame_small {x : List UInt8} (h : x.length < 128) : (frame x).length = x.length + 5 := by
  rw [frame_len, enc_small h]; simp; omega
theorem frames_small {xs : List (List UInt8)} {b : Nat} (hb : b < 128) (h : ∀ x ∈ xs, x.length ≤ b) : (xs.flatMap frame).length ≤ (b + 5) * xs.length := by
  induction xs with
  | nil => simp
  | cons x xs ih =>
    have h1 := ih fun y hy => h y (List.mem_cons_of_mem _ hy)
    have h2 := h x List.mem_cons_self
    rw [List.flatMap_cons, List.length_append, frame_small (by omega), List.length_cons, Nat.mul_add, Nat.mul_one]
    omega
theorem rec_ok {l b : List UInt8} (hb : b.length ≤ 65536) (h : l.length + (frame b).length ≤ 1048576) : recE l b = 0 ∧ recL l b = l ++ frame b := by
  unfold recE recL
  rw [if_pos hb, if_pos hb]
  have := fits_of h
  exact ⟨appE_zero.2 this, by unfold appL; rw [this]; rfl⟩
section
variable {P : Nat → Prop} {S R : Thing} {w : World} {d x : Nat} {n : Int} {l : List UInt8} {k : Nat}
theorem solo_get (h : Solo P S w) : ∃ V : Nat → Prop, S w V ∧ ∀ b, V b → P b ∧ b < w.heap.size := by
  obtain ⟨_, V, h1, h2⟩ := h; exact ⟨V, h1, h2⟩
theorem open_solo (hS : ∀ w V, S w V → DiskAt 44 d l k w V) (h : Solo P S w) : Calls Try.prog 9 #[.pointer (some ⟨d, 0, none⟩)] w fun e w' => ∃ (xs : List (List UInt8)) (j x : Nat) (u : Value), ScanIs l xs j ∧ e = .returned (.tuple #[.pointer (some ⟨x, 0, none⟩), u]) ∧ IsXs xs w u w' ∧
      Just P w w' ∧ Solo P (LogAt x d (xs.length : Int) (l.take j) j) w' := by
  obtain ⟨h0, V, h1, h2⟩ := h
  refine (Open_any w d l k V (hS w V h1) fun b hb => (h2 b hb).2).mono ?_
  rintro e w' ⟨xs, j, x, u, hs, he, hX, hL, hj⟩
  exact ⟨xs, j, x, u, hs, he, hX, hj.imp fun b hb => (h2 b hb).1, fun b hb => h0 b (Nat.le_trans hj.size hb), _, hL, ext_lt h2 h0 hj.size⟩
theorem open_duo (hS : ∀ w V, S w V → DiskAt 44 d l k w V) (hR : Framed R) (h : Duo P S R w) : Calls Try.prog 9 #[.pointer (some ⟨d, 0, none⟩)] w fun e w' => ∃ (xs : List (List UInt8)) (j x : Nat) (u : Value), ScanIs l xs j ∧ e = .returned (.tuple #[.pointer (some ⟨x, 0, none⟩), u]) ∧ IsXs xs w u w' ∧
      Just P w w' ∧ Duo P (LogAt x d (xs.length : Int) (l.take j) j) R w' := by
  obtain ⟨h0, V, U, h1, h2, h3, h4, h5⟩ := h
  refine (Open_any w d l k V (hS w V h1) fun b hb => (h4 b hb).2).mono ?_
  rintro e w' ⟨xs, j, x, u, hs, he, hX, hL, hj⟩
  refine ⟨xs, j, x, u, hs, he, hX, hj.imp fun b hb => (h4 b hb).1, fun b hb => h0 b (Nat.le_trans hj.size hb), _, U, hL, hR w w' U h2 (fun b hb => hj.block b (h5 b hb).2 fun hv => h3 b hv hb), fun b hb hu => ?_, ext_lt h4 h0 hj.size, fun b hb => ⟨(h5 b hb).1, Nat.lt_of_lt_of_le (h5 b hb).2 hj.size⟩⟩
  rcases hb with hb | hb
  · exact h3 b hb hu
  · have := (h5 b hu).2; have := hb.1; omega
/-- the answer's, while what is new since w0 and lies apart stays as it was -/
theorem ropen_duo (hS : Framed S) (h : Duo P S (DiskAt 61 d l k) w) : Calls Try.prog 32 #[.pointer (some ⟨d, 0, none⟩)] w fun e w' => ∃ (xs : List (List UInt8)) (j : Nat) (u : Value), ScanIs l xs j ∧ e = .returned u ∧ IsXs xs w u w' ∧
      Just P w w' ∧ Duo P S (DiskAt 61 d (l.take j) j) w' := by
  obtain ⟨h0, V, U, h1, h2, h3, h4, h5⟩ := h
  refine (rOpen_any w d l k U h2 fun b hb => (h5 b hb).2).mono ?_
  rintro e w' ⟨xs, j, u, hs, he, hX, hL, hj⟩
  refine ⟨xs, j, u, hs, he, hX, hj.imp fun b hb => (h5 b hb).1, fun b hb => h0 b (Nat.le_trans hj.size hb), V, _, hS w w' V h1 (fun b hb => hj.block b (h4 b hb).2 fun hu => h3 b hb hu), hL, fun b hb hu => ?_, fun b hb => ⟨(h4 b hb).1, Nat.lt_of_lt_of_le (h4 b hb).2 hj.size⟩, ext_lt h5 h0 hj.size⟩
  rcases hu with hu | hu
  · exact h3 b hb hu
  · have := (h4 b hb).2; have := hu.1; omega
end
/-- the one row that a cut leaves -/
theorem cut_one (x y : List UInt8) (m : Nat) (hx : x.length ≤ 65536) (hm : m < (frame y).length) : ScanIs ((frame x ++ frame y).take ((frame x).length + m)) [x] (frame x).length := by
  have e : (frame x ++ frame y).take ((frame x).length + m) = [x].flatMap frame ++ (frame y).take m := by
    rw [List.take_length_add_append, List.flatMap_cons, List.flatMap_nil, List.append_nil]
  have := scan_rows [x] ((frame y).take m) (by simpa using hx) (no_short hm)
  rw [← e] at this
  simpa using this
end Go.Proofs.Ytdpcokekilklfaa
