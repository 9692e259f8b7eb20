/- Sums in blocks of some kind; chapter 12's known runs. -/
import Derived.Test.YtnijeemldhmkjaaCsm
namespace Go.Proofs.Ytnijeemldhmkjaa
open Go.RowKit Go.Hop
/-- sums, all in blocks of U -/
def SAt (U : Nat → Prop) (s : Nat) (q : Sm) (w : World) : Prop := ∃ V, SumsAt s q w V ∧ ∀ b, V b → U b ∧ b < w.heap.size
theorem SAt.keep {U : Nat → Prop} {s : Nat} {q : Sm} {w w' : World} (h : SAt U s q w) (hk : ∀ b, U b → b < w.heap.size → w'.heap[b]? = w.heap[b]?) (hs : w.heap.size ≤ w'.heap.size) : SAt U s q w' := by
  obtain ⟨V, h1, h2⟩ := h
  exact ⟨V, SumsAt.framed s q w w' V h1 fun b hb => hk b (h2 b hb).1 (h2 b hb).2, fun b hb => ⟨(h2 b hb).1, Nat.lt_of_lt_of_le (h2 b hb).2 hs⟩⟩
theorem SAt.grow {U : Nat → Prop} {s : Nat} {q : Sm} {w w' : World} (h : SAt U s q w) (hg : Grow w w') : SAt U s q w' := h.keep (fun b _ hb => hg.block b hb) hg.size
theorem SAt.mono {U U' : Nat → Prop} {s : Nat} {q : Sm} {w : World} (h : SAt U s q w) (hU : ∀ b, U b → U' b) : SAt U' s q w := by
  obtain ⟨V, h1, h2⟩ := h
  exact ⟨V, h1, fun b hb => ⟨hU b (h2 b hb).1, (h2 b hb).2⟩⟩
theorem SAt.right {U : Nat → Prop} {s : Nat} {q : Sm} {w : World} (h : SAt U s q w) : Right q := by
  obtain ⟨V, h1, _⟩ := h
  exact h1.2.1
theorem New_at (w : World) : Calls Try.prog 8 #[] w fun e w' => ∃ s, e = .returned (.pointer (some ⟨s, 0, none⟩)) ∧ SAt (fun b => w.heap.size ≤ b) s [] w' ∧ Grow w w' :=
  (New_any w).mono fun e w' ⟨s, he, h, hg⟩ => ⟨s, he, ⟨_, h, fun b hb => hb⟩, hg⟩
theorem Add_at {U : Nat → Prop} {s : Nat} {q : Sm} {w0 w : World} (h : SAt U s q w0) (hg : Grow w0 w) (hU : ∀ b, w0.heap.size ≤ b → U b) {A : Option Addr} {n c : Nat} {l : List Dl} {D : Nat → Prop} (hl : In w D 2 A n (dcells l)) (hDU : ∀ b, D b → ¬ U b ∨ w0.heap.size ≤ b) (hd : ∀ d ∈ l, d.1.size ≤ maxLen ∧ d.2 ≤ M64) (hn : n ≤ 1048576) (hq : q.length ≤ 1048576) :
    Calls Try.prog 10 #[.pointer (some ⟨s, 0, none⟩), .slice A n c] w fun e w' => e = .returned (.int .i64 (mayE q l)) ∧ SAt U s (addM q l) w' ∧ Just U w0 w' := by
  obtain ⟨V, h1, h2⟩ := h
  have h1' : SumsAt s q w V := SumsAt.framed s q w0 w V h1 fun b hb => hg.block b (h2 b hb).2
  refine (Add_any w s q V h1' (fun b hb => Nat.lt_of_lt_of_le (h2 b hb).2 hg.size) A n c l D hl (fun b hb hv => ?_) hd hn hq).mono ?_
  · rcases hDU b hb with h | h
    · exact h (h2 b hv).1
    · have := (h2 b hv).2; omega
  · rintro e w' ⟨he, hS, hj⟩
    have hs := hg.size
    have hs2 := hj.size
    refine ⟨he, ⟨_, hS, fun b hb => ?_⟩, (Just.of_grow hg).trans (hj.imp fun b hb => (h2 b hb).1)⟩
    rcases hb with hb | hb
    · exact ⟨(h2 b hb).1, by have := (h2 b hb).2; omega⟩
    · exact ⟨hU b (by omega), hb.2⟩
theorem May_at {U : Nat → Prop} {s : Nat} {q : Sm} {w : World} (h : SAt U s q w) {A : Option Addr} {n c : Nat} {l : List Dl} {D : Nat → Prop} (hl : In w D 2 A n (dcells l)) (hd : ∀ d ∈ l, d.1.size ≤ maxLen ∧ d.2 ≤ M64) (hn : n ≤ 1048576) (hq : q.length ≤ 1048576) :
    Calls Try.prog 11 #[.pointer (some ⟨s, 0, none⟩), .slice A n c] w fun e w' => e = .returned (.int .i64 (mayE q l)) ∧ Grow w w' := by
  obtain ⟨V, h1, _⟩ := h
  exact May_any w s q V h1 A n c l D hl hd hn hq
theorem Get_at {U : Nat → Prop} {s : Nat} {q : Sm} {w : World} (h : SAt U s q w) (x : ByteArray) (hx : x.size ≤ maxLen) :
    Calls Try.prog 15 #[.pointer (some ⟨s, 0, none⟩), .string x] w fun e w' => e = .returned (.int .u64 ((gt q x : Nat) : Int)) ∧ w = w' := by
  obtain ⟨V, h1, _⟩ := h
  exact Get_any w s q V h1 x hx
theorem All_at {U : Nat → Prop} {s : Nat} {q : Sm} {w : World} (h : SAt U s q w) (hq : q.length ≤ 1048576) :
    Calls Try.prog 13 #[.pointer (some ⟨s, 0, none⟩)] w fun e w' => ∃ A, e = .returned (.slice A q.length q.length) ∧ In w' (New w w') 2 A q.length (dcells q) ∧ Grow w w' := by
  obtain ⟨V, h1, _⟩ := h
  exact All_any w s q V h1 hq
theorem in_laid (w : World) (cs : Array Value) (e : Nat) {n size : Nat} (h : cs.size = n * size) : In (w.alloc (.cells cs e)) (fun b => b = w.heap.size) size (some ⟨w.heap.size, 0, none⟩) n cs.toList :=
  ⟨by simp [h], fun _ => ⟨_, rfl, rfl, by simp, fun j u hu => by rw [Addr.add_lit, Nat.zero_add]; exact ((Blk.made w e cs).cell j).trans (by simpa using hu)⟩⟩
/-- a row written in place is added -/
theorem Add_laid {U : Nat → Prop} {s : Nat} {q : Sm} {w : World} (h : SAt U s q w) (hU : ∀ b, w.heap.size ≤ b → U b) (cs : Array Value) (n : Nat) (l : List Dl) (hc : cs.toList = dcells l) (hn' : l.length = n) (hd : ∀ d ∈ l, d.1.size ≤ maxLen ∧ d.2 ≤ M64) (hn : n ≤ 1048576) (hq : q.length ≤ 1048576) :
    Calls Try.prog 10 #[.pointer (some ⟨s, 0, none⟩), .slice (some ⟨w.heap.size, 0, none⟩) n n] (w.alloc (.cells cs 34)) fun e w' => e = .returned (.int .i64 (mayE q l)) ∧ SAt U s (addM q l) w' ∧ Just U w w' :=
  Add_at h ((Below.refl _ w).alloc (Nat.le_refl _) _) hU (hc ▸ in_laid w cs 34 (by rw [← Array.length_toList, hc, dcells_len, hn'])) (fun b hb => .inr (by rw [hb]; exact Nat.le_refl _)) hd hn hq
theorem May_laid {U : Nat → Prop} {s : Nat} {q : Sm} {w : World} (h : SAt U s q w) (cs : Array Value) (n : Nat) (l : List Dl) (hc : cs.toList = dcells l) (hn' : l.length = n) (hd : ∀ d ∈ l, d.1.size ≤ maxLen ∧ d.2 ≤ M64) (hn : n ≤ 1048576) (hq : q.length ≤ 1048576) :
    Calls Try.prog 11 #[.pointer (some ⟨s, 0, none⟩), .slice (some ⟨w.heap.size, 0, none⟩) n n] (w.alloc (.cells cs 34)) fun e w' => e = .returned (.int .i64 (mayE q l)) ∧ Grow w w' := by
  have hg : Grow w (w.alloc (.cells cs 34)) := (Below.refl _ w).alloc (Nat.le_refl _) _
  exact (May_at (h.grow hg) (hc ▸ in_laid w cs 34 (by rw [← Array.length_toList, hc, dcells_len, hn'])) hd hn hq).mono fun e w' ⟨he, hg2⟩ => ⟨he, hg.trans hg2⟩
theorem just_grow {w w' : World} (hj : Just (fun b => w.heap.size ≤ b) w w') : Grow w w' := hj.below (B := w.heap.size) (fun _ h => h) (Nat.le_refl _)
def xa : ByteArray := { data := #[97] }
def xb : ByteArray := { data := #[98] }
def q1 : Sm := [(xa, 18446744073709551615)]
theorem kn1 : mayE [] [(xa, 18446744073709551615)] = 0 ∧ addM [] [(xa, 18446744073709551615)] = q1 := ⟨by kernel_rfl, by kernel_rfl⟩
theorem kn2 : mayE q1 [(xa, 1)] = 25 ∧ addM q1 [(xa, 1)] = q1 := ⟨by kernel_rfl, by kernel_rfl⟩
theorem kn3 : mayE q1 [] = 0 ∧ addM q1 [] = q1 := ⟨by kernel_rfl, by kernel_rfl⟩
theorem kn4 : mayE q1 [(xb, 9223372036854775808), (xb, 9223372036854775808)] = 25 := by kernel_rfl
theorem kn5 : gt q1 xa = 18446744073709551615 ∧ gt q1 { data := #[120] } = 0 := ⟨by kernel_rfl, by kernel_rfl⟩
theorem small_of {x : ByteArray} {v : Nat} (hx : x.size ≤ 100) (hv : v ≤ 18446744073709551615) : x.size ≤ maxLen ∧ v ≤ M64 := ⟨by unfold maxLen; omega, hv⟩
set_option maxRecDepth 20000 in
theorem known_any (w : World) : Calls Try.prog 12 #[] w fun e w' => e = .returned (.bool true) ∧ Grow w w' := by
  go_enter Try.func12, Try.ntmps12
  go_wp2_with fail
  refine (New_at w).mono ?_
  rintro e w1 ⟨s, rfl, hS1, hg1⟩
  have hs1 := hg1.size
  have hA1 := Add_laid hS1 (fun b hb => by omega) #[.string xa, .int .u64 18446744073709551615] 1 [(xa, 18446744073709551615)] rfl rfl (by intro d hd; rw [List.mem_singleton.1 hd]; exact small_of (by decide +kernel) (by omega)) (by omega) (by simp)
  rw [kn1.1, kn1.2] at hA1
  go_wp2_with fail
  refine hA1.mono ?_
  rintro e w2 ⟨rfl, hS2, hj2⟩
  have hg2 := Below.trans hg1 (hj2.below (B := w.heap.size) (fun _ h => h) hs1)
  have hs2 := hg2.size
  clear hA1 hj2 hS1 hg1 hs1
  have hA1 := Add_laid hS2 (fun b hb => by omega) #[.string xa, .int .u64 1] 1 [(xa, 1)] rfl rfl (by intro d hd; rw [List.mem_singleton.1 hd]; exact small_of (by decide +kernel) (by omega)) (by omega) (by unfold q1; simp)
  rw [kn2.1, kn2.2] at hA1
  go_wp2_with fail
  refine hA1.mono ?_
  rintro e w3 ⟨rfl, hS3, hj3⟩
  have hg3 := Below.trans hg2 (hj3.below (B := w.heap.size) (fun _ h => h) hs2)
  have hs3 := hg3.size
  clear hA1 hj3 hS2 hg2 hs2
  have hA1 := Add_at hS3 (Grow.refl w3) (fun b hb => by omega) (A := none) (n := 0) (c := 0) (l := []) (D := fun _ => False) In.nil (fun _ h => h.elim) (by simp) (by omega) (by unfold q1; simp)
  rw [kn3.1, kn3.2] at hA1
  go_wp2_with fail
  refine hA1.mono ?_
  rintro e w4 ⟨rfl, hS4, hj4⟩
  have hg4 := Below.trans hg3 (hj4.below (B := w.heap.size) (fun _ h => h) hs3)
  have hs4 := hg4.size
  clear hA1 hj4 hS3 hg3 hs3
  have hM := May_laid hS4 #[.string xb, .int .u64 9223372036854775808, .string xb, .int .u64 9223372036854775808] 2 [(xb, 9223372036854775808), (xb, 9223372036854775808)] rfl rfl (by intro d hd; simp at hd; rw [hd]; exact small_of (by decide +kernel) (by omega)) (by omega) (by unfold q1; simp)
  rw [kn4] at hM
  go_wp2_with fail
  refine hM.mono ?_
  rintro e w5 ⟨rfl, hg5⟩
  clear hM
  have hS5 := hS4.grow hg5
  have hg5 := below_trans hg4 hg5 hs4
  clear hS4 hg4
  have hG1 := Get_at hS5 xa (by unfold maxLen; decide +kernel)
  have hG2 := Get_at hS5 { data := #[120] } (by unfold maxLen; decide +kernel)
  rw [kn5.1] at hG1
  rw [kn5.2] at hG2
  have hAll := All_at hS5 (by unfold q1; simp)
  go_wp2_with fail
  refine hG1.mono ?_
  rintro e w6 ⟨rfl, rfl⟩
  go_wp2_with fail
  refine hG2.mono ?_
  rintro e w6 ⟨rfl, rfl⟩
  go_wp2_with fail
  refine hAll.mono ?_
  rintro e w6 ⟨A6, rfl, _, hg6⟩
  have hql : q1.length = 1 := rfl
  rw [hql]
  go_wp2_with fail
  go_ret
  exact ⟨rfl, below_trans hg5 hg6 hg5.size⟩
end Go.Proofs.Ytnijeemldhmkjaa
