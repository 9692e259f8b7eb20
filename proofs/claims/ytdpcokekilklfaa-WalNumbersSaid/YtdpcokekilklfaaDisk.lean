/- What the disk's functions compute. -/
import Derived.Test.YtdpcokekilklfaaDplain
namespace Go.Proofs.Ytdpcokekilklfaa
open Go.RowKit Go.Hop
theorem DiskAt.wide {t d : Nat} {l : List UInt8} {k : Nat} {w : World} {V V' : Nat → Prop} (h : DiskAt t d l k w V) (hV : ∀ b, V b → V' b) : DiskAt t d l k w V' := by
  obtain ⟨h1, h2, h3, v, h4, h5⟩ := h
  exact ⟨hV d h1, h2, h3, v, h4, h5.mono fun b hb => ⟨hV b hb.1, hb.2⟩⟩
theorem cutB_yes {l : List UInt8} {m : Nat} (h : m ≤ l.length) : cutB l (m : Int) = true := by unfold cutB; rw [decide_eq_true (by omega), decide_eq_true (by omega)]; rfl
theorem cut_of {l : List UInt8} {n : Int} (h : cutB l n = true) : ∃ m : Nat, n = (m : Int) ∧ m ≤ l.length := by
  unfold cutB at h
  rw [Bool.and_eq_true, decide_eq_true_eq, decide_eq_true_eq] at h
  exact ⟨n.toNat, by omega, by omega⟩

theorem Sync_any (w : World) (d : Nat) (l : List UInt8) (k : Nat) :
    Turns Try.prog 23 #[.pointer (some ⟨d, 0, none⟩)] (fun e => e = .returned (.tuple #[])) (DiskAt 44 d l k) (DiskAt 44 d l l.length) w := by
  intro V ⟨hd, hk, hl, v, hB, hO⟩ hV
  obtain ⟨A, c, rfl, hR, hn, hm⟩ := hO.reads
  have c0 := hB.cell 0
  have f0 := hB.frozen 1
  have c1 := hB.cell 1
  go_enter Try.func23, Try.ntmps23
  go_wp2_with fail
  go_end0
  exact ⟨rfl, ⟨.inl hd, Nat.le_refl _, hl, _, hB.put 1 _, (hO.put (fun h => h.2 rfl) 1 _).mono fun b hb => ⟨.inl hb.1, hb.2⟩⟩, (Just.of_grow (Grow.refl w)).put hd 1 _⟩

theorem Cut_no (w : World) (d : Nat) (l : List UInt8) (k : Nat) (n : Int) (hn : -9223372036854775808 ≤ n ∧ n ≤ 9223372036854775807) (hc : cutB l n = false) :
    Turns Try.prog 22 #[.pointer (some ⟨d, 0, none⟩), .int .i64 n] (fun e => e = .returned (.bool false)) (DiskAt 44 d l k) (DiskAt 44 d l k) w := by
  intro V hD hV
  have hD' := hD
  obtain ⟨hd, hk, hl, v, hB, hO⟩ := hD
  obtain ⟨A, c, rfl, hR, hnc, hm⟩ := hO.reads
  have c0 := hB.cell 0
  unfold cutB at hc
  rw [Bool.and_eq_false_iff, decide_eq_false_iff_not, decide_eq_false_iff_not] at hc
  by_cases h0 : n < 0
  · go_enter Try.func22, Try.ntmps22
    go_wp2_with fail
    go_ret
    exact ⟨rfl, DiskAt.wide hD' (fun _ => .inl), Just.of_grow (Grow.refl w)⟩
  · have h1 : (l.length : Int) < n := by omega
    go_enter Try.func22, Try.ntmps22
    go_wp2_with fail
    go_ret
    exact ⟨rfl, DiskAt.wide hD' (fun _ => .inl), Just.of_grow (Grow.refl w)⟩

theorem Cut_yes (w : World) (d : Nat) (l : List UInt8) (k m : Nat) (hm : m ≤ l.length) :
    Turns Try.prog 22 #[.pointer (some ⟨d, 0, none⟩), .int .i64 (m : Int)] (fun e => e = .returned (.bool true)) (DiskAt 44 d l k) (DiskAt 44 d (l.take m) m) w := by
  intro V ⟨hd, hk, hl, v, hB, hO⟩ hV
  obtain ⟨A, c, rfl, hR, hnc, hc⟩ := hO.reads
  have hO2 := hO.cut hm
  have c0 := hB.cell 0
  have f0 := hB.frozen 0
  have f1 := hB.frozen 1
  have c1 := hB.cell 1
  have hlm : (l.take m).length = m := by rw [List.length_take]; omega
  go_enter Try.func22, Try.ntmps22
  go_wp2_with (go_at_call 39; refine (clip_any _ A m c (by omega)).mono ?_; rintro e w1 ⟨rfl, rfl⟩)
  go_ret
  have hB2 := (hB.put 0 (.slice A m m)).put 1 (.int .i64 (m : Int))
  refine ⟨rfl, ⟨.inl hd, by omega, by omega, _, hB2, ?_⟩, ((Just.of_grow (Grow.refl w)).put hd 0 _).put hd 1 _⟩
  rw [hlm, u8s_take]
  exact ((hO2.put (fun h => h.2 rfl) 0 _).put (fun h => h.2 rfl) 1 _).mono fun b hb => ⟨.inl hb.1, hb.2⟩
theorem Append_no (w : World) (d : Nat) (l : List UInt8) (k : Nat) (A : Option Addr) (n c : Nat) (b : List UInt8) (hb : Bytes w w.heap.size A n b) (hf : fits l b = false) :
    Turns Try.prog 25 #[.pointer (some ⟨d, 0, none⟩), .slice A n c] (fun e => e = .returned (.int .i64 24)) (DiskAt 44 d l k) (DiskAt 44 d l k) w := by
  intro V hD hV
  have hD' := hD
  obtain ⟨hd, hk, hl, v, hB, hO⟩ := hD
  obtain ⟨A1, c1, rfl, hR, hnc, hm⟩ := hO.reads
  have c0 := hB.cell 0
  have hbl := hb.len
  have hf' : ¬ l.length + n ≤ 1048576 := by rw [← hbl]; exact of_decide_eq_false hf
  go_enter Try.func25, Try.ntmps25
  go_wp2_with fail
  go_ret
  exact ⟨rfl, DiskAt.wide hD' (fun _ => .inl), Just.of_grow (Grow.refl w)⟩
theorem Append_yes (w : World) (d : Nat) (l : List UInt8) (k : Nat) (A : Option Addr) (n c : Nat) (b : List UInt8) (hb : Bytes w w.heap.size A n b) (hf : fits l b = true) :
    Turns Try.prog 25 #[.pointer (some ⟨d, 0, none⟩), .slice A n c] (fun e => e = .returned (.int .i64 0)) (DiskAt 44 d l k) (DiskAt 44 d (l ++ b) k) w := by
  intro V ⟨hd, hk, hl, v, hB, hO⟩ hV
  obtain ⟨A1, c1, rfl, hR, hnc, hm⟩ := hO.reads
  have c0 := hB.cell 0
  have hbl := hb.len
  have hf' : l.length + n ≤ 1048576 := by rw [← hbl]; exact of_decide_eq_true hf
  go_enter Try.func25, Try.ntmps25
  go_wp2_with (at_builtin; refine stay ?_)
  refine stay_out ?_
  refine wpList_own u8E _ rfl (.tmp 18) (.tmp 19) rfl (.slice A1 l.length c1) l.length (u8s l) rfl hO w.heap.size A n c (u8s b) rfl hb u8s_one (by omega) ?_
  intro v1 w1 hO1 hj1
  have hB1 := hj1.blk hB (fun h => h.2 rfl)
  obtain ⟨A2, c2, rfl, hR2, _, _⟩ := hO1.reads
  have f1 := hB1.frozen 0
  have c1 := hB1.cell 0
  go_wp2_with fail
  go_ret
  have hdl := hB.lt
  rw [← u8s_append] at hO1
  have hll : (l ++ b).length = l.length + n := by rw [List.length_append, hbl]
  refine ⟨rfl, ⟨.inl hd, by omega, by omega, _, hB1.put 0 _, ?_⟩, (hj1.imp fun k hk => hk.1).put hd 0 _⟩
  rw [hll]
  have hne : ¬ Ext (fun b => V b ∧ b ≠ d) w w1 d := fun h => by
    rcases h with h | h
    · exact h.2 rfl
    · have := h.1; omega
  exact (hO1.put hne 0 _).mono fun b hb => ⟨by rcases hb with h | h; exact .inl h.1; exact .inr ⟨h.1, by simpa [World.setCell] using h.2⟩, fun e => by subst e; exact hne hb⟩
end Go.Proofs.Ytdpcokekilklfaa
