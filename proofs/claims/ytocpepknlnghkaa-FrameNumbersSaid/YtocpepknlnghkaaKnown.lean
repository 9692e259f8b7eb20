/- Some runs that the chapter fixes. -/
import Derived.Test.YtocpepknlnghkaaBrows
import Derived.Lib.SlBytesConst
import Derived.Deep.OwnRows
namespace Go.Proofs.Ytocpepknlnghkaa
open Go.RowKit Go.Hop
theorem frame_nil : frame [] = [0, 0, 0, 0, 0] := by
  unfold frame
  rw [show ([] : List UInt8).length = 0 from rfl, enc_small (by decide)]
  decide
theorem frame_read (x r : List UInt8) (h : x.length ≤ 65536) : ReadIs (frame x ++ r) x (frame x).length true := .inl ⟨rfl, h, List.prefix_append _ _, rfl⟩
theorem no_short {x : List UInt8} {j : Nat} (hj : j < (frame x).length) : NoFrame ((frame x).take j) := fun y _ hp => by
  have h1 := frame_one (hp.trans (List.take_prefix _ _)) (List.prefix_refl (frame x))
  subst h1
  have := hp.length_le
  rw [List.length_take] at this
  omega
theorem scan_nil : ScanIs [] [] 0 := ⟨rfl, rfl, by simp, fun y _ hp => by
  have h1 : (frame y).length ≤ 0 := hp.length_le
  have := frame_five y
  omega⟩
set_option maxRecDepth 100000 in
set_option maxHeartbeats 4000000 in
theorem known_any (w : World) : Calls Try.prog 12 #[] w fun e w' => e = .returned (.bool true) ∧ Grow w w' := by
  have kc := conv_const
  have hmk : ∀ w : World, (Instr.makeSlice 22 (.int .i64 65537) (.int .i64 65537)).run Try.prog w = .ok (.slice (some ⟨w.heap.size, 0, none⟩) 65537 65537) (w.alloc (.cells (madeCells #[.int .u8 0] 65537) 5)) :=
    fun w => run_make_row' 22 5 (.int .u8 0) 1 Try.underlying22 u8_info rfl .i64 .i64 65537 (by decide) (by decide) w
  go_enter Try.func12, Try.ntmps12
  go_wp2_with fail
  refine (Bytes_any w none 0 0 [] Reads.nil (by decide)).mono ?_
  rintro e w1 ⟨v1, rfl, hO1, hg1⟩
  have hb1 := hO1.isBytes
  clear hO1
  go_wp2_with fail
  refine (Scan_any w1 none 0 0 [] Reads.nil (by decide) (by decide) (by decide)).mono ?_
  rintro e w2 ⟨xs, k, u, hS, rfl, ⟨A2, c2, q2, rfl, _, hm2, _, _⟩, hg2⟩
  obtain ⟨rfl, rfl⟩ := hS.one scan_nil
  obtain rfl : q2 = [] := List.map_eq_nil_iff.1 hm2
  clear hS hm2
  have hb2 := hb1.below hg2
  go_wp2_with (go_at_call 10; refine (Bytes_long _ _ 65537 65537 (by decide)).mono ?_; rintro e w3 ⟨rfl, rfl⟩)
  go_at_call 11
  refine (rFrame_any _ _ 2 2 [97, 98] (Reads.more (reads_laid _ _ 5 (2, 3) rfl _ (by simp)) (by simp)) (by decide)).mono ?_
  rintro e w4 ⟨v4, rfl, hO4, hg4⟩
  obtain ⟨A4, c4, rfl, hR4, hn4, hm4⟩ := hO4.reads
  go_wp2_with fail
  go_at_call 14
  refine (Read_any w4 A4 _ c4 (frame [97, 98]) hR4 hn4 hm4).mono ?_
  rintro e w5 ⟨x, k, ok, v5, hRd, rfl, hO5, hg5⟩
  have hRi := frame_read [97, 98] [] (by decide)
  rw [List.append_nil] at hRi
  obtain ⟨rfl, rfl, rfl⟩ := hRd.one hRi
  have hb5 := hO5.isBytes
  have hg24 := grow_alloc (grow_alloc hg4)
  have hb4 := (hb2.below hg24).below hg5
  clear hRd hO5 hO4 hR4 hg4
  go_wp2_with fail
  go_at_call 11
  refine (rFrame_any _ _ 2 2 [97, 98] (Reads.more (reads_laid _ _ 5 (2, 3) rfl _ (by simp)) (by simp)) (by decide)).mono ?_
  rintro e w6 ⟨v6, rfl, hO6, hg6⟩
  have hfl : (frame [97, 98]).length = 7 := by rw [frame_len, show ([97, 98] : List UInt8).length = 2 from rfl, enc_small (by decide)]; rfl
  rw [hfl] at hO6
  obtain ⟨A6, c6, rfl, hR6, hn6, hm6⟩ := hO6.reads
  have hR6' : Bytes w6 w6.heap.size A6 6 ((frame [97, 98]).take 6) := by
    have := Reads.take hR6 (k := 6) (by omega)
    unfold Bytes; rw [u8s_take]; exact this
  go_wp2_with fail
  go_at_call 14
  refine (Read_any w6 A6 6 c6 ((frame [97, 98]).take 6) hR6' (by omega) hm6).mono ?_
  rintro e w7 ⟨x, k, ok, v7, hRd, rfl, hO7, hg7⟩
  obtain ⟨rfl, rfl, rfl⟩ := hRd.one (ReadIs.none (no_short (by rw [hfl]; decide)))
  have hg57 := (grow_alloc hg6).trans hg7
  have hc1 := conv_is w7 (hb4.below hg57)
  have hc5 := conv_is w7 (hb5.below hg57)
  rw [frame_nil] at hc1
  have hg17 := (((hg1.trans hg2).trans hg24).trans hg5).trans hg57
  clear hb4 hb5 hb1 hb2 hRd hO7 hO6 hR6
  go_wp2_with fail
  go_ret
  exact ⟨rfl, hg17⟩
end Go.Proofs.Ytocpepknlnghkaa
