/- What both write as a frame. -/
import Derived.Test.YtdpcokekilklfaaFplain
import Derived.Test.YtdpcokekilklfaaVref
import Derived.Test.YtdpcokekilklfaaCat
namespace Go.Proofs.Ytdpcokekilklfaa
open Go.RowKit Go.Hop
theorem tb_int (c : BitVec 32) (i : Nat) : ((tb c i).toNat : Int) = (c.toNat : Int) / ((2 ^ (8 * i) : Nat) : Int) % 256 := by
  rw [tb_nat]; simp
set_option maxRecDepth 100000 in
theorem Bytes_any (w : World) (A : Option Addr) (n c : Nat) (l : List UInt8) (hb : Bytes w w.heap.size A n l) (hn : n ≤ 65536) :
    Calls Try.prog 24 #[.slice A n c] w fun e w' => ∃ v, e = .returned (.tuple #[v, .int .i64 0]) ∧ Own w' (New w w') 5 1 v (frame l).length (u8s (frame l)) ∧ Grow w w' := by
  have hlen := hb.len
  have hpn := Put_any w none 0 0 [] Reads.nil (by omega) n (by omega)
  have hen := enc_ten (n := n) (by omega)
  rw [List.nil_append, Nat.zero_add] at hpn
  have hwn : IntKind.u64.wrap (n : Int) = (n : Int) := by rw [IntKind.wrap_u64]; omega
  go_enter Try.func24, Try.ntmps24
  go_wp2_with fail
  go_at_call 40
  refine hpn.mono ?_
  rintro e w1 ⟨v1, rfl, hO1, hg1⟩
  clear hpn
  have hof := of_any A n c l w1 w.heap.size (hb.below hg1) (by unfold maxLen; omega)
  go_wp2_with fail
  go_at_call 41
  refine hof.mono ?_
  rintro e w1' ⟨rfl, rfl⟩
  clear hof
  go_wp2_with fail
  go_loopw [4, 16] (fun v i wr => ∃ k : Nat, k ≤ 4 ∧ i = .int .i64 (k : Int) ∧ Own wr (New w wr) 5 1 v ((enc n).length + k) (u8s (enc n ++ (sum4 (crc l)).take k)) ∧ Grow w wr) (fun _ i _ => 4 - (intOf i).toNat)
  case atStart => exact ⟨0, by omega, rfl, by rw [List.take_zero, List.append_nil]; exact hO1, hg1⟩
  case round =>
    obtain ⟨k, hk4, rfl, hO, hg⟩ := hrel
    by_cases hk : k < 4
    · rcases (show k = 0 ∨ k = 1 ∨ k = 2 ∨ k = 3 by omega) with rfl | rfl | rfl | rfl
      · have hX : ((crc l).toNat : Int) % 256 = ((tb (crc l) 0).toNat : Int) := by rw [tb_int]; simp
        have HX := Lib.hid hX
        clear hX
        go_wp2_with (at_builtin; refine stay ?_)
        refine stay_out ?_
        refine wpList_own (V := New w wr) u8E _ rfl (.tmp 19) (.tmp 25) rfl _ _ _ rfl (own_alloc hO _) (wr.heap.size + 1) (some ⟨wr.heap.size, 0, none⟩) 1 1 (u8s [tb (crc l) 0]) rfl (Reads.cells_eq (reads_laid wr #[.int .u8 (((crc l).toNat : Int) % 256)] 5 (0, 0) rfl _ rfl) (by rw [HX.out]; rfl)) u8s_one (by have := hen; omega) ?_
        intro v3 w3 hO3 hj3
        rw [← u8s_append, List.append_assoc, show (sum4 (crc l)).take 0 ++ [tb (crc l) 0] = (sum4 (crc l)).take 1 from rfl] at hO3
        obtain ⟨hO3, hg3⟩ := own_more1 hg hO3 hj3
        clear hj3 hO
        go_wp2_with fail
        go_roundw
        case rel => exact ⟨1, by omega, by go_num, hO3, hg3⟩
        case measure => simp [intOf]
      · have hX : ((crc l).toNat : Int) / 256 % 256 = ((tb (crc l) 1).toNat : Int) := by rw [tb_int]; simp
        have HX := Lib.hid hX
        clear hX
        go_wp2_with (at_builtin; refine stay ?_)
        refine stay_out ?_
        refine wpList_own (V := New w wr) u8E _ rfl (.tmp 19) (.tmp 25) rfl _ _ _ rfl (own_alloc hO _) (wr.heap.size + 1) (some ⟨wr.heap.size, 0, none⟩) 1 1 (u8s [tb (crc l) 1]) rfl (Reads.cells_eq (reads_laid wr #[.int .u8 (((crc l).toNat : Int) / 256 % 256)] 5 (0, 0) rfl _ rfl) (by rw [HX.out]; rfl)) u8s_one (by have := hen; omega) ?_
        intro v3 w3 hO3 hj3
        rw [← u8s_append, List.append_assoc, show (sum4 (crc l)).take 1 ++ [tb (crc l) 1] = (sum4 (crc l)).take 2 from rfl] at hO3
        obtain ⟨hO3, hg3⟩ := own_more1 hg hO3 hj3
        clear hj3 hO
        go_wp2_with fail
        go_roundw
        case rel => exact ⟨2, by omega, by go_num, hO3, hg3⟩
        case measure => simp [intOf]
      · have hX : ((crc l).toNat : Int) / 65536 % 256 = ((tb (crc l) 2).toNat : Int) := by rw [tb_int]; simp
        have HX := Lib.hid hX
        clear hX
        go_wp2_with (at_builtin; refine stay ?_)
        refine stay_out ?_
        refine wpList_own (V := New w wr) u8E _ rfl (.tmp 19) (.tmp 25) rfl _ _ _ rfl (own_alloc hO _) (wr.heap.size + 1) (some ⟨wr.heap.size, 0, none⟩) 1 1 (u8s [tb (crc l) 2]) rfl (Reads.cells_eq (reads_laid wr #[.int .u8 (((crc l).toNat : Int) / 65536 % 256)] 5 (0, 0) rfl _ rfl) (by rw [HX.out]; rfl)) u8s_one (by have := hen; omega) ?_
        intro v3 w3 hO3 hj3
        rw [← u8s_append, List.append_assoc, show (sum4 (crc l)).take 2 ++ [tb (crc l) 2] = (sum4 (crc l)).take 3 from rfl] at hO3
        obtain ⟨hO3, hg3⟩ := own_more1 hg hO3 hj3
        clear hj3 hO
        go_wp2_with fail
        go_roundw
        case rel => exact ⟨3, by omega, by go_num, hO3, hg3⟩
        case measure => simp [intOf]
      · have hX : ((crc l).toNat : Int) / 16777216 = ((tb (crc l) 3).toNat : Int) := by rw [tb_int]; have := (crc l).isLt; simp; omega
        have HX := Lib.hid hX
        clear hX
        go_wp2_with (at_builtin; refine stay ?_)
        refine stay_out ?_
        refine wpList_own (V := New w wr) u8E _ rfl (.tmp 19) (.tmp 25) rfl _ _ _ rfl (own_alloc hO _) (wr.heap.size + 1) (some ⟨wr.heap.size, 0, none⟩) 1 1 (u8s [tb (crc l) 3]) rfl (Reads.cells_eq (reads_laid wr #[.int .u8 (((crc l).toNat : Int) / 16777216)] 5 (0, 0) rfl _ rfl) (by rw [HX.out]; rfl)) u8s_one (by have := hen; omega) ?_
        intro v3 w3 hO3 hj3
        rw [← u8s_append, List.append_assoc, show (sum4 (crc l)).take 3 ++ [tb (crc l) 3] = (sum4 (crc l)).take 4 from rfl] at hO3
        obtain ⟨hO3, hg3⟩ := own_more1 hg hO3 hj3
        clear hj3 hO
        go_wp2_with fail
        go_roundw
        case rel => exact ⟨4, by omega, by go_num, hO3, hg3⟩
        case measure => simp [intOf]
    · obtain rfl : k = 4 := by omega
      rw [show (sum4 (crc l)).take 4 = sum4 (crc l) from rfl] at hO
      obtain ⟨A4, c4, rfl, hR4, hn4, hm4⟩ := hO.reads
      have hga := (Below.refl wr.heap.size wr).alloc (Nat.le_refl _) (.cells #[.slice A4 ((enc n).length + 4) c4, .slice A n c] 29)
      have hgw := below_trans hg hga hg.size
      have hfr : [(⟨A4, (enc n).length + 4, c4, enc n ++ sum4 (crc l)⟩ : Bx), ⟨A, n, c, l⟩].flatMap Bx.bs = frame l := by
        unfold frame; rw [hlen]
        simp [List.append_assoc]
      have hcc := concat_any (wr.alloc (.cells #[.slice A4 ((enc n).length + 4) c4, .slice A n c] 29)) (some ⟨wr.heap.size, 0, none⟩) 2 2 [⟨A4, (enc n).length + 4, c4, enc n ++ sum4 (crc l)⟩, ⟨A, n, c, l⟩] (Reads.more (reads_laid wr _ 29 _ rfl _ rfl) (by simp)) (fun b hb' => by
        simp only [List.mem_cons, List.not_mem_nil, or_false] at hb'
        rcases hb' with rfl | rfl
        · exact Reads.more (Reads.below hR4 hga) hga.size
        · exact Reads.more (Reads.below hb hgw) hgw.size) (by unfold blen; rw [hfr, frame_len, hlen]; omega) (by omega)
      unfold blen at hcc
      rw [hfr] at hcc
      go_wp2_with fail
      refine hcc.mono ?_
      rintro e w5 ⟨v5, rfl, hO5, hg5⟩
      clear hcc hO hR4
      go_wp2_with fail
      go_ret2
      have h5 := hga.size
      exact ⟨v5, rfl, hO5.mono fun b hb => ⟨by have := hb.1; have := hgw.size; omega, hb.2⟩, below_trans hgw hg5 hgw.size⟩
theorem Bytes_long (w : World) (A : Option Addr) (n c : Nat) (hn : 65536 < n) :
    Calls Try.prog 24 #[.slice A n c] w fun e w' => e = .returned (.tuple #[.slice none 0 0, .int .i64 3]) ∧ w = w' := by
  go_enter Try.func24, Try.ntmps24
  go_wp2_with fail
  go_ret2
  exact ⟨rfl, rfl⟩
set_option maxRecDepth 100000 in
theorem rFrame_any (w : World) (A : Option Addr) (n c : Nat) (l : List UInt8) (hb : Bytes w w.heap.size A n l) (hn : n ≤ 1099511627776) :
    Calls Try.prog 18 #[.slice A n c] w fun e w' => ∃ v, e = .returned v ∧ Own w' (New w w') 5 1 v (frame l).length (u8s (frame l)) ∧ Grow w w' := by
  have hlen := hb.len
  have hof := refcrc_any A n c l w w.heap.size hb (by unfold maxLen; omega)
  have hpn := rPut_any w none 0 0 [] Reads.nil (by omega) n (by omega)
  have hen := enc_ten (n := n) (by omega)
  rw [List.nil_append, Nat.zero_add] at hpn
  have hwn : IntKind.u64.wrap (n : Int) = (n : Int) := by rw [IntKind.wrap_u64]; omega
  go_enter Try.func18, Try.ntmps18
  go_wp2_with fail
  go_at_call 28
  refine hof.mono ?_
  rintro e w1' ⟨rfl, rfl⟩
  clear hof
  go_wp2_with fail
  refine hpn.mono ?_
  rintro e w1 ⟨v1, rfl, hO1, hg1⟩
  clear hpn
  go_wp2_with (at_builtin; refine stay ?_)
  have hX : #[Value.int .u8 (((crc l).toNat : Int) % 256), .int .u8 (((crc l).toNat : Int) / 256 % 256), .int .u8 (((crc l).toNat : Int) / 65536 % 256), .int .u8 (((crc l).toNat : Int) / 16777216)].toList = u8s (sum4 (crc l)) := by
    have := (crc l).isLt
    have e0 : ((crc l).toNat : Int) % 256 = ((tb (crc l) 0).toNat : Int) := by rw [tb_int]; simp
    have e1 : ((crc l).toNat : Int) / 256 % 256 = ((tb (crc l) 1).toNat : Int) := by rw [tb_int]; simp
    have e2 : ((crc l).toNat : Int) / 65536 % 256 = ((tb (crc l) 2).toNat : Int) := by rw [tb_int]; simp
    have e3 : ((crc l).toNat : Int) / 16777216 = ((tb (crc l) 3).toNat : Int) := by rw [tb_int]; simp; omega
    rw [e0, e1, e2, e3]
    rfl
  refine stay_out ?_
  refine wpList_own (V := New w w1) u8E _ rfl (.tmp 10) (.tmp 22) rfl _ _ _ rfl (own_alloc hO1 _) (w1.heap.size + 1) (some ⟨w1.heap.size, 0, none⟩) 4 4 (u8s (sum4 (crc l))) rfl (Reads.cells_eq (reads_laid w1 #[Value.int .u8 (((crc l).toNat : Int) % 256), .int .u8 (((crc l).toNat : Int) / 256 % 256), .int .u8 (((crc l).toNat : Int) / 65536 % 256), .int .u8 (((crc l).toNat : Int) / 16777216)] 5 (0, 0) rfl _ rfl) hX.symm) u8s_one (by omega) ?_
  intro v3 w3 hO3 hj3
  rw [← u8s_append] at hO3
  obtain ⟨hO3, hg3⟩ := own_more1 hg1 hO3 hj3
  clear hj3 hO1 hX
  go_wp2_with (at_builtin; refine stay ?_)
  refine stay_out ?_
  refine wpList_own (V := New w w3) u8E _ rfl (.tmp 24) (.tmp 25) rfl _ _ _ rfl hO3 w.heap.size A n c (u8s l) rfl (Reads.below hb hg3) u8s_one (by omega) ?_
  intro v4 w4 hO4 hj4
  obtain ⟨hO4, hg4⟩ := own_more hg3 hO4 hj4
  rw [← u8s_append, List.append_assoc, show enc n ++ (sum4 (crc l) ++ l) = frame l by unfold frame; rw [hlen], show (enc n).length + 4 + n = (frame l).length by rw [frame_len, hlen]] at hO4
  clear hj4 hO3
  go_wp2_with fail
  go_ret
  exact ⟨_, rfl, hO4, hg4⟩
end Go.Proofs.Ytdpcokekilklfaa
