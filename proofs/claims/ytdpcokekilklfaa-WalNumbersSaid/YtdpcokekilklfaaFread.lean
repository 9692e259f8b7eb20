/- What Read tells. -/
import Derived.Test.YtdpcokekilklfaaFbytes
import Derived.Test.YtdpcokekilklfaaVrget
namespace Go.Proofs.Ytdpcokekilklfaa
open Go.RowKit Go.Hop
theorem add_ne (a : Addr) (i : Nat) (h : i ≠ 0) : a.add i = ⟨a.block, a.off + i, none⟩ := by unfold Addr.add; rw [if_neg h]
theorem or32 (a b : Nat) (ha : a < 4294967296) (hb : b < 4294967296) : bits .or .u32 (a : Int) (b : Int) = ((a ||| b : Nat) : Int) := by
  have hab : a ||| b < 2 ^ 32 := Nat.or_lt_two_pow ha hb
  show IntKind.u32.wrap ((BitVec.ofInt 32 (a : Int) ||| BitVec.ofInt 32 (b : Int)).toNat : Int) = _
  rw [BitVec.ofInt_natCast, BitVec.ofInt_natCast, BitVec.toNat_or, BitVec.toNat_ofNat, BitVec.toNat_ofNat, Nat.mod_eq_of_lt ha, Nat.mod_eq_of_lt hb, IntKind.wrap_u32']
  omega
theorem le_step (pre : List UInt8) (b : UInt8) (j : Nat) (hj : pre.length = j) (hj3 : j ≤ 3) :
    bits .or .u32 (leN pre : Int) ((b.toNat : Int) % 4294967296 * ((256 ^ j : Nat) : Int) % 4294967296) = (leN (pre ++ [b]) : Int) := by
  have h1 := leN_lt pre
  have hb := b.toNat_lt
  rw [hj] at h1
  have h2 : 256 ^ j ≤ 256 ^ 3 := Nat.pow_le_pow_right (by decide) hj3
  have h3 : b.toNat * 256 ^ j ≤ 255 * 256 ^ 3 := Nat.mul_le_mul (by omega) h2
  have e : (b.toNat : Int) % 4294967296 * ((256 ^ j : Nat) : Int) % 4294967296 = ((b.toNat * 256 ^ j : Nat) : Int) := by
    rw [Int.emod_eq_of_lt (a := (b.toNat : Int)) (by omega) (by omega), ← Int.natCast_mul]
    exact Int.emod_eq_of_lt (by omega) (by omega)
  rw [e, or32 _ _ (by omega) (by omega), leN_snoc, hj]
  congr 1
  have e8 : 256 ^ j = 2 ^ (8 * j) := by rw [Nat.pow_mul]
  rw [e8] at h1 ⊢
  rw [Nat.or_comm, Nat.mul_comm b.toNat, ← Nat.two_pow_add_eq_or_of_lt h1]
  omega
set_option maxRecDepth 100000 in
theorem Read_any (w : World) (A : Option Addr) (n c : Nat) (l : List UInt8) (hb : Bytes w w.heap.size A n l) (hnc : n ≤ c) (hcm : c ≤ maxLen) :
    Calls Try.prog 37 #[.slice A n c] w fun e w' => ∃ (x : List UInt8) (k : Nat) (ok : Bool) (v : Value), ReadIs l x k ok ∧ e = .returned (.tuple #[v, .int .i64 (k : Int), .bool ok]) ∧ Own w' (New w w') 5 1 v x.length (u8s x) ∧ Grow w w' := by
  have hlen := hb.len
  go_enter Try.func37, Try.ntmps37
  go_wp2_with fail
  go_at_call 47
  refine (Get_any w _ A n c l hb (Nat.le_trans hnc hcm)).mono ?_
  rintro e w' ⟨m, k, hG, rfl, rfl⟩
  unfold maxLen at hcm
  rcases hG with ⟨hm, hE, hk⟩ | ⟨hno, rfl, rfl⟩
  · have hk10 := enc_ten hm
    have hk1 := enc_pos m
    have hkl := hE.length_le
    have HK := Lib.hid hk
    have hk0 : ((k : Int) == 0) = false := beq_eq_false_iff_ne.2 (by omega)
    have hk' : 1 ≤ k ∧ k ≤ 10 ∧ k ≤ n := by omega
    clear hk
    by_cases hm6 : 65536 < m
    · have hm6' : decide ((65536 : Int) < (m : Int)) = true := decide_eq_true (by omega)
      go_wp2_with fail
      refine bodyPost_ret (v := .tuple #[.slice none 0 0, .int .i64 0, .bool false]) (by simp [results, Try.results37, go_sem]) rfl ⟨[], 0, false, _, ReadIs.none (none_long' hE hm6), rfl, Own.nil, Grow.refl _⟩
    · have hm6' : decide ((65536 : Int) < (m : Int)) = false := decide_eq_false (by omega)
      have hwm : IntKind.i64.wrap (m : Int) = (m : Int) := by rw [IntKind.wrap_i64]; omega
      by_cases hsh : n < k + 4 + m
      · have hsh' : decide ((n : Int) < (k : Int) + 4 + (m : Int)) = true := decide_eq_true (by omega)
        go_wp2_with fail
        refine bodyPost_ret (v := .tuple #[.slice none 0 0, .int .i64 0, .bool false]) (by simp [results, Try.results37, go_sem]) rfl ⟨[], 0, false, _, ReadIs.none (none_short hE (by rw [hlen, ← HK.out]; exact hsh)), rfl, Own.nil, Grow.refl _⟩
      · have hsh' : decide ((n : Int) < (k : Int) + 4 + (m : Int)) = false := decide_eq_false (by omega)
        go_wp2_with fail
        go_loopw [7, 32] (fun s i wr => ∃ j : Nat, j ≤ 4 ∧ i = .int .i64 (j : Int) ∧ s = .int .u32 (leN (((l.drop k).take 4).take j) : Int) ∧ w = wr) (fun _ i _ => 4 - (intOf i).toNat)
        case atStart => exact ⟨0, by omega, rfl, rfl, rfl⟩
        case round =>
          obtain ⟨j, hj4, rfl, rfl, rfl⟩ := hrel
          by_cases hj : j < 4
          · obtain ⟨ad, hl, rfl, hc⟩ := hb.at_ (k := k + j) (by omega)
            have hwj : IntKind.i64.wrap ((k : Int) + (j : Int)) = (k : Int) + (j : Int) := by rw [IntKind.wrap_i64]; omega
            have HT := Lib.hid (show ((l.drop k).take 4).take (j + 1) = ((l.drop k).take 4).take j ++ [l[k + j]] by
              have h1 : j < ((l.drop k).take 4).length := by rw [List.length_take, List.length_drop]; omega
              rw [List.take_succ_eq_append_getElem h1, List.getElem_take, List.getElem_drop])
            have hpl : (((l.drop k).take 4).take j).length = j := by rw [List.length_take, List.length_take, List.length_drop]; omega
            have HS := Lib.hid (le_step (((l.drop k).take 4).take j) l[k + j] j hpl (by omega))
            generalize l[k + j] = bl at hc HT HS
            clear hpl
            rcases (show j = 0 ∨ j = 1 ∨ j = 2 ∨ j = 3 by omega) with rfl | rfl | rfl | rfl
            · have hc0 : w.cell? (ad.add k) = some (.int .u8 (bl.toNat : Int)) := hc
              go_wp2_with fail
              go_roundw
              case rel => exact ⟨1, by omega, by go_num, by
                have h := HS.out
                rw [← HT.out] at h
                rw [← h]
                rw [show ((256 ^ 0 : Nat) : Int) = 1 from rfl, Int.mul_one, Int.emod_emod]
                rfl, by trivial⟩
              case measure => simp [intOf]
            · have hc0 : w.cell? ⟨ad.block, ad.off + (k + 1), none⟩ = some (.int .u8 (bl.toNat : Int)) := by rw [← add_ne ad (k + 1) (by omega)]; exact hc
              go_wp2_with fail
              go_roundw
              case rel => exact ⟨2, by omega, by go_num, by
                have h := HS.out
                rw [← HT.out] at h
                rw [← h]
                rfl, by trivial⟩
              case measure => simp [intOf]
            · have hc0 : w.cell? ⟨ad.block, ad.off + (k + 2), none⟩ = some (.int .u8 (bl.toNat : Int)) := by rw [← add_ne ad (k + 2) (by omega)]; exact hc
              go_wp2_with fail
              go_roundw
              case rel => exact ⟨3, by omega, by go_num, by
                have h := HS.out
                rw [← HT.out] at h
                rw [← h]
                rfl, by trivial⟩
              case measure => simp [intOf]
            · have hc0 : w.cell? ⟨ad.block, ad.off + (k + 3), none⟩ = some (.int .u8 (bl.toNat : Int)) := by rw [← add_ne ad (k + 3) (by omega)]; exact hc
              go_wp2_with fail
              go_roundw
              case rel => exact ⟨4, by omega, by go_num, by
                have h := HS.out
                rw [← HT.out] at h
                rw [← h]
                rfl, by trivial⟩
              case measure => simp [intOf]
          · obtain rfl : j = 4 := by omega
            rw [show ((l.drop k).take 4).take 4 = (l.drop k).take 4 by rw [List.take_take]; rfl]
            have hs4 : ((l.drop k).take 4).length = 4 := by rw [List.length_take, List.length_drop]; omega
            have hxl : ((l.drop (k + 4)).take m).length = m := by rw [List.length_take, List.length_drop]; omega
            have hR := (Reads.cut hb (k := k + 4) (cap := c) (by omega) hnc).take (k := m) (by omega)
            rw [Nat.mul_one] at hR
            have hX' : Bytes w w.heap.size (if c = k + 4 then A else A.map (·.add (k + 4))) m ((l.drop (k + 4)).take m) := by
              unfold Bytes; rw [u8s_take, u8s_drop, Nat.mul_one (k + 4)]; exact hR
            by_cases hck : c = k + 4
            · rw [if_pos hck] at hX'
              have hX := hX'
              go_wp2_with fail
              refine (clone_any w A m _ ((l.drop (k + 4)).take m) hX (by omega)).mono ?_
              rintro e w1 ⟨v1, rfl, hO1, hg1⟩
              obtain ⟨A1, c1, rfl, hR1, hn1, hm1⟩ := hO1.reads
              have hof := of_any A1 m c1 ((l.drop (k + 4)).take m) w1 w1.heap.size hR1 (by unfold maxLen; omega)
              by_cases hs : leN ((l.drop k).take 4) = (crc ((l.drop (k + 4)).take m)).toNat
              · have hsI : ((((crc ((l.drop (k + 4)).take m)).toNat : Int) == (leN ((l.drop k).take 4) : Int))) = true := beq_iff_eq.2 (by omega)
                have hy := read_yes hE HK.out (by omega) (by omega) ((leN_sum _ _ hs4).1 hs)
                go_wp2_with fail
                refine hof.mono ?_
                rintro e w1' ⟨rfl, rfl⟩
                clear hof
                go_wp2_with fail
                refine bodyPost_ret (v := .tuple #[.slice A1 m c1, .int .i64 ((k : Int) + 4 + (m : Int)), .bool true]) (by simp [results, Try.results37, go_sem]) rfl ⟨_, k + 4 + m, true, _, hy, by push_cast; rfl, by rw [hxl]; exact hO1, hg1⟩
              · have hsI : ((((crc ((l.drop (k + 4)).take m)).toNat : Int) == (leN ((l.drop k).take 4) : Int))) = false := beq_eq_false_iff_ne.2 (by omega)
                have hno := read_no hE HK.out (by omega) (fun h => hs ((leN_sum _ _ hs4).2 h))
                go_wp2_with fail
                refine hof.mono ?_
                rintro e w1' ⟨rfl, rfl⟩
                clear hof
                go_wp2_with fail
                refine bodyPost_ret (v := .tuple #[.slice none 0 0, .int .i64 0, .bool false]) (by simp [results, Try.results37, go_sem]) rfl ⟨[], 0, false, _, ReadIs.none hno, rfl, Own.nil, hg1⟩
            · rw [if_neg hck] at hX'
              have hX : Bytes w w.heap.size (A.map fun x => ⟨x.block, x.off + (k + 3 + 1), none⟩) m ((l.drop (k + 4)).take m) := by
                rwa [show (fun a : Addr => a.add (k + 4)) = fun x => (⟨x.block, x.off + (k + 3 + 1), none⟩ : Addr) from funext fun x => add_ne x (k + 4) (by omega)] at hX'
              go_wp2_with fail
              refine (clone_any w _ m _ ((l.drop (k + 4)).take m) hX (by omega)).mono ?_
              rintro e w1 ⟨v1, rfl, hO1, hg1⟩
              obtain ⟨A1, c1, rfl, hR1, hn1, hm1⟩ := hO1.reads
              have hof := of_any A1 m c1 ((l.drop (k + 4)).take m) w1 w1.heap.size hR1 (by unfold maxLen; omega)
              by_cases hs : leN ((l.drop k).take 4) = (crc ((l.drop (k + 4)).take m)).toNat
              · have hsI : ((((crc ((l.drop (k + 4)).take m)).toNat : Int) == (leN ((l.drop k).take 4) : Int))) = true := beq_iff_eq.2 (by omega)
                have hy := read_yes hE HK.out (by omega) (by omega) ((leN_sum _ _ hs4).1 hs)
                go_wp2_with fail
                refine hof.mono ?_
                rintro e w1' ⟨rfl, rfl⟩
                clear hof
                go_wp2_with fail
                refine bodyPost_ret (v := .tuple #[.slice A1 m c1, .int .i64 ((k : Int) + 4 + (m : Int)), .bool true]) (by simp [results, Try.results37, go_sem]) rfl ⟨_, k + 4 + m, true, _, hy, by push_cast; rfl, by rw [hxl]; exact hO1, hg1⟩
              · have hsI : ((((crc ((l.drop (k + 4)).take m)).toNat : Int) == (leN ((l.drop k).take 4) : Int))) = false := beq_eq_false_iff_ne.2 (by omega)
                have hno := read_no hE HK.out (by omega) (fun h => hs ((leN_sum _ _ hs4).2 h))
                go_wp2_with fail
                refine hof.mono ?_
                rintro e w1' ⟨rfl, rfl⟩
                clear hof
                go_wp2_with fail
                refine bodyPost_ret (v := .tuple #[.slice none 0 0, .int .i64 0, .bool false]) (by simp [results, Try.results37, go_sem]) rfl ⟨[], 0, false, _, ReadIs.none hno, rfl, Own.nil, hg1⟩
  · go_wp2_with fail
    refine bodyPost_ret (v := .tuple #[.slice none 0 0, .int .i64 0, .bool false]) (by simp [results, Try.results37, go_sem]) rfl ⟨[], 0, false, _, ReadIs.none (none_get hno), rfl, Own.nil, Grow.refl _⟩
end Go.Proofs.Ytdpcokekilklfaa
