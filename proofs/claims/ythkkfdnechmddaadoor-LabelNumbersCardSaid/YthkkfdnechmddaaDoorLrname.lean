/- The answer's Name. -/
import Derived.Test.YthkkfdnechmddaaDoorLname
namespace Go.Proofs.YthkkfdnechmddaaDoor
open Go.RowKit Go.Hop
set_option maxHeartbeats 1000000 in
theorem rName_any (w : World) (s : ByteArray) (hs : s.size ≤ maxLen) : Calls Tryd.prog 25 #[.string s] w fun e w' => e = .returned (.bool (nameB s)) ∧ w = w' := by
  unfold maxLen at hs
  go_enter Tryd.func25, Tryd.ntmps25
  go_wp2
  go_loop [3] (fun i => ∃ k : Nat, k ≤ s.size ∧ i = .int .i64 (k : Int) ∧ (s.data.toList.take k).all (fun c => okc c.toNat) = true) (fun i => s.size - (intOf i).toNat)
  case atStart => exact ⟨0, Nat.zero_le _, rfl, rfl⟩
  case round =>
    obtain ⟨k, hk, rfl, hall⟩ := hrel
    have HA := Lib.hid hall
    clear hall
    by_cases hlt : k < s.size
    · have hlt' : decide ((k : Int) < (s.size : Int)) = true := decide_eq_true (by omega)
      have hb := u8_cmp s[k]
      have HY : Hid (okc s[k].toNat = true → (s.data.toList.take (k + 1)).all (fun c => okc c.toNat) = true) := Lib.hid fun h => all_take hlt HA.out h
      have HN : Hid (okc s[k].toNat = false → nameB s = false) := Lib.hid fun h => name_no hlt h
      have HI : Hid (okc s[k].toNat = true ↔ _) := Lib.hid (okc_is s[k].toNat)
      go_wp2
      all_goals first
        | (go_ret; exact ⟨ret_bool (HN.out (by rw [Bool.eq_false_iff, ne_eq, HI.out]; (try simp only [bne_iff_ne, ne_eq, bne_eq_false_iff_eq] at *); omega)).symm, rfl⟩)
        | (go_round
           case rel => exact ⟨k + 1, by omega, by go_num, HY.out (HI.out.2 (by (try simp only [bne_iff_ne, ne_eq, bne_eq_false_iff_eq] at *); omega))⟩
           case measure => simp [intOf]; omega)
    · obtain rfl : k = s.size := by omega
      have hlt' : decide ((s.size : Int) < (s.size : Int)) = false := decide_eq_false (by omega)
      have ht : nameB s = (decide (1 ≤ s.size) && decide (s.size ≤ 32)) := by
        have := HA.out
        rw [List.take_of_length_le (by simp)] at this
        unfold nameB allB
        rw [this, Bool.and_true]
      have HT := Lib.hid ht
      clear ht
      by_cases h1 : 1 ≤ s.size
      · by_cases h2 : s.size ≤ 32
        · have d1 : decide ((1 : Int) ≤ (s.size : Int)) = true := decide_eq_true (by omega)
          have d2 : decide ((s.size : Int) ≤ 32) = true := decide_eq_true (by omega)
          go_wp2
          go_ret
          exact ⟨ret_bool (by rw [HT.out, decide_eq_true h1, decide_eq_true h2]; rfl), rfl⟩
        · have d1 : decide ((1 : Int) ≤ (s.size : Int)) = true := decide_eq_true (by omega)
          have d2 : decide ((s.size : Int) ≤ 32) = false := decide_eq_false (by omega)
          go_wp2
          go_ret
          exact ⟨ret_bool (by rw [HT.out, decide_eq_true h1, decide_eq_false h2]; rfl), rfl⟩
      · have d1 : decide ((1 : Int) ≤ (s.size : Int)) = false := decide_eq_false (by omega)
        go_wp2
        go_ret
        exact ⟨ret_bool (by rw [HT.out, decide_eq_false h1]; rfl), rfl⟩
end Go.Proofs.YthkkfdnechmddaaDoor
