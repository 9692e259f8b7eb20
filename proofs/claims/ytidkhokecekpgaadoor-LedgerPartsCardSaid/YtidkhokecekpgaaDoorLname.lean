/- What a label's name, or value, may be: Name, the answer's Name. -/
import Derived.Test.YtidkhokecekpgaaDoorLb
import Derived.Lib.Bytealg
namespace Go.Proofs.YtidkhokecekpgaaDoor
open Go.RowKit Go.Hop
/-- a letter, a digit, '_' -/
def okc (c : Nat) : Bool := (decide (97 ≤ c) && decide (c ≤ 122)) || (decide (48 ≤ c) && decide (c ≤ 57)) || decide (c = 95)
theorem okc_is (c : Nat) : okc c = true ↔ (97 ≤ c ∧ c ≤ 122) ∨ (48 ≤ c ∧ c ≤ 57) ∨ c = 95 := by
  unfold okc
  simp only [Bool.or_eq_true, Bool.and_eq_true, decide_eq_true_eq]
  omega
def allB (s : ByteArray) : Bool := s.data.toList.all fun c => okc c.toNat
def nameB (s : ByteArray) : Bool := decide (1 ≤ s.size) && decide (s.size ≤ 32) && allB s
theorem all_take {s : ByteArray} {k : Nat} (hk : k < s.size) (h : (s.data.toList.take k).all (fun c => okc c.toNat) = true) (hc : okc s[k].toNat = true) : (s.data.toList.take (k + 1)).all (fun c => okc c.toNat) = true := by
  have hl : k < s.data.toList.length := by simpa using hk
  rw [List.take_succ_eq_append_getElem hl, List.all_append, h, Bool.true_and]
  simp only [List.all_cons, List.all_nil, Bool.and_true]
  exact hc
theorem all_no {s : ByteArray} {k : Nat} (hk : k < s.size) (hc : okc s[k].toNat = false) : allB s = false := by
  have hl : k < s.data.toList.length := by simpa using hk
  refine List.all_eq_false.2 ⟨s.data.toList[k], List.getElem_mem hl, ?_⟩
  have : s.data.toList[k] = s[k] := by rw [Array.getElem_toList]; rfl
  rw [this, hc]; simp
theorem name_no {s : ByteArray} {k : Nat} (hk : k < s.size) (hc : okc s[k].toNat = false) : nameB s = false := by
  unfold nameB; rw [all_no hk hc, Bool.and_false]
theorem u8_cmp (c : UInt8) : 0 ≤ (c.toNat : Int) ∧ (c.toNat : Int) ≤ 255 := by have := c.toNat_lt; omega
set_option maxHeartbeats 1000000 in
theorem Name_any (w : World) (s : ByteArray) (hs : s.size ≤ maxLen) : Calls Tryd.prog 68 #[.string s] w fun e w' => e = .returned (.bool (nameB s)) ∧ w = w' := by
  unfold maxLen at hs
  by_cases h0 : s.size = 0
  · have he : nameB s = false := by unfold nameB; rw [decide_eq_false (by omega), Bool.false_and, Bool.false_and]
    rw [he]
    have hee : (s == (⟨#[]⟩ : ByteArray)) = true := by
      have : s = ⟨#[]⟩ := ByteArray.ext (Array.eq_empty_of_size_eq_zero h0)
      rw [this]; rfl
    obtain rfl : s = ⟨#[]⟩ := ByteArray.ext (Array.eq_empty_of_size_eq_zero h0)
    clear h0 hee he
    go_enter Tryd.func68, Tryd.ntmps68
    go_wp2
    go_ret
    exact ⟨rfl, rfl⟩
  · have hne : s.toList = [] ↔ False := by
      constructor
      · intro h
        have h2 : s.data.toList = [] := by rw [← Lib.toList_data]; exact h
        have : s.size = 0 := by show s.data.size = 0; rw [← Array.length_toList, h2]; rfl
        exact h0 this
      · exact False.elim
    have hne2 : s.toList.isEmpty = false := by
      cases h : s.toList with
      | nil => exact (hne.1 h).elim
      | cons _ _ => rfl
    have HNE := Lib.hid hne
    clear hne
    by_cases h32 : s.size ≤ 32
    · have hd : decide ((32 : Int) < (s.size : Int)) = false := decide_eq_false (by omega)
      go_enter Tryd.func68, Tryd.ntmps68
      go_wp2
      go_loop [14] (fun i => ∃ k : Nat, k ≤ s.size ∧ i = .int .i64 (k : Int) ∧ (s.data.toList.take k).all (fun c => okc c.toNat) = true) (fun i => s.size - (intOf i).toNat)
      case atStart => exact ⟨0, Nat.zero_le _, rfl, rfl⟩
      case round =>
        obtain ⟨k, hk, rfl, hall⟩ := hrel
        have HA := Lib.hid hall
        clear hall
        by_cases hlt : k < s.size
        · have hlt' : decide ((k : Int) < (s.size : Int)) = true := decide_eq_true (by omega)
          have hb := u8_cmp s[k]
          have HY : Hid (okc s[k].toNat = true → (s.data.toList.take (k + 1)).all (fun c => okc c.toNat) = true) := Lib.hid fun h => all_take hlt HA.out h
          have HN : Hid (okc s[k].toNat = false → nameB s = false) := Lib.hid fun h => name_no hlt h
          have HI : Hid (okc s[k].toNat = true ↔ _) := Lib.hid (okc_is s[k].toNat)
          go_wp2
          all_goals first
            | (go_ret; exact ⟨ret_bool (HN.out (by rw [Bool.eq_false_iff, ne_eq, HI.out]; (try simp only [bne_iff_ne, ne_eq, bne_eq_false_iff_eq] at *); omega)).symm, rfl⟩)
            | (go_round
               case rel => exact ⟨k + 1, by omega, by go_num, HY.out (HI.out.2 (by (try simp only [bne_iff_ne, ne_eq, bne_eq_false_iff_eq] at *); omega))⟩
               case measure => simp [intOf]; omega)
        · obtain rfl : k = s.size := by omega
          have hlt' : decide ((s.size : Int) < (s.size : Int)) = false := decide_eq_false (by omega)
          have ht : nameB s = true := by
            have := HA.out
            rw [List.take_of_length_le (by simp)] at this
            unfold nameB allB
            rw [this, decide_eq_true (by omega), decide_eq_true (by omega)]; rfl
          have HT := Lib.hid ht
          clear ht
          go_wp2
          go_ret
          exact ⟨ret_bool HT.out.symm, rfl⟩
    · have hd : decide ((32 : Int) < (s.size : Int)) = true := decide_eq_true (by omega)
      have he : nameB s = false := by unfold nameB; rw [decide_eq_false h32, Bool.and_false, Bool.false_and]
      rw [he]
      clear he
      go_enter Tryd.func68, Tryd.ntmps68
      go_wp2
      go_ret
      exact ⟨rfl, rfl⟩
end Go.Proofs.YtidkhokecekpgaaDoor
