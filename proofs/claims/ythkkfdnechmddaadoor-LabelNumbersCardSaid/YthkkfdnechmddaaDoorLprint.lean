/- Prints of texts; shards. -/
import Derived.Test.YthkkfdnechmddaaDoorLname
namespace Go.Proofs.YthkkfdnechmddaaDoor
open Go.RowKit Go.Hop
def stepP (h : Int) (c : UInt8) : Int := IntKind.u64.wrap (bits .xor .u64 h (c.toNat : Int) * 1099511628211)
def printI (l : List UInt8) : Int := l.foldl stepP 14695981039346656037
theorem printI_in (l : List UInt8) : 0 ≤ printI l ∧ printI l ≤ 18446744073709551615 := by
  unfold printI
  rcases List.eq_nil_or_concat l with rfl | ⟨r, c, rfl⟩
  · exact ⟨by decide, by decide⟩
  · rw [List.concat_eq_append, List.foldl_append]
    show 0 ≤ stepP _ c ∧ stepP _ c ≤ _
    unfold stepP
    rw [wrap_u64]
    omega
theorem printI_take {s : ByteArray} {k : Nat} (hk : k < s.size) : printI (s.data.toList.take (k + 1)) = stepP (printI (s.data.toList.take k)) s[k] := by
  have hl : k < s.data.toList.length := by simpa using hk
  unfold printI
  rw [List.take_succ_eq_append_getElem hl, List.foldl_append]
  rfl
def manyI (n : Int) : Int := max 1 (min n 4)
theorem manyI_in (n : Int) : ∃ m : Int, 1 ≤ m ∧ m ≤ 4 ∧ manyI n = m := ⟨manyI n, by unfold manyI; omega, by unfold manyI; omega, rfl⟩
def shardI (s : ByteArray) (n : Int) : Int := printI s.data.toList % manyI n
set_option maxHeartbeats 1000000 in
theorem Print_any (w : World) (s : ByteArray) (hs : s.size ≤ maxLen) : Calls Tryd.prog 17 #[.string s] w fun e w' => e = .returned (.int .u64 (printI s.data.toList)) ∧ w = w' := by
  unfold maxLen at hs
  go_enter Tryd.func17, Tryd.ntmps17
  go_wp2
  go_loop [3,7] (fun h i => ∃ k : Nat, k ≤ s.size ∧ i = .int .i64 (k : Int) ∧ h = .int .u64 (printI (s.data.toList.take k))) (fun _ i => s.size - (intOf i).toNat)
  case atStart => exact ⟨0, Nat.zero_le _, rfl, rfl⟩
  case round =>
    obtain ⟨k, hk, rfl, rfl⟩ := hrel
    have hp := printI_in (s.data.toList.take k)
    by_cases hlt : k < s.size
    · have hlt' : decide ((k : Int) < (s.size : Int)) = true := decide_eq_true (by omega)
      have hb := u8_cmp s[k]
      have HS := Lib.hid (printI_take hlt)
      have hcw : IntKind.u64.wrap (s[k].toNat : Int) = (s[k].toNat : Int) := by rw [wrap_u64]; omega
      go_wp2
      go_round
      case rel => exact ⟨k + 1, by omega, by go_num, by rw [HS.out]; rfl⟩
      case measure => simp [intOf]; omega
    · obtain rfl : k = s.size := by omega
      have hlt' : decide ((s.size : Int) < (s.size : Int)) = false := decide_eq_false (by omega)
      go_wp2
      go_ret
      exact ⟨by rw [List.take_of_length_le (by simp)]; rfl, rfl⟩
set_option maxHeartbeats 1000000 in
theorem rPrint_any (w : World) (s : ByteArray) (hs : s.size ≤ maxLen) : Calls Tryd.prog 22 #[.string s] w fun e w' => e = .returned (.int .u64 (printI s.data.toList)) ∧ w = w' := by
  unfold maxLen at hs
  go_enter Tryd.func22, Tryd.ntmps22
  go_wp2
  go_loop [3,4] (fun h i => ∃ k : Nat, k ≤ s.size ∧ i = .int .i64 (k : Int) ∧ h = .int .u64 (printI (s.data.toList.take k))) (fun _ i => s.size - (intOf i).toNat)
  case atStart => exact ⟨0, Nat.zero_le _, rfl, rfl⟩
  case round =>
    obtain ⟨k, hk, rfl, rfl⟩ := hrel
    have hp := printI_in (s.data.toList.take k)
    by_cases hlt : k < s.size
    · have hlt' : decide ((k : Int) < (s.size : Int)) = true := decide_eq_true (by omega)
      have hb := u8_cmp s[k]
      have HS := Lib.hid (printI_take hlt)
      have hcw : IntKind.u64.wrap (s[k].toNat : Int) = (s[k].toNat : Int) := by rw [wrap_u64]; omega
      go_wp2
      go_round
      case rel => exact ⟨k + 1, by omega, by go_num, by rw [HS.out]; rfl⟩
      case measure => simp [intOf]; omega
    · obtain rfl : k = s.size := by omega
      have hlt' : decide ((s.size : Int) < (s.size : Int)) = false := decide_eq_false (by omega)
      go_wp2
      go_ret
      exact ⟨by rw [List.take_of_length_le (by simp)]; rfl, rfl⟩
theorem Shard_any (w : World) (s : ByteArray) (n : Int) (hs : s.size ≤ maxLen) (hn : -9223372036854775808 ≤ n ∧ n ≤ 9223372036854775807) : Calls Tryd.prog 18 #[.string s, .int .i64 n] w fun e w' => e = .returned (.int .i64 (shardI s n)) ∧ w = w' := by
  obtain ⟨m, h1, h4, hm⟩ := manyI_in n
  have hp := printI_in s.data.toList
  have hmn : ∀ ts t w, (Builtin.min_ ts t #[.int .i64 n, .int .i64 4]).run Tryd.prog w = .ok (.int .i64 (min n 4)) w := fun ts t w => by rw [run_min_int2]; congr 2; split <;> omega
  have hmx : ∀ ts t w, (Builtin.max_ ts t #[.int .i64 1, .int .i64 (min n 4)]).run Tryd.prog w = .ok (.int .i64 m) w := fun ts t w => by rw [run_max_int2, ← hm]; congr 2; unfold manyI; split <;> omega
  have hmw : IntKind.u64.wrap m = m := by rw [wrap_u64]; omega
  have hm0 : ¬ m = 0 := by omega
  have HM := Lib.hid hm
  clear hm
  have q0 := Int.emod_nonneg (printI s.data.toList) (b := m) (by omega)
  have q1 := Int.emod_lt_of_pos (printI s.data.toList) (b := m) (by omega)
  have hrem : (printI s.data.toList).tmod m = printI s.data.toList % m := Int.tmod_eq_emod_of_nonneg hp.1
  have hwi : IntKind.i64.wrap (printI s.data.toList % m) = printI s.data.toList % m := by rw [IntKind.wrap_i64]; omega
  go_enter Tryd.func18, Tryd.ntmps18
  go_wp2_with (go_at_call 17; refine (Print_any _ _ hs).mono ?_; rintro e w' ⟨rfl, rfl⟩)
  go_ret
  exact ⟨by unfold shardI; rw [HM.out]; rfl, rfl⟩
theorem rShard_any (w : World) (s : ByteArray) (n : Int) (hs : s.size ≤ maxLen) (hn : -9223372036854775808 ≤ n ∧ n ≤ 9223372036854775807) : Calls Tryd.prog 23 #[.string s, .int .i64 n] w fun e w' => e = .returned (.int .i64 (shardI s n)) ∧ w = w' := by
  obtain ⟨m, h1, h4, hm⟩ := manyI_in n
  have hp := printI_in s.data.toList
  have hmn : ∀ ts t w, (Builtin.min_ ts t #[.int .i64 n, .int .i64 4]).run Tryd.prog w = .ok (.int .i64 (min n 4)) w := fun ts t w => by rw [run_min_int2]; congr 2; split <;> omega
  have hmx : ∀ ts t w, (Builtin.max_ ts t #[.int .i64 (min n 4), .int .i64 1]).run Tryd.prog w = .ok (.int .i64 m) w := fun ts t w => by rw [run_max_int2, ← hm]; congr 2; unfold manyI; split <;> omega
  have hmw : IntKind.u64.wrap m = m := by rw [wrap_u64]; omega
  have hm0 : ¬ m = 0 := by omega
  have HM := Lib.hid hm
  clear hm
  have q0 := Int.emod_nonneg (printI s.data.toList) (b := m) (by omega)
  have q1 := Int.emod_lt_of_pos (printI s.data.toList) (b := m) (by omega)
  have hrem : (printI s.data.toList).tmod m = printI s.data.toList % m := Int.tmod_eq_emod_of_nonneg hp.1
  have hwi : IntKind.i64.wrap (printI s.data.toList % m) = printI s.data.toList % m := by rw [IntKind.wrap_i64]; omega
  go_enter Tryd.func23, Tryd.ntmps23
  go_wp2_with (go_at_call 22; refine (rPrint_any _ _ hs).mono ?_; rintro e w' ⟨rfl, rfl⟩)
  go_ret
  exact ⟨by unfold shardI; rw [HM.out]; rfl, rfl⟩
end Go.Proofs.YthkkfdnechmddaaDoor
