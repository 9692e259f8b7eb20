/- Sums: what both tell. -/
import Derived.WalkSpells
import Derived.WalkLawsBesides
import Derived.Test.YtdpcokekilklfaaKit
namespace Go.Proofs.Ytdpcokekilklfaa
open Go.RowKit Go.Hop
def poly : BitVec 32 := 0xedb88320#32
def stepT (c : BitVec 32) : BitVec 32 := (c >>> 1) ^^^ (if c.getLsbD 0 then poly else 0#32)
def stepN : Nat → BitVec 32 → BitVec 32
  | 0, c => c
  | n+1, c => stepT (stepN n c)
def next (c : BitVec 32) (b : UInt8) : BitVec 32 := stepN 8 (c ^^^ b.toBitVec.setWidth 32)

theorem xor32 (a b : BitVec 32) : bits .xor .u32 (a.toNat : Int) (b.toNat : Int) = ((a ^^^ b).toNat : Int) := by
  have ha := a.isLt; have hb := b.isLt; have hx := (a ^^^ b).isLt
  show IntKind.u32.wrap ((BitVec.ofInt 32 (a.toNat : Int) ^^^ BitVec.ofInt 32 (b.toNat : Int)).toNat : Int) = _
  rw [BitVec.ofInt_natCast, BitVec.ofInt_natCast, BitVec.ofNat_toNat, BitVec.ofNat_toNat, BitVec.setWidth_eq, BitVec.setWidth_eq, IntKind.wrap_u32']
  omega
theorem and32 (a b : BitVec 32) : bits .and .u32 (a.toNat : Int) (b.toNat : Int) = ((a &&& b).toNat : Int) := by
  have ha := a.isLt; have hb := b.isLt; have hx := (a &&& b).isLt
  show IntKind.u32.wrap ((BitVec.ofInt 32 (a.toNat : Int) &&& BitVec.ofInt 32 (b.toNat : Int)).toNat : Int) = _
  rw [BitVec.ofInt_natCast, BitVec.ofInt_natCast, BitVec.ofNat_toNat, BitVec.ofNat_toNat, BitVec.setWidth_eq, BitVec.setWidth_eq, IntKind.wrap_u32']
  omega
theorem low32 (x : BitVec 32) : bits .and .u32 (x.toNat : Int) 1 = if x.getLsbD 0 then 1 else 0 := by
  have h := and32 x 1#32
  have e : ((1#32).toNat : Int) = 1 := by decide
  rw [e] at h; rw [h]
  have : (x &&& 1#32) = if x.getLsbD 0 then 1#32 else 0#32 := by
    ext i hi
    by_cases h0 : i = 0
    · subst h0; cases h : x[0] <;> simp [h]
    · have h1 : (1#32)[i] = false := by simp [BitVec.getElem_one, h0]
      simp only [BitVec.getElem_and, h1, Bool.and_false]
      split <;> simp [h0]
  rw [this]; split <;> rfl
theorem step32 (x : BitVec 32) : bits .xor .u32 (↑x.toNat / 2) (3988292384 * bits .and .u32 ↑x.toNat 1 % 4294967296) = ((stepT x).toNat : Int) := by
  rw [low32]
  have e : ((x.toNat : Int) / (2 : Int)) = ((x >>> 1).toNat : Int) := by
    rw [BitVec.toNat_ushiftRight, Nat.shiftRight_eq_div_pow]; omega
  rw [e]
  unfold stepT
  split
  · exact xor32 (x >>> 1) poly
  · exact xor32 (x >>> 1) 0#32

set_option maxHeartbeats 400000 in
theorem next_any (c : BitVec 32) (b : UInt8) (w : World) :
    Calls Try.prog 51 #[.int .u32 c.toNat, .int .u8 b.toNat] w fun e w' => e = .returned (.int .u32 (next c b).toNat) ∧ w = w' := by
  have hb : (b.toNat : Int) % 4294967296 = ((b.toBitVec.setWidth 32).toNat : Int) := by
    have := b.toNat_lt
    simp only [BitVec.toNat_setWidth, UInt8.toNat_toBitVec]
    omega
  have hx := xor32 c (b.toBitVec.setWidth 32)
  rw [← hb] at hx
  have HX := Lib.hid hx
  clear hb hx
  go_enter Try.func51, Try.ntmps51
  go_wp2
  go_loop [0, 5, 10] (fun v _ i => ∃ k : Nat, k ≤ 8 ∧ i = .int .i64 k ∧ v = .int .u32 (stepN k (c ^^^ b.toBitVec.setWidth 32)).toNat) (fun _ _ i => 8 - (intOf i).toNat)
  case atStart => exact ⟨0, by omega, rfl, by rw [HX.out]; rfl⟩
  case round =>
    obtain ⟨k, hk, rfl, rfl⟩ := hrel
    by_cases h : k < 8
    · have hs0 : stepN (k + 1) (c ^^^ b.toBitVec.setWidth 32) = stepT (stepN k (c ^^^ b.toBitVec.setWidth 32)) := rfl
      have hs := Lib.hid hs0
      clear hs0
      generalize stepN k (c ^^^ b.toBitVec.setWidth 32) = x at hs
      go_wp2
      go_round
      case rel => exact ⟨k + 1, by omega, by go_num, by rw [step32, hs.out]⟩
      case measure => simp [intOf]; omega
    · obtain rfl : k = 8 := by omega
      go_wp2
      go_ret
      exact ⟨rfl, rfl⟩

def run (c : BitVec 32) (l : List UInt8) : BitVec 32 := l.foldl next c

theorem run_take (c : BitVec 32) (l : List UInt8) (k : Nat) (h : k < l.length) : run c (l.take (k + 1)) = next (run c (l.take k)) l[k] := by
  unfold run; rw [List.take_succ_eq_append_getElem h, List.foldl_append]; rfl

set_option maxHeartbeats 400000 in
theorem on_any (c : BitVec 32) (A : Option Addr) (n cap : Nat) (l : List UInt8) (w : World) (B : Nat) (h : Bytes w B A n l) (hn : n ≤ maxLen) :
    Calls Try.prog 48 #[.int .u32 c.toNat, .slice A n cap] w fun e w' => e = .returned (.int .u32 (run c l).toNat) ∧ w = w' := by
  unfold maxLen at hn
  have hlen := h.len
  go_enter Try.func48, Try.ntmps48
  go_wp2
  go_loop [0, 6, 9] (fun v _ i => ∃ k : Nat, k ≤ n ∧ i = .int .i64 k ∧ v = .int .u32 (run c (l.take k)).toNat) (fun _ _ i => n - (intOf i).toNat)
  case atStart => exact ⟨0, by omega, rfl, rfl⟩
  case round =>
    obtain ⟨k, hk, rfl, rfl⟩ := hrel
    by_cases hlt : k < n
    · obtain ⟨ad, hl, rfl, hc⟩ := h.at_ hlt
      have hs := Lib.hid (run_take c l k hl)
      go_wp2_with (go_at_call 51; refine (next_any _ _ _).mono ?_; rintro e w' ⟨rfl, rfl⟩)
      go_round
      case rel => exact ⟨k + 1, by omega, by go_num, by rw [hs.out]⟩
      case measure => simp [intOf]; omega
    · obtain rfl : k = n := by omega
      go_wp2
      go_ret
      exact ⟨ret_int (by rw [List.take_of_length_le (by omega)]), rfl⟩

theorem not32 (a : BitVec 32) : bits .xor .u32 4294967295 (a.toNat : Int) = ((~~~a).toNat : Int) := by
  have h := xor32 (BitVec.allOnes 32) a
  rw [BitVec.allOnes_xor] at h
  exact h

def ones : BitVec 32 := BitVec.allOnes 32
theorem ones_nat : (4294967295 : Int) = (ones.toNat : Int) := by decide
/-- the sum of bytes -/
def crc (l : List UInt8) : BitVec 32 := ~~~(run ones l)

set_option maxHeartbeats 400000 in
theorem of_any (A : Option Addr) (n cap : Nat) (l : List UInt8) (w : World) (B : Nat) (h : Bytes w B A n l) (hn : n ≤ maxLen) :
    Calls Try.prog 41 #[.slice A n cap] w fun e w' => e = .returned (.int .u32 (crc l).toNat) ∧ w = w' := by
  have hc := on_any ones A n cap l w B h hn
  rw [← ones_nat] at hc
  have HC := Lib.hid hc
  clear hc
  go_enter Try.func41, Try.ntmps41
  go_wp2_with (go_at_call 48; refine (HC.out).mono ?_; rintro e w' ⟨rfl, rfl⟩)
  go_ret
  exact ⟨ret_int (not32 _), rfl⟩

theorem hx_eq (c : BitVec 32) (b : UInt8) : bits BinOp.xor IntKind.u32 (c.toNat : Int) ((b.toNat : Int) % 4294967296) = ((c ^^^ b.toBitVec.setWidth 32).toNat : Int) := by
  have hb : (b.toNat : Int) % 4294967296 = ((b.toBitVec.setWidth 32).toNat : Int) := by
    have := b.toNat_lt
    simp only [BitVec.toNat_setWidth, UInt8.toNat_toBitVec]
    omega
  rw [hb]; exact xor32 _ _

theorem step_of (x : BitVec 32) : (x.getLsbD 0 = true → bits BinOp.xor IntKind.u32 (↑x.toNat / 2) 3988292384 = ((stepT x).toNat : Int)) ∧ (x.getLsbD 0 = false → (x.toNat : Int) / 2 = ((stepT x).toNat : Int)) := by
  have e : ((x.toNat : Int) / (2 : Int)) = ((x >>> 1).toNat : Int) := by
    rw [BitVec.toNat_ushiftRight, Nat.shiftRight_eq_div_pow]; omega
  unfold stepT
  refine ⟨fun h => ?_, fun h => ?_⟩
  · rw [if_pos h, e]; exact xor32 (x >>> 1) poly
  · rw [if_neg (by rw [h]; exact Bool.false_ne_true), e]; simp

set_option maxHeartbeats 400000 in
theorem refnext_any (c : BitVec 32) (b : UInt8) (w : World) :
    Calls Try.prog 43 #[.int .u32 c.toNat, .int .u8 b.toNat] w fun e w' => e = .returned (.int .u32 (next c b).toNat) ∧ w = w' := by
  go_enter Try.func43, Try.ntmps43
  go_wp2
  go_loop [0, 5, 6] (fun v i _ => ∃ k : Nat, k ≤ 8 ∧ i = .int .i64 k ∧ v = .int .u32 (stepN k (c ^^^ b.toBitVec.setWidth 32)).toNat) (fun _ i _ => 8 - (intOf i).toNat)
  case atStart => exact ⟨0, by omega, rfl, by rw [hx_eq]; rfl⟩
  case round =>
    obtain ⟨k, hk, rfl, rfl⟩ := hrel
    by_cases h : k < 8
    · have hs0 : stepN (k + 1) (c ^^^ b.toBitVec.setWidth 32) = stepT (stepN k (c ^^^ b.toBitVec.setWidth 32)) := rfl
      have hs := Lib.hid hs0
      clear hs0
      generalize stepN k (c ^^^ b.toBitVec.setWidth 32) = x at hs
      have hst := Lib.hid (step_of x)
      cases hx : x.getLsbD 0
      · have hl : (bits BinOp.and IntKind.u32 (x.toNat : Int) 1 == 1) = false := by rw [low32, hx]; rfl
        go_wp2
        go_round
        case rel => exact ⟨k + 1, by omega, by go_num, by rw [hs.out, hst.out.2 hx]⟩
        case measure => simp [intOf]; omega
      · have hl : (bits BinOp.and IntKind.u32 (x.toNat : Int) 1 == 1) = true := by rw [low32, hx]; rfl
        go_wp2
        go_round
        case rel => exact ⟨k + 1, by omega, by go_num, by rw [hs.out, hst.out.1 hx]⟩
        case measure => simp [intOf]; omega
    · obtain rfl : k = 8 := by omega
      go_wp2
      go_ret
      exact ⟨rfl, rfl⟩

set_option maxHeartbeats 400000 in
theorem refcrc_any (A : Option Addr) (n cap : Nat) (l : List UInt8) (w : World) (B : Nat) (h : Bytes w B A n l) (hn : n ≤ maxLen) :
    Calls Try.prog 28 #[.slice A n cap] w fun e w' => e = .returned (.int .u32 (crc l).toNat) ∧ w = w' := by
  unfold maxLen at hn
  have hlen := h.len
  go_enter Try.func28, Try.ntmps28
  go_wp2
  go_loop [3, 4] (fun v i => ∃ k : Nat, k ≤ n ∧ i = .int .i64 k ∧ v = .int .u32 (run ones (l.take k)).toNat) (fun _ i => n - (intOf i).toNat)
  case atStart => exact ⟨0, by omega, rfl, rfl⟩
  case round =>
    obtain ⟨k, hk, rfl, rfl⟩ := hrel
    by_cases hlt : k < n
    · obtain ⟨ad, hl, rfl, hc⟩ := h.at_ hlt
      have hs := Lib.hid (run_take ones l k hl)
      go_wp2_with (go_at_call 43; refine (refnext_any _ _ _).mono ?_; rintro e w' ⟨rfl, rfl⟩)
      go_round
      case rel => exact ⟨k + 1, by omega, by go_num, by rw [hs.out]⟩
      case measure => simp [intOf]; omega
    · obtain rfl : k = n := by omega
      go_wp2
      go_ret
      exact ⟨ret_int (by rw [not32, List.take_of_length_le (by omega)]; rfl), rfl⟩
end Go.Proofs.Ytdpcokekilklfaa
