/- ledger.Total: its walk. -/
import Derived.Test.YtidkhokecekpgaaDoorGmatch
namespace Go.Proofs.YtidkhokecekpgaaDoor
open Go.RowKit Go.Hop
/-- what Total answers -/
def totV : Option Nat → Value
  | some n => .tuple #[.int .u64 (n : Int), .bool true]
  | none => .tuple #[.int .u64 0, .bool false]
/-- deltas that may be read -/
def Fit (q : List Dl) : Prop := ∀ d ∈ q, d.1.size ≤ 1000000 ∧ d.2 ≤ M64
theorem DIn.len' {w : World} {V : Nat → Prop} {A : Option Addr} {n : Nat} {l : List Dl} (h : In w V 2 A n (dcells l)) : l.length = n := DIn.len h
theorem totG_at {l : List Lb} {q : List Dl} {k : Nat} (hk : k < q.length) (n : Nat) : totG l (q.drop k) n = if matchB q[k].1 l then (if M64 - n < q[k].2 then none else totG l (q.drop (k + 1)) (n + q[k].2)) else totG l (q.drop (k + 1)) n := by
  rw [List.drop_eq_getElem_cons hk]
  rfl
set_option maxRecDepth 100000 in
set_option maxHeartbeats 1000000 in
theorem Total_any (w : World) (V U : Nat → Prop) (A B : Option Addr) (n c m d : Nat) (q : List Dl) (l : List Lb) (h : In w V 2 A n (dcells q)) (hn : n ≤ 1048576) (hf : Fit q) (hl : In w U 2 B m (lcells l)) (hm : m ≤ 1048576) :
    Calls Tryd.prog 7 #[.slice A n c, .slice B m d] w fun e w' => e = .returned (totV (totG l q 0)) ∧ Grow w w' := by
  have hll := DIn.len' h
  obtain ⟨R, HR⟩ : ∃ R : Option Nat, Hid (R = totG l q 0) := ⟨_, rfl⟩
  rw [← HR.out]
  go_enter Tryd.func7, Tryd.ntmps7
  go_wp2_with fail
  go_loopw [6, 11] (fun o i wr => ∃ k a : Nat, k ≤ n ∧ o = .int .u64 (a : Int) ∧ i = .int .i64 (k : Int) ∧ a ≤ M64 ∧ totG l (q.drop k) a = R ∧ Grow w wr) (fun _ i _ => n - (intOf i).toNat)
  case atStart => exact ⟨0, 0, by omega, rfl, rfl, by omega, by rw [HR.out]; rfl, Grow.refl _⟩
  case round =>
    obtain ⟨k, a, hkn, rfl, rfl, ha, hR, hgr⟩ := hrel
    by_cases hk : k < n
    · have hd : decide ((k : Int) < (n : Int)) = true := decide_eq_true (by omega)
      obtain ⟨ad, hq, rfl, f0, f1⟩ := del_at (h.grow hgr) hk
      have e0 := f0 wr (Grow.refl _)
      have e1 := f1 wr (Grow.refl _)
      have hk' : ¬ n ≤ k := by omega
      rw [totG_at hq] at hR
      have hfk := hf _ (List.getElem_mem hq)
      generalize q[k] = x at e0 e1 hR hfk
      obtain ⟨b, HB⟩ : ∃ b : Nat, Hid (b = wr.heap.size) := ⟨_, rfl⟩
      obtain ⟨w2, HW⟩ : ∃ w2 : World, Hid (w2 = wr.alloc (.cells #[.string x.1, .int .u64 (x.2 : Int)] 30)) := ⟨_, rfl⟩
      have hg2 : Grow wr w2 := by rw [HW.out]; exact (Below.refl _ _).alloc (Nat.le_refl _) _
      have hB2 : Blk w2 b 30 #[.string x.1, .int .u64 (x.2 : Int)] := by rw [HW.out, HB.out]; exact Blk.made wr _ _
      have hM := Match_any w2 x.1 hfk.1 U B m d l (hl.grow (hgr.trans hg2)) hm
      generalize matchB x.1 l = r at hM hR
      have c0 := hB2.cell 0
      clear f0 f1
      have hR' := Lib.hid hR
      clear hR
      go_wp2_with fail
      rw [← HB.out, ← HW.out]
      clear e0 e1
      go_wp2_with fail
      refine hM.mono ?_
      rintro e w3 ⟨rfl, hg3⟩
      clear hM
      have hgw := (hgr.trans hg2).trans hg3
      have c1 := (hB2.grow hg3).cell 1
      have hR := hR'.out
      clear hR'
      cases r with
      | false =>
        rw [if_neg (by simp)] at hR
        go_wp2_with fail
        go_roundw
        case rel => exact ⟨k + 1, a, by omega, rfl, by go_num, ha, hR, hgw⟩
        case measure => simp [intOf]; omega
      | true =>
        rw [if_pos rfl] at hR
        have hx2 := hfk.2
        have hsub : IntKind.u64.wrap ((18446744073709551615 : Int) - (a : Int)) = ((M64 - a : Nat) : Int) := by unfold M64 at *; rw [IntKind.wrap_u64]; omega
        by_cases hov : M64 - a < x.2
        · rw [if_pos hov] at hR
          have hd2 : decide (M64 - a < x.2) = true := decide_eq_true hov
          subst hR
          go_wp2_with fail
          go_ret2
          exact ⟨rfl, hgw⟩
        · rw [if_neg hov] at hR
          have hd2 : decide (M64 - a < x.2) = false := decide_eq_false hov
          have hadd : IntKind.u64.wrap ((a : Int) + (x.2 : Int)) = ((a + x.2 : Nat) : Int) := by unfold M64 at *; rw [IntKind.wrap_u64]; omega
          go_wp2_with fail
          go_roundw
          case rel => exact ⟨k + 1, a + x.2, by omega, rfl, by go_num, by omega, hR, hgw⟩
          case measure => simp [intOf]; omega
    · obtain rfl : k = n := by omega
      have hd : decide ((k : Int) < (k : Int)) = false := decide_eq_false (by omega)
      rw [List.drop_of_length_le (by omega)] at hR
      unfold totG at hR
      subst hR
      go_wp2_with fail
      go_ret2
      exact ⟨rfl, hgr⟩
end Go.Proofs.YtidkhokecekpgaaDoor
