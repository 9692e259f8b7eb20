/- CrcTells: sums are what the document says, for any bytes: proved where the arguments together hold at most 1048576 values. -/
import Derived.Test.YtiebjjmgbgibcaaSame
import Derived.Test.YtiebjjmgbgibcaaRowk
import Derived.Test.YtiebjjmgbgibcaaBulk
namespace Go.Proofs.Ytiebjjmgbgibcaa
open Go.RowKit Go.Hop Go.ChangeShapes Go.WideShapes Go.ChangeAt

theorem own : ownKnob Try.prog.godebug = none := by kernel_rfl
theorem laidOut : laidOutB Try.prog = true := by kernel_rfl
theorem cells5 : Try.prog.cellsOf 5 = 1 := by kernel_rfl

theorem bulk_slice {H : Type} {d : DataW H} {n cap : Nat} (hc : n ≤ cap) (h : (d = .nil ∧ n = 0) ∨ ∃ zs : List Int, d = .slice (lits .u8 (zs.take n)) (lits .u8 (zs.drop n)) ∧ zs.length = cap) : n ≤ Rows.uptoBulk d := by
  rcases h with ⟨_, rfl⟩ | ⟨zs, rfl, hz⟩
  · omega
  · have := bulks.slice_le (lits (H := H) .u8 (zs.take n)) (lits .u8 (zs.drop n))
    have e : (lits (H := H) .u8 (zs.take n)).length = n := by simp [lits]; omega
    omega

theorem low8 (c : BitVec 32) : bits BinOp.and IntKind.u32 (c.toNat : Int) 255 = ((c &&& 255#32).toNat : Int) := and32 c 255#32

set_option maxHeartbeats 400000 in
theorem tells_any (A C : Option Addr) (n m cap cap' : Nat) (l r : List UInt8) (c : BitVec 32) (x : UInt8) (w : World) (h : Bytes w w.heap.size A n l) (h' : Bytes w w.heap.size C m r) (hn : n + m ≤ 140737488355328) :
    Calls Try.prog 4 #[.slice A n cap, .slice C m cap', .int .u32 c.toNat, .int .u8 x.toNat] w fun e w' => e = .returned (.bool true) ∧ Below w.heap.size w w' := by
  go_enter Try.func4, Try.ntmps4
  go_wp2_with fail
  refine (same_any A C n m cap cap' l r c x w h h' hn).mono ?_; rintro e w1 ⟨rfl, hb1⟩
  go_wp2_with fail
  rw [low8]
  refine (same_any C A m n cap' cap r l _ x w1 ((Reads.below h' hb1).more hb1.size) ((Reads.below h hb1).more hb1.size) (by omega)).mono ?_; rintro e w2 ⟨rfl, hb2⟩
  go_wp2_with fail
  refine (known_any w2).mono ?_; rintro e w3 ⟨rfl, hb3⟩
  go_wp2_with fail
  go_ret
  exact ⟨rfl, (hb1.trans (hb2.mono hb1.size)).trans (hb3.mono (Nat.le_trans hb1.size hb2.size))⟩

theorem tells_contract (H : Type) (enc : TypeId × Value → H) (W : World) (base : Nat) (args : Array Value) (ds gs : List (DataW H)) (before : List MemPlace)
    (hval : ∀ (j : Nat) t v, Try.f4.params[j]? = some t → args[j]? = some v → Value.okWide Try.prog W .any base t v)
    (hW : DataW.Whole enc Try.prog Try.f4.params.toList Rows.crcTellsSpec.vars false W args.toList ds gs before) (hk : Rows.uptoSmall H (ds ++ gs) = true) :
    Calls Try.prog 4 args W fun e W' => ∃ v, e = .returned v ∧ Rows.crcTellsSpec.post enc Try.prog Try.f4 false true false false W args v W' := by
  have hW' := hW
  obtain ⟨p, q, hA0, hV, rfl, hfz, hnd⟩ := hW
  have hA : DataW.TrodAll enc Try.prog W 0 (fun _ => true) true Try.f4.params.toList args.toList ds p := hA0
  rw [Try.params4] at hA hval
  obtain ⟨v0, vs0, d0, ds0, p0, q0, hargs, rfl, rfl, h0, r0⟩ := trodAll_cons hA
  obtain ⟨v1, vs1, d1, ds1, p1, q1, rfl, rfl, rfl, h1, r1⟩ := trodAll_cons r0
  obtain ⟨v2, vs2, d2, ds2, p2, q2, rfl, rfl, rfl, h2, r2⟩ := trodAll_cons r1
  obtain ⟨v3, vs3, d3, ds3, p3, q3, rfl, rfl, rfl, h3, r3⟩ := trodAll_cons r2
  obtain ⟨rfl, rfl, rfl⟩ := trodAll_nil r3
  obtain rfl : args = #[v0, v1, v2, v3] := by cases args; simp_all
  obtain ⟨rfl, rfl⟩ := trodVars_none hV
  have hb := bulks.bound hk
  simp only [List.append_nil, Rows.uptoBulkAll] at hb
  obtain ⟨A, n, cap, l, rfl, hl, hnc, _, hd0⟩ := open_bytes Try.underlying22 Try.underlying5 cells5 (hval 0 22 v0 rfl rfl) h0
  obtain ⟨C, m, cap', r, rfl, hr, hmc, _, hd1⟩ := open_bytes Try.underlying22 Try.underlying5 cells5 (hval 1 22 v1 rfl rfl) h1
  obtain ⟨c, rfl, _, _, wc⟩ := open_int Try.underlying24 (hval 2 24 v2 rfl rfl) h2
  obtain ⟨x, rfl, _, _, wx⟩ := open_int Try.underlying5 (hval 3 5 v3 rfl rfl) h3
  have hc : 0 ≤ c ∧ c ≤ 4294967295 := by simpa [Lit.wf, IntKind.min, IntKind.max, IntKind.signed, IntKind.bits] using wc
  have ec : c = ((BitVec.ofNat 32 c.toNat).toNat : Int) := by rw [BitVec.toNat_ofNat]; omega
  have ex := (u8_of_wf wx).symm
  have b0 := bulk_slice hnc hd0
  have b1 := bulk_slice hmc hd1
  have hcall := tells_any A C n m cap cap' l r (BitVec.ofNat 32 c.toNat) (UInt8.ofNat x.toNat) W hl hr (by omega)
  rw [← ec, ← ex] at hcall
  refine hcall.mono fun e W' ⟨he, hg⟩ => ?_
  subst he
  exact ⟨_, rfl, law_post laidOut Try.underlying4 rfl rfl (by kernel_rfl) hW' rfl hg⟩

set_option maxRecDepth 100000 in
theorem tells_lifted (os : Os) (started : os.Started) (H : Type) (enc : TypeId × Value → H) (F : Stop.Interp) :
    ReturnsInHanded {} Try.checked os 4 .any ((Rows.OpenSpec.upto Rows.crcTellsSpec).pre6 enc Try.prog Try.f4 Rows.crcTellsUptoRow.domain false) (((Rows.OpenSpec.upto Rows.crcTellsSpec).at F).post enc Try.prog Try.f4 false true false false) := by
  refine returnsInHanded_of_cond (C := Try.checked) (s := Rows.OpenSpec.upto Rows.crcTellsSpec) (k := Rows.uptoSmall) rfl own started (by kernel_rfl) Try.func4
    (OpenSpec.witness (enc := enc) (C := Try.checked) (s := Rows.OpenSpec.upto Rows.crcTellsSpec) (k := Rows.uptoSmall) rfl false ⟨#[], #[.slice none 0 0, .slice none 0 0, .int .u32 0, .int .u8 0], []⟩ 8 (by kernel_rfl) (by kernel_rfl) (by kernel_rfl)
      (x := ([.nil, .nil, .lit (.int .u32 0), .lit (.int .u8 0)], [], [])) (by kernel_rfl) rfl (by kernel_rfl)) ?_
  intro W base args ds gs before hval hW _ hk _
  exact tells_contract H enc W base args ds gs before hval hW hk

theorem tells_proved : Rows.CrcTellsUptoSaid :=
  OpenClaim.holds_of_cond 4 Try.f4 rfl rfl rfl rfl rfl rfl rfl ⟨rfl, rfl, rfl, rfl, rfl⟩ rfl rfl rfl rfl rfl (by kernel_rfl) Try.func4 (by kernel_rfl)
    (of_decide_eq_true (by kernel_rfl)) (by unfold Func.isWrapper; first | (rw [if_pos (by decide +kernel)]; kernel_rfl) | (rw [if_neg (by decide +kernel)]; exact ⟨rfl, rfl⟩))
    (fun os started H enc _ F => tells_lifted os started H enc F)
end Go.Proofs.Ytiebjjmgbgibcaa
