/- VarintBack: proved where the arguments together hold at most 1048576 values. -/
import Derived.Test.YtoeffekghmmmjaaBack
namespace Go.Proofs.Ytoeffekghmmmjaa
open Go.RowKit Go.Hop Go.ChangeShapes Go.WideShapes Go.ChangeAt
open Go.ChangeMaps (open_string)
theorem varintBack_contract (H : Type) (enc : TypeId × Value → H) (W : World) (base : Nat) (args : Array Value) (ds gs : List (DataW H)) (before : List MemPlace)
    (hval : ∀ (j : Nat) t v, Try.f3.params[j]? = some t → args[j]? = some v → Value.okWide Try.prog W .any base t v)
    (hW : DataW.Whole enc Try.prog Try.f3.params.toList Rows.varintBackSpec.vars false W args.toList ds gs before) (hk : Rows.uptoSmall H (ds ++ gs) = true) :
    Calls Try.prog 3 args W fun e W' => ∃ v, e = .returned v ∧ Rows.varintBackSpec.post enc Try.prog Try.f3 false true false false W args v W' := by
  have hW' := hW
  obtain ⟨p, q, hA0, hV, rfl, hfz, hnd⟩ := hW
  have hA : DataW.TrodAll enc Try.prog W 0 (fun _ => true) true Try.f3.params.toList args.toList ds p := hA0
  rw [Try.params3] at hA hval
  obtain ⟨v0, vs0, d0, ds0, p0, q0, hargs, rfl, rfl, h0, r0⟩ := trodAll_cons hA
  obtain ⟨v1, vs1, d1, ds1, p1, q1, rfl, rfl, rfl, h1, r1⟩ := trodAll_cons r0
  obtain ⟨v2, vs2, d2, ds2, p2, q2, rfl, rfl, rfl, h2, r2⟩ := trodAll_cons r1
  obtain ⟨v3, vs3, d3, ds3, p3, q3, rfl, rfl, rfl, h3, r3⟩ := trodAll_cons r2
  obtain ⟨rfl, rfl, rfl⟩ := trodAll_nil r3
  obtain rfl : args = #[v0, v1, v2, v3] := by cases args; simp_all
  obtain ⟨rfl, rfl⟩ := trodVars_none hV
  have hb := bulks.bound hk
  simp only [List.append_nil, Rows.uptoBulkAll] at hb
  obtain ⟨x0, rfl, _, _, wx0⟩ := open_int Try.underlying22 (hval 0 22 v0 rfl rfl) h0
  have hx0 : 0 ≤ x0 ∧ x0 ≤ 18446744073709551615 := by simpa [Lit.wf, IntKind.min, IntKind.max, IntKind.signed, IntKind.bits] using wx0
  obtain ⟨x0, rfl⟩ := Int.eq_ofNat_of_zero_le hx0.1
  obtain ⟨x1, rfl, _, _, wx1⟩ := open_int Try.underlying22 (hval 1 22 v1 rfl rfl) h1
  have hx1 : 0 ≤ x1 ∧ x1 ≤ 18446744073709551615 := by simpa [Lit.wf, IntKind.min, IntKind.max, IntKind.signed, IntKind.bits] using wx1
  obtain ⟨x1, rfl⟩ := Int.eq_ofNat_of_zero_le hx1.1
  obtain ⟨x2, rfl, _, _, wx2⟩ := open_int Try.underlying2 (hval 2 2 v2 rfl rfl) h2
  have hx2 : -9223372036854775808 ≤ x2 ∧ x2 ≤ 9223372036854775807 := by simpa [Lit.wf, IntKind.min, IntKind.max, IntKind.signed, IntKind.bits] using wx2
  obtain ⟨A3, n3, c3, l3, rfl, hl3, hnc3, hm3, hd3⟩ := open_bytes Try.underlying23 Try.underlying5 (show Try.prog.cellsOf 5 = 1 by kernel_rfl) (hval 3 23 v3 rfl rfl) h3
  have b3 := bulk_slice hnc3 hd3
  refine (back_any W x0 x1 (by omega) (by omega) x2 hx2 A3 n3 c3 l3 hl3 (by omega)).mono fun e W' ⟨he, hg⟩ => ?_
  subst he
  exact ⟨_, rfl, law_post laidOut Try.underlying4 rfl rfl (by kernel_rfl) hW' rfl hg⟩

set_option maxRecDepth 100000 in
theorem varintBack_lifted (os : Os) (started : os.Started) (H : Type) (enc : TypeId × Value → H) (F : Stop.Interp) :
    ReturnsInHanded {} Try.checked os 3 .any ((Rows.OpenSpec.upto Rows.varintBackSpec).pre6 enc Try.prog Try.f3 Rows.varintBackUptoRow.domain false) (((Rows.OpenSpec.upto Rows.varintBackSpec).at F).post enc Try.prog Try.f3 false true false false) := by
  refine returnsInHanded_of_cond (C := Try.checked) (s := Rows.OpenSpec.upto Rows.varintBackSpec) (k := Rows.uptoSmall) rfl own started (by kernel_rfl) Try.func3
    (OpenSpec.witness (enc := enc) (C := Try.checked) (s := Rows.OpenSpec.upto Rows.varintBackSpec) (k := Rows.uptoSmall) rfl false ⟨#[], #[.int .u64 0, .int .u64 0, .int .i64 0, .slice none 0 0], []⟩ 8 (by kernel_rfl) (by kernel_rfl) (by kernel_rfl)
      (x := ([.lit (.int .u64 0), .lit (.int .u64 0), .lit (.int .i64 0), .nil], [], [])) (by kernel_rfl) rfl (by kernel_rfl)) ?_
  intro W base args ds gs before hval hW _ hk _
  exact varintBack_contract H enc W base args ds gs before hval hW hk

theorem varintBack_proved : Rows.VarintBackUptoSaid :=
  OpenClaim.holds_of_cond 3 Try.f3 rfl rfl rfl rfl rfl rfl rfl ⟨rfl, rfl, rfl, rfl, rfl⟩ rfl rfl rfl rfl rfl (by kernel_rfl) Try.func3 (by kernel_rfl)
    (of_decide_eq_true (by kernel_rfl)) (by unfold Func.isWrapper; first | (rw [if_pos (by decide +kernel)]; kernel_rfl) | (rw [if_neg (by decide +kernel)]; exact ⟨rfl, rfl⟩))
    (fun os started H enc _ F => varintBack_lifted os started H enc F)
end Go.Proofs.Ytoeffekghmmmjaa
