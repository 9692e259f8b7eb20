/- Wiwin, Wiadd, Wimake, Ma1, Sepb. -/
import Derived.Test.YtmijcbfgfkeodaaGreatDoorHz16
import Derived.Deep.LoopGhost
import Derived.Test.YtmijcbfgfkeodaaGreatDoorHz14
set_option linter.all false
set_option maxRecDepth 100000
section
namespace Go.Proofs.YtmijcbfgfkeodaaGreatDoor.W
open Go.RowKit Go.Hop
theorem floor_any (w:World) (g:Nat) (F:Int) (M:Nat) (h:Blk w g 223 #[.int .i64 F,.int .u64 (M:Int)]) :
 Calls Tryz.prog 58 #[.pointer (some ⟨g,0,none⟩)] w fun e w'=>e=.returned (.int .i64 F)∧w=w':=by
 have c0:=h.cell 0
 go_enter Tryz.func58,Tryz.ntmps58
 go_wp2
 go_ret
 exact⟨rfl,rfl⟩
theorem at_any (w:World) (g:Nat) (F:Int) (M:Nat) (n:Int) (h:Blk w g 223 #[.int .i64 F,.int .u64 (M:Int)]) :
 Calls Tryz.prog 129 #[.pointer (some ⟨g,0,none⟩),.int .i64 n] w fun e w'=>e=.returned (.int .u64 ((n-F-1) % 18446744073709551616))∧w=w':=by
 have c0:=h.cell 0
 go_enter Tryz.func129,Tryz.ntmps129
 go_wp2
 go_ret
 exact⟨ret_int (by rw[wrap_u64,wrap_u64,wrap_u64,wrap_u64];omega),rfl⟩
theorem far_any (w:World) (g:Nat) (F:Int) (M:Nat) (n:Int) (h:Blk w g 223 #[.int .i64 F,.int .u64 (M:Int)]) (hF:-9223372036854775808≤F∧F≤9223372036854775807) (hn:-9223372036854775808≤n∧n≤9223372036854775807) :
 Calls Tryz.prog 56 #[.pointer (some ⟨g,0,none⟩),.int .i64 n] w fun e w'=>e=.returned (.bool (far F n))∧w=w':=by
 have c0:=h.cell 0
 by_cases hlt:F<n
 ·go_enter Tryz.func56,Tryz.ntmps56
  go_wp2_with (go_at_call 129;refine (at_any _ g F M n h).mono ?_;rintro e w1 ⟨rfl,rfl⟩)
  go_ret
  refine⟨ret_bool ?_,rfl⟩
  unfold far
  rw[Bool.eq_iff_iff]
  simp only[Bool.and_eq_true,decide_eq_true_eq]
  omega
 ·go_enter Tryz.func56,Tryz.ntmps56
  go_wp2_with fail
  go_ret
  exact⟨ret_bool (by unfold far;rw[decide_eq_false (by omega)];rfl),rfl⟩
theorem at_in (w:World) (g:Nat) (F:Int) (M:Nat) (n:Int) (d:Nat) (h:Blk w g 223 #[.int .i64 F,.int .u64 (M:Int)]) (hd:n-F-1=(d:Int)) (hlt:d<64) :
 Calls Tryz.prog 129 #[.pointer (some ⟨g,0,none⟩),.int .i64 n] w fun e w'=>e=.returned (.int .u64 (d:Int))∧w=w':=
 (at_any w g F M n h).mono fun e w' ⟨he,hw⟩=>⟨by rw[he];exact ret_int (by omega),hw⟩
theorem far_is (w:World) (g:Nat) (F:Int) (M:Nat) (n:Int) (b:Bool) (h:Blk w g 223 #[.int .i64 F,.int .u64 (M:Int)]) (hF:-9223372036854775808≤F∧F≤9223372036854775807) (hn:-9223372036854775808≤n∧n≤9223372036854775807) (hb:far F n=b) :
 Calls Tryz.prog 56 #[.pointer (some ⟨g,0,none⟩),.int .i64 n] w fun e w'=>e=.returned (.bool b)∧w=w':=hb▸far_any w g F M n h hF hn
set_option maxHeartbeats 400000 in
theorem seen_old (w:World) (g:Nat) (F:Int) (M:Nat) (n:Int) (h:Blk w g 223 #[.int .i64 F,.int .u64 (M:Int)]) (hle:n≤F) :
 Calls Tryz.prog 54 #[.pointer (some ⟨g,0,none⟩),.int .i64 n] w fun e w'=>e=.returned (.bool true)∧Grow w w':=by
 go_enter Tryz.func54,Tryz.ntmps54
 go_wp2_with fail
 refine wp_region_flow 25 29 [] rfl rfl (by kernel_rfl) (by kernel_rfl) (by kernel_rfl) ?_ ?_
 ·intro x hx φ he
  cases hx
 intro ops' A' K' T hops hA' hK hT
 refine fl_mvN 5 (.int .i64 n) ?_
 refine fl_mvN 6 (.pointer (some ⟨g,0,none⟩)) ?_
 refine fl_op1G 7 (.tmp 6) (.pointer (some ⟨g,0,none⟩)) (.pointer (some ⟨g,0,none⟩)) ?_
 refine fl_op1G 8 (.tmp 7) (.pointer (some ⟨g,0,none⟩)) (.pointer (some ⟨g,0,none⟩)) ?_
 refine fl_op1N 9 (.tmp 8) (.pointer (some ⟨g,0,none⟩)) (.int .i64 F) (fun ρ h1 kk w1 (hg:Grow _ w1) hb hf=>by have c:=(h.grow hg).cell 0;go_simp) ?_
 refine fl_op2N 10 (.tmp 5) (.tmp 9) (.int .i64 n) (.int .i64 F) (.bool true) (fun ρ h1 h2 kk w1 (hg:Grow _ w1) hb hf=>by go_simp) ?_
 refine fl_mvN 11 (.bool true) ?_
 refine fl_skipW 12 (wif hops 6 false 11 true) ?_
 refine fl_skipW 13 (wif hops 6 false 11 true) ?_
 refine fl_skipW 14 (wif hops 6 false 11 true) ?_
 refine fl_skipW 15 (wif hops 6 false 11 true) ?_
 refine fl_skipW 16 (wif hops 6 false 11 true) ?_
 refine fl_skipW 17 (wanted_out hops 11 true (by rfl) 16 (by rfl) (by rfl)) ?_
 refine fl_skipW 18 (wanted_out hops 11 true (by rfl) 16 (by rfl) (by rfl)) ?_
 refine fl_skipW 19 (wanted_out hops 11 true (by rfl) 16 (by rfl) (by rfl)) ?_
 refine fl_skipW 20 (wanted_out hops 11 true (by rfl) 16 (by rfl) (by rfl)) ?_
 refine fl_skipW 21 (wanted_out hops 11 true (by rfl) 16 (by rfl) (by rfl)) ?_
 refine fl_skipW 22 (wanted_out hops 11 true (by rfl) 16 (by rfl) (by rfl)) ?_
 refine fl_skipW 23 (wanted_out hops 11 true (by rfl) 16 (by rfl) (by rfl)) ?_
 refine fl_skipW 24 (wanted_out hops 11 true (by rfl) 16 (by rfl) (by rfl)) ?_
 refine fl_skipW 25 (wanted_out hops 11 true (by rfl) 16 (by rfl) (by rfl)) ?_
 refine fl_skipW 26 (wanted_out hops 11 true (by rfl) 16 (by rfl) (by rfl)) ?_
 refine fl_skipW 27 (wif hops 6 false 11 true) ?_
 refine fl_pickN 28 true (.bool true) ?_
 refine fl_mvN 4 (.bool true) ?_
 refine fl_end (fun _ _ w1 (hg:Grow _ w1) _ hfacts=>hT _ _ ?_)
 clear hops hA' hK hT
 simp only[putsL,Act.put,List.setIfInBounds_toArray,List.set_cons_zero,List.set_cons_succ,List.drop_succ_cons,List.drop_zero]
 go_wp2_with fail
 go_ret
 exact⟨rfl,hg⟩
theorem shr_bit (M d:Nat):((M:Int) / (2:Int) ^ d)=((M >>> d:Nat):Int):=by
 rw[Nat.shiftRight_eq_div_pow];push_cast;rfl
theorem and_one (x:Nat) (hx:x<18446744073709551616):bits .and .u64 (x:Int) 1=((x % 2:Nat):Int):=by
 have h:=u64_and_nat x 1 hx (by omega)
 rw[Nat.and_one_is_mod] at h
 exact h
theorem bit_mod (M d:Nat):(((M >>> d % 2:Nat):Int) == 1)=M.testBit d:=by
 rw[Nat.testBit_eq_decide_div_mod_eq,Nat.shiftRight_eq_div_pow,Bool.eq_iff_iff]
 simp only[beq_iff_eq,decide_eq_true_eq]
 omega
set_option maxHeartbeats 400000 in
theorem seen_far (w:World) (g:Nat) (F:Int) (M:Nat) (n:Int) (h:Blk w g 223 #[.int .i64 F,.int .u64 (M:Int)]) (hF:-9223372036854775808≤F∧F≤9223372036854775807) (hn:-9223372036854775808≤n∧n≤9223372036854775807) (hle:F<n) (hf:far F n=true) :
 Calls Tryz.prog 54 #[.pointer (some ⟨g,0,none⟩),.int .i64 n] w fun e w'=>e=.returned (.bool false)∧Grow w w':=by
 have k56:∀ (vs:Array Value) (w:World),(callFunc 56 vs).run Tryz.prog w=.ok (.enter 56 vs) w:=fun vs w=>by go_simp
 have hnl:¬ n≤F:=by omega
 have FF:=Lib.hid hf
 clear hf
 go_enter Tryz.func54,Tryz.ntmps54
 go_wp2_with fail
 refine wp_region_flow 25 29 [(9,.inl (.bool true))] rfl rfl (by kernel_rfl) (by kernel_rfl) (by kernel_rfl) ?_ ?_
 ·intro x hx φ he
  simp only[List.mem_cons,List.not_mem_nil,or_false] at hx
  rcases hx with rfl<;>cases he
 intro ops' A' K' T hops hA' hK hT
 refine fl_mvN 5 (.int .i64 n) ?_
 refine fl_mvN 6 (.pointer (some ⟨g,0,none⟩)) ?_
 refine fl_op1G 7 (.tmp 6) (.pointer (some ⟨g,0,none⟩)) (.pointer (some ⟨g,0,none⟩)) ?_
 refine fl_op1G 8 (.tmp 7) (.pointer (some ⟨g,0,none⟩)) (.pointer (some ⟨g,0,none⟩)) ?_
 refine fl_op1N 9 (.tmp 8) (.pointer (some ⟨g,0,none⟩)) (.int .i64 F) (fun ρ h1 kk w1 (hg:Grow _ w1) hb hf=>by have c:=(h.grow hg).cell 0;go_simp) ?_
 refine fl_op2N 10 (.tmp 5) (.tmp 9) (.int .i64 n) (.int .i64 F) (.bool false) (fun ρ h1 h2 kk w1 (hg:Grow _ w1) hb hf=>by go_simp) ?_
 refine fl_mvN 11 (.bool false) ?_
 refine fl_mvW 12 (wif hops 6 false 11 false) (.pointer (some ⟨g,0,none⟩)) ?_
 refine fl_mvW 13 (wif hops 6 false 11 false) (.int .i64 n) ?_
 refine fl_call 14 (by rfl) (by decide) (wanted_if hops 6 false (by rfl) 11 (by rfl) false (by rfl)) (.bool true) (by rw[hK.out];rfl) 56 _ _ (by rfl) [.pointer (some ⟨g,0,none⟩),.int .i64 n] (by rfl) k56 (fun kk w1 (hg:Grow _ w1) hb hf=>calls_behind (by rfl) (by exact grew_same (far_is w1 g F M n true (h.grow hg) hF hn FF.out))) ?_
 refine fl_op1W 15 (wif hops 6 false 11 false) (.tmp 14) (.bool true) (.bool false) (fun ρ h1 kk w1 (hg:Grow _ w1) hb hf=>by go_simp) ?_
 refine fl_mvW 16 (wif hops 6 false 11 false) (.bool false) ?_
 refine fl_skipW 17 (wif hops 11 true 16 false) ?_
 refine fl_skipW 18 (wif hops 11 true 16 false) ?_
 refine fl_skipW 19 (wif hops 11 true 16 false) ?_
 refine fl_skipW 20 (wif hops 11 true 16 false) ?_
 refine fl_skipW 21 (wif hops 11 true 16 false) ?_
 refine fl_skipW 22 (wif hops 11 true 16 false) ?_
 refine fl_skipW 23 (wif hops 11 true 16 false) ?_
 refine fl_skipW 24 (wif hops 11 true 16 false) ?_
 refine fl_skipW 25 (wif hops 11 true 16 false) ?_
 refine fl_skipW 26 (wif hops 11 true 16 false) ?_
 refine fl_pickW 27 (wif hops 6 false 11 false) false (.bool false) ?_
 refine fl_pickN 28 false (.bool false) ?_
 refine fl_mvN 4 (.bool false) ?_
 refine fl_end (fun _ _ w1 (hg:Grow _ w1) _ hfacts=>hT _ _ ?_)
 clear hops hA' hK hT
 simp only[putsL,Act.put,List.setIfInBounds_toArray,List.set_cons_zero,List.set_cons_succ,List.drop_succ_cons,List.drop_zero]
 go_wp2_with fail
 go_ret
 exact⟨rfl,hg⟩
set_option maxHeartbeats 400000 in
theorem seen_in (w:World) (g:Nat) (F:Int) (M:Nat) (n:Int) (d:Nat) (h:Blk w g 223 #[.int .i64 F,.int .u64 (M:Int)]) (hM:M<18446744073709551616) (hF:-9223372036854775808≤F∧F≤9223372036854775807) (hn:-9223372036854775808≤n∧n≤9223372036854775807) (hd:n-F-1=(d:Int)) (hlt:d<64) :
 Calls Tryz.prog 54 #[.pointer (some ⟨g,0,none⟩),.int .i64 n] w fun e w'=>e=.returned (.bool (M.testBit d))∧Grow w w':=by
 have k56:∀ (vs:Array Value) (w:World),(callFunc 56 vs).run Tryz.prog w=.ok (.enter 56 vs) w:=fun vs w=>by go_simp
 have k129:∀ (vs:Array Value) (w:World),(callFunc 129 vs).run Tryz.prog w=.ok (.enter 129 vs) w:=fun vs w=>by go_simp
 have hnl:¬ n≤F:=by omega
 have hnf:far F n=false:=by
  unfold far
  rw[Bool.and_eq_false_iff]
  exact .inr (decide_eq_false (by omega))
 have FF:=Lib.hid hnf
 have HD:=Lib.hid hd
 clear hnf hd
 obtain⟨x,HX⟩:∃ x:Nat,Hid (x=M >>> d):=⟨_,rfl⟩
 have hx:x<18446744073709551616:=by rw[HX.out];exact Nat.lt_of_le_of_lt (Nat.shiftRight_le M d) hM
 obtain⟨y,HY⟩:∃ y:Nat,Hid (y=x % 2):=⟨_,rfl⟩
 go_enter Tryz.func54,Tryz.ntmps54
 go_wp2_with fail
 refine wp_region_flow 25 29 [(9,.inl (.bool false)),(18,.inl (.int .u64 (d:Int)))] rfl rfl (by kernel_rfl) (by kernel_rfl) (by kernel_rfl) ?_ ?_
 ·intro x hx φ he
  simp only[List.mem_cons,List.not_mem_nil,or_false] at hx
  rcases hx with rfl|rfl<;>cases he
 intro ops' A' K' T hops hA' hK hT
 refine fl_mvN 5 (.int .i64 n) ?_
 refine fl_mvN 6 (.pointer (some ⟨g,0,none⟩)) ?_
 refine fl_op1G 7 (.tmp 6) (.pointer (some ⟨g,0,none⟩)) (.pointer (some ⟨g,0,none⟩)) ?_
 refine fl_op1G 8 (.tmp 7) (.pointer (some ⟨g,0,none⟩)) (.pointer (some ⟨g,0,none⟩)) ?_
 refine fl_op1N 9 (.tmp 8) (.pointer (some ⟨g,0,none⟩)) (.int .i64 F) (fun ρ h1 kk w1 (hg:Grow _ w1) hb hf=>by have c:=(h.grow hg).cell 0;go_simp) ?_
 refine fl_op2N 10 (.tmp 5) (.tmp 9) (.int .i64 n) (.int .i64 F) (.bool false) (fun ρ h1 h2 kk w1 (hg:Grow _ w1) hb hf=>by go_simp) ?_
 refine fl_mvN 11 (.bool false) ?_
 refine fl_mvW 12 (wif hops 6 false 11 false) (.pointer (some ⟨g,0,none⟩)) ?_
 refine fl_mvW 13 (wif hops 6 false 11 false) (.int .i64 n) ?_
 refine fl_call 14 (by rfl) (by decide) (wanted_if hops 6 false (by rfl) 11 (by rfl) false (by rfl)) (.bool false) (by rw[hK.out];rfl) 56 _ _ (by rfl) [.pointer (some ⟨g,0,none⟩),.int .i64 n] (by rfl) k56 (fun kk w1 (hg:Grow _ w1) hb hf=>calls_behind (by rfl) (by exact grew_same (far_is w1 g F M n false (h.grow hg) hF hn FF.out))) ?_
 refine fl_op1W 15 (wif hops 6 false 11 false) (.tmp 14) (.bool false) (.bool true) (fun ρ h1 kk w1 (hg:Grow _ w1) hb hf=>by go_simp) ?_
 refine fl_mvW 16 (wif hops 6 false 11 false) (.bool true) ?_
 refine fl_mvW 17 (wif hops 11 true 16 true) (.pointer (some ⟨g,0,none⟩)) ?_
 refine fl_op1W 18 (wif hops 11 true 16 true) (.tmp 17) (.pointer (some ⟨g,0,none⟩)) (.pointer (some ⟨g,0,none⟩)) (fun ρ h1 kk w1 (hg:Grow _ w1) hb hf=>by go_simp) ?_
 refine fl_op1W 19 (wif hops 11 true 16 true) (.tmp 18) (.pointer (some ⟨g,0,none⟩)) (.pointer (some ⟨g,1,none⟩)) (fun ρ h1 kk w1 (hg:Grow _ w1) hb hf=>by go_simp) ?_
 refine fl_op1W 20 (wif hops 11 true 16 true) (.tmp 19) (.pointer (some ⟨g,1,none⟩)) (.int .u64 (M:Int)) (fun ρ h1 kk w1 (hg:Grow _ w1) hb hf=>by have c:=(h.grow hg).cell 1;go_simp) ?_
 refine fl_mvW 21 (wif hops 11 true 16 true) (.pointer (some ⟨g,0,none⟩)) ?_
 refine fl_mvW 22 (wif hops 11 true 16 true) (.int .i64 n) ?_
 refine fl_call 23 (by rfl) (by decide) (wanted_if hops 11 true (by rfl) 16 (by rfl) true (by rfl)) (.int .u64 (d:Int)) (by rw[hK.out];rfl) 129 _ _ (by rfl) [.pointer (some ⟨g,0,none⟩),.int .i64 n] (by rfl) k129 (fun kk w1 (hg:Grow _ w1) hb hf=>calls_behind (by rfl) (by exact grew_same (at_in w1 g F M n d (h.grow hg) HD.out hlt))) ?_
 refine fl_op2W 24 (wif hops 11 true 16 true) (.tmp 20) (.tmp 23) (.int .u64 (M:Int)) (.int .u64 (d:Int)) (.int .u64 (x:Int)) (fun ρ h1 h2 kk w1 (hg:Grow _ w1) hb hf=>by go_simp;rw[HX.out];exact shr_bit M d) ?_
 refine fl_op2W 25 (wif hops 11 true 16 true) (.tmp 24) (.const (.int .u64 1)) (.int .u64 (x:Int)) (.int .u64 1) (.int .u64 (y:Int)) (fun ρ h1 h2 kk w1 (hg:Grow _ w1) hb hf=>by go_simp;rw[HY.out];exact and_one _ hx) ?_
 refine fl_op2W 26 (wif hops 11 true 16 true) (.tmp 25) (.const (.int .u64 1)) (.int .u64 (y:Int)) (.int .u64 1) (.bool (M.testBit d)) (fun ρ h1 h2 kk w1 (hg:Grow _ w1) hb hf=>by go_simp;rw[HY.out,HX.out];exact bit_mod M d) ?_
 refine fl_pickW 27 (wif hops 6 false 11 false) true (.bool (M.testBit d)) ?_
 refine fl_pickN 28 false (.bool (M.testBit d)) ?_
 refine fl_mvN 4 (.bool (M.testBit d)) ?_
 refine fl_end (fun _ _ w1 (hg:Grow _ w1) _ hfacts=>hT _ _ ?_)
 clear hops hA' hK hT
 simp only[putsL,Act.put,List.setIfInBounds_toArray,List.set_cons_zero,List.set_cons_succ,List.drop_succ_cons,List.drop_zero]
 go_wp2_with fail
 go_ret
 exact⟨rfl,hg⟩
theorem or_pow (M d:Nat) (hM:M<18446744073709551616) (hd:d<64):bits .or .u64 (M:Int) (((2 ^ d:Nat):Nat):Int)=((M ||| 2 ^ d:Nat):Int):=
 u64_or_nat M (2 ^ d) hM (Nat.lt_of_lt_of_le (Nat.pow_lt_pow_right (by omega) hd) (by decide))
theorem wrap_pow (d:Nat) (hd:d<64):IntKind.u64.wrap ((2:Int) ^ d)=((2 ^ d:Nat):Int):=by
 have h:((2:Int) ^ d)=((2 ^ d:Nat):Int):=by push_cast;rfl
 have h2:2 ^ d<2 ^ 64:=Nat.pow_lt_pow_right (by omega) hd
 rw[wrap_u64,h]
 clear h
 generalize 2 ^ d=p at h2 ⊢
 omega
theorem odd_is (x:Nat) (hx:x<18446744073709551616) (h:x % 2=1):(bits .and .u64 (x:Int) 1 == 1)=true:=by rw[and_one x hx,h];rfl
theorem even_is (x:Nat) (hx:x<18446744073709551616) (h:¬ x % 2=1):(bits .and .u64 (x:Int) 1 == 1)=false:=by
 rw[and_one x hx,show x % 2=0 by omega];rfl
theorem top_step {F:Int} {M:Nat} (h:∀ i,M.testBit i=true→F+1+(i:Int)≤9223372036854775807):∀ i,(M / 2).testBit i=true→F+1+1+(i:Int)≤9223372036854775807:=fun i hi=>by
 have:=h (i+1) (by rw[Nat.testBit_succ];exact hi)
 omega
set_option maxHeartbeats 1000000 in
theorem add_new (w:World) (g:Nat) (F:Int) (M:Nat) (n:Int) (d:Nat) (h:Blk w g 223 #[.int .i64 F,.int .u64 (M:Int)]) (hI:WInv F M) (hn:n≤9223372036854775807) (hd:n-F-1=(d:Int)) (hlt:d<64) (hb:M.testBit d=false) :
 Calls Tryz.prog 133 #[.pointer (some ⟨g,0,none⟩),.int .i64 n] w fun e w'=>e=.returned (.bool true)∧Blk w' g 223 #[.int .i64 (put F M n).1,.int .u64 ((put F M n).2:Int)]∧Only g w w':=by
 have k129:∀ (vs:Array Value) (w:World),(callFunc 129 vs).run Tryz.prog w=.ok (.enter 129 vs) w:=fun vs w=>by go_simp
 have hF:-9223372036854775808≤F∧F≤9223372036854775807:=⟨by have:=hI.lo;omega,hI.hi⟩
 have hn':-9223372036854775808≤n∧n≤9223372036854775807:=⟨by have:=hI.lo;omega,hn⟩
 have hnf:far F n=false:=by
  unfold far
  rw[Bool.and_eq_false_iff]
  exact .inr (decide_eq_false (by omega))
 have c1:=Lib.hid (far_is w g F M n false h hF hn' hnf)
 have c2:=Lib.hid (seen_in w g F M n d h hI.mask hF hn' hd hlt)
 have HD:=Lib.hid hd
 have hM:=hI.mask
 clear hnf hd
 rw[hb] at c2
 obtain⟨x,HX⟩:∃ x:Nat,Hid (x=2 ^ d):=⟨_,rfl⟩
 obtain⟨y,HY⟩:∃ y:Nat,Hid (y=M ||| x):=⟨_,rfl⟩
 have hy64:y<2 ^ 64:=by
  rw[HY.out,HX.out]
  exact Nat.or_lt_two_pow hM (Nat.pow_lt_pow_right (by omega) hlt)
 have htopy0:∀ i,y.testBit i=true→F+1+(i:Int)≤9223372036854775807:=by
  intro i hi
  rw[HY.out,Nat.testBit_or,Bool.or_eq_true] at hi
  rcases hi with hi|hi
  ·exact hI.top i hi
  ·rw[HX.out,Nat.testBit_two_pow] at hi
   have:d=i:=by simpa using hi
   have:=HD.out
   omega
 have htopy:=Lib.hid htopy0
 clear htopy0
 go_enter Tryz.func133,Tryz.ntmps133
 go_wp2_with (first
  | (go_at_call 56;refine (c1.out).mono ?_;rintro e w1 ⟨rfl,rfl⟩)
  | (go_at_call 54;refine (c2.out).mono ?_;rintro e w1 ⟨rfl,hg0⟩;have hB1:=h.grow hg0))
 refine wp_region_flow 11 44 [(6,.inl (.int .u64 (d:Int)))] rfl rfl (by kernel_rfl) (by kernel_rfl) (by kernel_rfl) ?_ ?_
 ·intro x hx φ he
  simp only[List.mem_cons,List.not_mem_nil,or_false] at hx
  rcases hx with rfl<;>cases he
 intro ops' A' K' T hops hA' hK hT
 refine fl_mvN 13 (.pointer (some ⟨g,0,none⟩)) ?_
 refine fl_op1G 14 (.tmp 13) (.pointer (some ⟨g,0,none⟩)) (.pointer (some ⟨g,0,none⟩)) ?_
 refine fl_op1G 15 (.tmp 14) (.pointer (some ⟨g,0,none⟩)) (.pointer (some ⟨g,1,none⟩)) ?_
 refine fl_op1N 16 (.tmp 15) (.pointer (some ⟨g,1,none⟩)) (.int .u64 (M:Int)) (fun ρ h1 kk w1 (hg:Grow _ w1) hb hf=>by have c:=(hB1.grow hg).cell 1;go_simp) ?_
 refine fl_mvN 17 (.pointer (some ⟨g,0,none⟩)) ?_
 refine fl_mvN 18 (.int .i64 n) ?_
 refine fl_call 19 (by rfl) (by decide) (wanted_none (by rfl)) (.int .u64 (d:Int)) (by rw[hK.out];rfl) 129 _ _ (by rfl) [.pointer (some ⟨g,0,none⟩),.int .i64 n] (by rfl) k129 (fun kk w1 (hg:Grow _ w1) hb hf=>calls_behind (by rfl) (by exact grew_same (at_in _ g F M n d (hB1.grow hg) HD.out hlt))) ?_
 refine fl_op2N 20 (.const (.int .u64 1)) (.tmp 19) (.int .u64 1) (.int .u64 (d:Int)) (.int .u64 (x:Int)) (fun ρ h1 h2 kk w1 (hg:Grow _ w1) hb hf=>by go_simp;rw[HX.out];exact wrap_pow d hlt) ?_
 refine fl_op2N 21 (.tmp 16) (.tmp 20) (.int .u64 (M:Int)) (.int .u64 (x:Int)) (.int .u64 (y:Int)) (fun ρ h1 h2 kk w1 (hg:Grow _ w1) hb hf=>by go_simp;rw[HY.out,HX.out];exact or_pow M d hM hlt) ?_
 refine fl_op1G 22 (.tmp 13) (.pointer (some ⟨g,0,none⟩)) (.pointer (some ⟨g,0,none⟩)) ?_
 refine fl_op1G 23 (.tmp 22) (.pointer (some ⟨g,0,none⟩)) (.pointer (some ⟨g,1,none⟩)) ?_
 refine fl_end (fun _ _ w1 (hg:Grow _ w1) _ hfacts=>hT _ _ ?_)
 clear hops hA' hK hT
 simp only[putsL,Act.put,List.setIfInBounds_toArray,List.set_cons_zero,List.set_cons_succ,List.drop_succ_cons,List.drop_zero]
 have hB2:=hB1.grow hg
 have cc:=hB2.cell 1
 have cf:=hB2.frozen 1
 have ho2:Only g w _:=(Only.of_grow (hg0.trans hg)).put 1 (.int .u64 (y:Int))
 have hB3:=hB2.put 1 (.int .u64 (y:Int))
 go_wp2_with fail
 go_loopg [] 64 (fun k wr=>∃ (F':Int) (M':Nat),k≤64∧M'<2 ^ k∧strip 64 F y=strip k F' M'∧0≤F'∧(∀ i,M'.testBit i=true→F'+1+(i:Int)≤9223372036854775807)∧Blk wr g 223 #[.int .i64 F',.int .u64 (M':Int)]∧Only g w wr)
 case atStart=>exact⟨F,y,by omega,hy64,rfl,hI.lo,htopy.out,hB3,ho2⟩
 case round=>
  obtain⟨F',M',hk,hM',hs,h0,htop,hB,hO⟩:=hrel
  have HS:=Lib.hid hs
  have HT:=Lib.hid htop
  clear hs htop
  have b0:=hB.cell 0
  have b1:=hB.cell 1
  have f0:=hB.frozen 0
  have f1:=hB.frozen 1
  have hm64:M'<18446744073709551616:=Nat.lt_of_lt_of_le hM' (Nat.pow_le_pow_right (by omega) hk)
  by_cases hodd:M' % 2=1
  ·have ho:=odd_is M' hm64 hodd
   have hf0:F'+1≤9223372036854775807:=by
    have:=HT.out 0 (by rw[Nat.testBit_zero];simpa using hodd)
    omega
   have hgk:0<gk:=by
    rcases Nat.eq_zero_or_pos gk with e|e
    ·rw[e] at hM';simp at hM';omega
    ·exact e
   have HO:=Lib.hid hodd
   clear hodd
   go_wp2_with fail
   go_roundg (gk-1)
   case measure=>omega
   case rel=>
    have hpow:2 ^ gk=2*2 ^ (gk-1):=by rw[←Nat.pow_succ'];congr 1;omega
    refine⟨F'+1,M' / 2,by omega,by omega,?_,by omega,top_step HT.out,?_,(hO.put 0 _).put 1 _⟩
    ·rw[HS.out,show gk=(gk-1)+1 by omega]
     show (if M' % 2=1 then strip (gk-1) (F'+1) (M' / 2) else (F',M'))=_
     rw[if_pos HO.out];rfl
    ·have:=(hB.put 0 (.int .i64 (F'+1))).put 1 (.int .u64 ((M':Int) / 2))
     simpa using this
  ·have ho:=even_is M' hm64 hodd
   have hfin:strip gk F' M'=(F',M'):=by
    cases gk with
    | zero=>rfl
    | succ k=>show (if M' % 2=1 then _ else _)=_;rw[if_neg hodd]
   have HFIN:=Lib.hid hfin
   clear hfin hodd
   go_wp2_with fail
   go_ret
   have hput:put F M n=(F',M'):=by
    unfold put
    rw[HD.out,Int.toNat_natCast,←HX.out,←HY.out,HS.out,HFIN.out]
   rw[hput]
   exact⟨rfl,hB,hO⟩
set_option maxHeartbeats 400000 in
theorem add_far (w:World) (g:Nat) (F:Int) (M:Nat) (n:Int) (h:Blk w g 223 #[.int .i64 F,.int .u64 (M:Int)]) (hF:-9223372036854775808≤F∧F≤9223372036854775807) (hn:-9223372036854775808≤n∧n≤9223372036854775807) (hf:far F n=true) :
 Calls Tryz.prog 133 #[.pointer (some ⟨g,0,none⟩),.int .i64 n] w fun e w'=>e=.returned (.bool false)∧Grow w w':=by
 have c1:=Lib.hid (far_is w g F M n true h hF hn hf)
 clear hf
 go_enter Tryz.func133,Tryz.ntmps133
 go_wp2_with (go_at_call 56;refine (c1.out).mono ?_;rintro e w1 ⟨rfl,rfl⟩)
 go_ret
 exact⟨rfl,Grow.refl _⟩
set_option maxHeartbeats 400000 in
theorem add_seen (w:World) (g:Nat) (F:Int) (M:Nat) (n:Int) (h:Blk w g 223 #[.int .i64 F,.int .u64 (M:Int)]) (hF:-9223372036854775808≤F∧F≤9223372036854775807) (hn:-9223372036854775808≤n∧n≤9223372036854775807) (hf:far F n=false)
 (hs:∀ w,Blk w g 223 #[.int .i64 F,.int .u64 (M:Int)]→Calls Tryz.prog 54 #[.pointer (some ⟨g,0,none⟩),.int .i64 n] w fun e w'=>e=.returned (.bool true)∧Grow w w') :
 Calls Tryz.prog 133 #[.pointer (some ⟨g,0,none⟩),.int .i64 n] w fun e w'=>e=.returned (.bool false)∧Grow w w':=by
 have c1:=Lib.hid (far_is w g F M n false h hF hn hf)
 have c2:=Lib.hid (hs w h)
 clear hf hs
 go_enter Tryz.func133,Tryz.ntmps133
 go_wp2_with (first
  | (go_at_call 56;refine (c1.out).mono ?_;rintro e w1 ⟨rfl,rfl⟩)
  | (go_at_call 54;refine (c2.out).mono ?_;rintro e w1 ⟨rfl,hg0⟩))
 go_ret
 exact⟨rfl,hg0⟩
theorem seen_any (w:World) (g:Nat) (F:Int) (M:Nat) (n:Int) (h:Blk w g 223 #[.int .i64 F,.int .u64 (M:Int)]) (hI:WInv F M) (hn:-9223372036854775808≤n∧n≤9223372036854775807) :
 Calls Tryz.prog 54 #[.pointer (some ⟨g,0,none⟩),.int .i64 n] w fun e w'=>e=.returned (.bool (seen F M n))∧Grow w w':=by
 have hF:-9223372036854775808≤F∧F≤9223372036854775807:=⟨by have:=hI.lo;omega,hI.hi⟩
 by_cases hle:n≤F
 ·have e:seen F M n=true:=by unfold seen;rw[decide_eq_true hle];rfl
  rw[e];exact seen_old w g F M n h hle
 ·cases hf:far F n with
  | true=>
    have e:seen F M n=false:=by unfold seen;rw[decide_eq_false hle,hf];rfl
    rw[e];exact seen_far w g F M n h hF hn (by omega) hf
  | false=>
    have hd:n-F-1<64:=by
     unfold far at hf
     simp only[Bool.and_eq_false_iff,decide_eq_false_iff_not] at hf
     omega
    have e:seen F M n=M.testBit (n-F-1).toNat:=by unfold seen;rw[decide_eq_false hle,hf];rfl
    rw[e];exact seen_in w g F M n _ h hI.mask hF hn (by omega) (by omega)
theorem add_any (w:World) (g:Nat) (F:Int) (M:Nat) (n:Int) (h:Blk w g 223 #[.int .i64 F,.int .u64 (M:Int)]) (hI:WInv F M) (hn:-9223372036854775808≤n∧n≤9223372036854775807) :
 Calls Tryz.prog 133 #[.pointer (some ⟨g,0,none⟩),.int .i64 n] w fun e w'=>e=.returned (.bool (addB F M n))∧Blk w' g 223 #[.int .i64 (addS F M n).1,.int .u64 ((addS F M n).2:Int)]∧Only g w w':=by
 have hF:-9223372036854775808≤F∧F≤9223372036854775807:=⟨by have:=hI.lo;omega,hI.hi⟩
 cases hb:addB F M n with
 | true=>
   obtain⟨h1,h2,h3⟩:=addB_range hb
   have e:addS F M n=put F M n:=by unfold addS;rw[if_pos hb]
   rw[e]
   exact add_new w g F M n _ h hI hn.2 (by omega) (by omega) h3
 | false=>
   have e:addS F M n=(F,M):=by unfold addS;rw[if_neg (by rw[hb];exact Bool.false_ne_true)]
   rw[e]
   cases hf:far F n with
   | true=>exact (add_far w g F M n h hF hn hf).mono fun _ _ ⟨he,hg⟩=>⟨he,h.grow hg,Only.of_grow hg⟩
   | false=>
     have hs:seen F M n=true:=by
      unfold addB at hb;rw[hf] at hb;simpa using hb
     exact (add_seen w g F M n h hF hn hf (fun w1 hw1=>hs▸seen_any w1 g F M n hw1 hI hn)).mono fun _ _ ⟨he,hg⟩=>⟨he,h.grow hg,Only.of_grow hg⟩
theorem new_any (w:World):Calls Tryz.prog 128 #[] w fun e w'=>e=.returned (.pointer (some ⟨w.heap.size,0,none⟩))∧Blk w' w.heap.size 223 #[.int .i64 0,.int .u64 ((0:Nat):Int)]∧Grow w w':=by
 go_enter Tryz.func128,Tryz.ntmps128
 go_wp2_with fail
 go_ret
 exact⟨rfl,Blk.made w 223 _,(Below.refl _ w).alloc (Nat.le_refl _) _⟩
end Go.Proofs.YtmijcbfgfkeodaaGreatDoor.W
end
section
namespace Go.Proofs.YtmijcbfgfkeodaaGreatDoor
open Go.RowKit Go.Hop
def keI (x:Int):Value := .int .i64 x
def keP (k:Int×Int):Value := .agg #[.int .i64 k.1,.int .i64 k.2]
theorem keyI:KeyOk Tryz.prog 3 keI:=keyOk_int (by kernel_rfl)
theorem keyP:KeyOk Tryz.prog 220 keP:=keyOk_struct (fs:=(Tryz.prog.fieldsOf 220)) (by kernel_rfl) (fun w b k=>by unfold keP;kernel_rfl)
 (fun w a b=>by
  unfold keP
  show (Op.equalIn 10000 _ _ _).run Tryz.prog w=_
  go_simp
  by_cases h1:a.1=b.1<;>by_cases h2:a.2=b.2<;>simp[h1,h2,Prod.ext_iff])
 (fun k=>by simp[keP,Instr.sameBits])
theorem zI (w:World):(zeroValue 2).run Tryz.prog w=.ok (.int .i64 0) w:=by kernel_rfl
theorem zS (w:World):(zeroValue 120).run Tryz.prog w=.ok (.pointer none) w:=by kernel_rfl
def machL (m s bE bS p g:Nat) (q:K.Sm) (eps:List (Int×Value)) (shs:List ((Int×Int)×Value)) (F:Int) (M:Nat):List Thing:=[Cell m 117 #[.pointer (some ⟨s,0,none⟩),.map (some bE),.map (some bS)],K.SumsAt s q,GMap keI bE eps,GMap keP bS shs,Cell p 124 #[.pointer (some ⟨g,0,none⟩),.slice none 0 0],Cell g 223 #[.int .i64 F,.int .u64 (M:Int)]]
def MachAt (m:Nat) (q:K.Sm) (eps:List (Int×Value)) (st:Option ((Int×Int)×(Int×Nat))):Thing:=fun w V=>match st with
 | none=>∃ s bE bS,Many [Cell m 117 #[.pointer (some ⟨s,0,none⟩),.map (some bE),.map (some bS)],K.SumsAt s q,GMap keI bE eps,GMap keP bS []] w V
 | some (k,F,M)=>∃ s bE bS p g,Many (machL m s bE bS p g q eps [(k,.pointer (some ⟨p,0,none⟩))] F M) w V
theorem machL_framed (m s bE bS p g:Nat) (q:K.Sm) (eps:List (Int×Value)) (shs:List ((Int×Int)×Value)) (F:Int) (M:Nat):AllFramed (machL m s bE bS p g q eps shs F M):=(((((AllFramed.nil.cons (Cell.framed _ _ _)).cons (Cell.framed _ _ _)).cons (GMap.framed _ _)).cons (GMap.framed _ _)).cons (K.SumsAt.framed _ _)).cons (Cell.framed _ _ _)
theorem mach0_framed (m s bE bS:Nat) (q:K.Sm) (eps:List (Int×Value)):AllFramed [Cell m 117 #[.pointer (some ⟨s,0,none⟩),.map (some bE),.map (some bS)],K.SumsAt s q,GMap keI bE eps,GMap keP bS []]:=(((AllFramed.nil.cons (GMap.framed _ _)).cons (GMap.framed _ _)).cons (K.SumsAt.framed _ _)).cons (Cell.framed _ _ _)
theorem MachAt.framed (m:Nat) (q:K.Sm) (eps:List (Int×Value)) (st:Option ((Int×Int)×(Int×Nat))):Framed (MachAt m q eps st):=fun w w' V h hk=>by
 match st,h with
 | none,h=>obtain⟨s,bE,bS,h⟩:=h;exact⟨s,bE,bS,Many.framed _ (mach0_framed _ _ _ _ _ _) w w' V h hk⟩
 | some (k,F,M),h=>obtain⟨s,bE,bS,p,g,h⟩:=h;exact⟨s,bE,bS,p,g,Many.framed _ (machL_framed _ _ _ _ _ _ _ _ _ _ _) w w' V h hk⟩
theorem maNew_any (w:World):Calls Tryz.prog 12 #[] w fun e w'=>∃ m,e=.returned (.pointer (some ⟨m,0,none⟩))∧MachAt m [] [] none w' (New w w')∧Grow w w':=by
 have hmm:=@run_makeMap Tryz.prog
 have hK:=K.New_any w
 go_enter Tryz.func12,Tryz.ntmps12
 go_wp2_with fail
 refine hK.mono ?_
 rintro e w1 ⟨s,rfl,hS,hg1⟩
 go_wp2_with fail
 go_ret
 have g1:Grow w1 (w1.alloc (.map #[] 0)):=(Below.refl _ w1).alloc (Nat.le_refl _) _
 have g2:=(Below.refl _ (w1.alloc (.map #[] 0))).alloc (Nat.le_refl _) (.map #[] 0)
 generalize hw2:w1.alloc (.map #[] 0)=w2 at g1 g2 ⊢
 have m1:GMap (κ:=Int) keI w1.heap.size [] w2 (fun b=>b=w1.heap.size):=hw2▸GMap.made w1
 have m2:GMap (κ:=Int×Int) keP w2.heap.size [] (w2.alloc (.map #[] 0)) (fun b=>b=w2.heap.size):=GMap.made w2
 have z2:w2.heap.size=w1.heap.size+1:=by rw[←hw2];simp
 rw[←z2]
 generalize hw3:w2.alloc (.map #[] 0)=w3 at g2 m2 ⊢
 have z3:w3.heap.size=w2.heap.size+1:=by rw[←hw3];simp
 have g3:=grow_alloc w3 (.cells #[.pointer (some ⟨s,0,none⟩),.map (some w1.heap.size),.map (some w2.heap.size)] 117)
 have hB:=Blk.made w3 117 #[.pointer (some ⟨s,0,none⟩),.map (some w1.heap.size),.map (some w2.heap.size)]
 generalize hw4:w3.alloc (.cells #[.pointer (some ⟨s,0,none⟩),.map (some w1.heap.size),.map (some w2.heap.size)] 117)=w4 at g3 hB ⊢
 have z4:w4.heap.size=w3.heap.size+1:=by rw[←hw4];simp
 have zz:=hg1.size
 have gA:Grow w1 w4:=(g1.trans g2).trans g3
 have hS4:=K.SumsAt.framed s [] w1 w4 _ hS fun b hb=>gA.block b hb.2
 have m14:=GMap.framed (ke:=keI) _ _ w2 w4 _ m1 fun b hb=>(Grow.trans g2 g3).block b (by rw[hb];omega)
 have m24:=GMap.framed (ke:=keP) _ _ w3 w4 _ m2 fun b hb=>g3.block b (by rw[hb];omega)
 refine⟨w3.heap.size,by rw[z3];rfl,⟨s,w1.heap.size,w2.heap.size,fun b=>b=w3.heap.size,fun b=>New w w4 b∧b≠w3.heap.size,⟨rfl,hB⟩,⟨New w w1,fun b=>b=w1.heap.size∨b=w2.heap.size,hS4,⟨fun b=>b=w1.heap.size,fun b=>b=w2.heap.size,m14,⟨fun b=>b=w2.heap.size,fun _=>False,m24,trivial,fun _ h=>h,fun _ h=>h.elim,fun _ _ h=>h⟩,fun _ h => .inl h,fun _ h => .inr h,fun b h1 h2=>?_⟩,fun b hb=>?_,fun b hb=>?_,fun b hb hc=>?_⟩,fun b hb=>?_,fun b hb=>hb.1,fun b hb hc=>hc.2 hb⟩,hg1.trans gA⟩
 ·subst h1;omega
 ·exact⟨⟨hb.1,by have:=hb.2;omega⟩,by have:=hb.2;omega⟩
 ·rcases hb with rfl|rfl
  ·exact⟨⟨by omega,by omega⟩,by omega⟩
  ·exact⟨⟨by omega,by omega⟩,by omega⟩
 ·rcases hc with rfl|rfl
  ·have:=hb.2;omega
  ·have:=hb.2;omega
 ·subst hb;exact⟨by omega,by omega⟩
theorem of_none (w:World) (m:Nat) (q:K.Sm) (eps:List (Int×Value)) (V:Nat→Prop) (hV:∀ b,V b→b<w.heap.size) (ag sh:Int) (h:MachAt m q eps none w V):Calls Tryz.prog 53 #[.pointer (some ⟨m,0,none⟩),.int .i64 ag,.int .i64 sh] w (fun e w'=>(∃ s bE bS p g,e=.returned (.pointer (some ⟨p,0,none⟩))∧Grow w w'∧∃ U,Many (machL m s bE bS p g q eps [] 0 0) w' U∧∀ b,U b→V b∨New w w' b)):=by
 obtain⟨s,bE,bS,h⟩:=h
 obtain⟨U1,U2,hm0,hr,hU1,hU2,hd⟩:=id h
 have hmB:=hm0.2
 obtain⟨_,_,hG0,_⟩:=(Many.pick _ 3 _ rfl h)
 have hN:=W.new_any w
 have hlk:=GMap.look keyP (t:=115) (et:=120) (by kernel_rfl) (zS w) hG0 (ag,sh) true
 rw[glk_nil] at hlk
 simp only[keP,if_true] at hlk
 have c2:=hmB.cell 2
 go_enter Tryz.func53,Tryz.ntmps53
 go_wp2_with fail
 refine hN.mono ?_
 rintro e w1 ⟨rfl,hW,hg1⟩
 go_wp2_with fail
 go_ret
 have hgp:=grow_alloc w1 (.cells #[.pointer (some ⟨w.heap.size,0,none⟩),.slice none 0 0] 124)
 have hP:=Blk.made w1 124 #[.pointer (some ⟨w.heap.size,0,none⟩),.slice none 0 0]
 generalize hw2:w1.alloc (.cells #[.pointer (some ⟨w.heap.size,0,none⟩),.slice none 0 0] 124)=w2 at hgp hP ⊢
 have z2:w2.heap.size=w1.heap.size+1:=by rw[←hw2];simp
 have hgA:=hg1.trans hgp
 have hM:=Many.framed _ (mach0_framed m s bE bS q eps) w w2 V h fun b hb=>hgA.block b (hV b hb)
 have hW2:=hW.grow hgp
 have hwl:=hW.lt
 have h2:Many [Cell w1.heap.size 124 #[.pointer (some ⟨w.heap.size,0,none⟩),.slice none 0 0],Cell w.heap.size 223 #[.int .i64 0,.int .u64 ((0:Nat):Int)]] w2 (fun b=>b=w1.heap.size∨b=w.heap.size):=
  ⟨fun b=>b=w1.heap.size,fun b=>b=w.heap.size,⟨rfl,hP⟩,⟨fun b=>b=w.heap.size,fun _=>False,⟨rfl,hW2⟩,trivial,fun _ h=>h,fun _ h=>h.elim,fun _ _ h=>h⟩,fun _ h => .inl h,fun _ h => .inr h,fun b h1 h2=>by omega⟩
 refine⟨s,bE,bS,w1.heap.size,w.heap.size,rfl,hgA,fun b=>V b∨b=w1.heap.size∨b=w.heap.size,?_,fun b hb=>?_⟩
 ·exact Many.flat _ ⟨V,fun b=>b=w1.heap.size∨b=w.heap.size,hM,h2,fun _ h => .inl h,fun _ h => .inr h,fun b h1 h2=>by have:=hV b h1;have:=hg1.size;omega⟩
 ·rcases hb with hb|rfl|rfl
  ·exact .inl hb
  ·exact .inr ⟨hg1.size,by omega⟩
  ·exact .inr ⟨Nat.le_refl _,by omega⟩
theorem of_some (w:World) (m:Nat) (q:K.Sm) (eps:List (Int×Value)) (V:Nat→Prop) (ag sh F:Int) (M:Nat) (h:MachAt m q eps (some ((ag,sh),F,M)) w V):Calls Tryz.prog 53 #[.pointer (some ⟨m,0,none⟩),.int .i64 ag,.int .i64 sh] w (fun e w'=>(∃ s bE bS p g,e=.returned (.pointer (some ⟨p,0,none⟩))∧Grow w w'∧∃ U,Many (machL m s bE bS p g q eps [((ag,sh),.pointer (some ⟨p,0,none⟩))] F M) w' U∧∀ b,U b→V b∨New w w' b)):=by
 obtain⟨s,bE,bS,p,g,h⟩:=h
 obtain⟨U1,U2,hm0,hr,hU1,hU2,hd⟩:=id h
 have hmB:=hm0.2
 obtain⟨_,_,hG0,_⟩:=(Many.pick _ 3 _ rfl h)
 have hlk:=GMap.look keyP (t:=115) (et:=120) (by kernel_rfl) (zS w) hG0 (ag,sh) true
 have hg1:glk [((ag,sh),Value.pointer (some ⟨p,0,none⟩))] (ag,sh)=some (Value.pointer (some ⟨p,0,none⟩)):=by simp[glk]
 rw[hg1] at hlk
 simp only[keP,if_true,Option.getD_some,Option.isSome_some] at hlk
 have c2:=hmB.cell 2
 go_enter Tryz.func53,Tryz.ntmps53
 go_wp2_with fail
 go_ret
 exact⟨s,bE,bS,p,g,rfl,Grow.refl _,V,h,fun _ h => .inl h⟩
end Go.Proofs.YtmijcbfgfkeodaaGreatDoor
end
section
namespace Go.Hop
open Go.RowKit
theorem Blk.in_ {w:World} {x:Nat} {t:TypeId} {cs:Array Value} (h:Blk w x t cs) {size n:Nat} (hn:cs.toList.length=n*size):In w (fun b=>b=x) size (some ⟨x,0,none⟩) n cs.toList:=
 ⟨hn,fun _=>⟨_,rfl,rfl,h.lt,fun j u hu=>by
  have h1:=h.cell j
  have h2:(⟨x,0,none⟩:Addr).add j=⟨x,j,none⟩:=by
   unfold Addr.add
   split
   ·rename_i h;rw[h]
   ·simp
  rw[h2,h1,←Array.getElem?_toList]
  exact hu⟩⟩
section
variable {Pr:Program} {f:FuncId} {args:Array Value} {C:Ending→Prop} {S S' R R':Thing} {l l':List Thing} {w w':World} {P V:Nat→Prop}
theorem Solo.atV (i:Nat) (hi:l[i]?=some S) (hF:AllFramed l) (h:Solo P (Many l) w) (hc:∀ U:Nat→Prop,S w U→(∀ b,U b→b<w.heap.size)→(∀ b,U b→P b)→Calls Pr f args w fun e w'=>C e∧S' w' (Ext U w w')∧Just U w w'):Calls Pr f args w fun e w'=>C e∧Just P w w'∧Solo P (Many (l.set i S')) w':=by
 obtain⟨h0,V,h1,h4⟩:=h
 refine (sep_turned (Many.pick l i S hi h1) (Many.framed _ fun R hR=>hF R (List.mem_of_mem_eraseIdx hR)) (fun b hb=>(h4 b hb).2) fun U hU hU2 hU3=>hc U hU hU2 fun b hb=>(h4 b (hU3 b hb)).1).mono fun e w' ⟨a,b,c⟩=>⟨a,c.imp fun k hk=>(h4 k hk).1,fun b hb=>h0 b (Nat.le_trans c.size hb),Ext V w w',Many.unpick l i S S' hi b,ext_lt h4 h0 c.size⟩
theorem Solo.put_ {φ:World→Prop} (i:Nat) (hi:l[i]?=some S) (hF:AllFramed l) (h:Solo P (Many l) w) (hc:∀ U:Nat→Prop,S w U→(∀ b,U b→P b∧b<w.heap.size)→∃ w',φ w'∧S' w' U∧Just U w w'):∃ w',φ w'∧Solo P (Many (l.set i S')) w'∧Just P w w':=by
 obtain⟨h0,V,h1,h4⟩:=h
 obtain⟨V1,V2,a,b,c,d,e⟩:=Many.pick l i S hi h1
 obtain⟨w',hp,hs,hj⟩:=hc V1 a fun x hx=>h4 x (c x hx)
 have hR:=Many.framed _ (fun R hR=>hF R (List.mem_of_mem_eraseIdx hR)) w w' V2 b fun x hx=>hj.block x (h4 x (d x hx)).2 fun h1=>e x h1 hx
 exact⟨w',hp,⟨fun b hb=>h0 b (Nat.le_trans hj.size hb),V,Many.unpick l i S S' hi ⟨V1,V2,hs,hR,c,d,e⟩,fun b hb=>⟨(h4 b hb).1,Nat.lt_of_lt_of_le (h4 b hb).2 hj.size⟩⟩,hj.imp fun x hx=>(h4 x (c x hx)).1⟩
theorem Solo.of_new (h0:∀ b,w.heap.size≤b→P b) (hM:Many l w V) (hV:∀ b,V b→P b∧b<w.heap.size):Solo P (Many l) w:=⟨h0,V,hM,hV⟩
theorem Solo.cons_ {U:Nat→Prop} (h0:∀ b,w.heap.size≤b→P b) (hM:Many l w V) (hV:∀ b,V b→P b∧b<w.heap.size) (hR:R w U) (hU:∀ b,U b→P b∧b<w.heap.size∧¬ V b):Solo P (Many (R :: l)) w:=
 ⟨h0,fun b=>U b∨V b,⟨U,V,hR,hM,fun _ h => .inl h,fun _ h => .inr h,fun b h1 h2=>(hU b h1).2.2 h2⟩,fun b hb=>hb.elim (fun h=>⟨(hU b h).1,(hU b h).2.1⟩) (hV b)⟩
end
end Go.Hop
end
