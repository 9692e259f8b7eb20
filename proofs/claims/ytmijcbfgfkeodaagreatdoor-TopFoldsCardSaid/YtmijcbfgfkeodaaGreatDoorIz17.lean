/- Wiwin, Wiadd, Wimake, Ma1, Mi1. -/
import Derived.Test.YtmijcbfgfkeodaaGreatDoorIz16
import Derived.Deep.LoopGhost
import Derived.Ground.SlgnProg
import Derived.Shelf.SortG.Plain
import Derived.Shelf.SortG.SortNone
set_option linter.all false
set_option maxRecDepth 100000
set_option maxHeartbeats 2000000
open Go.Value renaming int → ae,slice → ai
open Go.IntKind renaming i64 → af,u64 → ah
open Go.Proofs.Tryz renaming prog → au
open List renaming setIfInBounds_toArray → aw,drop_succ_cons → ax,set_cons_zero → ay,set_cons_succ → az,drop_zero → aB,not_mem_nil → aE,mem_cons → aF,eq_nil_of_length_eq_zero → aJ,length_take → aK,getElem_mem → aO
open Nat renaming lt_of_lt_of_le → aA,le_refl → aC,zero_add → a_,eq_zero_or_pos → bj,lt_or_ge → bn
open Bool renaming and_eq_true → aS
open Int renaming toNat_natCast → bv
section
namespace Go.Proofs.YtmijcbfgfkeodaaGreatDoor.W
open Go.RowKit Go.Hop
theorem CJ (w:World) (g:Nat) (F:Int) (M:Nat) (n:Int) (h:ct w g 223 #[ae af F,ae ah (M:Int)]) :
 Calls au 129 #[((g:Nat):Value),ae af n] w fun e w'=>e=.returned (ae ah ((n-F-1) % 18446744073709551616))∧w=w':=by
 have c0:=h.cell 0
 go_enter Tryz.func129,Tryz.ntmps129
 go_wp2
 go_ret
 exact⟨gu (by rw[wrap_u64,wrap_u64,wrap_u64,wrap_u64];omega),rfl⟩
theorem F8 (w:World) (g:Nat) (F:Int) (M:Nat) (n:Int) (h:ct w g 223 #[ae af F,ae ah (M:Int)]) (hF:-9223372036854775808≤F∧F≤9223372036854775807) (hn:-9223372036854775808≤n∧n≤9223372036854775807) :
 Calls au 56 #[((g:Nat):Value),ae af n] w fun e w'=>e=.returned (.bool (far F n))∧w=w':=by
 have c0:=h.cell 0
 by_cases hlt:F<n
 ·go_enter Tryz.func56,Tryz.ntmps56
  go_wp2_with (go_at_call 129;refine (CJ _ g F M n h).mono ?_;rintro e w1 ⟨rfl,rfl⟩)
  go_ret
  refine⟨fL ?_,rfl⟩
  unfold far
  rw[Bool.eq_iff_iff]
  simp only[aS,decide_eq_true_eq]
  omega
 ·go_enter Tryz.func56,Tryz.ntmps56
  go_wp2_with fail
  go_ret
  exact⟨fL (by unfold far;rw[decide_eq_false al];rfl),rfl⟩
theorem Gn (w:World) (g:Nat) (F:Int) (M:Nat) (n:Int) (d:Nat) (h:ct w g 223 #[ae af F,ae ah (M:Int)]) (hd:n-F-1=(d:Int)) (hlt:d<64) :
 Calls au 129 #[((g:Nat):Value),ae af n] w fun e w'=>e=.returned (ae ah (d:Int))∧w=w':=
 (CJ w g F M n h).mono fun e w' ⟨he,hw⟩=>⟨by rw[he];exact gu al,hw⟩
theorem kK (w:World) (g:Nat) (F:Int) (M:Nat) (n:Int) (b:Bool) (h:ct w g 223 #[ae af F,ae ah (M:Int)]) (hF:-9223372036854775808≤F∧F≤9223372036854775807) (hn:-9223372036854775808≤n∧n≤9223372036854775807) (hb:far F n=b) :
 Calls au 56 #[((g:Nat):Value),ae af n] w fun e w'=>e=.returned (.bool b)∧w=w':=hb▸F8 w g F M n h hF hn
theorem CK (w:World) (g:Nat) (F:Int) (M:Nat) (n:Int) (h:ct w g 223 #[ae af F,ae ah (M:Int)]) (hle:n≤F) :
 Calls au 54 #[((g:Nat):Value),ae af n] w fun e w'=>e=.returned (.bool true)∧Grow w w':=by
 go_enter Tryz.func54,Tryz.ntmps54
 go_wp2_with fail
 refine bL 25 29 [] rfl rfl am am am ?_ ?_
 ·intro x hx φ he
  cases hx
 intro ops' A' K' T hops hA' hK hT
 refine bP 5 (ae af n) ?_
 refine bP 6 (((g:Nat):Value)) ?_
 refine bQ 7 (.tmp 6) (((g:Nat):Value)) (((g:Nat):Value)) ?_
 refine bQ 8 (.tmp 7) (((g:Nat):Value)) (((g:Nat):Value)) ?_
 refine bI 9 (.tmp 8) (((g:Nat):Value)) (ae af F) (fun ρ h1 kk w1 (hg:Grow _ w1) hb hf=>by have c:=(h.grow hg).cell 0;go_simp) ?_
 refine cm 10 (.tmp 5) (.tmp 9) (ae af n) (ae af F) (.bool true) (fun ρ h1 h2 kk w1 (hg:Grow _ w1) hb hf=>by go_simp) ?_
 refine bP 11 (.bool true) ?_
 refine bU 12 (cx hops 6 false 11 true) ?_
 refine bU 13 (cx hops 6 false 11 true) ?_
 refine bU 14 (cx hops 6 false 11 true) ?_
 refine bU 15 (cx hops 6 false 11 true) ?_
 refine bU 16 (cx hops 6 false 11 true) ?_
 refine bU 17 (cM hops 11 true aj 16 aj aj) ?_
 refine bU 18 (cM hops 11 true aj 16 aj aj) ?_
 refine bU 19 (cM hops 11 true aj 16 aj aj) ?_
 refine bU 20 (cM hops 11 true aj 16 aj aj) ?_
 refine bU 21 (cM hops 11 true aj 16 aj aj) ?_
 refine bU 22 (cM hops 11 true aj 16 aj aj) ?_
 refine bU 23 (cM hops 11 true aj 16 aj aj) ?_
 refine bU 24 (cM hops 11 true aj 16 aj aj) ?_
 refine bU 25 (cM hops 11 true aj 16 aj aj) ?_
 refine bU 26 (cM hops 11 true aj 16 aj aj) ?_
 refine bU 27 (cx hops 6 false 11 true) ?_
 refine cG 28 true (.bool true) ?_
 refine bP 4 (.bool true) ?_
 refine ce (fun _ _ w1 (hg:Grow _ w1) _ bR=>hT _ _ ?_)
 clear hops hA' hK hT
 simp only[cj,Act.put,aw,ay,az,ax,aB]
 go_wp2_with fail
 go_ret
 exact⟨rfl,hg⟩
theorem F9 (M d:Nat):((M:Int) / (2:Int) ^ d)=((M >>> d:Nat):Int):=by
 rw[Nat.shiftRight_eq_div_pow];push_cast;rfl
theorem and_one (x:Nat) (hx:x<18446744073709551616):bits .and .u64 (x:Int) 1=((x % 2:Nat):Int):=by
 have h:=u64_and_nat x 1 hx al
 rw[Nat.and_one_is_mod] at h
 exact h
theorem Fa (M d:Nat):(((M >>> d % 2:Nat):Int) == 1)=M.testBit d:=by
 rw[Nat.testBit_eq_decide_div_mod_eq,Nat.shiftRight_eq_div_pow,Bool.eq_iff_iff]
 simp only[beq_iff_eq,decide_eq_true_eq]
 omega
theorem CL (w:World) (g:Nat) (F:Int) (M:Nat) (n:Int) (h:ct w g 223 #[ae af F,ae ah (M:Int)]) (hF:-9223372036854775808≤F∧F≤9223372036854775807) (hn:-9223372036854775808≤n∧n≤9223372036854775807) (hle:F<n) (hf:far F n=true) :
 Calls au 54 #[((g:Nat):Value),ae af n] w fun e w'=>e=.returned (.bool false)∧Grow w w':=by
 have Bf:∀ (vs:Array Value) (w:World),(callFunc 56 vs).run au w=.ok (.enter 56 vs) w:=fun vs w=>by go_simp
 have hnl:¬ n≤F:=by omega
 have FF:=Lib.hid hf
 clear hf
 go_enter Tryz.func54,Tryz.ntmps54
 go_wp2_with fail
 refine bL 25 29 [(9,.inl (.bool true))] rfl rfl am am am ?_ ?_
 ·intro x hx φ he
  simp only[aF,aE,or_false] at hx
  rcases hx with rfl<;>cases he
 intro ops' A' K' T hops hA' hK hT
 refine bP 5 (ae af n) ?_
 refine bP 6 (((g:Nat):Value)) ?_
 refine bQ 7 (.tmp 6) (((g:Nat):Value)) (((g:Nat):Value)) ?_
 refine bQ 8 (.tmp 7) (((g:Nat):Value)) (((g:Nat):Value)) ?_
 refine bI 9 (.tmp 8) (((g:Nat):Value)) (ae af F) (fun ρ h1 kk w1 (hg:Grow _ w1) hb hf=>by have c:=(h.grow hg).cell 0;go_simp) ?_
 refine cm 10 (.tmp 5) (.tmp 9) (ae af n) (ae af F) (.bool false) (fun ρ h1 h2 kk w1 (hg:Grow _ w1) hb hf=>by go_simp) ?_
 refine bP 11 (.bool false) ?_
 refine da 12 (cx hops 6 false 11 false) (((g:Nat):Value)) ?_
 refine da 13 (cx hops 6 false 11 false) (ae af n) ?_
 refine cC 14 aj ak (dF hops 6 false aj 11 aj false aj) (.bool true) (by rw[hK.out];rfl) 56 _ _ aj [((g:Nat):Value),ae af n] aj Bf (fun kk w1 (hg:Grow _ w1) hb hf=>b_ aj (by exact db (kK w1 g F M n true (h.grow hg) hF hn FF.out))) ?_
 refine bX 15 (cx hops 6 false 11 false) (.tmp 14) (.bool true) (.bool false) (fun ρ h1 kk w1 (hg:Grow _ w1) hb hf=>by go_simp) ?_
 refine da 16 (cx hops 6 false 11 false) (.bool false) ?_
 refine bU 17 (cx hops 11 true 16 false) ?_
 refine bU 18 (cx hops 11 true 16 false) ?_
 refine bU 19 (cx hops 11 true 16 false) ?_
 refine bU 20 (cx hops 11 true 16 false) ?_
 refine bU 21 (cx hops 11 true 16 false) ?_
 refine bU 22 (cx hops 11 true 16 false) ?_
 refine bU 23 (cx hops 11 true 16 false) ?_
 refine bU 24 (cx hops 11 true 16 false) ?_
 refine bU 25 (cx hops 11 true 16 false) ?_
 refine bU 26 (cx hops 11 true 16 false) ?_
 refine ks 27 (cx hops 6 false 11 false) false (.bool false) ?_
 refine cG 28 false (.bool false) ?_
 refine bP 4 (.bool false) ?_
 refine ce (fun _ _ w1 (hg:Grow _ w1) _ bR=>hT _ _ ?_)
 clear hops hA' hK hT
 simp only[cj,Act.put,aw,ay,az,ax,aB]
 go_wp2_with fail
 go_ret
 exact⟨rfl,hg⟩
theorem yl (w:World) (g:Nat) (F:Int) (M:Nat) (n:Int) (d:Nat) (h:ct w g 223 #[ae af F,ae ah (M:Int)]) (hM:M<18446744073709551616) (hF:-9223372036854775808≤F∧F≤9223372036854775807) (hn:-9223372036854775808≤n∧n≤9223372036854775807) (hd:n-F-1=(d:Int)) (hlt:d<64) :
 Calls au 54 #[((g:Nat):Value),ae af n] w fun e w'=>e=.returned (.bool (M.testBit d))∧Grow w w':=by
 have Bf:∀ (vs:Array Value) (w:World),(callFunc 56 vs).run au w=.ok (.enter 56 vs) w:=fun vs w=>by go_simp
 have I2:∀ (vs:Array Value) (w:World),(callFunc 129 vs).run au w=.ok (.enter 129 vs) w:=fun vs w=>by go_simp
 have hnl:¬ n≤F:=by omega
 have hnf:far F n=false:=by
  unfold far
  rw[Bool.and_eq_false_iff]
  exact .inr (decide_eq_false al)
 have FF:=Lib.hid hnf
 have HD:=Lib.hid hd
 clear hnf hd
 obtain⟨x,HX⟩:∃ x:Nat,Hid (x=M >>> d):=⟨_,rfl⟩
 have hx:x<18446744073709551616:=by rw[HX.out];exact Nat.lt_of_le_of_lt (Nat.shiftRight_le M d) hM
 obtain⟨y,HY⟩:∃ y:Nat,Hid (y=x % 2):=⟨_,rfl⟩
 go_enter Tryz.func54,Tryz.ntmps54
 go_wp2_with fail
 refine bL 25 29 [(9,.inl (.bool false)),(18,.inl (ae ah (d:Int)))] rfl rfl am am am ?_ ?_
 ·intro x hx φ he
  simp only[aF,aE,or_false] at hx
  rcases hx with rfl|rfl<;>cases he
 intro ops' A' K' T hops hA' hK hT
 refine bP 5 (ae af n) ?_
 refine bP 6 (((g:Nat):Value)) ?_
 refine bQ 7 (.tmp 6) (((g:Nat):Value)) (((g:Nat):Value)) ?_
 refine bQ 8 (.tmp 7) (((g:Nat):Value)) (((g:Nat):Value)) ?_
 refine bI 9 (.tmp 8) (((g:Nat):Value)) (ae af F) (fun ρ h1 kk w1 (hg:Grow _ w1) hb hf=>by have c:=(h.grow hg).cell 0;go_simp) ?_
 refine cm 10 (.tmp 5) (.tmp 9) (ae af n) (ae af F) (.bool false) (fun ρ h1 h2 kk w1 (hg:Grow _ w1) hb hf=>by go_simp) ?_
 refine bP 11 (.bool false) ?_
 refine da 12 (cx hops 6 false 11 false) (((g:Nat):Value)) ?_
 refine da 13 (cx hops 6 false 11 false) (ae af n) ?_
 refine cC 14 aj ak (dF hops 6 false aj 11 aj false aj) (.bool false) (by rw[hK.out];rfl) 56 _ _ aj [((g:Nat):Value),ae af n] aj Bf (fun kk w1 (hg:Grow _ w1) hb hf=>b_ aj (by exact db (kK w1 g F M n false (h.grow hg) hF hn FF.out))) ?_
 refine bX 15 (cx hops 6 false 11 false) (.tmp 14) (.bool false) (.bool true) (fun ρ h1 kk w1 (hg:Grow _ w1) hb hf=>by go_simp) ?_
 refine da 16 (cx hops 6 false 11 false) (.bool true) ?_
 refine da 17 (cx hops 11 true 16 true) (((g:Nat):Value)) ?_
 refine bX 18 (cx hops 11 true 16 true) (.tmp 17) (((g:Nat):Value)) (((g:Nat):Value)) (fun ρ h1 kk w1 (hg:Grow _ w1) hb hf=>by go_simp) ?_
 refine bX 19 (cx hops 11 true 16 true) (.tmp 18) (((g:Nat):Value)) (.pointer (some ⟨g,1,none⟩)) (fun ρ h1 kk w1 (hg:Grow _ w1) hb hf=>by go_simp) ?_
 refine bX 20 (cx hops 11 true 16 true) (.tmp 19) (.pointer (some ⟨g,1,none⟩)) (ae ah (M:Int)) (fun ρ h1 kk w1 (hg:Grow _ w1) hb hf=>by have c:=(h.grow hg).cell 1;go_simp) ?_
 refine da 21 (cx hops 11 true 16 true) (((g:Nat):Value)) ?_
 refine da 22 (cx hops 11 true 16 true) (ae af n) ?_
 refine cC 23 aj ak (dF hops 11 true aj 16 aj true aj) (ae ah (d:Int)) (by rw[hK.out];rfl) 129 _ _ aj [((g:Nat):Value),ae af n] aj I2 (fun kk w1 (hg:Grow _ w1) hb hf=>b_ aj (by exact db (Gn w1 g F M n d (h.grow hg) HD.out hlt))) ?_
 refine dc 24 (cx hops 11 true 16 true) (.tmp 20) (.tmp 23) (ae ah (M:Int)) (ae ah (d:Int)) (ae ah (x:Int)) (fun ρ h1 h2 kk w1 (hg:Grow _ w1) hb hf=>by go_simp;rw[HX.out];exact F9 M d) ?_
 refine dc 25 (cx hops 11 true 16 true) (.tmp 24) (.const (ae ah 1)) (ae ah (x:Int)) (ae ah 1) (ae ah (y:Int)) (fun ρ h1 h2 kk w1 (hg:Grow _ w1) hb hf=>by go_simp;rw[HY.out];exact and_one _ hx) ?_
 refine dc 26 (cx hops 11 true 16 true) (.tmp 25) (.const (ae ah 1)) (ae ah (y:Int)) (ae ah 1) (.bool (M.testBit d)) (fun ρ h1 h2 kk w1 (hg:Grow _ w1) hb hf=>by go_simp;rw[HY.out,HX.out];exact Fa M d) ?_
 refine ks 27 (cx hops 6 false 11 false) true (.bool (M.testBit d)) ?_
 refine cG 28 false (.bool (M.testBit d)) ?_
 refine bP 4 (.bool (M.testBit d)) ?_
 refine ce (fun _ _ w1 (hg:Grow _ w1) _ bR=>hT _ _ ?_)
 clear hops hA' hK hT
 simp only[cj,Act.put,aw,ay,az,ax,aB]
 go_wp2_with fail
 go_ret
 exact⟨rfl,hg⟩
theorem I3 (M d:Nat) (hM:M<18446744073709551616) (hd:d<64):bits .or .u64 (M:Int) (((2 ^ d:Nat):Nat):Int)=((M ||| 2 ^ d:Nat):Int):=
 u64_or_nat M (2 ^ d) hM (aA (Nat.pow_lt_pow_right al hd) ak)
theorem CM (d:Nat) (hd:d<64):IntKind.u64.wrap ((2:Int) ^ d)=((2 ^ d:Nat):Int):=by
 have h:((2:Int) ^ d)=((2 ^ d:Nat):Int):=by push_cast;rfl
 have h2:2 ^ d<2 ^ 64:=Nat.pow_lt_pow_right al hd
 rw[wrap_u64,h]
 clear h
 generalize 2 ^ d=p at h2 ⊢
 omega
theorem I4 (x:Nat) (hx:x<18446744073709551616) (h:x % 2=1):(bits .and .u64 (x:Int) 1 == 1)=true:=by rw[and_one x hx,h];rfl
theorem Fb (x:Nat) (hx:x<18446744073709551616) (h:¬ x % 2=1):(bits .and .u64 (x:Int) 1 == 1)=false:=by
 rw[and_one x hx,show x % 2=0 by omega];rfl
theorem CN {F:Int} {M:Nat} (h:∀ i,M.testBit i=true→F+1+(i:Int)≤9223372036854775807):∀ i,(M / 2).testBit i=true→F+1+1+(i:Int)≤9223372036854775807:=fun i hi=>by
 have:=h (i+1) (by rw[Nat.testBit_succ];exact hi)
 omega
theorem Fc (w:World) (g:Nat) (F:Int) (M:Nat) (n:Int) (d:Nat) (h:ct w g 223 #[ae af F,ae ah (M:Int)]) (hI:fu F M) (hn:n≤9223372036854775807) (hd:n-F-1=(d:Int)) (hlt:d<64) (hb:M.testBit d=false) :
 Calls au 133 #[((g:Nat):Value),ae af n] w fun e w'=>e=.returned (.bool true)∧ct w' g 223 #[ae af (put F M n).1,ae ah ((put F M n).2:Int)]∧Only g w w':=by
 have I2:∀ (vs:Array Value) (w:World),(callFunc 129 vs).run au w=.ok (.enter 129 vs) w:=fun vs w=>by go_simp
 have hF:-9223372036854775808≤F∧F≤9223372036854775807:=⟨by have:=hI.lo;omega,hI.hi⟩
 have hn':-9223372036854775808≤n∧n≤9223372036854775807:=⟨by have:=hI.lo;omega,hn⟩
 have hnf:far F n=false:=by
  unfold far
  rw[Bool.and_eq_false_iff]
  exact .inr (decide_eq_false al)
 have c1:=Lib.hid (kK w g F M n false h hF hn' hnf)
 have c2:=Lib.hid (yl w g F M n d h hI.mask hF hn' hd hlt)
 have HD:=Lib.hid hd
 have hM:=hI.mask
 clear hnf hd
 rw[hb] at c2
 obtain⟨x,HX⟩:∃ x:Nat,Hid (x=2 ^ d):=⟨_,rfl⟩
 obtain⟨y,HY⟩:∃ y:Nat,Hid (y=M ||| x):=⟨_,rfl⟩
 have N5:y<2 ^ 64:=by
  rw[HY.out,HX.out]
  exact Nat.or_lt_two_pow hM (Nat.pow_lt_pow_right al hlt)
 have CP:∀ i,y.testBit i=true→F+1+(i:Int)≤9223372036854775807:=by
  intro i hi
  rw[HY.out,Nat.testBit_or,Bool.or_eq_true] at hi
  rcases hi with hi|hi
  ·exact hI.top i hi
  ·rw[HX.out,Nat.testBit_two_pow] at hi
   have:d=i:=by simpa using hi
   have:=HD.out
   omega
 have Kx:=Lib.hid CP
 clear CP
 go_enter Tryz.func133,Tryz.ntmps133
 go_wp2_with (first
  | (go_at_call 56;refine (c1.out).mono ?_;rintro e w1 ⟨rfl,rfl⟩)
  | (go_at_call 54;refine (c2.out).mono ?_;rintro e w1 ⟨rfl,hg0⟩;have hB1:=h.grow hg0))
 refine bL 11 44 [(6,.inl (ae ah (d:Int)))] rfl rfl am am am ?_ ?_
 ·intro x hx φ he
  simp only[aF,aE,or_false] at hx
  rcases hx with rfl<;>cases he
 intro ops' A' K' T hops hA' hK hT
 refine bP 13 (((g:Nat):Value)) ?_
 refine bQ 14 (.tmp 13) (((g:Nat):Value)) (((g:Nat):Value)) ?_
 refine bQ 15 (.tmp 14) (((g:Nat):Value)) (.pointer (some ⟨g,1,none⟩)) ?_
 refine bI 16 (.tmp 15) (.pointer (some ⟨g,1,none⟩)) (ae ah (M:Int)) (fun ρ h1 kk w1 (hg:Grow _ w1) hb hf=>by have c:=(hB1.grow hg).cell 1;go_simp) ?_
 refine bP 17 (((g:Nat):Value)) ?_
 refine bP 18 (ae af n) ?_
 refine cC 19 aj ak (bO aj) (ae ah (d:Int)) (by rw[hK.out];rfl) 129 _ _ aj [((g:Nat):Value),ae af n] aj I2 (fun kk w1 (hg:Grow _ w1) hb hf=>b_ aj (by exact db (Gn _ g F M n d (hB1.grow hg) HD.out hlt))) ?_
 refine cm 20 (.const (ae ah 1)) (.tmp 19) (ae ah 1) (ae ah (d:Int)) (ae ah (x:Int)) (fun ρ h1 h2 kk w1 (hg:Grow _ w1) hb hf=>by go_simp;rw[HX.out];exact CM d hlt) ?_
 refine cm 21 (.tmp 16) (.tmp 20) (ae ah (M:Int)) (ae ah (x:Int)) (ae ah (y:Int)) (fun ρ h1 h2 kk w1 (hg:Grow _ w1) hb hf=>by go_simp;rw[HY.out,HX.out];exact I3 M d hM hlt) ?_
 refine bQ 22 (.tmp 13) (((g:Nat):Value)) (((g:Nat):Value)) ?_
 refine bQ 23 (.tmp 22) (((g:Nat):Value)) (.pointer (some ⟨g,1,none⟩)) ?_
 refine ce (fun _ _ w1 (hg:Grow _ w1) _ bR=>hT _ _ ?_)
 clear hops hA' hK hT
 simp only[cj,Act.put,aw,ay,az,ax,aB]
 have hB2:=hB1.grow hg
 have cc:=hB2.cell 1
 have cf:=hB2.frozen 1
 have ho2:Only g w _:=(Only.bJ (hg0.trans hg)).put 1 (ae ah (y:Int))
 have hB3:=hB2.put 1 (ae ah (y:Int))
 go_wp2_with fail
 go_loopg [] 64 (fun k wr=>∃ (F':Int) (M':Nat),k≤64∧M'<2 ^ k∧strip 64 F y=strip k F' M'∧0≤F'∧(∀ i,M'.testBit i=true→F'+1+(i:Int)≤9223372036854775807)∧ct wr g 223 #[ae af F',ae ah (M':Int)]∧Only g w wr)
 case atStart=>exact⟨F,y,by omega,N5,rfl,hI.lo,Kx.out,hB3,ho2⟩
 case round=>
  obtain⟨F',M',hk,hM',hs,h0,htop,hB,hO⟩:=hrel
  have HS:=Lib.hid hs
  have HT:=Lib.hid htop
  clear hs htop
  have b0:=hB.cell 0
  have b1:=hB.cell 1
  have f0:=hB.frozen 0
  have f1:=hB.frozen 1
  have Ky:M'<18446744073709551616:=aA hM' (Nat.pow_le_pow_right al hk)
  by_cases hodd:M' % 2=1
  ·have ho:=I4 M' Ky hodd
   have hf0:F'+1≤9223372036854775807:=by
    have:=HT.out 0 (by rw[Nat.testBit_zero];simpa using hodd)
    omega
   have hgk:0<gk:=by
    rcases bj gk with e|e
    ·rw[e] at hM';simp at hM';omega
    ·exact e
   have HO:=Lib.hid hodd
   clear hodd
   go_wp2_with fail
   go_roundg (gk-1)
   case measure=>omega
   case rel=>
    have Kf:2 ^ gk=2*2 ^ (gk-1):=by rw[←Nat.pow_succ'];congr 1;omega
    refine⟨F'+1,M' / 2,by omega,by omega,?_,by omega,CN HT.out,?_,(hO.put 0 _).put 1 _⟩
    ·rw[HS.out,show gk=(gk-1)+1 by omega]
     show (if M' % 2=1 then strip (gk-1) (F'+1) (M' / 2) else (F',M'))=_
     rw[if_pos HO.out];rfl
    ·have:=(hB.put 0 (ae af (F'+1))).put 1 (ae ah ((M':Int) / 2))
     simpa using this
  ·have ho:=Fb M' Ky hodd
   have hfin:strip gk F' M'=(F',M'):=by
    cases gk with
    | zero=>rfl
    | succ k=>show (if M' % 2=1 then _ else _)=_;rw[if_neg hodd]
   have N6:=Lib.hid hfin
   clear hfin hodd
   go_wp2_with fail
   go_ret
   have hput:put F M n=(F',M'):=by
    unfold put
    rw[HD.out,bv,←HX.out,←HY.out,HS.out,N6.out]
   rw[hput]
   exact⟨rfl,hB,hO⟩
theorem Fe (w:World) (g:Nat) (F:Int) (M:Nat) (n:Int) (h:ct w g 223 #[ae af F,ae ah (M:Int)]) (hF:-9223372036854775808≤F∧F≤9223372036854775807) (hn:-9223372036854775808≤n∧n≤9223372036854775807) (hf:far F n=true) :
 Calls au 133 #[((g:Nat):Value),ae af n] w fun e w'=>e=.returned (.bool false)∧Grow w w':=by
 have c1:=Lib.hid (kK w g F M n true h hF hn hf)
 clear hf
 go_enter Tryz.func133,Tryz.ntmps133
 go_wp2_with (go_at_call 56;refine (c1.out).mono ?_;rintro e w1 ⟨rfl,rfl⟩)
 go_ret
 exact⟨rfl,Grow.refl _⟩
theorem CQ (w:World) (g:Nat) (F:Int) (M:Nat) (n:Int) (h:ct w g 223 #[ae af F,ae ah (M:Int)]) (hF:-9223372036854775808≤F∧F≤9223372036854775807) (hn:-9223372036854775808≤n∧n≤9223372036854775807) (hf:far F n=false)
 (hs:∀ w,ct w g 223 #[ae af F,ae ah (M:Int)]→Calls au 54 #[((g:Nat):Value),ae af n] w fun e w'=>e=.returned (.bool true)∧Grow w w') :
 Calls au 133 #[((g:Nat):Value),ae af n] w fun e w'=>e=.returned (.bool false)∧Grow w w':=by
 have c1:=Lib.hid (kK w g F M n false h hF hn hf)
 have c2:=Lib.hid (hs w h)
 clear hf hs
 go_enter Tryz.func133,Tryz.ntmps133
 go_wp2_with (first
  | (go_at_call 56;refine (c1.out).mono ?_;rintro e w1 ⟨rfl,rfl⟩)
  | (go_at_call 54;refine (c2.out).mono ?_;rintro e w1 ⟨rfl,hg0⟩))
 go_ret
 exact⟨rfl,hg0⟩
theorem gX (w:World) (g:Nat) (F:Int) (M:Nat) (n:Int) (h:ct w g 223 #[ae af F,ae ah (M:Int)]) (hI:fu F M) (hn:-9223372036854775808≤n∧n≤9223372036854775807) :
 Calls au 54 #[((g:Nat):Value),ae af n] w fun e w'=>e=.returned (.bool (seen F M n))∧Grow w w':=by
 have hF:-9223372036854775808≤F∧F≤9223372036854775807:=⟨by have:=hI.lo;omega,hI.hi⟩
 by_cases hle:n≤F
 ·have e:seen F M n=true:=by unfold seen;rw[decide_eq_true hle];rfl
  rw[e];exact CK w g F M n h hle
 ·cases hf:far F n with
  | true=>
    have e:seen F M n=false:=by unfold seen;rw[decide_eq_false hle,hf];rfl
    rw[e];exact CL w g F M n h hF hn al hf
  | false=>
    have hd:n-F-1<64:=by
     unfold far at hf
     simp only[Bool.and_eq_false_iff,decide_eq_false_iff_not] at hf
     omega
    have e:seen F M n=M.testBit (n-F-1).toNat:=by unfold seen;rw[decide_eq_false hle,hf];rfl
    rw[e];exact yl w g F M n _ h hI.mask hF hn al al
theorem sk (w:World) (g:Nat) (F:Int) (M:Nat) (n:Int) (h:ct w g 223 #[ae af F,ae ah (M:Int)]) (hI:fu F M) (hn:-9223372036854775808≤n∧n≤9223372036854775807) :
 Calls au 133 #[((g:Nat):Value),ae af n] w fun e w'=>e=.returned (.bool (u2 F M n))∧ct w' g 223 #[ae af (dm F M n).1,ae ah ((dm F M n).2:Int)]∧Only g w w':=by
 have hF:-9223372036854775808≤F∧F≤9223372036854775807:=⟨by have:=hI.lo;omega,hI.hi⟩
 cases hb:u2 F M n with
 | true=>
   obtain⟨h1,h2,h3⟩:=jQ hb
   have e:dm F M n=put F M n:=by unfold dm;rw[if_pos hb]
   rw[e]
   exact Fc w g F M n _ h hI hn.2 al al h3
 | false=>
   have e:dm F M n=(F,M):=by unfold dm;rw[if_neg (by rw[hb];exact Bool.false_ne_true)]
   rw[e]
   cases hf:far F n with
   | true=>exact (Fe w g F M n h hF hn hf).mono fun _ _ ⟨he,hg⟩=>⟨he,h.grow hg,Only.bJ hg⟩
   | false=>
     have hs:seen F M n=true:=by
      unfold u2 at hb;rw[hf] at hb;simpa using hb
     exact (CQ w g F M n h hF hn hf (fun w1 hw1=>hs▸gX w1 g F M n hw1 hI hn)).mono fun _ _ ⟨he,hg⟩=>⟨he,h.grow hg,Only.bJ hg⟩
theorem ym (w:World):Calls au 128 #[] w fun e w'=>e=.returned (.pointer (some ⟨w.heap.size,0,none⟩))∧ct w' w.heap.size 223 #[ae af 0,ae ah ((0:Nat):Int)]∧Grow w w':=by
 go_enter Tryz.func128,Tryz.ntmps128
 go_wp2_with fail
 go_ret
 exact⟨rfl,ct.made w 223 _,(Below.refl _ w).alloc (aC _) _⟩
end Go.Proofs.YtmijcbfgfkeodaaGreatDoor.W
end
section
namespace Go.Proofs.YtmijcbfgfkeodaaGreatDoor
open Go.RowKit Go.Hop
def k_ (x:Int):Value := ae af x
def u_ (k:Int×Int):Value := .agg #[ae af k.1,ae af k.2]
theorem wJ:mc au 3 k_:=qS am
theorem CR:mc au 220 u_:=me (fs:=(Tryz.prog.fieldsOf 220)) am (fun w b k=>by unfold u_;kernel_rfl)
 (fun w a b=>by
  unfold u_
  show (Op.equalIn 10000 _ _ _).run au w=_
  go_simp
  by_cases h1:a.1=b.1<;>by_cases h2:a.2=b.2<;>simp[h1,h2,Prod.ext_iff])
 (fun k=>by simp[u_,Instr.sameBits])
theorem zI (w:World):(zeroValue 2).run au w=.ok (ae af 0) w:=by kernel_rfl
theorem zS (w:World):(zeroValue 120).run au w=.ok (.pointer none) w:=by kernel_rfl
def j7 (m s bE bS p g:Nat) (q:K.Sm) (d9:List (Int×Value)) (dL:List ((Int×Int)×Value)) (F:Int) (M:Nat):List cg:=[Cell m 117 #[((s:Nat):Value),.map (some bE),.map (some bS)],K.ek s q,cJ k_ bE d9,cJ u_ bS dL,Cell p 124 #[((g:Nat):Value),ai none 0 0],Cell g 223 #[ae af F,ae ah (M:Int)]]
def cX (m:Nat) (q:K.Sm) (d9:List (Int×Value)) (st:Option ((Int×Int)×(Int×Nat))):cg:=fun w V=>match st with
 | none=>∃ s bE bS,Many [Cell m 117 #[.pointer (some ⟨s,0,none⟩),.map (some bE),.map (some bS)],K.ek s q,cJ k_ bE d9,cJ u_ bS []] w V
 | some (k,F,M)=>∃ s bE bS p g,Many (j7 m s bE bS p g q d9 [(k,.pointer (some ⟨p,0,none⟩))] F M) w V
theorem fi (m s bE bS p g:Nat) (q:K.Sm) (d9:List (Int×Value)) (dL:List ((Int×Int)×Value)) (F:Int) (M:Nat):bM (j7 m s bE bS p g q d9 dL F M):=(((((bM.nil.cons (Cell.framed _ _ _)).cons (Cell.framed _ _ _)).cons (cJ.framed _ _)).cons (cJ.framed _ _)).cons (K.ek.framed _ _)).cons (Cell.framed _ _ _)
theorem mx (m s bE bS:Nat) (q:K.Sm) (d9:List (Int×Value)):bM [Cell m 117 #[((s:Nat):Value),.map (some bE),.map (some bS)],K.ek s q,cJ k_ bE d9,cJ u_ bS []]:=(((bM.nil.cons (cJ.framed _ _)).cons (cJ.framed _ _)).cons (K.ek.framed _ _)).cons (Cell.framed _ _ _)
theorem cX.framed (m:Nat) (q:K.Sm) (d9:List (Int×Value)) (st:Option ((Int×Int)×(Int×Nat))):Framed (cX m q d9 st):=fun w w' V h hk=>by
 match st,h with
 | none,h=>obtain⟨s,bE,bS,h⟩:=h;exact⟨s,bE,bS,Many.framed _ (mx _ _ _ _ _ _) w w' V h hk⟩
 | some (k,F,M),h=>obtain⟨s,bE,bS,p,g,h⟩:=h;exact⟨s,bE,bS,p,g,Many.framed _ (fi _ _ _ _ _ _ _ _ _ _ _) w w' V h hk⟩
theorem rc (w:World):Calls au 12 #[] w fun e w'=>∃ m,e=.returned (((m:Nat):Value))∧cX m [] [] none w' (New w w')∧Grow w w':=by
 have hmm:=@run_makeMap au
 have hK:=K.j3 w
 go_enter Tryz.func12,Tryz.ntmps12
 go_wp2_with fail
 refine hK.mono ?_
 rintro e w1 ⟨s,rfl,hS,hg1⟩
 go_wp2_with fail
 go_ret
 have g1:Grow w1 (w1.alloc (.map #[] 0)):=(Below.refl _ w1).alloc (aC _) _
 have g2:=(Below.refl _ (w1.alloc (.map #[] 0))).alloc (aC _) (.map #[] 0)
 generalize hw2:w1.alloc (.map #[] 0)=w2 at g1 g2 ⊢
 have m1:cJ (κ:=Int) k_ w1.heap.size [] w2 (fun b=>b=w1.heap.size):=hw2▸cJ.made w1
 have m2:cJ (κ:=Int×Int) u_ w2.heap.size [] (w2.alloc (.map #[] 0)) (fun b=>b=w2.heap.size):=cJ.made w2
 have z2:w2.heap.size=w1.heap.size+1:=by rw[←hw2];simp
 rw[←z2]
 generalize hw3:w2.alloc (.map #[] 0)=w3 at g2 m2 ⊢
 have z3:w3.heap.size=w2.heap.size+1:=by rw[←hw3];simp
 have g3:=bN w3 (.cells #[((s:Nat):Value),.map (some w1.heap.size),.map (some w2.heap.size)] 117)
 have hB:=ct.made w3 117 #[((s:Nat):Value),.map (some w1.heap.size),.map (some w2.heap.size)]
 generalize hw4:w3.alloc (.cells #[((s:Nat):Value),.map (some w1.heap.size),.map (some w2.heap.size)] 117)=w4 at g3 hB ⊢
 have z4:w4.heap.size=w3.heap.size+1:=by rw[←hw4];simp
 have zz:=hg1.size
 have gA:Grow w1 w4:=(g1.trans g2).trans g3
 have ev:=K.ek.framed s [] w1 w4 _ hS fun b hb=>gA.block b hb.2
 have m14:=cJ.framed (ke:=k_) _ _ w2 w4 _ m1 fun b hb=>(Grow.trans g2 g3).block b (by rw[hb];omega)
 have m24:=cJ.framed (ke:=u_) _ _ w3 w4 _ m2 fun b hb=>g3.block b (by rw[hb];omega)
 refine⟨w3.heap.size,by rw[z3];rfl,⟨s,w1.heap.size,w2.heap.size,fun b=>b=w3.heap.size,fun b=>New w w4 b∧b≠w3.heap.size,⟨rfl,hB⟩,⟨New w w1,fun b=>b=w1.heap.size∨b=w2.heap.size,ev,⟨fun b=>b=w1.heap.size,fun b=>b=w2.heap.size,m14,⟨fun b=>b=w2.heap.size,fun _=>False,m24,trivial,fun _ h=>h,fun _ h=>h.elim,fun _ _ h=>h⟩,fun _ h => .inl h,fun _ h => .inr h,fun b h1 h2=>?_⟩,fun b hb=>?_,fun b hb=>?_,fun b hb hc=>?_⟩,fun b hb=>?_,fun b hb=>hb.1,fun b hb hc=>hc.2 hb⟩,hg1.trans gA⟩
 ·subst h1;omega
 ·exact⟨⟨hb.1,by have:=hb.2;omega⟩,by have:=hb.2;omega⟩
 ·rcases hb with rfl|rfl
  ·exact⟨⟨by omega,by omega⟩,by omega⟩
  ·exact⟨⟨by omega,by omega⟩,by omega⟩
 ·rcases hc with rfl|rfl
  ·have:=hb.2;omega
  ·have:=hb.2;omega
 ·subst hb;exact⟨by omega,by omega⟩
theorem Ff (w:World) (m:Nat) (q:K.Sm) (d9:List (Int×Value)) (V:Nat→Prop) (hV:∀ b,V b→b<w.heap.size) (ag sh:Int) (h:cX m q d9 none w V):Calls au 53 #[((m:Nat):Value),ae af ag,ae af sh] w (fun e w'=>(∃ s bE bS p g,e=.returned (((p:Nat):Value))∧Grow w w'∧∃ U,Many (j7 m s bE bS p g q d9 [] 0 0) w' U∧∀ b,U b→V b∨New w w' b)):=by
 obtain⟨s,bE,bS,h⟩:=h
 obtain⟨U1,U2,hm0,hr,nN,oi,hd⟩:=id h
 have JK:=hm0.2
 obtain⟨_,_,hG0,_⟩:=(Many.pick _ 3 _ rfl h)
 have hN:=W.ym w
 have hlk:=cJ.look CR (t:=115) (et:=120) am (zS w) hG0 (ag,sh) true
 rw[xY] at hlk
 simp only[u_,if_true] at hlk
 have c2:=JK.cell 2
 go_enter Tryz.func53,Tryz.ntmps53
 go_wp2_with fail
 refine hN.mono ?_
 rintro e w1 ⟨rfl,hW,hg1⟩
 go_wp2_with fail
 go_ret
 have I5:=bN w1 (.cells #[.pointer (some ⟨w.heap.size,0,none⟩),ai none 0 0] 124)
 have hP:=ct.made w1 124 #[.pointer (some ⟨w.heap.size,0,none⟩),ai none 0 0]
 generalize hw2:w1.alloc (.cells #[.pointer (some ⟨w.heap.size,0,none⟩),ai none 0 0] 124)=w2 at I5 hP ⊢
 have z2:w2.heap.size=w1.heap.size+1:=by rw[←hw2];simp
 have hgA:=hg1.trans I5
 have hM:=Many.framed _ (mx m s bE bS q d9) w w2 V h fun b hb=>hgA.block b (hV b hb)
 have hW2:=hW.grow I5
 have hwl:=hW.lt
 have h2:Many [Cell w1.heap.size 124 #[.pointer (some ⟨w.heap.size,0,none⟩),ai none 0 0],Cell w.heap.size 223 #[ae af 0,ae ah ((0:Nat):Int)]] w2 (fun b=>b=w1.heap.size∨b=w.heap.size):=
  ⟨fun b=>b=w1.heap.size,fun b=>b=w.heap.size,⟨rfl,hP⟩,⟨fun b=>b=w.heap.size,fun _=>False,⟨rfl,hW2⟩,trivial,fun _ h=>h,fun _ h=>h.elim,fun _ _ h=>h⟩,fun _ h => .inl h,fun _ h => .inr h,fun b h1 h2=>by omega⟩
 refine⟨s,bE,bS,w1.heap.size,w.heap.size,rfl,hgA,fun b=>V b∨b=w1.heap.size∨b=w.heap.size,?_,fun b hb=>?_⟩
 ·exact Many.flat _ ⟨V,fun b=>b=w1.heap.size∨b=w.heap.size,hM,h2,fun _ h => .inl h,fun _ h => .inr h,fun b h1 h2=>by have:=hV b h1;have:=hg1.size;omega⟩
 ·rcases hb with hb|rfl|rfl
  ·exact .inl hb
  ·exact .inr ⟨hg1.size,by omega⟩
  ·exact .inr ⟨aC _,by omega⟩
def u3:Go.Shelf.Ren:=⟨fun|53=>132|64=>208|63=>207|78=>265|79=>266|70=>256|71=>257|72=>258|73=>259|74=>260|75=>261|59=>262|76=>263|77=>264|88=>311|89=>312|90=>313|91=>314|92=>315|68=>284|96=>348|n=>n,fun|22=>52|23=>2|3=>3|51=>86|0=>0|67=>85|69=>27|4=>4|61=>341|60=>340|44=>346|5=>5|9=>9|75=>385|79=>388|83=>411|84=>412|n=>n,fun|n=>n⟩
theorem yn:Go.Proofs.SlLaysN.n53 au u3:={
 mixed:=by kernel_rfl
 f53:=⟨Tryz.f132.name,by decide,Tryz.func132.trans (congrArg some am)⟩
 f59:=⟨Tryz.f262.name,by decide,Tryz.func262.trans (congrArg some am)⟩
 f63:=⟨Tryz.f207.name,by decide,Tryz.func207.trans (congrArg some am)⟩
 f64:=Tryz.func208.trans (congrArg some am)
 f68:=⟨Tryz.f284.name,by decide,Tryz.func284.trans (congrArg some am)⟩
 f70:=⟨Tryz.f256.name,by decide,Tryz.func256.trans (congrArg some am)⟩
 f71:=⟨Tryz.f257.name,by decide,Tryz.func257.trans (congrArg some am)⟩
 f72:=⟨Tryz.f258.name,by decide,Tryz.func258.trans (congrArg some am)⟩
 f73:=⟨Tryz.f259.name,by decide,Tryz.func259.trans (congrArg some am)⟩
 f74:=⟨Tryz.f260.name,by decide,Tryz.func260.trans (congrArg some am)⟩
 f75:=⟨Tryz.f261.name,by decide,Tryz.func261.trans (congrArg some am)⟩
 f76:=⟨Tryz.f263.name,by decide,Tryz.func263.trans (congrArg some am)⟩
 f77:=⟨Tryz.f264.name,by decide,Tryz.func264.trans (congrArg some am)⟩
 f78:=Tryz.func265.trans (congrArg some am)
 f79:=Tryz.func266.trans (congrArg some am)
 f88:=⟨Tryz.f311.name,by decide,Tryz.func311.trans (congrArg some am)⟩
 f89:=Tryz.func312.trans (congrArg some am)
 f90:=Tryz.func313.trans (congrArg some am)
 f91:=⟨Tryz.f314.name,by decide,Tryz.func314.trans (congrArg some am)⟩
 f92:=⟨Tryz.f315.name,by decide,Tryz.func315.trans (congrArg some am)⟩
 f96:=⟨Tryz.f348.name,by decide,Tryz.func348.trans (congrArg some am)⟩
 t0:=Tryz.underlying0
 a0:=Tryz.isAgg0
 z0:=Tryz.sizeOf0
 v0:=Tryz.zeroValue0
 t3:=Tryz.underlying3
 a3:=Tryz.isAgg3
 z3:=Tryz.sizeOf3
 v3:=Tryz.zeroValue3
 t4:=Tryz.underlying4
 a4:=Tryz.isAgg4
 z4:=Tryz.sizeOf4
 v4:=Tryz.zeroValue4
 t5:=Tryz.underlying5
 a5:=Tryz.isAgg5
 z5:=Tryz.sizeOf5
 v5:=Tryz.zeroValue5
 t9:=Tryz.underlying9
 a9:=Tryz.isAgg9
 z9:=Tryz.sizeOf9
 v9:=Tryz.zeroValue9
 t22:=Tryz.underlying52
 a22:=Tryz.isAgg52
 z22:=Tryz.sizeOf52
 v22:=Tryz.zeroValue52
 t23:=Tryz.underlying2
 a23:=Tryz.isAgg2
 z23:=Tryz.sizeOf2
 v23:=Tryz.zeroValue2
 t44:=Tryz.underlying346
 a44:=Tryz.isAgg346
 z44:=Tryz.sizeOf346
 v44:=Tryz.zeroValue346
 t51:=Tryz.underlying86
 a51:=Tryz.isAgg86
 z51:=Tryz.sizeOf86
 v51:=Tryz.zeroValue86
 t60:=Tryz.underlying340
 a60:=Tryz.isAgg340
 z60:=Tryz.sizeOf340
 v60:=Tryz.zeroValue340
 t61:=Tryz.underlying341
 a61:=Tryz.isAgg341
 z61:=Tryz.sizeOf341
 v61:=Tryz.zeroValue341
 t67:=Tryz.underlying85
 a67:=Tryz.isAgg85
 z67:=Tryz.sizeOf85
 v67:=Tryz.zeroValue85
 t69:=Tryz.underlying27
 a69:=Tryz.isAgg27
 z69:=Tryz.sizeOf27
 v69:=Tryz.zeroValue27
 t75:=Tryz.underlying385
 a75:=Tryz.isAgg385
 z75:=Tryz.sizeOf385
 v75:=Tryz.zeroValue385
 t79:=Tryz.underlying388
 a79:=Tryz.isAgg388
 z79:=Tryz.sizeOf388
 v79:=Tryz.zeroValue388
 t83:=Tryz.underlying411
 a83:=Tryz.isAgg411
 z83:=Tryz.sizeOf411
 v83:=Tryz.zeroValue411
 t84:=Tryz.underlying412
 a84:=Tryz.isAgg412
 z84:=Tryz.sizeOf412
 v84:=Tryz.zeroValue412 }
def lI (l:List Int):List Value:=l.map (Value.int .i64)
theorem sn (l:List Int):(lI l).length=l.length:=by simp[lI]
theorem I6 (l:List Int):∀ u∈lI l,u.oneCell'=true:=fun u hu=>by
 obtain⟨x,_,rfl⟩:=List.mem_map.1 hu
 rfl
theorem CS (l:List Int) {j:Nat} (hj:j<l.length):(lI l)[j]?=some (ae af l[j]):=by simp[lI,hj]
theorem N7:Elem au 52 2 1 8 (ae af 0):=⟨Tryz.underlying52,info_parts am,rfl,by decide,by decide⟩
def nG (l:List Int):List Int:=l.mergeSort fun x y=>decide (x≤y)
theorem u6 (l:List Int):(nG l).Perm l:=List.mergeSort_perm _ _
theorem yo (l:List Int):(nG l).length=l.length:=(u6 l).length_eq
theorem zv (w:World) (V:Nat→Prop) (v:Value) (l:List Int) (hR:Own w V 2 1 v l.length (lI l)) (hl:l.length<4611686018427387904) :
 Calls au 132 #[v] w fun e w'=>e=.returned (.tuple #[])∧Own w' V 2 1 v (nG l).length (lI (nG l))∧Just V w w':=by
 obtain⟨hlen,⟨rfl,h0⟩|⟨g,cap,cur,rfl,hV,hg,hc1,hcm,hcs,htk⟩⟩:=hR
 ·have hn:l=[]:=aJ h0
  subst hn
  refine (Go.Proofs.AnyG.slices_Sort_int_none yn none 0 w).mono fun e w' ⟨h1,h2⟩=>⟨h1,?_,?_⟩
  ·have:nG []=[]:=by simp[nG]
   rw[this]
   exact⟨rfl,.inl ⟨rfl,rfl⟩⟩
  ·rw[h2]
   exact Just.bJ (Grow.refl _)
 have hgl:g<w.heap.size:=(Array.getElem?_eq_some_iff.1 hg).1
 have hcl:l.length≤cur.size:=by
  have:=congrArg List.length htk
  rw[aK,sn] at this
  simp at this;omega
 have hH:Sort.Holds (Value.int .i64) w g 0 l.toArray:=fun j hj=>by
  have hj':j<l.length:=by simpa using hj
  have hc:=CS l hj'
  rw[←htk,List.getElem?_take_of_lt al,Array.getElem?_toList] at hc
  refine⟨?_,?_⟩
  ·unfold World.cell?
   simp only[hg,a_]
   rw[hc]
   simp[hj']
  ·unfold World.frozen?
   simp only[hg]
   simp
 refine (Go.Proofs.AnyG.slices_Sort_int yn g 0 cap l w hH hgl hl).mono ?_
 rintro e w' ⟨he,n,os,rfl⟩
 obtain⟨s,HS⟩:∃ s:List Int,s=nG l:=⟨_,rfl⟩
 have hsl:s.length=l.length:=by rw[HS];exact yo l
 change e=_∧Own (Sort.grow (Sort.putRow (Value.int .i64) (Sort.ahead w n) g 0 (nG l).toArray) os) V _ 1 _ (nG l).length (lI (nG l))∧Just V w (Sort.grow (Sort.putRow (Value.int .i64) (Sort.ahead w n) g 0 (nG l).toArray) os)
 rw[←HS]
 have hnew:(Sort.grow (Sort.putRow (Value.int .i64) (Sort.ahead w n) g 0 s.toArray) os).heap[g]?=some (.cells (Sort.putCells (Value.int .i64) 0 s.toArray cur) 2 (0,0)):=by
  show ((w.heap.modify g (Sort.onCells (Sort.putCells (Value.int .i64) 0 s.toArray)))++os)[g]?=_
  rw[Array.getElem?_append_left (by simpa using hgl),Array.getElem?_modify,if_pos rfl,hg]
  rfl
 have hcs2:(Sort.putCells (Value.int .i64) 0 s.toArray cur).size=cur.size:=by simp[Sort.putCells]
 have hsz:w.heap.size≤(Sort.grow (Sort.putRow (Value.int .i64) (Sort.ahead w n) g 0 s.toArray) os).heap.size:=by
  show w.heap.size≤((w.heap.modify g (Sort.onCells (Sort.putCells (Value.int .i64) 0 s.toArray)))++os).size
  simp
 refine⟨he,⟨by rw[sn];omega,.inr ⟨g,cap,_,by rw[hsl],hV,hnew,by omega,hcm,by rw[hcs2,hsl];exact hcs,?_⟩⟩,⟨rfl,rfl,rfl,hsz,fun b hb hbg=>?_⟩⟩
 ·apply List.ext_getElem?
  intro j
  by_cases hj:j<s.length
  ·rw[List.getElem?_take_of_lt al,Array.getElem?_toList,CS s hj]
   have hjc:j<cur.size:=by omega
   simp[Sort.putCells,hjc,hj]
  ·rw[List.getElem?_eq_none (by rw[aK];omega),List.getElem?_eq_none (by rw[sn];omega)]
 ·have hb':b<(w.heap.modify g (Sort.onCells (Sort.putCells (Value.int .i64) 0 s.toArray))).size:=by simpa using hb
  show ((w.heap.modify g (Sort.onCells (Sort.putCells (Value.int .i64) 0 s.toArray)))++os)[b]?=w.heap[b]?
  rw[Array.getElem?_append_left hb',Array.getElem?_modify,if_neg (fun e=>hbg (by rw[←e];exact hV))]
theorem CU (w:World) (V:Nat→Prop) (A:Option Addr) (n c:Nat) (l:List Int) (x:Int) (h:In w V 1 A n (lI l)) (hn:n≤1048576) :
 Calls au 130 #[.slice A n c,ae af x] w fun e w'=>∃ z:Int,e=.returned (ae af z)∧(0≤z↔x∈l)∧w=w':=by
 have hll:l.length=n:=by have:=h.1;rw[sn] at this;omega
 go_enter Tryz.func130,Tryz.ntmps130
 go_wp2_with fail
 go_loopw [8] (fun i wr=>∃ k:Nat,k≤n∧i=ae af (k:Int)∧(∀ (j:Nat) (hj:j<l.length),j<k→l[j]≠x)∧w=wr) (fun i _=>n-(intOf i).toNat)
 case atStart=>exact⟨0,by omega,rfl,fun j hj h0=>absurd h0 al,rfl⟩
 case round=>
  obtain⟨k,hkn,rfl,hno,rfl⟩:=hrel
  by_cases hk:k<n
  ·have hd:decide ((k:Int)<(n:Int))=true:=decide_eq_true al
   obtain⟨ad,rfl,hVa,hba,hc⟩:=h.2 al
   have hck:=hc k _ (CS l (show k<l.length by omega))
   have HK:Hid (l[k]=x→x∈l):=Lib.hid fun e=>e▸aO _
   have HN:Hid (l[k]≠x→∀ (j:Nat) (hj:j<l.length),j<k+1→l[j]≠x):=Lib.hid fun h0 j hj hjk=>by
    rcases bn j k with h1|h1
    ·exact hno j hj h1
    ·have:j=k:=by omega
     subst this;exact h0
   have hk':¬ n≤k:=by omega
   generalize l[k]=y at hck HK HN
   clear hno hc h
   by_cases h1:y=x
   ·have e1:decide (x=y)=true:=decide_eq_true h1.symm
    have e2:(x == y)=true:=by simpa using h1.symm
    have hx:=Lib.hid (HK.out h1)
    have H1:=Lib.hid h1
    clear h1 HK HN
    go_wp2_with fail
    go_ret
    exact⟨(k:Int),rfl,⟨fun _=>hx.out,fun _=>by omega⟩,rfl⟩
   ·have e1:decide (x=y)=false:=decide_eq_false fun e=>h1 e.symm
    have e2:(x == y)=false:=by simpa using fun e=>h1 (Eq.symm e)
    have NO:=Lib.hid (HN.out h1)
    clear h1 HK HN
    go_wp2_with fail
    go_roundw
    case rel=>exact⟨k+1,by omega,by simp,NO.out,trivial⟩
    case measure=>simp only[intOf];omega
  ·obtain rfl:k=n:=by omega
   have hd:decide ((k:Int)<(k:Int))=false:=decide_eq_false al
   go_wp2_with fail
   go_ret
   refine⟨-1,rfl,⟨fun h=>absurd h al,fun h=>?_⟩,rfl⟩
   obtain⟨j,hj,rfl⟩:=List.getElem_of_mem h
   exact absurd rfl (hno j hj al)
theorem nm (w:World) (V:Nat→Prop) (A:Option Addr) (n c:Nat) (l:List Int) (x:Int) (h:In w V 1 A n (lI l)) (hn:n≤1048576) :
 Calls au 55 #[.slice A n c,ae af x] w fun e w'=>e=.returned (.bool (decide (x∈l)))∧Grow w w':=by
 have hI:=CU w V A n c l x h hn
 obtain⟨r,HR⟩:∃ r:Bool,Hid (r=decide (x∈l)):=⟨_,Lib.hid rfl⟩
 go_enter Tryz.func55,Tryz.ntmps55
 go_wp2_with fail
 refine hI.mono ?_
 rintro e w1 ⟨z,rfl,hz,rfl⟩
 by_cases h0:0≤z
 ·have hd:decide ((0:Int)≤z)=true:=decide_eq_true h0
  have hr:r=true:=by rw[HR.out];exact decide_eq_true (hz.1 h0)
  subst hr
  clear hz h0
  go_wp2_with fail
  go_ret
  exact⟨by rw[←HR.out];rfl,Grow.refl _⟩
 ·have hd:decide ((0:Int)≤z)=false:=decide_eq_false h0
  have hr:r=false:=by rw[HR.out];exact decide_eq_false fun hm=>h0 (hz.2 hm)
  subst hr
  clear hz h0
  go_wp2_with fail
  go_ret
  exact⟨by rw[←HR.out];rfl,Grow.refl _⟩
end Go.Proofs.YtmijcbfgfkeodaaGreatDoor
end
