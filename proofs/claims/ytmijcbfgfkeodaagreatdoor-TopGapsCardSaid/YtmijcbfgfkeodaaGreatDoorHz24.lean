/- Or1, Or2, Or3. -/
import Derived.Test.YtmijcbfgfkeodaaGreatDoorHz23
import Derived.Sort.Grow
set_option linter.all false
set_option maxRecDepth 100000
section
namespace Go.Proofs.YtmijcbfgfkeodaaGreatDoor
open Go.RowKit Go.Hop Go.Proofs.YtmijcbfgfkeodaaGreatDoor.V
def GrewQ (w w':World):Prop:=∃ (q:Nat) (os:Array Obj),w'=Sort.grow (w.drewN q) os
theorem GrewQ.refl (w:World):GrewQ w w:=⟨0,#[],by rw[Sort.grow_empty];rfl⟩
theorem GrewQ.drew (w:World):GrewQ w w.drew:=⟨1,#[],by rw[Sort.grow_empty];rfl⟩
theorem GrewQ.alloc (w:World) (o:Obj):GrewQ w (w.alloc o):=⟨0,#[o],by rw[Sort.alloc_eq_grow];rfl⟩
theorem GrewQ.trans {a b c:World} (h:GrewQ a b) (k:GrewQ b c):GrewQ a c:=by
 obtain⟨q,os,rfl⟩:=h
 obtain⟨q',os',rfl⟩:=k
 exact⟨q+q',os++os',by rw[show Sort.grow ((Sort.grow (a.drewN q) os).drewN q') os'=Sort.grow (Sort.grow ((a.drewN q).drewN q') os) os' from rfl,Sort.grow_grow,World.drewN_drewN]⟩
theorem GrewQ.grow {a b:World} (h:GrewQ a b):Grow a b:=by
 obtain⟨q,os,rfl⟩:=h
 exact⟨rfl,rfl,rfl,by simp[Sort.grow,World.drewN],fun k hk=>by simp only[Sort.grow,World.drewN];exact Array.getElem?_append_left hk⟩
def Hush.laid:Hush:=⟨GrewQ,GrewQ.refl⟩
def quietL:Stages where
 G:=GrewQ
 T:=fun _ _ _=>False
 I:=fun _ _=>True
 muts:=[]
 stage:=fun _=>none
 q:=Hush.laid
theorem quietL_ok:quietL.Ok:=⟨fun _ _ _=>GrewQ.trans,fun _ _ h=>h,fun _ _ _ h=>h.elim,fun _ _ _ h _=>h⟩
theorem lasts_quietL {φ:Value→World→Prop} (h:Lasting φ):Lasts quietL (fun _=>φ):=fun _ u w w' hu=>⟨fun hg=>h u w w' hu (GrewQ.grow hg),fun hk=>by simp[quietL] at hk⟩
def cmpI (a b:Int):Int:=if a<b then -1 else if b<a then 1 else 0
def orI:List Int→Int
 | []=>0
 | x :: l=>if x=0 then orI l else x
theorem nanA_any (w:World) (x:Int):Calls Tryz.prog 283 #[.int .i64 x] w fun e w'=>e=.returned (.bool false)∧w=w':=by
 go_enter Tryz.func283,Tryz.ntmps283
 go_wp2_with fail
 go_ret
 exact⟨by simp,rfl⟩
theorem CmpA_any (w:World) (a b:Int):Calls Tryz.prog 214 #[.int .i64 a,.int .i64 b] w fun e w'=>e=.returned (.int .i64 (cmpI a b))∧w=w':=by
 unfold cmpI
 by_cases h1:a<b
 ·have d1:decide (a<b)=true:=decide_eq_true h1
  rw[if_pos h1]
  go_enter Tryz.func214,Tryz.ntmps214
  go_wp2_with (go_at_call 283;refine (nanA_any _ _).mono ?_;rintro e w' ⟨rfl,rfl⟩)
  go_ret
  exact⟨rfl,rfl⟩
 ·have d1:decide (a<b)=false:=decide_eq_false h1
  rw[if_neg h1]
  by_cases h2:b<a
  ·have d2:decide (b<a)=true:=decide_eq_true h2
   have d3:decide (a > b)=true:=decide_eq_true h2
   rw[if_pos h2]
   go_enter Tryz.func214,Tryz.ntmps214
   go_wp2_with (go_at_call 283;refine (nanA_any _ _).mono ?_;rintro e w' ⟨rfl,rfl⟩)
   go_ret
   exact⟨rfl,rfl⟩
  ·have d2:decide (b<a)=false:=decide_eq_false h2
   have d3:decide (a > b)=false:=decide_eq_false h2
   rw[if_neg h2]
   go_enter Tryz.func214,Tryz.ntmps214
   go_wp2_with (go_at_call 283;refine (nanA_any _ _).mono ?_;rintro e w' ⟨rfl,rfl⟩)
   go_ret
   exact⟨rfl,rfl⟩
theorem nanB_any (w:World) (x:Int):Calls Tryz.prog 284 #[.int .i64 x] w fun e w'=>e=.returned (.bool false)∧w=w':=by
 go_enter Tryz.func284,Tryz.ntmps284
 go_wp2_with fail
 go_ret
 exact⟨by simp,rfl⟩
theorem CmpB_any (w:World) (a b:Int):Calls Tryz.prog 215 #[.int .i64 a,.int .i64 b] w fun e w'=>e=.returned (.int .i64 (cmpI a b))∧w=w':=by
 unfold cmpI
 by_cases h1:a<b
 ·have d1:decide (a<b)=true:=decide_eq_true h1
  rw[if_pos h1]
  go_enter Tryz.func215,Tryz.ntmps215
  go_wp2_with (go_at_call 284;refine (nanB_any _ _).mono ?_;rintro e w' ⟨rfl,rfl⟩)
  go_ret
  exact⟨rfl,rfl⟩
 ·have d1:decide (a<b)=false:=decide_eq_false h1
  rw[if_neg h1]
  by_cases h2:b<a
  ·have d2:decide (b<a)=true:=decide_eq_true h2
   have d3:decide (a > b)=true:=decide_eq_true h2
   rw[if_pos h2]
   go_enter Tryz.func215,Tryz.ntmps215
   go_wp2_with (go_at_call 284;refine (nanB_any _ _).mono ?_;rintro e w' ⟨rfl,rfl⟩)
   go_ret
   exact⟨rfl,rfl⟩
  ·have d2:decide (b<a)=false:=decide_eq_false h2
   have d3:decide (a > b)=false:=decide_eq_false h2
   rw[if_neg h2]
   go_enter Tryz.func215,Tryz.ntmps215
   go_wp2_with (go_at_call 284;refine (nanB_any _ _).mono ?_;rintro e w' ⟨rfl,rfl⟩)
   go_ret
   exact⟨rfl,rfl⟩
theorem cmpOr_any (w:World) (D:Nat→Prop) (A:Option Addr) (n c:Nat) (l:List Int) (h:In w D 1 A n (l.map (Value.int .i64))) (hn:n≤1048576):Calls Tryz.prog 213 #[.slice A n c] w fun e w'=>e=.returned (.int .i64 (orI l))∧w=w':=by
 have hln:l.length=n:=by have:=h.1;simpa using this
 obtain⟨R,HR⟩:∃ R:Int,Hid (R=orI l):=⟨_,rfl⟩
 rw[←HR.out]
 go_enter Tryz.func213,Tryz.ntmps213
 go_wp2_with fail
 go_loopw [8] (fun i wr=>∃ k:Nat,k≤n∧i=.int .i64 (k:Int)∧orI (l.drop k)=R∧w=wr) (fun i _=>n-(intOf i).toNat)
 case atStart=>exact⟨0,by omega,rfl,HR.out.symm,rfl⟩
 case round=>
  obtain⟨k,hk,rfl,hR,rfl⟩:=hrel
  by_cases hlt:k<n
  ·obtain⟨ad,u,rfl,_,hu,hcl⟩:=h.reads.at_ hlt
   rw[List.getElem?_map,List.getElem?_eq_getElem (by omega)] at hu
   obtain rfl:=Option.some.inj hu
   rw[List.drop_eq_getElem_cons (by omega),orI] at hR
   generalize l[k]=z at hcl hR
   clear hu
   by_cases hz:z=0
   ·subst hz
    rw[if_pos rfl] at hR
    have HR2:=Lib.hid hR
    clear hR
    go_wp2_with fail
    go_roundw
    case rel=>exact⟨k+1,by omega,by go_num,HR2.out,by trivial⟩
    case measure=>simp[intOf];omega
   ·rw[if_neg hz] at hR
    subst hR
    have dz:decide (z=0)=false:=decide_eq_false hz
    have dz2:(z == 0)=false:=beq_eq_false_iff_ne.2 hz
    go_wp2_with fail
    go_ret
    exact⟨rfl,rfl⟩
  ·obtain rfl:k=n:=by omega
   rw[List.drop_of_length_le (by omega)] at hR
   have hR:0=R:=hR
   subst hR
   go_wp2_with fail
   go_ret
   exact⟨rfl,rfl⟩
theorem cmpOr_is (w:World) (u:Value) (l:List Int) (h:IsIn 1 l.length (l.map (Value.int .i64)) u w) (hn:l.length≤1048576):Calls Tryz.prog 213 #[u] w fun e w'=>e=.returned (.int .i64 (orI l))∧GrewQ w w':=by
 obtain⟨A,rfl,h⟩:=h
 exact (cmpOr_any w _ A _ _ l h hn).mono fun e w' ⟨h1,h2⟩=>⟨h1,h2▸GrewQ.refl _⟩
theorem ints3_laid {w:World} {o:Oper} {ρ:Operand→Value} {x y z:Operand} {a b c:Int} (ho:o.op=.buildSlice 38 3 #[(0,x),(1,y),(2,z)]) (hx:ρ x=.int .i64 a) (hy:ρ y=.int .i64 b) (hz:ρ z=.int .i64 c) :
 flowUpon Tryz.prog (fun u w'=>GrewQ w w'∧IsIn 1 3 [.int .i64 a,.int .i64 b,.int .i64 c] u w') ((execOp ρ o).run Tryz.prog w):=by
 obtain⟨dst,op,ty,pos,after,guard⟩:=o
 simp only at ho
 subst ho
 exact flowUpon_value (u := .slice (some ⟨w.heap.size,0,none⟩) 3 3) (w:=w.alloc (.cells #[.int .i64 a,.int .i64 b,.int .i64 c] 3)) (by go_simp) ⟨GrewQ.alloc _ _,isIn_blk (Blk.made w _ _) rfl⟩
theorem cmpA_q (w:World) (a b:Int):Calls Tryz.prog 214 #[.int .i64 a,.int .i64 b] w fun e w'=>e=.returned (.int .i64 (cmpI a b))∧GrewQ w w':=(CmpA_any w a b).mono fun e w' ⟨h1,h2⟩=>⟨h1,by subst h2;exact GrewQ.refl _⟩
theorem cmpB_q (w:World) (a b:Int):Calls Tryz.prog 215 #[.int .i64 a,.int .i64 b] w fun e w'=>e=.returned (.int .i64 (cmpI a b))∧GrewQ w w':=(CmpB_any w a b).mono fun e w' ⟨h1,h2⟩=>⟨h1,by subst h2;exact GrewQ.refl _⟩
def cmpId (x y:Int×Int×Int):Int:=orI [cmpI x.1 y.1,cmpI x.2.1 y.2.1,cmpI x.2.2 y.2.2]
theorem Order_any (x y:Int×Int×Int) (w:World):Calls Tryz.prog 140 #[.agg #[.int .i64 x.1,.int .i64 x.2.1,.int .i64 x.2.2],.agg #[.int .i64 y.1,.int .i64 y.2.1,.int .i64 y.2.2]] w fun e w'=>e=.returned (.int .i64 (cmpId x y))∧∃ q os',w'=Sort.grow (w.drewN q) os':=by
 have k214:∀ (vs:Array Value) (w:World),(callFunc 214 vs).run Tryz.prog w=.ok (.enter 214 vs) w:=fun vs w=>by go_simp
 have k215:∀ (vs:Array Value) (w:World),(callFunc 215 vs).run Tryz.prog w=.ok (.enter 215 vs) w:=fun vs w=>by go_simp
 have k213:∀ (vs:Array Value) (w:World),(callFunc 213 vs).run Tryz.prog w=.ok (.enter 213 vs) w:=fun vs w=>by go_simp
 have g1:=GrewQ.alloc w (.cells #[.int .i64 x.1,.int .i64 x.2.1,.int .i64 x.2.2] 26)
 have b1:=Blk.made w 26 #[.int .i64 x.1,.int .i64 x.2.1,.int .i64 x.2.2]
 obtain⟨xa,HX⟩:∃ y:Nat,Hid (y=w.heap.size):=⟨_,rfl⟩
 obtain⟨wa,HA_⟩:∃ wa:World,Hid (wa=w.alloc (.cells #[.int .i64 x.1,.int .i64 x.2.1,.int .i64 x.2.2] 26)):=⟨_,rfl⟩
 have hz0:wa.heap.size=xa+1:=by rw[HA_.out,HX.out];simp
 rw[←HA_.out] at g1 b1
 rw[←HX.out] at b1
 have g2:=GrewQ.alloc wa (.cells #[.int .i64 y.1,.int .i64 y.2.1,.int .i64 y.2.2] 26)
 have b2:=Blk.made wa 26 #[.int .i64 y.1,.int .i64 y.2.1,.int .i64 y.2.2]
 obtain⟨ya,HY⟩:∃ y:Nat,Hid (y=xa+1):=⟨_,rfl⟩
 obtain⟨wb,HB_⟩:∃ wb:World,Hid (wb=wa.alloc (.cells #[.int .i64 y.1,.int .i64 y.2.1,.int .i64 y.2.2] 26)):=⟨_,rfl⟩
 rw[hz0,←HY.out] at b2
 rw[←HB_.out] at g2 b2
 have b1:=b1.grow g2.grow
 go_enter Tryz.func140,Tryz.ntmps140
 go_wp2_with fail
 rw[←HA_.out,←HX.out,←HY.out,←HB_.out]
 refine wp_region_reg rfl ?_
 refine reg_flow quietL quietL_ok 0 18 22 [(4,.inl (.int .i64 (cmpI x.1 y.1))),(9,.inl (.int .i64 (cmpI x.2.1 y.2.1))),(14,.inl (.int .i64 (cmpI x.2.2 y.2.2))),(15,.inr (fun _=>IsIn 1 3 [.int .i64 (cmpI x.1 y.1),.int .i64 (cmpI x.2.1 y.2.1),.int .i64 (cmpI x.2.2 y.2.2)])),(16,.inl (.int .i64 (cmpId x y)))] rfl (by kernel_rfl) (by kernel_rfl) (by kernel_rfl) ?_ (GrewQ.drew _) trivial ?_
 ·intro x hx φ he
  simp only[List.mem_cons,List.not_mem_nil,or_false] at hx
  rcases hx with rfl|rfl|rfl|rfl|rfl<;>cases he
  all_goals first|exact lasts_quiet (lasting_bytes _)|exact lasts_quietL (isIn_lasting _ _ _)
 intro ops' A' K' T hops hA' hK hT
 refine fl_op1N 5 (.tmp 2) (.pointer (some ⟨xa,0,none⟩)) (.pointer (some ⟨xa,0,none⟩)) (fun ρ h1 kk w1 (hg:GrewQ _ w1) hb hf=>by go_simp) ?_
 refine fl_op1N 6 (.tmp 5) (.pointer (some ⟨xa,0,none⟩)) (.int .i64 x.1) (fun ρ h1 kk w1 (hg:GrewQ _ w1) hb hf=>by have c:=(b1.grow hg.grow).cell 0;go_simp) ?_
 refine fl_op1N 7 (.tmp 3) (.pointer (some ⟨ya,0,none⟩)) (.pointer (some ⟨ya,0,none⟩)) (fun ρ h1 kk w1 (hg:GrewQ _ w1) hb hf=>by go_simp) ?_
 refine fl_op1N 8 (.tmp 7) (.pointer (some ⟨ya,0,none⟩)) (.int .i64 y.1) (fun ρ h1 kk w1 (hg:GrewQ _ w1) hb hf=>by have c:=(b2.grow hg.grow).cell 0;go_simp) ?_
 refine fl_call 9 (by rfl) (by decide) (wanted_none (by rfl)) (.int .i64 (cmpI x.1 y.1)) (by rw[hK.out];rfl) 214 _ _ (by rfl) [.int .i64 x.1,.int .i64 y.1] (by rfl) k214 (fun kk w1 (hg:GrewQ _ w1) hb hf=>calls_behind (by rfl) (by exact cmpA_q w1 x.1 y.1)) ?_
 refine fl_op1N 10 (.tmp 2) (.pointer (some ⟨xa,0,none⟩)) (.pointer (some ⟨xa,1,none⟩)) (fun ρ h1 kk w1 (hg:GrewQ _ w1) hb hf=>by go_simp) ?_
 refine fl_op1N 11 (.tmp 10) (.pointer (some ⟨xa,1,none⟩)) (.int .i64 x.2.1) (fun ρ h1 kk w1 (hg:GrewQ _ w1) hb hf=>by have c:=(b1.grow hg.grow).cell 1;go_simp) ?_
 refine fl_op1N 12 (.tmp 3) (.pointer (some ⟨ya,0,none⟩)) (.pointer (some ⟨ya,1,none⟩)) (fun ρ h1 kk w1 (hg:GrewQ _ w1) hb hf=>by go_simp) ?_
 refine fl_op1N 13 (.tmp 12) (.pointer (some ⟨ya,1,none⟩)) (.int .i64 y.2.1) (fun ρ h1 kk w1 (hg:GrewQ _ w1) hb hf=>by have c:=(b2.grow hg.grow).cell 1;go_simp) ?_
 refine fl_call 14 (by rfl) (by decide) (wanted_none (by rfl)) (.int .i64 (cmpI x.2.1 y.2.1)) (by rw[hK.out];rfl) 214 _ _ (by rfl) [.int .i64 x.2.1,.int .i64 y.2.1] (by rfl) k214 (fun kk w1 (hg:GrewQ _ w1) hb hf=>calls_behind (by rfl) (by exact cmpA_q w1 x.2.1 y.2.1)) ?_
 refine fl_op1N 15 (.tmp 2) (.pointer (some ⟨xa,0,none⟩)) (.pointer (some ⟨xa,2,none⟩)) (fun ρ h1 kk w1 (hg:GrewQ _ w1) hb hf=>by go_simp) ?_
 refine fl_op1N 16 (.tmp 15) (.pointer (some ⟨xa,2,none⟩)) (.int .i64 x.2.2) (fun ρ h1 kk w1 (hg:GrewQ _ w1) hb hf=>by have c:=(b1.grow hg.grow).cell 2;go_simp) ?_
 refine fl_op1N 17 (.tmp 3) (.pointer (some ⟨ya,0,none⟩)) (.pointer (some ⟨ya,2,none⟩)) (fun ρ h1 kk w1 (hg:GrewQ _ w1) hb hf=>by go_simp) ?_
 refine fl_op1N 18 (.tmp 17) (.pointer (some ⟨ya,2,none⟩)) (.int .i64 y.2.2) (fun ρ h1 kk w1 (hg:GrewQ _ w1) hb hf=>by have c:=(b2.grow hg.grow).cell 2;go_simp) ?_
 refine fl_call 19 (by rfl) (by decide) (wanted_none (by rfl)) (.int .i64 (cmpI x.2.2 y.2.2)) (by rw[hK.out];rfl) 215 _ _ (by rfl) [.int .i64 x.2.2,.int .i64 y.2.2] (by rfl) k215 (fun kk w1 (hg:GrewQ _ w1) hb hf=>calls_behind (by rfl) (by exact cmpB_q w1 x.2.2 y.2.2)) ?_
 refine fl_any 20 (by rfl) (by decide) (wanted_none (by rfl)) (fun _=>IsIn 1 3 [.int .i64 (cmpI x.1 y.1),.int .i64 (cmpI x.2.1 y.2.1),.int .i64 (cmpI x.2.2 y.2.2)]) (by rw[hK.out];rfl) (fun kk w1 (hg:GrewQ _ w1) hb hf=>by refine upon_behindAny (φ:=fun _=>IsIn 1 3 [.int .i64 (cmpI x.1 y.1),.int .i64 (cmpI x.2.1 y.2.1),.int .i64 (cmpI x.2.2 y.2.2)]) (by rfl) ?_;exact ints3_laid rfl rfl rfl rfl) (fun v20=>?_)
 refine fl_call 21 (by rfl) (by decide) (wanted_none (by rfl)) (.int .i64 (cmpId x y)) (by rw[hK.out];rfl) 213 _ _ (by rfl) [v20] (by rfl) k213 (fun kk w1 (hg:GrewQ _ w1) hb hf=>calls_behind (by rfl) (by exact cmpOr_is w1 v20 [cmpI x.1 y.1,cmpI x.2.1 y.2.1,cmpI x.2.2 y.2.2] (facts_take hf (by rw[hA'.out];kernel_rfl)) (by simp))) ?_
 refine fl_mvN 4 (.int .i64 (cmpId x y)) ?_
 refine fl_end (fun _ _ w1 (hg:GrewQ _ w1) hend hfacts=>hT _ _ ?_)
 clear hops hA' hK hT
 simp only[putsL,Act.put,List.setIfInBounds_toArray,List.set_cons_zero,List.set_cons_succ]
 refine reg_end ?_
 clear hfacts
 go_wp2_with fail
 go_ret
 exact⟨rfl,(g1.trans g2).trans hg⟩
def sortId_ren:Go.Shelf.Ren:=⟨fun|6=>139|15=>208|14=>212|28=>265|29=>266|20=>275|21=>276|22=>277|23=>278|24=>279|25=>280|26=>281|27=>282|46=>319|47=>312|48=>313|49=>320|50=>321|57=>350|n=>n,fun|22=>41|24=>26|25=>233|3=>3|39=>86|0=>0|53=>85|55=>27|4=>4|46=>341|45=>340|50=>346|5=>5|9=>9|66=>385|70=>388|76=>411|77=>412|n=>n,fun|n=>n⟩
theorem sortId:Go.Proofs.SlLaysF0.n6 Tryz.prog sortId_ren:={
 mixed:=by kernel_rfl
 f6:=⟨Tryz.f139.name,by decide,Tryz.func139.trans (congrArg some (by kernel_rfl))⟩
 f14:=⟨Tryz.f212.name,by decide,Tryz.func212.trans (congrArg some (by kernel_rfl))⟩
 f15:=Tryz.func208.trans (congrArg some (by kernel_rfl))
 f20:=⟨Tryz.f275.name,by decide,Tryz.func275.trans (congrArg some (by kernel_rfl))⟩
 f21:=⟨Tryz.f276.name,by decide,Tryz.func276.trans (congrArg some (by kernel_rfl))⟩
 f22:=⟨Tryz.f277.name,by decide,Tryz.func277.trans (congrArg some (by kernel_rfl))⟩
 f23:=⟨Tryz.f278.name,by decide,Tryz.func278.trans (congrArg some (by kernel_rfl))⟩
 f24:=⟨Tryz.f279.name,by decide,Tryz.func279.trans (congrArg some (by kernel_rfl))⟩
 f25:=⟨Tryz.f280.name,by decide,Tryz.func280.trans (congrArg some (by kernel_rfl))⟩
 f26:=⟨Tryz.f281.name,by decide,Tryz.func281.trans (congrArg some (by kernel_rfl))⟩
 f27:=⟨Tryz.f282.name,by decide,Tryz.func282.trans (congrArg some (by kernel_rfl))⟩
 f28:=Tryz.func265.trans (congrArg some (by kernel_rfl))
 f29:=Tryz.func266.trans (congrArg some (by kernel_rfl))
 f46:=⟨Tryz.f319.name,by decide,Tryz.func319.trans (congrArg some (by kernel_rfl))⟩
 f47:=Tryz.func312.trans (congrArg some (by kernel_rfl))
 f48:=Tryz.func313.trans (congrArg some (by kernel_rfl))
 f49:=⟨Tryz.f320.name,by decide,Tryz.func320.trans (congrArg some (by kernel_rfl))⟩
 f50:=⟨Tryz.f321.name,by decide,Tryz.func321.trans (congrArg some (by kernel_rfl))⟩
 f57:=⟨Tryz.f350.name,by decide,Tryz.func350.trans (congrArg some (by kernel_rfl))⟩
 t0:=Tryz.underlying0
 a0:=Tryz.isAgg0
 z0:=Tryz.sizeOf0
 v0:=Tryz.zeroValue0
 t3:=Tryz.underlying3
 a3:=Tryz.isAgg3
 z3:=Tryz.sizeOf3
 v3:=Tryz.zeroValue3
 t4:=Tryz.underlying4
 a4:=Tryz.isAgg4
 z4:=Tryz.sizeOf4
 v4:=Tryz.zeroValue4
 t5:=Tryz.underlying5
 a5:=Tryz.isAgg5
 z5:=Tryz.sizeOf5
 v5:=Tryz.zeroValue5
 t9:=Tryz.underlying9
 a9:=Tryz.isAgg9
 z9:=Tryz.sizeOf9
 v9:=Tryz.zeroValue9
 t22:=Tryz.underlying41
 a22:=Tryz.isAgg41
 z22:=Tryz.sizeOf41
 v22:=Tryz.zeroValue41
 t25:=Tryz.underlying233
 a25:=Tryz.isAgg233
 z25:=Tryz.sizeOf233
 v25:=Tryz.zeroValue233
 t39:=Tryz.underlying86
 a39:=Tryz.isAgg86
 z39:=Tryz.sizeOf86
 v39:=Tryz.zeroValue86
 t45:=Tryz.underlying340
 a45:=Tryz.isAgg340
 z45:=Tryz.sizeOf340
 v45:=Tryz.zeroValue340
 t46:=Tryz.underlying341
 a46:=Tryz.isAgg341
 z46:=Tryz.sizeOf341
 v46:=Tryz.zeroValue341
 t50:=Tryz.underlying346
 a50:=Tryz.isAgg346
 z50:=Tryz.sizeOf346
 v50:=Tryz.zeroValue346
 t53:=Tryz.underlying85
 a53:=Tryz.isAgg85
 z53:=Tryz.sizeOf85
 v53:=Tryz.zeroValue85
 t55:=Tryz.underlying27
 a55:=Tryz.isAgg27
 z55:=Tryz.sizeOf27
 v55:=Tryz.zeroValue27
 t66:=Tryz.underlying385
 a66:=Tryz.isAgg385
 z66:=Tryz.sizeOf385
 v66:=Tryz.zeroValue385
 t70:=Tryz.underlying388
 a70:=Tryz.isAgg388
 z70:=Tryz.sizeOf388
 v70:=Tryz.zeroValue388
 t76:=Tryz.underlying411
 a76:=Tryz.isAgg411
 z76:=Tryz.sizeOf411
 v76:=Tryz.zeroValue411
 t77:=Tryz.underlying412
 a77:=Tryz.isAgg412
 z77:=Tryz.sizeOf412
 v77:=Tryz.zeroValue412 }
def icell (x:Int×Int×Int):List Value:=[.int .i64 x.1,.int .i64 x.2.1,.int .i64 x.2.2]
def icells (l:List (Int×Int×Int)):List Value:=l.flatMap icell
theorem icell_len (x:Int×Int×Int):(icell x).length=3:=rfl
theorem icells_len (l:List (Int×Int×Int)):(icells l).length=l.length*3:=flat_length icell 3 icell_len l
theorem icell_one (l:List (Int×Int×Int)):∀ u∈icells l,u.oneCell'=true:=fun u hu=>by
 obtain⟨x,_,hx⟩:=List.mem_flatMap.1 hu
 simp only[icell,List.mem_cons,List.not_mem_nil,or_false] at hx
 rcases hx with rfl|rfl|rfl<;>rfl
def lt3 (x y:Int×Int×Int):Bool:=decide (x.1<y.1) || (decide (x.1=y.1) && (decide (x.2.1<y.2.1) || (decide (x.2.1=y.2.1) && decide (x.2.2<y.2.2))))
theorem lt3_iff (x y:Int×Int×Int):lt3 x y=true↔(x.1<y.1∨(x.1=y.1∧(x.2.1<y.2.1∨(x.2.1=y.2.1∧x.2.2<y.2.2)))):=by simp[lt3]
theorem lt3_no (x y:Int×Int×Int):lt3 x y=false↔¬ (x.1<y.1∨(x.1=y.1∧(x.2.1<y.2.1∨(x.2.1=y.2.1∧x.2.2<y.2.2)))):=by rw[←lt3_iff];simp
theorem cmpI_cases (a b:Int):(a<b∧cmpI a b=-1)∨(b<a∧cmpI a b=1)∨(a=b∧cmpI a b=0):=by
 unfold cmpI
 by_cases h1:a<b
 ·exact .inl ⟨h1,if_pos h1⟩
 ·by_cases h2:b<a
  ·exact .inr (.inl ⟨h2,by rw[if_neg h1,if_pos h2]⟩)
  ·exact .inr (.inr ⟨by omega,by rw[if_neg h1,if_neg h2]⟩)
theorem ltId_is (x y:Int×Int×Int):Go.Proofs.ltOf cmpId x y=lt3 x y:=by
 unfold Go.Proofs.ltOf cmpId
 cases hl:lt3 x y with
 | true=>
   rw[lt3_iff] at hl
   rcases cmpI_cases x.1 y.1 with ⟨h1,e1⟩|⟨h1,e1⟩|⟨h1,e1⟩<;>rcases cmpI_cases x.2.1 y.2.1 with ⟨h2,e2⟩|⟨h2,e2⟩|⟨h2,e2⟩<;>rcases cmpI_cases x.2.2 y.2.2 with ⟨h3,e3⟩|⟨h3,e3⟩|⟨h3,e3⟩<;>rw[e1,e2,e3]<;>first|decide|(exfalso;omega)
 | false=>
   rw[lt3_no] at hl
   rcases cmpI_cases x.1 y.1 with ⟨h1,e1⟩|⟨h1,e1⟩|⟨h1,e1⟩<;>rcases cmpI_cases x.2.1 y.2.1 with ⟨h2,e2⟩|⟨h2,e2⟩|⟨h2,e2⟩<;>rcases cmpI_cases x.2.2 y.2.2 with ⟨h3,e3⟩|⟨h3,e3⟩|⟨h3,e3⟩<;>rw[e1,e2,e3]<;>first|decide|(exfalso;omega)
theorem swoId:Sort.SWO (Go.Proofs.ltOf cmpId) where
 irrefl x:=by rw[ltId_is,lt3_no];omega
 trans x y z h k:=by rw[ltId_is] at *;rw[lt3_iff] at *;omega
 ntrans x y z h k:=by rw[ltId_is] at *;rw[lt3_no] at *;omega
theorem icell_flat (l:List (Int×Int×Int)) (j:Nat) (hj:j<l.length*3):(icells l)[j]?=some (Sort.flatK icell 3 l.toArray)[j]!:=by
 have h:=flat_get icell 3 icell_len l (j / 3) (j % 3) (by omega) (Nat.mod_lt _ (by omega))
 rw[show j / 3*3+j % 3=j by omega] at h
 unfold icells
 rw[h,Sort.get_flatK icell 3 l.toArray j (by simpa using hj)]
 have h2:j / 3<l.length:=by omega
 have h3:l.toArray[j / 3]! = l[j / 3]:=by simp[h2]
 rw[h3]
 have h4:j % 3<(icell l[j / 3]).length:=by rw[icell_len];exact Nat.mod_lt _ (by omega)
 rw[List.getElem?_eq_getElem h4]
 simp[h4]
theorem iSort_row (w:World) (V:Nat→Prop) (v:Value) (l:List (Int×Int×Int)) (hR:Row w V 26 3 v l.length (icells l)) (hl:l.length<4611686018427387904) :
 Calls Tryz.prog 139 #[v,.func (.func 140) #[] #[]] w fun e w'=>e=.returned (.tuple #[])∧∃ l':List (Int×Int×Int),l'.Perm l∧(∀ i j (hi:i<l'.length) (hj:j<l'.length),i<j→lt3 l'[j] l'[i]=false)∧Row w' V 26 3 v l'.length (icells l')∧Just V w w':=by
 obtain⟨hlen,⟨rfl,h0⟩|⟨g,cap,cur,rfl,hV,hg,hc1,hcm,hcs,htk⟩⟩:=hR
 ·have hn:l=[]:=List.eq_nil_of_length_eq_zero h0
  subst hn
  refine (Go.Proofs.AnyF.slices_SortFunc_none sortId none 0 _ w).mono fun e w' ⟨h1,h2⟩=>⟨h1,[],List.Perm.refl _,fun i j hi=>absurd hi (by simp),⟨rfl,.inl ⟨rfl,rfl⟩⟩,?_⟩
  rw[h2]
  exact Just.of_grow (Grow.refl _)
 have hgl:g<w.heap.size:=(Array.getElem?_eq_some_iff.1 hg).1
 have hH:Sort.HoldsK icell 3 w g 0 l.toArray:=fun j hj=>by
  rw[Sort.size_flatK] at hj
  have hj':j<l.length*3:=by simpa using hj
  have hc:=icell_flat l j hj'
  rw[←htk,List.getElem?_take_of_lt hj',Array.getElem?_toList] at hc
  refine⟨?_,?_⟩
  ·unfold World.cell?
   simp only[hg,Nat.zero_add]
   exact hc
  ·unfold World.frozen?
   simp only[hg]
   simp
 have eg:∀ args w,(callFunc 140 args).run Tryz.prog w=.ok (.enter 140 args) w:=fun args w=>by go_simp
 have hcon:=Go.Proofs.AnyQ.slices_SortFunc sortId 3 Tryz.isAgg26 Tryz.sizeOf26 icell icell_len (fun x v hv=>by simp only[icell,List.mem_cons,List.not_mem_nil,or_false] at hv;rcases hv with rfl|rfl|rfl<;>rfl) cmpId swoId 140 #[] g 0 cap l.toArray w eg (fun m os dk _ x y=>Order_any x y _) hH hgl (by simpa using hl)
 change Calls Tryz.prog 139 _ _ _ at hcon
 rw[List.size_toArray] at hcon
 refine hcon.mono ?_
 rintro e w' ⟨he,d',n,os,hp,hs,rfl⟩
 obtain⟨l',rfl⟩:∃ l':List (Int×Int×Int),d'=l'.toArray:=⟨d'.toList,by simp⟩
 have hll:l'.length=l.length:=by have:=hp.1;simpa using this
 have hsz:=Go.Proofs.size_sortWorldK_c icell 3 w g 0 n l'.toArray os
 have hnew:(Go.Proofs.sortWorldK icell 3 w g 0 n l'.toArray os).heap[g]?=some (.cells (Sort.putCells id 0 (Sort.flatK icell 3 l'.toArray) cur) 26 (0,0)):=by
  show ((w.heap.modify g (Sort.onCells (Sort.putCells id 0 (Sort.flatK icell 3 l'.toArray))))++os)[g]?=_
  rw[Array.getElem?_append_left (by simpa using hgl),Array.getElem?_modify,if_pos rfl,hg]
  rfl
 have hcs2:(Sort.putCells id 0 (Sort.flatK icell 3 l'.toArray) cur).size=cur.size:=by simp[Sort.putCells]
 refine⟨he,l',?_,fun i j hi hj hij=>?_,⟨icells_len l',.inr ⟨g,cap,_,by rw[hll],hV,hnew,by omega,hcm,by rw[hcs2,hcs],?_⟩⟩,⟨rfl,rfl,rfl,hsz,fun b hb hbg=>?_⟩⟩
 ·have:=hp.2.2
  simp only[List.extract_toArray,List.extract_eq_take_drop,List.drop_zero,Nat.sub_zero] at this
  rwa [List.take_of_length_le (by omega),List.take_of_length_le (by omega)] at this
 ·have:=hs i j (Nat.zero_le _) hij (by omega)
  rw[ltId_is] at this
  simpa [hi,hj] using this
 ·apply List.ext_getElem?
  intro j
  by_cases hj:j<l'.length*3
  ·rw[List.getElem?_take_of_lt hj,Array.getElem?_toList,icell_flat l' j hj]
   have hjc:j<cur.size:=by rw[hcs];exact Nat.lt_of_lt_of_le hj (Nat.mul_le_mul_right 3 (by omega))
   simp only[Sort.putCells,Array.getElem?_mapIdx,Array.getElem?_eq_getElem hjc,Option.map_some,Nat.zero_le,true_and,Nat.zero_add,Sort.size_flatK,List.size_toArray,hj,if_true,Nat.sub_zero,id_eq]
  ·rw[List.getElem?_eq_none (by rw[List.length_take];omega),List.getElem?_eq_none (by rw[icells_len];omega)]
 ·have hb':b<(w.heap.modify g (Sort.onCells (Sort.putCells id 0 (Sort.flatK icell 3 l'.toArray)))).size:=by simpa using hb
  show ((w.heap.modify g (Sort.onCells (Sort.putCells id 0 (Sort.flatK icell 3 l'.toArray))))++os)[b]?=w.heap[b]?
  rw[Array.getElem?_append_left hb',Array.getElem?_modify,if_neg (fun e=>hbg (by rw[←e];exact hV))]
theorem iGrow_any (w:World) (n:Nat) (hn:n≤1048576):Calls Tryz.prog 211 #[.slice none 0 0,.int .i64 (n:Int)] w fun e w'=>∃ v,e=.returned v∧Row w' (fun b=>w.heap.size≤b∧b<w'.heap.size) 26 3 v 0 []∧Grow w w':=by
 obtain⟨i,hi,hz,hs,hb⟩:=idE.info
 have hw1:IntKind.i64.wrap (n:Int)=(n:Int):=by rw[IntKind.wrap_i64];omega
 have hw2:wrap64 (n:Int)=(n:Int):=by unfold wrap64;omega
 by_cases h0:n=0
 ·subst h0
  go_enter Tryz.func211,Tryz.ntmps211
  go_wp2_with fail
  go_ret
  exact⟨_,rfl,Row.nil,Grow.refl _⟩
 have hpos:decide ((n:Int) > 0)=true:=decide_eq_true (by omega)
 have hpos2:decide ((0:Int)<(n:Int))=true:=decide_eq_true (by omega)
 go_enter Tryz.func211,Tryz.ntmps211
 go_wp2_with (at_builtin;refine Lib.wpList_append_run _ rfl _ _ _ _ rfl _ _ rfl rfl _ _ (Lib.run_append_nil_zeros _ 41 3 _ 26 i (.agg #[.int .i64 0,.int .i64 0,.int .i64 0]) .i64 .i64 Tryz.underlying41 Tryz.underlying3 hi hz n (by omega) (by omega) (by omega) (by rw[hb];omega)) ?_)
 have hge:=grownCap_ge w n 0 26
 have hle:grownCap w n 0 26≤maxLen:=grownCap_le_maxLen w n 0 26 (by unfold maxLen;omega)
 generalize grownCap w n 0 26=cap at hge hle
 have hcs:(Builtin.zeroCells #[Value.int .i64 0,.int .i64 0,.int .i64 0] n++Builtin.zeroCells #[Value.int .i64 0,.int .i64 0,.int .i64 0] (cap-n)).size=cap*3:=by
  rw[Array.size_append,size_zeroCells,size_zeroCells,show (#[Value.int .i64 0,.int .i64 0,.int .i64 0]:Array Value).size=3 from rfl];omega
 generalize Builtin.zeroCells #[Value.int .i64 0,.int .i64 0,.int .i64 0] n++Builtin.zeroCells #[Value.int .i64 0,.int .i64 0,.int .i64 0] (cap-n)=cur at hcs
 have hc0:¬ cap<0:=by omega
 go_wp2_with fail
 go_ret
 refine⟨_,rfl,⟨rfl,.inr ⟨w.heap.size,cap,cur,rfl,⟨Nat.le_refl _,by simp⟩,?_,Nat.zero_le _,hle,hcs,by simp⟩⟩,Grow.drew ((Below.refl _ _).alloc (Nat.le_refl _) _)⟩
 exact heap_alloc_new w _
theorem iConcat_nil (w:World) (b:Nat) (A:Option Addr) (c:Nat) (l:List (Int×Int×Int)) (hB:Blk w b 41 #[.slice A l.length c,.slice none 0 0]) (D:Nat→Prop) (hI:In w D 3 A l.length (icells l)) (hn:l.length≤1048576) :
 Calls Tryz.prog 138 #[.slice (some ⟨b,0,none⟩) 2 2] w fun e w'=>∃ v,e=.returned v∧Row w' (fun b=>w.heap.size≤b∧b<w'.heap.size) 26 3 v l.length (icells l)∧Grow w w':=by
 have e0:=hB.cell 0
 have e1:=hB.cell 1
 obtain⟨n,HN⟩:∃ n:Nat,Hid (n=l.length):=⟨_,rfl⟩
 have hnl:=HN.out
 rw[←hnl] at e0 e1 hI hn hB ⊢
 have hw1:IntKind.i64.wrap (n:Int)=(n:Int):=by rw[IntKind.wrap_i64];omega
 have hw2:wrap64 (n:Int)=(n:Int):=by unfold wrap64;omega
 have hneg:decide ((n:Int)<0)=false:=decide_eq_false (by omega)
 have hG:=iGrow_any w n hn
 clear hnl
 go_enter Tryz.func138,Tryz.ntmps138
 go_wp2_with fail
 go_loopw [3,11] (fun s i wr=>((s=.int .i64 0∧i=.int .i64 0)∨(s=.int .i64 (n:Int)∧i=.int .i64 1)∨(s=.int .i64 (n:Int)∧i=.int .i64 2))∧w=wr) (fun _ i _=>2-(intOf i).toNat)
 case atStart=>exact⟨.inl ⟨rfl,rfl⟩,rfl⟩
 case round=>
  obtain⟨hsi,rfl⟩:=hrel
  rcases hsi with ⟨rfl,rfl⟩|⟨rfl,rfl⟩|⟨rfl,rfl⟩
  ·go_wp2_with fail
   go_roundw
   case rel=>exact⟨.inr (.inl ⟨by first|rfl|simp[hw1]|simp[hw2],rfl⟩),by trivial⟩
   case measure=>simp[intOf]
  ·go_wp2_with fail
   go_roundw
   case rel=>exact⟨.inr (.inr ⟨by first|rfl|simp[hw1]|simp[hw2],rfl⟩),by trivial⟩
   case measure=>simp[intOf]
  ·go_wp2_with fail
   refine hG.mono ?_
   rintro e w1 ⟨v1,rfl,hR1,hg1⟩
   go_wp2_with fail
   go_loopw [6,27] (fun v i wr=>((i=.int .i64 0∧Row wr (fun b=>w.heap.size≤b∧b<wr.heap.size) 26 3 v 0 [])∨(i=.int .i64 1∧Row wr (fun b=>w.heap.size≤b∧b<wr.heap.size) 26 3 v n (icells l))∨(i=.int .i64 2∧Row wr (fun b=>w.heap.size≤b∧b<wr.heap.size) 26 3 v n (icells l)))∧Grow w wr) (fun _ i _=>2-(intOf i).toNat)
   case atStart=>exact⟨.inl ⟨rfl,hR1⟩,hg1⟩
   case round=>
    obtain⟨hsi,hgr⟩:=hrel
    have e0:=(hB.grow hgr).cell 0
    have e1:=(hB.grow hgr).cell 1
    have hwr:=hgr.size
    rcases hsi with ⟨rfl,hR⟩|⟨rfl,hR⟩|⟨rfl,hR⟩
    ·go_wp2_with (at_builtin;refine stay ?_)
     refine stay_out ?_
     refine wpList_row idE _ rfl (.tmp 31) (.tmp 32) rfl _ 0 [] rfl hR _ A n c (icells l) rfl (hI.grow hgr).reads (icell_one l) (by omega) ?_
     intro v2 w2 hR2 hj2
     have hg2:Grow w w2:=Below.trans hgr (hj2.below (B:=w.heap.size) (fun b hb=>hb.1) hwr)
     have hR2:=hR2.mono (V':=(fun b=>w.heap.size≤b∧b<w2.heap.size)) fun b hb=>hb.elim (fun h=>⟨h.1,Nat.lt_of_lt_of_le h.2 hj2.size⟩) fun h=>⟨Nat.le_trans hwr h.1,h.2⟩
     simp only[Nat.zero_add,List.nil_append] at hR2
     go_wp2_with fail
     go_roundw
     case rel=>exact⟨.inr (.inl ⟨rfl,hR2⟩),hg2⟩
     case measure=>simp[intOf]
    ·go_wp2_with (at_builtin;refine stay ?_)
     refine stay_out ?_
     refine wpList_row idE _ rfl (.tmp 31) (.tmp 32) rfl _ n (icells l) rfl hR 0 none 0 0 [] rfl Reads.nil (by simp) (by omega) ?_
     intro v2 w2 hR2 hj2
     have hg2:Grow w w2:=Below.trans hgr (hj2.below (B:=w.heap.size) (fun b hb=>hb.1) hwr)
     have hR2:=hR2.mono (V':=(fun b=>w.heap.size≤b∧b<w2.heap.size)) fun b hb=>hb.elim (fun h=>⟨h.1,Nat.lt_of_lt_of_le h.2 hj2.size⟩) fun h=>⟨Nat.le_trans hwr h.1,h.2⟩
     simp only[Nat.add_zero,List.append_nil] at hR2
     go_wp2_with fail
     go_roundw
     case rel=>exact⟨.inr (.inr ⟨rfl,hR2⟩),hg2⟩
     case measure=>simp[intOf]
    ·go_wp2_with fail
     go_ret
     exact⟨_,rfl,hR,hgr⟩
theorem icell_rec {w:World} {D:Nat→Prop} {A:Option Addr} {l:List (Int×Int×Int)} (h:In w D 3 A l.length (icells l)) {k:Nat} (hk:k<l.length) :
 ∃ ad:Addr,A=some ad∧∀ w1,Grow w w1→w1.cell? (ad.add (k*3))=some (.int .i64 l[k].1)∧w1.cell? ⟨(ad.add (k*3)).block,(ad.add (k*3)).off+1,none⟩=some (.int .i64 l[k].2.1)∧w1.cell? ⟨(ad.add (k*3)).block,(ad.add (k*3)).off+2,none⟩=some (.int .i64 l[k].2.2):=by
 obtain⟨ad,hq,e,_,hb,e0,e1⟩:=In.rec_ (cells:=icell) h (by omega) icell_len hk
 exact⟨ad,e,fun w1 hg=>⟨(hg.cell (by rw[block_add];exact hb)).trans (e0 _ rfl),(hg.cell (p:=⟨(ad.add (k*3)).block,(ad.add (k*3)).off+1,none⟩) (show (ad.add (k*3)).block<_ by rw[block_add];exact hb)).trans (e1 0 _ rfl),(hg.cell (p:=⟨(ad.add (k*3)).block,(ad.add (k*3)).off+2,none⟩) (show (ad.add (k*3)).block<_ by rw[block_add];exact hb)).trans (e1 1 _ rfl)⟩⟩
theorem iCompact_any (w:World) (A:Option Addr) (c:Nat) (l:List (Int×Int×Int)) (D:Nat→Prop) (hI:In w D 3 A l.length (icells l)) (hn:l.length≤1048576) (hne:∀ i j (hi:i<l.length) (hj:j<l.length),i<j→l[i]≠l[j]) :
 Calls Tryz.prog 142 #[.slice A l.length c] w fun e w'=>e=.returned (.slice A l.length c)∧Grow w w':=by
 obtain⟨n,HN⟩:∃ n:Nat,Hid (n=l.length):=⟨_,rfl⟩
 rw[←HN.out]
 rw[←HN.out] at hn
 by_cases h2:n<2
 ·have d1:decide ((n:Int)<2)=true:=decide_eq_true (by omega)
  go_enter Tryz.func142,Tryz.ntmps142
  go_wp2_with fail
  go_ret
  exact⟨rfl,Grow.refl _⟩
 have d1:decide ((n:Int)<2)=false:=decide_eq_false (by omega)
 go_enter Tryz.func142,Tryz.ntmps142
 go_wp2_with fail
 clear d1
 go_loopw [3] (fun i wr=>∃ k:Nat,1≤k∧k≤n∧i=.int .i64 (k:Int)∧Grow w wr) (fun i _=>n-(intOf i).toNat)
 case atStart=>exact⟨1,by omega,by omega,rfl,Grow.refl _⟩
 case round=>
  obtain⟨k,hk1,hkn,rfl,hgr⟩:=hrel
  by_cases hlt:k<n
  ·have hkl:k<l.length:=by rw[←HN.out];exact hlt
   have hpl:k-1<l.length:=by omega
   obtain⟨ad,rfl,hc⟩:=icell_rec hI hkl
   obtain⟨ad',e',hp⟩:=icell_rec hI hpl
   cases e'
   have hneq:=hne (k-1) k hpl hkl (by omega)
   have hv:(l[k].1,l[k].2.1,l[k].2.2)≠(l[k-1].1,l[k-1].2.1,l[k-1].2.2):=fun e=>hneq e.symm
   generalize l[k]=x at hc hv
   generalize l[k-1]=y at hp hv
   have hv:¬ (x.1=y.1∧x.2.1=y.2.1∧x.2.2=y.2.2):=fun ⟨a,b,c⟩=>hv (by rw[a,b,c])
   have d2:decide ((k:Int)<(n:Int))=true:=decide_eq_true (by omega)
   have hk2:wrap64 ((k:Int)-1)=((k-1:Nat):Int):=by unfold wrap64;omega
   have hk3:IntKind.i64.wrap ((k:Int)-1)=((k-1:Nat):Int):=by rw[IntKind.wrap_i64];omega
   obtain⟨q,HQ⟩:∃ q:Nat,Hid (q=k-1):=⟨_,rfl⟩
   rw[←HQ.out] at hk2 hk3 hp
   have hqn:q<n:=by have:=HQ.out;omega
   go_wp2_with fail
   clear d2
   refine wp_region_flow 10 61 [] rfl rfl (by kernel_rfl) (by kernel_rfl) (by kernel_rfl) ?_ ?_
   ·intro x hx φ he
    cases hx
   intro ops' A' K' T hops hA' hK hT
   refine fl_mvN 16 (.slice (some ad) n c) ?_
   refine fl_mvN 17 (.int .i64 (k:Int)) ?_
   refine fl_op2N 18 (.tmp 16) (.tmp 17) (.slice (some ad) n c) (.int .i64 (k:Int)) (.pointer (some (ad.add (k*3)))) (fun ρ h1 h2 kk w2 (hg:Grow _ w2) hb hf=>by clear hk2 hk3;go_simp;try (intro hlt;omega)) ?_
   refine fl_op1N 19 (.tmp 18) (.pointer (some (ad.add (k*3)))) (.agg #[.int .i64 x.1,.int .i64 x.2.1,.int .i64 x.2.2]) (fun ρ h1 kk w2 (hg:Grow _ w2) hb hf=>by obtain⟨c0,c1,c2⟩:=hc _ (hgr.trans hg);clear hc hp hk2 hk3;go_simp) ?_
   refine fl_mvN 20 (.slice (some ad) n c) ?_
   refine fl_mvN 21 (.int .i64 (k:Int)) ?_
   refine fl_op2N 22 (.tmp 21) (.const (.int .i64 1)) (.int .i64 (k:Int)) (.int .i64 1) (.int .i64 (q:Int)) (fun ρ h1 h2 kk w2 (hg:Grow _ w2) hb hf=>by clear hc hp;go_simp) ?_
   refine fl_op2N 23 (.tmp 20) (.tmp 22) (.slice (some ad) n c) (.int .i64 (q:Int)) (.pointer (some (ad.add (q*3)))) (fun ρ h1 h2 kk w2 (hg:Grow _ w2) hb hf=>by clear hk2 hk3;go_simp;try (intro hlt;omega)) ?_
   refine fl_op1N 24 (.tmp 23) (.pointer (some (ad.add (q*3)))) (.agg #[.int .i64 y.1,.int .i64 y.2.1,.int .i64 y.2.2]) (fun ρ h1 kk w2 (hg:Grow _ w2) hb hf=>by obtain⟨c0,c1,c2⟩:=hp _ (hgr.trans hg);clear hc hp hk2 hk3;go_simp) ?_
   refine fl_op2N 25 (.tmp 19) (.tmp 24) (.agg #[.int .i64 x.1,.int .i64 x.2.1,.int .i64 x.2.2]) (.agg #[.int .i64 y.1,.int .i64 y.2.1,.int .i64 y.2.2]) (.bool false) (fun ρ h1 h2 kk w2 (hg:Grow _ w2) hb hf=>by clear hc hp hk2 hk3;go_simp;exact fun a b c=>hv ⟨a,b,c⟩) ?_
   refine fl_end (fun _ _ w2 (hg:Grow _ w2) _ hfacts=>hT _ _ ?_)
   clear hops hA' hK hT
   simp only[putsL,Act.put,List.setIfInBounds_toArray,List.set_cons_zero,List.set_cons_succ,List.drop_succ_cons,List.drop_zero]
   have hg3:=hgr.trans hg
   clear hk2 hk3 hc hp
   go_wp2_with fail
   go_roundw
   case rel=>exact⟨k+1,by omega,by omega,by go_num,hg3⟩
   case measure=>simp[intOf];omega
  ·obtain rfl:k=n:=by omega
   go_wp2_with fail
   go_ret
   exact⟨rfl,hgr⟩
theorem iClip_any (w:World) (A:Option Addr) (n c:Nat) (hc:n≤c):Calls Tryz.prog 141 #[.slice A n c] w fun e w'=>e=.returned (.slice A n n)∧w=w':=by
 have h1:¬ c<n:=by omega
 have h2:¬ ((c:Int)<(n:Int)):=by omega
 go_enter Tryz.func141,Tryz.ntmps141
 cases A with
 | none=>
   go_wp2_with fail
   go_ret
   exact⟨rfl,rfl⟩
 | some a=>
   go_wp2_with fail
   go_ret
   exact⟨rfl,rfl⟩
theorem Union_any (w:World) (A:Option Addr) (c:Nat) (l:List (Int×Int×Int)) (D:Nat→Prop) (hI:In w D 3 A l.length (icells l)) (hn:l.length≤1048576) (hnd:l.Nodup) :
 Calls Tryz.prog 60 #[.slice A l.length c,.slice none 0 0] w fun e w'=>∃ (A2:Option Addr) (l2:List (Int×Int×Int)),e=.returned (.slice A2 l.length l.length)∧l2.Perm l∧In w' (fun b=>w.heap.size≤b∧b<w'.heap.size) 3 A2 l.length (icells l2)∧Grow w w':=by
 have ga:=grow_alloc w (.cells #[.slice A l.length c,.slice none 0 0] 41)
 have hC:=iConcat_nil (w.alloc (.cells #[.slice A l.length c,.slice none 0 0] 41)) w.heap.size A c l (Blk.made w _ _) D (hI.grow ga) hn
 obtain⟨n,HN⟩:∃ n:Nat,Hid (n=l.length):=⟨_,rfl⟩
 rw[←HN.out] at hC ga ⊢
 go_enter Tryz.func60,Tryz.ntmps60
 go_wp2_with fail
 refine hC.mono ?_
 rintro e w1 ⟨v1,rfl,hR,hg1⟩
 have hgw1:=ga.trans hg1
 have hR:=hR.mono (V':=fun b=>w.heap.size≤b∧b<w1.heap.size) fun b hb=>⟨Nat.le_trans ga.size hb.1,hb.2⟩
 rw[HN.out] at hR
 have hS:=iSort_row w1 _ v1 l hR (by omega)
 go_wp2_with fail
 refine hS.mono ?_
 rintro e w2 ⟨rfl,l2,hp,hs,hR2,hj2⟩
 have hll:l2.length=l.length:=hp.length_eq
 obtain⟨A2,c2,rfl,hI2,hc2,hm2⟩:=hR2.in_
 have hgw2:Grow w w2:=Below.trans hgw1 (hj2.below (B:=w.heap.size) (fun b hb=>hb.1) hgw1.size)
 have hnd2:l2.Nodup:=hp.nodup_iff.2 hnd
 have hK:=iCompact_any w2 A2 c2 l2 _ hI2 (by omega) fun i j hi hj hij=>List.pairwise_iff_getElem.1 hnd2 i j hi hj hij
 have HL:Hid (l2.length=n):=Lib.hid (by rw[hll,HN.out])
 have hsz:=hj2.size
 clear hll
 go_wp2_with fail
 refine hK.mono ?_
 rintro e w3 ⟨rfl,hg3⟩
 have hP:=iClip_any w3 A2 l2.length c2 hc2
 go_wp2_with fail
 refine hP.mono ?_
 rintro e w4 ⟨rfl,rfl⟩
 go_wp2_with fail
 go_ret
 rw[HL.out] at hI2
 exact⟨A2,l2,by rw[←HL.out];rfl,hp,(In.grow hI2 hg3).mono fun b hb=>⟨hb.1,Nat.lt_of_lt_of_le hb.2 (Nat.le_trans hsz hg3.size)⟩,hgw2.trans hg3⟩
end Go.Proofs.YtmijcbfgfkeodaaGreatDoor
end
