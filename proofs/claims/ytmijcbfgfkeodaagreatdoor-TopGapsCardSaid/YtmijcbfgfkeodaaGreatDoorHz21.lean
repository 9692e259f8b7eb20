/- Qadd1. -/
import Derived.Test.YtmijcbfgfkeodaaGreatDoorHz20
set_option linter.all false
set_option maxRecDepth 100000
section
namespace Go.Proofs.YtmijcbfgfkeodaaGreatDoor.Q
open Go.RowKit Go.Hop
theorem Add_a (w:World) (g:Nat) (l:List Ab) (last seq:Int) (A:Option Addr) (m c:Nat) (h1:seq<1) :
 Turns Tryz.prog 222 #[.pointer (some ⟨g,0,none⟩),.agg #[.int .i64 seq,.slice A m c]] (fun e=>e=.returned (.int .i64 1)) (QueueAt g l last) (QueueAt g l last) w:=by
 intro V hQ hV
 have hQ':=hQ
 obtain⟨h1,v,q,R,D,hql,h3,hB,hRow,h6,h7,h8⟩:=hQ
 obtain⟨A0,c0,rfl,hI,hnc,hm0⟩:=hRow.in_
 have hga:Grow w (w.alloc (.cells #[.int .i64 seq,.slice A m c] 159)):=(Below.refl w.heap.size w).alloc (Nat.le_refl _) _
 have hBx0:=Blk.made w 159 #[.int .i64 seq,.slice A m c]
 obtain⟨x,HX⟩:∃ x:Nat,Hid (x=w.heap.size):=⟨_,rfl⟩
 obtain⟨wa,HA⟩:∃ wa:World,Hid (wa=w.alloc (.cells #[.int .i64 seq,.slice A m c] 159)):=⟨_,rfl⟩
 have hsa:wa.heap.size=x+1:=by rw[HA.out,HX.out];simp
 have HSA:=Lib.hid hsa
 clear hsa
 rw[←HA.out] at hga
 have hBx:Blk wa x 159 #[.int .i64 seq,.slice A m c]:=by rw[HA.out,HX.out];exact hBx0
 clear hBx0
 have hBq:=hB.grow hga
 go_enter Tryz.func222,Tryz.ntmps222
 go_wp2_with fail
 rw[←HA.out,←HX.out]
 refine wp_region_flow 25 53 [] rfl rfl (by kernel_rfl) (by kernel_rfl) (by kernel_rfl) ?_ ?_
 ·intro x hx φ he
  cases hx
 intro ops' A' K' T hops hA' hK hT
 refine fl_op1G 6 (.tmp 3) (.pointer (some ⟨x,0,none⟩)) (.pointer (some ⟨x,0,none⟩)) ?_
 refine fl_op1N 7 (.tmp 6) (.pointer (some ⟨x,0,none⟩)) (.int .i64 seq) (fun ρ h1 kk w1 (hg:Grow _ w1) hb hf=>by have c:=(hBx.grow hg).cell 0;go_simp) ?_
 refine fl_op2N 8 (.tmp 7) (.const (.int .i64 1)) (.int .i64 seq) (.int .i64 1) (.bool true) (fun ρ h1 h2 kk w1 (hg:Grow _ w1) hb hf=>by first|(go_simp;done)|(go_simp;omega)) ?_
 refine fl_mvN 9 (.bool true) ?_
 refine fl_skipW 10 (wif hops 3 false 9 true) ?_
 refine fl_skipW 11 (wif hops 3 false 9 true) ?_
 refine fl_skipW 12 (wif hops 3 false 9 true) ?_
 refine fl_skipW 13 (wif hops 3 false 9 true) ?_
 refine fl_skipW 14 (wif hops 3 false 9 true) ?_
 refine fl_skipW 15 (wif hops 3 false 9 true) ?_
 refine fl_skipW 16 (wif hops 3 false 9 true) ?_
 refine fl_pickN 17 true (.bool true) ?_
 refine fl_mvN 18 (.bool true) ?_
 refine fl_skipW 19 (wif hops 12 false 18 true) ?_
 refine fl_skipW 20 (wif hops 12 false 18 true) ?_
 refine fl_skipW 21 (wif hops 12 false 18 true) ?_
 refine fl_skipW 22 (wif hops 12 false 18 true) ?_
 refine fl_pickN 23 true (.bool true) ?_
 refine fl_mvN 24 (.bool true) ?_
 refine fl_skipW 25 (wif hops 18 false 24 true) ?_
 refine fl_skipW 26 (wif hops 18 false 24 true) ?_
 refine fl_skipW 27 (wif hops 18 false 24 true) ?_
 refine fl_skipW 28 (wif hops 18 false 24 true) ?_
 refine fl_pickN 29 true (.bool true) ?_
 refine fl_mvN 5 (.bool true) ?_
 refine fl_end (fun _ _ w1 (hg:Grow _ w1) _ hfacts=>hT _ _ ?_)
 clear hops hA' hK hT
 simp only[putsL,Act.put,List.setIfInBounds_toArray,List.set_cons_zero,List.set_cons_succ,List.drop_succ_cons,List.drop_zero]
 go_wp2_with fail
 go_ret
 exact⟨rfl,QueueAt.wide (QueueAt.framed _ _ _ w w1 V hQ' fun b hb=>(hga.trans hg).block b (hV b hb)) (fun _ => .inl),Just.of_grow (hga.trans hg)⟩
theorem Add_b (w:World) (g:Nat) (l:List Ab) (last seq:Int) (A:Option Addr) (m c:Nat) (h1:¬ seq<1) (h2:seq≤last) :
 Turns Tryz.prog 222 #[.pointer (some ⟨g,0,none⟩),.agg #[.int .i64 seq,.slice A m c]] (fun e=>e=.returned (.int .i64 1)) (QueueAt g l last) (QueueAt g l last) w:=by
 intro V hQ hV
 have hQ':=hQ
 obtain⟨h1,v,q,R,D,hql,h3,hB,hRow,h6,h7,h8⟩:=hQ
 obtain⟨A0,c0,rfl,hI,hnc,hm0⟩:=hRow.in_
 have hga:Grow w (w.alloc (.cells #[.int .i64 seq,.slice A m c] 159)):=(Below.refl w.heap.size w).alloc (Nat.le_refl _) _
 have hBx0:=Blk.made w 159 #[.int .i64 seq,.slice A m c]
 obtain⟨x,HX⟩:∃ x:Nat,Hid (x=w.heap.size):=⟨_,rfl⟩
 obtain⟨wa,HA⟩:∃ wa:World,Hid (wa=w.alloc (.cells #[.int .i64 seq,.slice A m c] 159)):=⟨_,rfl⟩
 have hsa:wa.heap.size=x+1:=by rw[HA.out,HX.out];simp
 have HSA:=Lib.hid hsa
 clear hsa
 rw[←HA.out] at hga
 have hBx:Blk wa x 159 #[.int .i64 seq,.slice A m c]:=by rw[HA.out,HX.out];exact hBx0
 clear hBx0
 have hBq:=hB.grow hga
 go_enter Tryz.func222,Tryz.ntmps222
 go_wp2_with fail
 rw[←HA.out,←HX.out]
 refine wp_region_flow 25 53 [] rfl rfl (by kernel_rfl) (by kernel_rfl) (by kernel_rfl) ?_ ?_
 ·intro x hx φ he
  cases hx
 intro ops' A' K' T hops hA' hK hT
 refine fl_op1G 6 (.tmp 3) (.pointer (some ⟨x,0,none⟩)) (.pointer (some ⟨x,0,none⟩)) ?_
 refine fl_op1N 7 (.tmp 6) (.pointer (some ⟨x,0,none⟩)) (.int .i64 seq) (fun ρ h1 kk w1 (hg:Grow _ w1) hb hf=>by have c:=(hBx.grow hg).cell 0;go_simp) ?_
 refine fl_op2N 8 (.tmp 7) (.const (.int .i64 1)) (.int .i64 seq) (.int .i64 1) (.bool false) (fun ρ h1 h2 kk w1 (hg:Grow _ w1) hb hf=>by first|(go_simp;done)|(go_simp;omega)) ?_
 refine fl_mvN 9 (.bool false) ?_
 refine fl_op1W 10 (wif hops 3 false 9 false) (.tmp 3) (.pointer (some ⟨x,0,none⟩)) (.pointer (some ⟨x,0,none⟩)) (fun ρ h1 kk w1 (hg:Grow _ w1) hb hf=>by go_simp) ?_
 refine fl_op1W 11 (wif hops 3 false 9 false) (.tmp 10) (.pointer (some ⟨x,0,none⟩)) (.int .i64 seq) (fun ρ h1 kk w1 (hg:Grow _ w1) hb hf=>by have c:=(hBx.grow hg).cell 0;go_simp) ?_
 refine fl_mvW 12 (wif hops 3 false 9 false) (.pointer (some ⟨g,0,none⟩)) ?_
 refine fl_op1W 13 (wif hops 3 false 9 false) (.tmp 12) (.pointer (some ⟨g,0,none⟩)) (.pointer (some ⟨g,0,none⟩)) (fun ρ h1 kk w1 (hg:Grow _ w1) hb hf=>by go_simp) ?_
 refine fl_op1W 14 (wif hops 3 false 9 false) (.tmp 13) (.pointer (some ⟨g,0,none⟩)) (.pointer (some ⟨g,1,none⟩)) (fun ρ h1 kk w1 (hg:Grow _ w1) hb hf=>by go_simp) ?_
 refine fl_op1W 15 (wif hops 3 false 9 false) (.tmp 14) (.pointer (some ⟨g,1,none⟩)) (.int .i64 last) (fun ρ h1 kk w1 (hg:Grow _ w1) hb hf=>by have c:=(hBq.grow hg).cell 1;go_simp) ?_
 refine fl_op2W 16 (wif hops 3 false 9 false) (.tmp 11) (.tmp 15) (.int .i64 seq) (.int .i64 last) (.bool true) (fun ρ h1 h2 kk w1 (hg:Grow _ w1) hb hf=>by first|(go_simp;done)|(go_simp;omega)) ?_
 refine fl_pickN 17 false (.bool true) ?_
 refine fl_mvN 18 (.bool true) ?_
 refine fl_skipW 19 (wif hops 12 false 18 true) ?_
 refine fl_skipW 20 (wif hops 12 false 18 true) ?_
 refine fl_skipW 21 (wif hops 12 false 18 true) ?_
 refine fl_skipW 22 (wif hops 12 false 18 true) ?_
 refine fl_pickN 23 true (.bool true) ?_
 refine fl_mvN 24 (.bool true) ?_
 refine fl_skipW 25 (wif hops 18 false 24 true) ?_
 refine fl_skipW 26 (wif hops 18 false 24 true) ?_
 refine fl_skipW 27 (wif hops 18 false 24 true) ?_
 refine fl_skipW 28 (wif hops 18 false 24 true) ?_
 refine fl_pickN 29 true (.bool true) ?_
 refine fl_mvN 5 (.bool true) ?_
 refine fl_end (fun _ _ w1 (hg:Grow _ w1) _ hfacts=>hT _ _ ?_)
 clear hops hA' hK hT
 simp only[putsL,Act.put,List.setIfInBounds_toArray,List.set_cons_zero,List.set_cons_succ,List.drop_succ_cons,List.drop_zero]
 go_wp2_with fail
 go_ret
 exact⟨rfl,QueueAt.wide (QueueAt.framed _ _ _ w w1 V hQ' fun b hb=>(hga.trans hg).block b (hV b hb)) (fun _ => .inl),Just.of_grow (hga.trans hg)⟩
theorem Add_c (w:World) (g:Nat) (l:List Ab) (last seq:Int) (A:Option Addr) (m c:Nat) (h1:¬ seq<1) (h2:¬ seq≤last) (h3:m≤0) :
 Turns Tryz.prog 222 #[.pointer (some ⟨g,0,none⟩),.agg #[.int .i64 seq,.slice A m c]] (fun e=>e=.returned (.int .i64 1)) (QueueAt g l last) (QueueAt g l last) w:=by
 intro V hQ hV
 have hQ':=hQ
 obtain⟨h1,v,q,R,D,hql,h3,hB,hRow,h6,h7,h8⟩:=hQ
 obtain⟨A0,c0,rfl,hI,hnc,hm0⟩:=hRow.in_
 have hga:Grow w (w.alloc (.cells #[.int .i64 seq,.slice A m c] 159)):=(Below.refl w.heap.size w).alloc (Nat.le_refl _) _
 have hBx0:=Blk.made w 159 #[.int .i64 seq,.slice A m c]
 obtain⟨x,HX⟩:∃ x:Nat,Hid (x=w.heap.size):=⟨_,rfl⟩
 obtain⟨wa,HA⟩:∃ wa:World,Hid (wa=w.alloc (.cells #[.int .i64 seq,.slice A m c] 159)):=⟨_,rfl⟩
 have hsa:wa.heap.size=x+1:=by rw[HA.out,HX.out];simp
 have HSA:=Lib.hid hsa
 clear hsa
 rw[←HA.out] at hga
 have hBx:Blk wa x 159 #[.int .i64 seq,.slice A m c]:=by rw[HA.out,HX.out];exact hBx0
 clear hBx0
 have hBq:=hB.grow hga
 go_enter Tryz.func222,Tryz.ntmps222
 go_wp2_with fail
 rw[←HA.out,←HX.out]
 refine wp_region_flow 25 53 [] rfl rfl (by kernel_rfl) (by kernel_rfl) (by kernel_rfl) ?_ ?_
 ·intro x hx φ he
  cases hx
 intro ops' A' K' T hops hA' hK hT
 refine fl_op1G 6 (.tmp 3) (.pointer (some ⟨x,0,none⟩)) (.pointer (some ⟨x,0,none⟩)) ?_
 refine fl_op1N 7 (.tmp 6) (.pointer (some ⟨x,0,none⟩)) (.int .i64 seq) (fun ρ h1 kk w1 (hg:Grow _ w1) hb hf=>by have c:=(hBx.grow hg).cell 0;go_simp) ?_
 refine fl_op2N 8 (.tmp 7) (.const (.int .i64 1)) (.int .i64 seq) (.int .i64 1) (.bool false) (fun ρ h1 h2 kk w1 (hg:Grow _ w1) hb hf=>by first|(go_simp;done)|(go_simp;omega)) ?_
 refine fl_mvN 9 (.bool false) ?_
 refine fl_op1W 10 (wif hops 3 false 9 false) (.tmp 3) (.pointer (some ⟨x,0,none⟩)) (.pointer (some ⟨x,0,none⟩)) (fun ρ h1 kk w1 (hg:Grow _ w1) hb hf=>by go_simp) ?_
 refine fl_op1W 11 (wif hops 3 false 9 false) (.tmp 10) (.pointer (some ⟨x,0,none⟩)) (.int .i64 seq) (fun ρ h1 kk w1 (hg:Grow _ w1) hb hf=>by have c:=(hBx.grow hg).cell 0;go_simp) ?_
 refine fl_mvW 12 (wif hops 3 false 9 false) (.pointer (some ⟨g,0,none⟩)) ?_
 refine fl_op1W 13 (wif hops 3 false 9 false) (.tmp 12) (.pointer (some ⟨g,0,none⟩)) (.pointer (some ⟨g,0,none⟩)) (fun ρ h1 kk w1 (hg:Grow _ w1) hb hf=>by go_simp) ?_
 refine fl_op1W 14 (wif hops 3 false 9 false) (.tmp 13) (.pointer (some ⟨g,0,none⟩)) (.pointer (some ⟨g,1,none⟩)) (fun ρ h1 kk w1 (hg:Grow _ w1) hb hf=>by go_simp) ?_
 refine fl_op1W 15 (wif hops 3 false 9 false) (.tmp 14) (.pointer (some ⟨g,1,none⟩)) (.int .i64 last) (fun ρ h1 kk w1 (hg:Grow _ w1) hb hf=>by have c:=(hBq.grow hg).cell 1;go_simp) ?_
 refine fl_op2W 16 (wif hops 3 false 9 false) (.tmp 11) (.tmp 15) (.int .i64 seq) (.int .i64 last) (.bool false) (fun ρ h1 h2 kk w1 (hg:Grow _ w1) hb hf=>by first|(go_simp;done)|(go_simp;omega)) ?_
 refine fl_pickN 17 false (.bool false) ?_
 refine fl_mvN 18 (.bool false) ?_
 refine fl_op1W 19 (wif hops 12 false 18 false) (.tmp 3) (.pointer (some ⟨x,0,none⟩)) (.pointer (some ⟨x,1,none⟩)) (fun ρ h1 kk w1 (hg:Grow _ w1) hb hf=>by go_simp) ?_
 refine fl_op1W 20 (wif hops 12 false 18 false) (.tmp 19) (.pointer (some ⟨x,1,none⟩)) (.slice A m c) (fun ρ h1 kk w1 (hg:Grow _ w1) hb hf=>by have c:=(hBx.grow hg).cell 1;go_simp) ?_
 refine fl_op1W 21 (wif hops 12 false 18 false) (.tmp 20) (.slice A m c) (.int .i64 (m:Int)) (fun ρ h1 kk w1 (hg:Grow _ w1) hb hf=>by go_simp) ?_
 refine fl_op2W 22 (wif hops 12 false 18 false) (.tmp 21) (.const (.int .i64 0)) (.int .i64 (m:Int)) (.int .i64 0) (.bool true) (fun ρ h1 h2 kk w1 (hg:Grow _ w1) hb hf=>by first|(go_simp;done)|(go_simp;omega)) ?_
 refine fl_pickN 23 false (.bool true) ?_
 refine fl_mvN 24 (.bool true) ?_
 refine fl_skipW 25 (wif hops 18 false 24 true) ?_
 refine fl_skipW 26 (wif hops 18 false 24 true) ?_
 refine fl_skipW 27 (wif hops 18 false 24 true) ?_
 refine fl_skipW 28 (wif hops 18 false 24 true) ?_
 refine fl_pickN 29 true (.bool true) ?_
 refine fl_mvN 5 (.bool true) ?_
 refine fl_end (fun _ _ w1 (hg:Grow _ w1) _ hfacts=>hT _ _ ?_)
 clear hops hA' hK hT
 simp only[putsL,Act.put,List.setIfInBounds_toArray,List.set_cons_zero,List.set_cons_succ,List.drop_succ_cons,List.drop_zero]
 go_wp2_with fail
 go_ret
 exact⟨rfl,QueueAt.wide (QueueAt.framed _ _ _ w w1 V hQ' fun b hb=>(hga.trans hg).block b (hV b hb)) (fun _ => .inl),Just.of_grow (hga.trans hg)⟩
theorem Add_d (w:World) (g:Nat) (l:List Ab) (last seq:Int) (A:Option Addr) (m c:Nat) (h1:¬ seq<1) (h2:¬ seq≤last) (h3:8<m) :
 Turns Tryz.prog 222 #[.pointer (some ⟨g,0,none⟩),.agg #[.int .i64 seq,.slice A m c]] (fun e=>e=.returned (.int .i64 1)) (QueueAt g l last) (QueueAt g l last) w:=by
 intro V hQ hV
 have hQ':=hQ
 obtain⟨h1,v,q,R,D,hql,h3,hB,hRow,h6,h7,h8⟩:=hQ
 obtain⟨A0,c0,rfl,hI,hnc,hm0⟩:=hRow.in_
 have hga:Grow w (w.alloc (.cells #[.int .i64 seq,.slice A m c] 159)):=(Below.refl w.heap.size w).alloc (Nat.le_refl _) _
 have hBx0:=Blk.made w 159 #[.int .i64 seq,.slice A m c]
 obtain⟨x,HX⟩:∃ x:Nat,Hid (x=w.heap.size):=⟨_,rfl⟩
 obtain⟨wa,HA⟩:∃ wa:World,Hid (wa=w.alloc (.cells #[.int .i64 seq,.slice A m c] 159)):=⟨_,rfl⟩
 have hsa:wa.heap.size=x+1:=by rw[HA.out,HX.out];simp
 have HSA:=Lib.hid hsa
 clear hsa
 rw[←HA.out] at hga
 have hBx:Blk wa x 159 #[.int .i64 seq,.slice A m c]:=by rw[HA.out,HX.out];exact hBx0
 clear hBx0
 have hBq:=hB.grow hga
 go_enter Tryz.func222,Tryz.ntmps222
 go_wp2_with fail
 rw[←HA.out,←HX.out]
 refine wp_region_flow 25 53 [] rfl rfl (by kernel_rfl) (by kernel_rfl) (by kernel_rfl) ?_ ?_
 ·intro x hx φ he
  cases hx
 intro ops' A' K' T hops hA' hK hT
 refine fl_op1G 6 (.tmp 3) (.pointer (some ⟨x,0,none⟩)) (.pointer (some ⟨x,0,none⟩)) ?_
 refine fl_op1N 7 (.tmp 6) (.pointer (some ⟨x,0,none⟩)) (.int .i64 seq) (fun ρ h1 kk w1 (hg:Grow _ w1) hb hf=>by have c:=(hBx.grow hg).cell 0;go_simp) ?_
 refine fl_op2N 8 (.tmp 7) (.const (.int .i64 1)) (.int .i64 seq) (.int .i64 1) (.bool false) (fun ρ h1 h2 kk w1 (hg:Grow _ w1) hb hf=>by first|(go_simp;done)|(go_simp;omega)) ?_
 refine fl_mvN 9 (.bool false) ?_
 refine fl_op1W 10 (wif hops 3 false 9 false) (.tmp 3) (.pointer (some ⟨x,0,none⟩)) (.pointer (some ⟨x,0,none⟩)) (fun ρ h1 kk w1 (hg:Grow _ w1) hb hf=>by go_simp) ?_
 refine fl_op1W 11 (wif hops 3 false 9 false) (.tmp 10) (.pointer (some ⟨x,0,none⟩)) (.int .i64 seq) (fun ρ h1 kk w1 (hg:Grow _ w1) hb hf=>by have c:=(hBx.grow hg).cell 0;go_simp) ?_
 refine fl_mvW 12 (wif hops 3 false 9 false) (.pointer (some ⟨g,0,none⟩)) ?_
 refine fl_op1W 13 (wif hops 3 false 9 false) (.tmp 12) (.pointer (some ⟨g,0,none⟩)) (.pointer (some ⟨g,0,none⟩)) (fun ρ h1 kk w1 (hg:Grow _ w1) hb hf=>by go_simp) ?_
 refine fl_op1W 14 (wif hops 3 false 9 false) (.tmp 13) (.pointer (some ⟨g,0,none⟩)) (.pointer (some ⟨g,1,none⟩)) (fun ρ h1 kk w1 (hg:Grow _ w1) hb hf=>by go_simp) ?_
 refine fl_op1W 15 (wif hops 3 false 9 false) (.tmp 14) (.pointer (some ⟨g,1,none⟩)) (.int .i64 last) (fun ρ h1 kk w1 (hg:Grow _ w1) hb hf=>by have c:=(hBq.grow hg).cell 1;go_simp) ?_
 refine fl_op2W 16 (wif hops 3 false 9 false) (.tmp 11) (.tmp 15) (.int .i64 seq) (.int .i64 last) (.bool false) (fun ρ h1 h2 kk w1 (hg:Grow _ w1) hb hf=>by first|(go_simp;done)|(go_simp;omega)) ?_
 refine fl_pickN 17 false (.bool false) ?_
 refine fl_mvN 18 (.bool false) ?_
 refine fl_op1W 19 (wif hops 12 false 18 false) (.tmp 3) (.pointer (some ⟨x,0,none⟩)) (.pointer (some ⟨x,1,none⟩)) (fun ρ h1 kk w1 (hg:Grow _ w1) hb hf=>by go_simp) ?_
 refine fl_op1W 20 (wif hops 12 false 18 false) (.tmp 19) (.pointer (some ⟨x,1,none⟩)) (.slice A m c) (fun ρ h1 kk w1 (hg:Grow _ w1) hb hf=>by have c:=(hBx.grow hg).cell 1;go_simp) ?_
 refine fl_op1W 21 (wif hops 12 false 18 false) (.tmp 20) (.slice A m c) (.int .i64 (m:Int)) (fun ρ h1 kk w1 (hg:Grow _ w1) hb hf=>by go_simp) ?_
 refine fl_op2W 22 (wif hops 12 false 18 false) (.tmp 21) (.const (.int .i64 0)) (.int .i64 (m:Int)) (.int .i64 0) (.bool false) (fun ρ h1 h2 kk w1 (hg:Grow _ w1) hb hf=>by first|(go_simp;done)|(go_simp;omega)) ?_
 refine fl_pickN 23 false (.bool false) ?_
 refine fl_mvN 24 (.bool false) ?_
 refine fl_op1W 25 (wif hops 18 false 24 false) (.tmp 3) (.pointer (some ⟨x,0,none⟩)) (.pointer (some ⟨x,1,none⟩)) (fun ρ h1 kk w1 (hg:Grow _ w1) hb hf=>by go_simp) ?_
 refine fl_op1W 26 (wif hops 18 false 24 false) (.tmp 25) (.pointer (some ⟨x,1,none⟩)) (.slice A m c) (fun ρ h1 kk w1 (hg:Grow _ w1) hb hf=>by have c:=(hBx.grow hg).cell 1;go_simp) ?_
 refine fl_op1W 27 (wif hops 18 false 24 false) (.tmp 26) (.slice A m c) (.int .i64 (m:Int)) (fun ρ h1 kk w1 (hg:Grow _ w1) hb hf=>by go_simp) ?_
 refine fl_op2W 28 (wif hops 18 false 24 false) (.tmp 27) (.const (.int .i64 8)) (.int .i64 (m:Int)) (.int .i64 8) (.bool true) (fun ρ h1 h2 kk w1 (hg:Grow _ w1) hb hf=>by first|(go_simp;done)|(go_simp;omega)) ?_
 refine fl_pickN 29 false (.bool true) ?_
 refine fl_mvN 5 (.bool true) ?_
 refine fl_end (fun _ _ w1 (hg:Grow _ w1) _ hfacts=>hT _ _ ?_)
 clear hops hA' hK hT
 simp only[putsL,Act.put,List.setIfInBounds_toArray,List.set_cons_zero,List.set_cons_succ,List.drop_succ_cons,List.drop_zero]
 go_wp2_with fail
 go_ret
 exact⟨rfl,QueueAt.wide (QueueAt.framed _ _ _ w w1 V hQ' fun b hb=>(hga.trans hg).block b (hV b hb)) (fun _ => .inl),Just.of_grow (hga.trans hg)⟩
theorem Add_full (w:World) (g:Nat) (l:List Ab) (last seq:Int) (A:Option Addr) (m c:Nat) (ha:¬ seq<1) (hb:¬ seq≤last) (hc:0<m) (hd:m≤8) (hl:l.length=16) :
 Turns Tryz.prog 222 #[.pointer (some ⟨g,0,none⟩),.agg #[.int .i64 seq,.slice A m c]] (fun e=>e=.returned (.int .i64 24)) (QueueAt g l last) (QueueAt g l last) w:=by
 intro V hQ hV
 have hQ':=hQ
 obtain⟨h1,v,q,R,D,hql,h3,hB,hRow,h6,h7,h8⟩:=hQ
 obtain⟨A0,c0,rfl,hI,hnc,hm0⟩:=hRow.in_
 have hga:Grow w (w.alloc (.cells #[.int .i64 seq,.slice A m c] 159)):=(Below.refl w.heap.size w).alloc (Nat.le_refl _) _
 have hBx0:=Blk.made w 159 #[.int .i64 seq,.slice A m c]
 obtain⟨x,HX⟩:∃ x:Nat,Hid (x=w.heap.size):=⟨_,rfl⟩
 obtain⟨wa,HA⟩:∃ wa:World,Hid (wa=w.alloc (.cells #[.int .i64 seq,.slice A m c] 159)):=⟨_,rfl⟩
 have hsa:wa.heap.size=x+1:=by rw[HA.out,HX.out];simp
 have HSA:=Lib.hid hsa
 clear hsa
 rw[←HA.out] at hga
 have hBx:Blk wa x 159 #[.int .i64 seq,.slice A m c]:=by rw[HA.out,HX.out];exact hBx0
 clear hBx0
 have hBq:=hB.grow hga
 have hq16:q.length=16:=by rw[←hl,←hql,List.length_map]
 have hq17:=Nat.le_of_eq hq16.symm
 clear hq16 hql hl
 go_enter Tryz.func222,Tryz.ntmps222
 go_wp2_with fail
 rw[←HA.out,←HX.out]
 refine wp_region_flow 25 53 [] rfl rfl (by kernel_rfl) (by kernel_rfl) (by kernel_rfl) ?_ ?_
 ·intro x hx φ he
  cases hx
 intro ops' A' K' T hops hA' hK hT
 refine fl_op1G 6 (.tmp 3) (.pointer (some ⟨x,0,none⟩)) (.pointer (some ⟨x,0,none⟩)) ?_
 refine fl_op1N 7 (.tmp 6) (.pointer (some ⟨x,0,none⟩)) (.int .i64 seq) (fun ρ h1 kk w1 (hg:Grow _ w1) hb hf=>by have c:=(hBx.grow hg).cell 0;go_simp) ?_
 refine fl_op2N 8 (.tmp 7) (.const (.int .i64 1)) (.int .i64 seq) (.int .i64 1) (.bool false) (fun ρ h1 h2 kk w1 (hg:Grow _ w1) hb hf=>by first|(go_simp;done)|(go_simp;omega)) ?_
 refine fl_mvN 9 (.bool false) ?_
 refine fl_op1W 10 (wif hops 3 false 9 false) (.tmp 3) (.pointer (some ⟨x,0,none⟩)) (.pointer (some ⟨x,0,none⟩)) (fun ρ h1 kk w1 (hg:Grow _ w1) hb hf=>by go_simp) ?_
 refine fl_op1W 11 (wif hops 3 false 9 false) (.tmp 10) (.pointer (some ⟨x,0,none⟩)) (.int .i64 seq) (fun ρ h1 kk w1 (hg:Grow _ w1) hb hf=>by have c:=(hBx.grow hg).cell 0;go_simp) ?_
 refine fl_mvW 12 (wif hops 3 false 9 false) (.pointer (some ⟨g,0,none⟩)) ?_
 refine fl_op1W 13 (wif hops 3 false 9 false) (.tmp 12) (.pointer (some ⟨g,0,none⟩)) (.pointer (some ⟨g,0,none⟩)) (fun ρ h1 kk w1 (hg:Grow _ w1) hb hf=>by go_simp) ?_
 refine fl_op1W 14 (wif hops 3 false 9 false) (.tmp 13) (.pointer (some ⟨g,0,none⟩)) (.pointer (some ⟨g,1,none⟩)) (fun ρ h1 kk w1 (hg:Grow _ w1) hb hf=>by go_simp) ?_
 refine fl_op1W 15 (wif hops 3 false 9 false) (.tmp 14) (.pointer (some ⟨g,1,none⟩)) (.int .i64 last) (fun ρ h1 kk w1 (hg:Grow _ w1) hb hf=>by have c:=(hBq.grow hg).cell 1;go_simp) ?_
 refine fl_op2W 16 (wif hops 3 false 9 false) (.tmp 11) (.tmp 15) (.int .i64 seq) (.int .i64 last) (.bool false) (fun ρ h1 h2 kk w1 (hg:Grow _ w1) hb hf=>by first|(go_simp;done)|(go_simp;omega)) ?_
 refine fl_pickN 17 false (.bool false) ?_
 refine fl_mvN 18 (.bool false) ?_
 refine fl_op1W 19 (wif hops 12 false 18 false) (.tmp 3) (.pointer (some ⟨x,0,none⟩)) (.pointer (some ⟨x,1,none⟩)) (fun ρ h1 kk w1 (hg:Grow _ w1) hb hf=>by go_simp) ?_
 refine fl_op1W 20 (wif hops 12 false 18 false) (.tmp 19) (.pointer (some ⟨x,1,none⟩)) (.slice A m c) (fun ρ h1 kk w1 (hg:Grow _ w1) hb hf=>by have c:=(hBx.grow hg).cell 1;go_simp) ?_
 refine fl_op1W 21 (wif hops 12 false 18 false) (.tmp 20) (.slice A m c) (.int .i64 (m:Int)) (fun ρ h1 kk w1 (hg:Grow _ w1) hb hf=>by go_simp) ?_
 refine fl_op2W 22 (wif hops 12 false 18 false) (.tmp 21) (.const (.int .i64 0)) (.int .i64 (m:Int)) (.int .i64 0) (.bool false) (fun ρ h1 h2 kk w1 (hg:Grow _ w1) hb hf=>by first|(go_simp;done)|(go_simp;omega)) ?_
 refine fl_pickN 23 false (.bool false) ?_
 refine fl_mvN 24 (.bool false) ?_
 refine fl_op1W 25 (wif hops 18 false 24 false) (.tmp 3) (.pointer (some ⟨x,0,none⟩)) (.pointer (some ⟨x,1,none⟩)) (fun ρ h1 kk w1 (hg:Grow _ w1) hb hf=>by go_simp) ?_
 refine fl_op1W 26 (wif hops 18 false 24 false) (.tmp 25) (.pointer (some ⟨x,1,none⟩)) (.slice A m c) (fun ρ h1 kk w1 (hg:Grow _ w1) hb hf=>by have c:=(hBx.grow hg).cell 1;go_simp) ?_
 refine fl_op1W 27 (wif hops 18 false 24 false) (.tmp 26) (.slice A m c) (.int .i64 (m:Int)) (fun ρ h1 kk w1 (hg:Grow _ w1) hb hf=>by go_simp) ?_
 refine fl_op2W 28 (wif hops 18 false 24 false) (.tmp 27) (.const (.int .i64 8)) (.int .i64 (m:Int)) (.int .i64 8) (.bool false) (fun ρ h1 h2 kk w1 (hg:Grow _ w1) hb hf=>by first|(go_simp;done)|(go_simp;omega)) ?_
 refine fl_pickN 29 false (.bool false) ?_
 refine fl_mvN 5 (.bool false) ?_
 refine fl_end (fun _ _ w1 (hg:Grow _ w1) _ hfacts=>hT _ _ ?_)
 clear hops hA' hK hT
 simp only[putsL,Act.put,List.setIfInBounds_toArray,List.set_cons_zero,List.set_cons_succ,List.drop_succ_cons,List.drop_zero]
 have c00:=(hBq.grow hg).cell 0
 go_wp2_with fail
 go_ret
 exact⟨rfl,QueueAt.wide (QueueAt.framed _ _ _ w w1 V hQ' fun b hb=>(hga.trans hg).block b (hV b hb)) (fun _ => .inl),Just.of_grow (hga.trans hg)⟩
end Go.Proofs.YtmijcbfgfkeodaaGreatDoor.Q
end
