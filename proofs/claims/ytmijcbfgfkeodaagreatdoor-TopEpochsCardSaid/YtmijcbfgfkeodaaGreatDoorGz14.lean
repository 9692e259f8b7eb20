/- Qadd1, Qadd2. -/
import Derived.Test.YtmijcbfgfkeodaaGreatDoorGz13
set_option linter.all false
set_option maxRecDepth 100000
section
namespace Go.Proofs.YtmijcbfgfkeodaaGreatDoor.Q
open Go.RowKit Go.Hop
theorem Add_a (w:World) (g:Nat) (l:List Ab) (last seq:Int) (A:Option Addr) (m c:Nat) (h1:seq<1) :
 Turns Tryz.prog 222 #[.pointer (some ⟨g,0,none⟩),.agg #[.int .i64 seq,.slice A m c]] (fun e=>e=.returned (.int .i64 1)) (QueueAt g l last) (QueueAt g l last) w:=by
 intro V hQ hV
 have hQ':=hQ
 obtain⟨h1,v,q,R,D,hql,h3,hB,hRow,h6,h7,h8⟩:=hQ
 obtain⟨A0,c0,rfl,hI,hnc,hm0⟩:=hRow.in_
 have hga:Grow w (w.alloc (.cells #[.int .i64 seq,.slice A m c] 159)):=(Below.refl w.heap.size w).alloc (Nat.le_refl _) _
 have hBx0:=Blk.made w 159 #[.int .i64 seq,.slice A m c]
 obtain⟨x,HX⟩:∃ x:Nat,Hid (x=w.heap.size):=⟨_,rfl⟩
 obtain⟨wa,HA⟩:∃ wa:World,Hid (wa=w.alloc (.cells #[.int .i64 seq,.slice A m c] 159)):=⟨_,rfl⟩
 have hsa:wa.heap.size=x+1:=by rw[HA.out,HX.out];simp
 have HSA:=Lib.hid hsa
 clear hsa
 rw[←HA.out] at hga
 have hBx:Blk wa x 159 #[.int .i64 seq,.slice A m c]:=by rw[HA.out,HX.out];exact hBx0
 clear hBx0
 have hBq:=hB.grow hga
 go_enter Tryz.func222,Tryz.ntmps222
 go_wp2_with fail
 rw[←HA.out,←HX.out]
 refine wp_region_flow 25 53 [] rfl rfl (by kernel_rfl) (by kernel_rfl) (by kernel_rfl) ?_ ?_
 ·intro x hx φ he
  cases hx
 intro ops' A' K' T hops hA' hK hT
 refine fl_op1G 6 (.tmp 3) (.pointer (some ⟨x,0,none⟩)) (.pointer (some ⟨x,0,none⟩)) ?_
 refine fl_op1N 7 (.tmp 6) (.pointer (some ⟨x,0,none⟩)) (.int .i64 seq) (fun ρ h1 kk w1 (hg:Grow _ w1) hb hf=>by have c:=(hBx.grow hg).cell 0;go_simp) ?_
 refine fl_op2N 8 (.tmp 7) (.const (.int .i64 1)) (.int .i64 seq) (.int .i64 1) (.bool true) (fun ρ h1 h2 kk w1 (hg:Grow _ w1) hb hf=>by first|(go_simp;done)|(go_simp;omega)) ?_
 refine fl_mvN 9 (.bool true) ?_
 refine fl_skipW 10 (wif hops 3 false 9 true) ?_
 refine fl_skipW 11 (wif hops 3 false 9 true) ?_
 refine fl_skipW 12 (wif hops 3 false 9 true) ?_
 refine fl_skipW 13 (wif hops 3 false 9 true) ?_
 refine fl_skipW 14 (wif hops 3 false 9 true) ?_
 refine fl_skipW 15 (wif hops 3 false 9 true) ?_
 refine fl_skipW 16 (wif hops 3 false 9 true) ?_
 refine fl_pickN 17 true (.bool true) ?_
 refine fl_mvN 18 (.bool true) ?_
 refine fl_skipW 19 (wif hops 12 false 18 true) ?_
 refine fl_skipW 20 (wif hops 12 false 18 true) ?_
 refine fl_skipW 21 (wif hops 12 false 18 true) ?_
 refine fl_skipW 22 (wif hops 12 false 18 true) ?_
 refine fl_pickN 23 true (.bool true) ?_
 refine fl_mvN 24 (.bool true) ?_
 refine fl_skipW 25 (wif hops 18 false 24 true) ?_
 refine fl_skipW 26 (wif hops 18 false 24 true) ?_
 refine fl_skipW 27 (wif hops 18 false 24 true) ?_
 refine fl_skipW 28 (wif hops 18 false 24 true) ?_
 refine fl_pickN 29 true (.bool true) ?_
 refine fl_mvN 5 (.bool true) ?_
 refine fl_end (fun _ _ w1 (hg:Grow _ w1) _ hfacts=>hT _ _ ?_)
 clear hops hA' hK hT
 simp only[putsL,Act.put,List.setIfInBounds_toArray,List.set_cons_zero,List.set_cons_succ,List.drop_succ_cons,List.drop_zero]
 go_wp2_with fail
 go_ret
 exact⟨rfl,QueueAt.wide (QueueAt.framed _ _ _ w w1 V hQ' fun b hb=>(hga.trans hg).block b (hV b hb)) (fun _ => .inl),Just.of_grow (hga.trans hg)⟩
theorem Add_b (w:World) (g:Nat) (l:List Ab) (last seq:Int) (A:Option Addr) (m c:Nat) (h1:¬ seq<1) (h2:seq≤last) :
 Turns Tryz.prog 222 #[.pointer (some ⟨g,0,none⟩),.agg #[.int .i64 seq,.slice A m c]] (fun e=>e=.returned (.int .i64 1)) (QueueAt g l last) (QueueAt g l last) w:=by
 intro V hQ hV
 have hQ':=hQ
 obtain⟨h1,v,q,R,D,hql,h3,hB,hRow,h6,h7,h8⟩:=hQ
 obtain⟨A0,c0,rfl,hI,hnc,hm0⟩:=hRow.in_
 have hga:Grow w (w.alloc (.cells #[.int .i64 seq,.slice A m c] 159)):=(Below.refl w.heap.size w).alloc (Nat.le_refl _) _
 have hBx0:=Blk.made w 159 #[.int .i64 seq,.slice A m c]
 obtain⟨x,HX⟩:∃ x:Nat,Hid (x=w.heap.size):=⟨_,rfl⟩
 obtain⟨wa,HA⟩:∃ wa:World,Hid (wa=w.alloc (.cells #[.int .i64 seq,.slice A m c] 159)):=⟨_,rfl⟩
 have hsa:wa.heap.size=x+1:=by rw[HA.out,HX.out];simp
 have HSA:=Lib.hid hsa
 clear hsa
 rw[←HA.out] at hga
 have hBx:Blk wa x 159 #[.int .i64 seq,.slice A m c]:=by rw[HA.out,HX.out];exact hBx0
 clear hBx0
 have hBq:=hB.grow hga
 go_enter Tryz.func222,Tryz.ntmps222
 go_wp2_with fail
 rw[←HA.out,←HX.out]
 refine wp_region_flow 25 53 [] rfl rfl (by kernel_rfl) (by kernel_rfl) (by kernel_rfl) ?_ ?_
 ·intro x hx φ he
  cases hx
 intro ops' A' K' T hops hA' hK hT
 refine fl_op1G 6 (.tmp 3) (.pointer (some ⟨x,0,none⟩)) (.pointer (some ⟨x,0,none⟩)) ?_
 refine fl_op1N 7 (.tmp 6) (.pointer (some ⟨x,0,none⟩)) (.int .i64 seq) (fun ρ h1 kk w1 (hg:Grow _ w1) hb hf=>by have c:=(hBx.grow hg).cell 0;go_simp) ?_
 refine fl_op2N 8 (.tmp 7) (.const (.int .i64 1)) (.int .i64 seq) (.int .i64 1) (.bool false) (fun ρ h1 h2 kk w1 (hg:Grow _ w1) hb hf=>by first|(go_simp;done)|(go_simp;omega)) ?_
 refine fl_mvN 9 (.bool false) ?_
 refine fl_op1W 10 (wif hops 3 false 9 false) (.tmp 3) (.pointer (some ⟨x,0,none⟩)) (.pointer (some ⟨x,0,none⟩)) (fun ρ h1 kk w1 (hg:Grow _ w1) hb hf=>by go_simp) ?_
 refine fl_op1W 11 (wif hops 3 false 9 false) (.tmp 10) (.pointer (some ⟨x,0,none⟩)) (.int .i64 seq) (fun ρ h1 kk w1 (hg:Grow _ w1) hb hf=>by have c:=(hBx.grow hg).cell 0;go_simp) ?_
 refine fl_mvW 12 (wif hops 3 false 9 false) (.pointer (some ⟨g,0,none⟩)) ?_
 refine fl_op1W 13 (wif hops 3 false 9 false) (.tmp 12) (.pointer (some ⟨g,0,none⟩)) (.pointer (some ⟨g,0,none⟩)) (fun ρ h1 kk w1 (hg:Grow _ w1) hb hf=>by go_simp) ?_
 refine fl_op1W 14 (wif hops 3 false 9 false) (.tmp 13) (.pointer (some ⟨g,0,none⟩)) (.pointer (some ⟨g,1,none⟩)) (fun ρ h1 kk w1 (hg:Grow _ w1) hb hf=>by go_simp) ?_
 refine fl_op1W 15 (wif hops 3 false 9 false) (.tmp 14) (.pointer (some ⟨g,1,none⟩)) (.int .i64 last) (fun ρ h1 kk w1 (hg:Grow _ w1) hb hf=>by have c:=(hBq.grow hg).cell 1;go_simp) ?_
 refine fl_op2W 16 (wif hops 3 false 9 false) (.tmp 11) (.tmp 15) (.int .i64 seq) (.int .i64 last) (.bool true) (fun ρ h1 h2 kk w1 (hg:Grow _ w1) hb hf=>by first|(go_simp;done)|(go_simp;omega)) ?_
 refine fl_pickN 17 false (.bool true) ?_
 refine fl_mvN 18 (.bool true) ?_
 refine fl_skipW 19 (wif hops 12 false 18 true) ?_
 refine fl_skipW 20 (wif hops 12 false 18 true) ?_
 refine fl_skipW 21 (wif hops 12 false 18 true) ?_
 refine fl_skipW 22 (wif hops 12 false 18 true) ?_
 refine fl_pickN 23 true (.bool true) ?_
 refine fl_mvN 24 (.bool true) ?_
 refine fl_skipW 25 (wif hops 18 false 24 true) ?_
 refine fl_skipW 26 (wif hops 18 false 24 true) ?_
 refine fl_skipW 27 (wif hops 18 false 24 true) ?_
 refine fl_skipW 28 (wif hops 18 false 24 true) ?_
 refine fl_pickN 29 true (.bool true) ?_
 refine fl_mvN 5 (.bool true) ?_
 refine fl_end (fun _ _ w1 (hg:Grow _ w1) _ hfacts=>hT _ _ ?_)
 clear hops hA' hK hT
 simp only[putsL,Act.put,List.setIfInBounds_toArray,List.set_cons_zero,List.set_cons_succ,List.drop_succ_cons,List.drop_zero]
 go_wp2_with fail
 go_ret
 exact⟨rfl,QueueAt.wide (QueueAt.framed _ _ _ w w1 V hQ' fun b hb=>(hga.trans hg).block b (hV b hb)) (fun _ => .inl),Just.of_grow (hga.trans hg)⟩
theorem Add_c (w:World) (g:Nat) (l:List Ab) (last seq:Int) (A:Option Addr) (m c:Nat) (h1:¬ seq<1) (h2:¬ seq≤last) (h3:m≤0) :
 Turns Tryz.prog 222 #[.pointer (some ⟨g,0,none⟩),.agg #[.int .i64 seq,.slice A m c]] (fun e=>e=.returned (.int .i64 1)) (QueueAt g l last) (QueueAt g l last) w:=by
 intro V hQ hV
 have hQ':=hQ
 obtain⟨h1,v,q,R,D,hql,h3,hB,hRow,h6,h7,h8⟩:=hQ
 obtain⟨A0,c0,rfl,hI,hnc,hm0⟩:=hRow.in_
 have hga:Grow w (w.alloc (.cells #[.int .i64 seq,.slice A m c] 159)):=(Below.refl w.heap.size w).alloc (Nat.le_refl _) _
 have hBx0:=Blk.made w 159 #[.int .i64 seq,.slice A m c]
 obtain⟨x,HX⟩:∃ x:Nat,Hid (x=w.heap.size):=⟨_,rfl⟩
 obtain⟨wa,HA⟩:∃ wa:World,Hid (wa=w.alloc (.cells #[.int .i64 seq,.slice A m c] 159)):=⟨_,rfl⟩
 have hsa:wa.heap.size=x+1:=by rw[HA.out,HX.out];simp
 have HSA:=Lib.hid hsa
 clear hsa
 rw[←HA.out] at hga
 have hBx:Blk wa x 159 #[.int .i64 seq,.slice A m c]:=by rw[HA.out,HX.out];exact hBx0
 clear hBx0
 have hBq:=hB.grow hga
 go_enter Tryz.func222,Tryz.ntmps222
 go_wp2_with fail
 rw[←HA.out,←HX.out]
 refine wp_region_flow 25 53 [] rfl rfl (by kernel_rfl) (by kernel_rfl) (by kernel_rfl) ?_ ?_
 ·intro x hx φ he
  cases hx
 intro ops' A' K' T hops hA' hK hT
 refine fl_op1G 6 (.tmp 3) (.pointer (some ⟨x,0,none⟩)) (.pointer (some ⟨x,0,none⟩)) ?_
 refine fl_op1N 7 (.tmp 6) (.pointer (some ⟨x,0,none⟩)) (.int .i64 seq) (fun ρ h1 kk w1 (hg:Grow _ w1) hb hf=>by have c:=(hBx.grow hg).cell 0;go_simp) ?_
 refine fl_op2N 8 (.tmp 7) (.const (.int .i64 1)) (.int .i64 seq) (.int .i64 1) (.bool false) (fun ρ h1 h2 kk w1 (hg:Grow _ w1) hb hf=>by first|(go_simp;done)|(go_simp;omega)) ?_
 refine fl_mvN 9 (.bool false) ?_
 refine fl_op1W 10 (wif hops 3 false 9 false) (.tmp 3) (.pointer (some ⟨x,0,none⟩)) (.pointer (some ⟨x,0,none⟩)) (fun ρ h1 kk w1 (hg:Grow _ w1) hb hf=>by go_simp) ?_
 refine fl_op1W 11 (wif hops 3 false 9 false) (.tmp 10) (.pointer (some ⟨x,0,none⟩)) (.int .i64 seq) (fun ρ h1 kk w1 (hg:Grow _ w1) hb hf=>by have c:=(hBx.grow hg).cell 0;go_simp) ?_
 refine fl_mvW 12 (wif hops 3 false 9 false) (.pointer (some ⟨g,0,none⟩)) ?_
 refine fl_op1W 13 (wif hops 3 false 9 false) (.tmp 12) (.pointer (some ⟨g,0,none⟩)) (.pointer (some ⟨g,0,none⟩)) (fun ρ h1 kk w1 (hg:Grow _ w1) hb hf=>by go_simp) ?_
 refine fl_op1W 14 (wif hops 3 false 9 false) (.tmp 13) (.pointer (some ⟨g,0,none⟩)) (.pointer (some ⟨g,1,none⟩)) (fun ρ h1 kk w1 (hg:Grow _ w1) hb hf=>by go_simp) ?_
 refine fl_op1W 15 (wif hops 3 false 9 false) (.tmp 14) (.pointer (some ⟨g,1,none⟩)) (.int .i64 last) (fun ρ h1 kk w1 (hg:Grow _ w1) hb hf=>by have c:=(hBq.grow hg).cell 1;go_simp) ?_
 refine fl_op2W 16 (wif hops 3 false 9 false) (.tmp 11) (.tmp 15) (.int .i64 seq) (.int .i64 last) (.bool false) (fun ρ h1 h2 kk w1 (hg:Grow _ w1) hb hf=>by first|(go_simp;done)|(go_simp;omega)) ?_
 refine fl_pickN 17 false (.bool false) ?_
 refine fl_mvN 18 (.bool false) ?_
 refine fl_op1W 19 (wif hops 12 false 18 false) (.tmp 3) (.pointer (some ⟨x,0,none⟩)) (.pointer (some ⟨x,1,none⟩)) (fun ρ h1 kk w1 (hg:Grow _ w1) hb hf=>by go_simp) ?_
 refine fl_op1W 20 (wif hops 12 false 18 false) (.tmp 19) (.pointer (some ⟨x,1,none⟩)) (.slice A m c) (fun ρ h1 kk w1 (hg:Grow _ w1) hb hf=>by have c:=(hBx.grow hg).cell 1;go_simp) ?_
 refine fl_op1W 21 (wif hops 12 false 18 false) (.tmp 20) (.slice A m c) (.int .i64 (m:Int)) (fun ρ h1 kk w1 (hg:Grow _ w1) hb hf=>by go_simp) ?_
 refine fl_op2W 22 (wif hops 12 false 18 false) (.tmp 21) (.const (.int .i64 0)) (.int .i64 (m:Int)) (.int .i64 0) (.bool true) (fun ρ h1 h2 kk w1 (hg:Grow _ w1) hb hf=>by first|(go_simp;done)|(go_simp;omega)) ?_
 refine fl_pickN 23 false (.bool true) ?_
 refine fl_mvN 24 (.bool true) ?_
 refine fl_skipW 25 (wif hops 18 false 24 true) ?_
 refine fl_skipW 26 (wif hops 18 false 24 true) ?_
 refine fl_skipW 27 (wif hops 18 false 24 true) ?_
 refine fl_skipW 28 (wif hops 18 false 24 true) ?_
 refine fl_pickN 29 true (.bool true) ?_
 refine fl_mvN 5 (.bool true) ?_
 refine fl_end (fun _ _ w1 (hg:Grow _ w1) _ hfacts=>hT _ _ ?_)
 clear hops hA' hK hT
 simp only[putsL,Act.put,List.setIfInBounds_toArray,List.set_cons_zero,List.set_cons_succ,List.drop_succ_cons,List.drop_zero]
 go_wp2_with fail
 go_ret
 exact⟨rfl,QueueAt.wide (QueueAt.framed _ _ _ w w1 V hQ' fun b hb=>(hga.trans hg).block b (hV b hb)) (fun _ => .inl),Just.of_grow (hga.trans hg)⟩
theorem Add_d (w:World) (g:Nat) (l:List Ab) (last seq:Int) (A:Option Addr) (m c:Nat) (h1:¬ seq<1) (h2:¬ seq≤last) (h3:8<m) :
 Turns Tryz.prog 222 #[.pointer (some ⟨g,0,none⟩),.agg #[.int .i64 seq,.slice A m c]] (fun e=>e=.returned (.int .i64 1)) (QueueAt g l last) (QueueAt g l last) w:=by
 intro V hQ hV
 have hQ':=hQ
 obtain⟨h1,v,q,R,D,hql,h3,hB,hRow,h6,h7,h8⟩:=hQ
 obtain⟨A0,c0,rfl,hI,hnc,hm0⟩:=hRow.in_
 have hga:Grow w (w.alloc (.cells #[.int .i64 seq,.slice A m c] 159)):=(Below.refl w.heap.size w).alloc (Nat.le_refl _) _
 have hBx0:=Blk.made w 159 #[.int .i64 seq,.slice A m c]
 obtain⟨x,HX⟩:∃ x:Nat,Hid (x=w.heap.size):=⟨_,rfl⟩
 obtain⟨wa,HA⟩:∃ wa:World,Hid (wa=w.alloc (.cells #[.int .i64 seq,.slice A m c] 159)):=⟨_,rfl⟩
 have hsa:wa.heap.size=x+1:=by rw[HA.out,HX.out];simp
 have HSA:=Lib.hid hsa
 clear hsa
 rw[←HA.out] at hga
 have hBx:Blk wa x 159 #[.int .i64 seq,.slice A m c]:=by rw[HA.out,HX.out];exact hBx0
 clear hBx0
 have hBq:=hB.grow hga
 go_enter Tryz.func222,Tryz.ntmps222
 go_wp2_with fail
 rw[←HA.out,←HX.out]
 refine wp_region_flow 25 53 [] rfl rfl (by kernel_rfl) (by kernel_rfl) (by kernel_rfl) ?_ ?_
 ·intro x hx φ he
  cases hx
 intro ops' A' K' T hops hA' hK hT
 refine fl_op1G 6 (.tmp 3) (.pointer (some ⟨x,0,none⟩)) (.pointer (some ⟨x,0,none⟩)) ?_
 refine fl_op1N 7 (.tmp 6) (.pointer (some ⟨x,0,none⟩)) (.int .i64 seq) (fun ρ h1 kk w1 (hg:Grow _ w1) hb hf=>by have c:=(hBx.grow hg).cell 0;go_simp) ?_
 refine fl_op2N 8 (.tmp 7) (.const (.int .i64 1)) (.int .i64 seq) (.int .i64 1) (.bool false) (fun ρ h1 h2 kk w1 (hg:Grow _ w1) hb hf=>by first|(go_simp;done)|(go_simp;omega)) ?_
 refine fl_mvN 9 (.bool false) ?_
 refine fl_op1W 10 (wif hops 3 false 9 false) (.tmp 3) (.pointer (some ⟨x,0,none⟩)) (.pointer (some ⟨x,0,none⟩)) (fun ρ h1 kk w1 (hg:Grow _ w1) hb hf=>by go_simp) ?_
 refine fl_op1W 11 (wif hops 3 false 9 false) (.tmp 10) (.pointer (some ⟨x,0,none⟩)) (.int .i64 seq) (fun ρ h1 kk w1 (hg:Grow _ w1) hb hf=>by have c:=(hBx.grow hg).cell 0;go_simp) ?_
 refine fl_mvW 12 (wif hops 3 false 9 false) (.pointer (some ⟨g,0,none⟩)) ?_
 refine fl_op1W 13 (wif hops 3 false 9 false) (.tmp 12) (.pointer (some ⟨g,0,none⟩)) (.pointer (some ⟨g,0,none⟩)) (fun ρ h1 kk w1 (hg:Grow _ w1) hb hf=>by go_simp) ?_
 refine fl_op1W 14 (wif hops 3 false 9 false) (.tmp 13) (.pointer (some ⟨g,0,none⟩)) (.pointer (some ⟨g,1,none⟩)) (fun ρ h1 kk w1 (hg:Grow _ w1) hb hf=>by go_simp) ?_
 refine fl_op1W 15 (wif hops 3 false 9 false) (.tmp 14) (.pointer (some ⟨g,1,none⟩)) (.int .i64 last) (fun ρ h1 kk w1 (hg:Grow _ w1) hb hf=>by have c:=(hBq.grow hg).cell 1;go_simp) ?_
 refine fl_op2W 16 (wif hops 3 false 9 false) (.tmp 11) (.tmp 15) (.int .i64 seq) (.int .i64 last) (.bool false) (fun ρ h1 h2 kk w1 (hg:Grow _ w1) hb hf=>by first|(go_simp;done)|(go_simp;omega)) ?_
 refine fl_pickN 17 false (.bool false) ?_
 refine fl_mvN 18 (.bool false) ?_
 refine fl_op1W 19 (wif hops 12 false 18 false) (.tmp 3) (.pointer (some ⟨x,0,none⟩)) (.pointer (some ⟨x,1,none⟩)) (fun ρ h1 kk w1 (hg:Grow _ w1) hb hf=>by go_simp) ?_
 refine fl_op1W 20 (wif hops 12 false 18 false) (.tmp 19) (.pointer (some ⟨x,1,none⟩)) (.slice A m c) (fun ρ h1 kk w1 (hg:Grow _ w1) hb hf=>by have c:=(hBx.grow hg).cell 1;go_simp) ?_
 refine fl_op1W 21 (wif hops 12 false 18 false) (.tmp 20) (.slice A m c) (.int .i64 (m:Int)) (fun ρ h1 kk w1 (hg:Grow _ w1) hb hf=>by go_simp) ?_
 refine fl_op2W 22 (wif hops 12 false 18 false) (.tmp 21) (.const (.int .i64 0)) (.int .i64 (m:Int)) (.int .i64 0) (.bool false) (fun ρ h1 h2 kk w1 (hg:Grow _ w1) hb hf=>by first|(go_simp;done)|(go_simp;omega)) ?_
 refine fl_pickN 23 false (.bool false) ?_
 refine fl_mvN 24 (.bool false) ?_
 refine fl_op1W 25 (wif hops 18 false 24 false) (.tmp 3) (.pointer (some ⟨x,0,none⟩)) (.pointer (some ⟨x,1,none⟩)) (fun ρ h1 kk w1 (hg:Grow _ w1) hb hf=>by go_simp) ?_
 refine fl_op1W 26 (wif hops 18 false 24 false) (.tmp 25) (.pointer (some ⟨x,1,none⟩)) (.slice A m c) (fun ρ h1 kk w1 (hg:Grow _ w1) hb hf=>by have c:=(hBx.grow hg).cell 1;go_simp) ?_
 refine fl_op1W 27 (wif hops 18 false 24 false) (.tmp 26) (.slice A m c) (.int .i64 (m:Int)) (fun ρ h1 kk w1 (hg:Grow _ w1) hb hf=>by go_simp) ?_
 refine fl_op2W 28 (wif hops 18 false 24 false) (.tmp 27) (.const (.int .i64 8)) (.int .i64 (m:Int)) (.int .i64 8) (.bool true) (fun ρ h1 h2 kk w1 (hg:Grow _ w1) hb hf=>by first|(go_simp;done)|(go_simp;omega)) ?_
 refine fl_pickN 29 false (.bool true) ?_
 refine fl_mvN 5 (.bool true) ?_
 refine fl_end (fun _ _ w1 (hg:Grow _ w1) _ hfacts=>hT _ _ ?_)
 clear hops hA' hK hT
 simp only[putsL,Act.put,List.setIfInBounds_toArray,List.set_cons_zero,List.set_cons_succ,List.drop_succ_cons,List.drop_zero]
 go_wp2_with fail
 go_ret
 exact⟨rfl,QueueAt.wide (QueueAt.framed _ _ _ w w1 V hQ' fun b hb=>(hga.trans hg).block b (hV b hb)) (fun _ => .inl),Just.of_grow (hga.trans hg)⟩
theorem Add_full (w:World) (g:Nat) (l:List Ab) (last seq:Int) (A:Option Addr) (m c:Nat) (ha:¬ seq<1) (hb:¬ seq≤last) (hc:0<m) (hd:m≤8) (hl:l.length=16) :
 Turns Tryz.prog 222 #[.pointer (some ⟨g,0,none⟩),.agg #[.int .i64 seq,.slice A m c]] (fun e=>e=.returned (.int .i64 24)) (QueueAt g l last) (QueueAt g l last) w:=by
 intro V hQ hV
 have hQ':=hQ
 obtain⟨h1,v,q,R,D,hql,h3,hB,hRow,h6,h7,h8⟩:=hQ
 obtain⟨A0,c0,rfl,hI,hnc,hm0⟩:=hRow.in_
 have hga:Grow w (w.alloc (.cells #[.int .i64 seq,.slice A m c] 159)):=(Below.refl w.heap.size w).alloc (Nat.le_refl _) _
 have hBx0:=Blk.made w 159 #[.int .i64 seq,.slice A m c]
 obtain⟨x,HX⟩:∃ x:Nat,Hid (x=w.heap.size):=⟨_,rfl⟩
 obtain⟨wa,HA⟩:∃ wa:World,Hid (wa=w.alloc (.cells #[.int .i64 seq,.slice A m c] 159)):=⟨_,rfl⟩
 have hsa:wa.heap.size=x+1:=by rw[HA.out,HX.out];simp
 have HSA:=Lib.hid hsa
 clear hsa
 rw[←HA.out] at hga
 have hBx:Blk wa x 159 #[.int .i64 seq,.slice A m c]:=by rw[HA.out,HX.out];exact hBx0
 clear hBx0
 have hBq:=hB.grow hga
 have hq16:q.length=16:=by rw[←hl,←hql,List.length_map]
 have hq17:=Nat.le_of_eq hq16.symm
 clear hq16 hql hl
 go_enter Tryz.func222,Tryz.ntmps222
 go_wp2_with fail
 rw[←HA.out,←HX.out]
 refine wp_region_flow 25 53 [] rfl rfl (by kernel_rfl) (by kernel_rfl) (by kernel_rfl) ?_ ?_
 ·intro x hx φ he
  cases hx
 intro ops' A' K' T hops hA' hK hT
 refine fl_op1G 6 (.tmp 3) (.pointer (some ⟨x,0,none⟩)) (.pointer (some ⟨x,0,none⟩)) ?_
 refine fl_op1N 7 (.tmp 6) (.pointer (some ⟨x,0,none⟩)) (.int .i64 seq) (fun ρ h1 kk w1 (hg:Grow _ w1) hb hf=>by have c:=(hBx.grow hg).cell 0;go_simp) ?_
 refine fl_op2N 8 (.tmp 7) (.const (.int .i64 1)) (.int .i64 seq) (.int .i64 1) (.bool false) (fun ρ h1 h2 kk w1 (hg:Grow _ w1) hb hf=>by first|(go_simp;done)|(go_simp;omega)) ?_
 refine fl_mvN 9 (.bool false) ?_
 refine fl_op1W 10 (wif hops 3 false 9 false) (.tmp 3) (.pointer (some ⟨x,0,none⟩)) (.pointer (some ⟨x,0,none⟩)) (fun ρ h1 kk w1 (hg:Grow _ w1) hb hf=>by go_simp) ?_
 refine fl_op1W 11 (wif hops 3 false 9 false) (.tmp 10) (.pointer (some ⟨x,0,none⟩)) (.int .i64 seq) (fun ρ h1 kk w1 (hg:Grow _ w1) hb hf=>by have c:=(hBx.grow hg).cell 0;go_simp) ?_
 refine fl_mvW 12 (wif hops 3 false 9 false) (.pointer (some ⟨g,0,none⟩)) ?_
 refine fl_op1W 13 (wif hops 3 false 9 false) (.tmp 12) (.pointer (some ⟨g,0,none⟩)) (.pointer (some ⟨g,0,none⟩)) (fun ρ h1 kk w1 (hg:Grow _ w1) hb hf=>by go_simp) ?_
 refine fl_op1W 14 (wif hops 3 false 9 false) (.tmp 13) (.pointer (some ⟨g,0,none⟩)) (.pointer (some ⟨g,1,none⟩)) (fun ρ h1 kk w1 (hg:Grow _ w1) hb hf=>by go_simp) ?_
 refine fl_op1W 15 (wif hops 3 false 9 false) (.tmp 14) (.pointer (some ⟨g,1,none⟩)) (.int .i64 last) (fun ρ h1 kk w1 (hg:Grow _ w1) hb hf=>by have c:=(hBq.grow hg).cell 1;go_simp) ?_
 refine fl_op2W 16 (wif hops 3 false 9 false) (.tmp 11) (.tmp 15) (.int .i64 seq) (.int .i64 last) (.bool false) (fun ρ h1 h2 kk w1 (hg:Grow _ w1) hb hf=>by first|(go_simp;done)|(go_simp;omega)) ?_
 refine fl_pickN 17 false (.bool false) ?_
 refine fl_mvN 18 (.bool false) ?_
 refine fl_op1W 19 (wif hops 12 false 18 false) (.tmp 3) (.pointer (some ⟨x,0,none⟩)) (.pointer (some ⟨x,1,none⟩)) (fun ρ h1 kk w1 (hg:Grow _ w1) hb hf=>by go_simp) ?_
 refine fl_op1W 20 (wif hops 12 false 18 false) (.tmp 19) (.pointer (some ⟨x,1,none⟩)) (.slice A m c) (fun ρ h1 kk w1 (hg:Grow _ w1) hb hf=>by have c:=(hBx.grow hg).cell 1;go_simp) ?_
 refine fl_op1W 21 (wif hops 12 false 18 false) (.tmp 20) (.slice A m c) (.int .i64 (m:Int)) (fun ρ h1 kk w1 (hg:Grow _ w1) hb hf=>by go_simp) ?_
 refine fl_op2W 22 (wif hops 12 false 18 false) (.tmp 21) (.const (.int .i64 0)) (.int .i64 (m:Int)) (.int .i64 0) (.bool false) (fun ρ h1 h2 kk w1 (hg:Grow _ w1) hb hf=>by first|(go_simp;done)|(go_simp;omega)) ?_
 refine fl_pickN 23 false (.bool false) ?_
 refine fl_mvN 24 (.bool false) ?_
 refine fl_op1W 25 (wif hops 18 false 24 false) (.tmp 3) (.pointer (some ⟨x,0,none⟩)) (.pointer (some ⟨x,1,none⟩)) (fun ρ h1 kk w1 (hg:Grow _ w1) hb hf=>by go_simp) ?_
 refine fl_op1W 26 (wif hops 18 false 24 false) (.tmp 25) (.pointer (some ⟨x,1,none⟩)) (.slice A m c) (fun ρ h1 kk w1 (hg:Grow _ w1) hb hf=>by have c:=(hBx.grow hg).cell 1;go_simp) ?_
 refine fl_op1W 27 (wif hops 18 false 24 false) (.tmp 26) (.slice A m c) (.int .i64 (m:Int)) (fun ρ h1 kk w1 (hg:Grow _ w1) hb hf=>by go_simp) ?_
 refine fl_op2W 28 (wif hops 18 false 24 false) (.tmp 27) (.const (.int .i64 8)) (.int .i64 (m:Int)) (.int .i64 8) (.bool false) (fun ρ h1 h2 kk w1 (hg:Grow _ w1) hb hf=>by first|(go_simp;done)|(go_simp;omega)) ?_
 refine fl_pickN 29 false (.bool false) ?_
 refine fl_mvN 5 (.bool false) ?_
 refine fl_end (fun _ _ w1 (hg:Grow _ w1) _ hfacts=>hT _ _ ?_)
 clear hops hA' hK hT
 simp only[putsL,Act.put,List.setIfInBounds_toArray,List.set_cons_zero,List.set_cons_succ,List.drop_succ_cons,List.drop_zero]
 have c00:=(hBq.grow hg).cell 0
 go_wp2_with fail
 go_ret
 exact⟨rfl,QueueAt.wide (QueueAt.framed _ _ _ w w1 V hQ' fun b hb=>(hga.trans hg).block b (hV b hb)) (fun _ => .inl),Just.of_grow (hga.trans hg)⟩
def BatNew (B:Nat) (seq:Int) (ds:List Dl) (u:Value) (w:World):Prop:=
 ∃ (b:Bat) (H:Nat),b.seq=seq∧b.ds=ds∧u=.agg #[.int .i64 b.seq,.slice b.A b.m b.c]∧BatIn w (fun x=>B≤x∧x<H) b∧H≤w.heap.size
def RowNew (B:Nat) (seq:Int) (ds:List Dl) (u:Value) (w:World):Prop:=
 ∃ (b:Bat) (H:Nat) (A:Option Addr),b.seq=seq∧b.ds=ds∧u=.slice A 1 1∧In w (fun x=>B≤x) 2 A 1 b.cells∧BatIn w (fun x=>B≤x∧x<H) b∧H≤w.heap.size
def Fin (R:Nat→Prop) (B:Nat) (q:List Bat) (seq:Int) (ds:List Dl) (u:Value) (w:World):Prop:=
 ∃ (b:Bat) (R' D':Nat→Prop),b.seq=seq∧b.ds=ds∧Row w R' 159 2 u (q.length+1) ((q++[b]).flatMap Bat.cells)∧BatIn w D' b∧
   (∀ x,R' x→(R x∨B≤x)∧x<w.heap.size∧¬ D' x)∧(∀ x,D' x→B≤x∧x<w.heap.size)
def AddSt (R:Nat→Prop) (g B:Nat) (Z:Nat→Prop) (A:Option Addr) (m:Nat) (v:Value) (q:List Bat) (last seq:Int) (ds:List Dl):Stages where
 G:=Just fun b=>R b∨b=g
 T := fun k=>match k with
   | 0=>Just R
   | _=>Just fun b=>b=g
 I := fun k w=>match k with
   | 0=>Row w R 159 2 v q.length (q.flatMap Bat.cells)∧Blk w g 253 #[v,.int .i64 last]∧DIn w Z A m ds
   | 1=>Blk w g 253 #[v,.int .i64 last]
   | 2=>∃ u,Blk w g 253 #[u,.int .i64 last]∧Fin R B q seq ds u w
   | _=>∃ u,Blk w g 253 #[u,.int .i64 seq]∧Fin R B q seq ds u w
 muts:=[9,14,17]
 stage:=fun j=>if j=5 then some 0 else if j=7 then some 0 else if j=9 then some 0 else if j=14 then some 1 else if j=17 then some 2 else none
section
variable {R Z:Nat→Prop} {g B:Nat} {A:Option Addr} {m:Nat} {v:Value} {q:List Bat} {last seq:Int} {ds:List Dl}
theorem off_g (hgR:¬ R g) (hgB:g<B) {x:Nat} (h1:R x∨B≤x) (h2:x=g):False:=by
 rw[h2] at h1
 rcases h1 with h1|h1
 ·exact hgR h1
 ·omega
theorem Fin.just {U:Nat→Prop} {u:Value} {w w':World} (h:Fin R B q seq ds u w) (hj:Just U w w') (hd:∀ x,x<w.heap.size→(R x∨B≤x)→¬ U x):Fin R B q seq ds u w':=by
 obtain⟨b,R',D',h1,h2,h3,h4,h5,h6⟩:=h
 exact⟨b,R',D',h1,h2,h3.just hj fun x hx=>hd x (h5 x hx).2.1 (h5 x hx).1,h4.just hj fun x hx=>hd x (h6 x hx).2 (.inr (h6 x hx).1),fun x hx=>⟨(h5 x hx).1,Nat.lt_of_lt_of_le (h5 x hx).2.1 hj.size,(h5 x hx).2.2⟩,fun x hx=>⟨(h6 x hx).1,Nat.lt_of_lt_of_le (h6 x hx).2 hj.size⟩⟩
theorem Fin.grow {u:Value} {w w':World} (h:Fin R B q seq ds u w) (hg:Grow w w'):Fin R B q seq ds u w':=
 h.just (U:=fun _=>False) (Just.of_grow hg) fun _ _ _ h=>h
theorem addSt_ok (hRB:∀ x,R x→x<B) (hgR:¬ R g):(AddSt R g B Z A m v q last seq ds).Ok:=by
 refine⟨fun _ _ _=>Just.trans,fun _ _ h=>Just.of_grow h,fun k a b h=>?_,fun k a b h hg=>?_⟩
 ·rcases k with _|k
  ·exact Just.imp h fun _ => .inl
  ·exact Just.imp h fun _ => .inr
 ·rcases k with _|_|_|k
  ·exact⟨h.1.grow hg,Blk.grow h.2.1 hg,In.grow h.2.2 hg⟩
  ·exact Blk.grow h hg
  ·obtain⟨u,h1,h2⟩:=h;exact⟨u,Blk.grow h1 hg,h2.grow hg⟩
  ·obtain⟨u,h1,h2⟩:=h;exact⟨u,Blk.grow h1 hg,h2.grow hg⟩
def Past (B:Nat) (φ:Value→World→Prop):Prop:=∀ u w w',φ u w→Just (fun b=>b<B) w w'→φ u w'
theorem lasts_plain (hRB:∀ x,R x→x<B) (hgB:g<B) {φ:Value→World→Prop} (h:Past B φ):Lasts (AddSt R g B Z A m v q last seq ds) (fun _ u w=>φ u w):=fun k u w w' hu=>by
 refine⟨fun hg=>h u w w' hu (Just.of_grow hg),fun _ ht=>?_⟩
 rcases k with _|k
 ·exact h u w w' hu (Just.imp ht hRB)
 ·exact h u w w' hu (Just.imp ht fun b hb=>by rw[hb];exact hgB)
theorem batNew_lasts (B:Nat) (seq:Int) (ds:List Dl):Past B (BatNew B seq ds):=fun u w w' hu hj=>by
 obtain⟨b,H,h1,h2,h3,h4,h5⟩:=hu
 exact⟨b,H,h1,h2,h3,h4.just hj fun x hx=>by omega,Nat.le_trans h5 hj.size⟩
theorem rowNew_lasts (B:Nat) (seq:Int) (ds:List Dl):Past B (RowNew B seq ds):=fun u w w' hu hj=>by
 obtain⟨b,H,A,h1,h2,h3,h4,h5,h6⟩:=hu
 exact⟨b,H,A,h1,h2,h3,h4.just hj fun x hx=>by omega,h5.just hj fun x hx=>by omega,Nat.le_trans h6 hj.size⟩
theorem lasts_fin (hRB:∀ x,R x→x<B) (hgR:¬ R g) (hgB:g<B):Lasts (AddSt R g B Z A m v q last seq ds) (Once (fun u w=>Fin R B q seq ds u w)):=fun k u w w' hu=>by
 rcases k with _|k
 ·exact hu.elim
 ·exact⟨fun hg=>Fin.grow hu hg,fun _ ht=>Fin.just hu ht fun x _ h1 (h2:x=g)=>off_g hgR hgB h1 h2⟩
theorem own_new_bat {w:World} {b:Bat} {seq:Int} {ds:List Dl} {B:Nat} {args:Array Value} (hB:b.seq=seq∧b.ds=ds)
 (h:Calls Tryz.prog 226 args w fun e w'=>∃ A',e=.returned (.agg #[.int .i64 b.seq,.slice A' b.m b.m])∧BatIn w' (New w w') ⟨b.seq,A',b.m,b.m,b.ds⟩∧Grow w w') (hs:B≤w.heap.size) :
 Calls Tryz.prog 226 args w fun e w'=>∃ u,e=.returned u∧Grow w w'∧BatNew B seq ds u w':=by
 obtain⟨h2,h3⟩:=hB
 refine h.mono fun e w' ⟨A',he,hb1,hg⟩=>⟨_,he,hg,⟨⟨b.seq,A',b.m,b.m,b.ds⟩,w'.heap.size,h2,h3,rfl,hb1.mono fun x hx=>⟨Nat.le_trans hs hx.1,hx.2⟩,Nat.le_refl _⟩⟩
theorem row_new_made {w:World} {u:Value} {ρ:Operand→Value} {o:Oper} {x:Operand} (h:BatNew B seq ds u w) (hs:B≤w.heap.size) (h1:ρ x=u) (ho:o.op=.buildSlice 156 1 #[(0,x)]) :
 flowUpon Tryz.prog (fun v w'=>Grow w w'∧RowNew B seq ds v w') ((execOp ρ o).run Tryz.prog w):=by
 obtain⟨dst,op,ty,pos,after,guard⟩:=o
 simp only at ho
 subst ho
 obtain⟨b,H,e1,e2,rfl,hb,hH⟩:=h
 have hg:Grow w (w.alloc (.cells #[.int .i64 b.seq,.slice b.A b.m b.c] 159)):=(Below.refl _ w).alloc (Nat.le_refl _) _
 refine flowUpon_value (u := .slice (some ⟨w.heap.size,0,none⟩) 1 1) (w:=w.alloc (.cells #[.int .i64 b.seq,.slice b.A b.m b.c] 159)) (by go_simp) ⟨hg,b,H,some ⟨w.heap.size,0,none⟩,e1,e2,rfl,?_,hb.grow hg,Nat.le_trans hH hg.size⟩
 obtain⟨h3,h4⟩:=reads_laid w #[.int .i64 b.seq,.slice b.A b.m b.c] 159 (0,0) (n:=1) (size:=2) rfl _ rfl
 exact⟨h3,fun hn=>⟨_,rfl,hs,by simp,by obtain⟨ad,e,_,hc⟩:=h4 hn;injection e with e;rw[e];exact hc⟩⟩
theorem add_append {w:World} {u:Value} {ρ:Operand→Value} {o:Oper} {x y:Operand} {A0:Option Addr} {c0:Nat} (hRB:∀ x,R x→x<B) (hgR:¬ R g) (h:Row w R 159 2 (.slice A0 q.length c0) q.length (q.flatMap Bat.cells)) (hg:Blk w g 253 #[.slice A0 q.length c0,.int .i64 last]) (hq:q.length<16) (hu:RowNew B seq ds u w) (hBw:B≤w.heap.size)
 (h1:ρ x=.slice A0 q.length c0) (h2:ρ y=u) (ho:o.op=.call { callee := .builtin .append,args:=#[x,y],argTypes:=#[156,156] }) :
 flowUpon Tryz.prog (fun v w'=>Just R w w'∧Blk w' g 253 #[.slice A0 q.length c0,.int .i64 last]∧Fin R B q seq ds v w') ((execOp ρ o).run Tryz.prog w):=by
 obtain⟨b,H,A,e1,e2,rfl,hI,hb,hH⟩:=hu
 refine flow_append_row batchE ho h1 h h2 hI.reads (bat_one b) (by omega) fun v' w' hR hj=>⟨hj,hj.blk hg hgR,b,Ext R w w',fun x=>B≤x∧x<H,e1,e2,?_,hb.just hj fun x hx hr=>?_,fun x hx=>?_,fun x hx=>⟨hx.1,Nat.lt_of_lt_of_le hx.2 (Nat.le_trans hH hj.size)⟩⟩
 ·rw[List.flatMap_append,List.flatMap_cons,List.flatMap_nil,List.append_nil];exact hR
 ·have h3:B≤x:=hx.1;have:=hRB x hr;omega
 ·rcases hx with hx|hx
  ·have:=hRB x hx
   exact⟨.inl hx,by have:=hj.size;omega,fun hd=>by have h3:B≤x:=hd.1;omega⟩
  ·exact⟨.inr (by have:=hx.1;omega),hx.2,fun hd=>by have:=hx.1;have h3:x<H:=hd.2;omega⟩
theorem add_store1 {w:World} {u:Value} {ρ:Operand→Value} {o:Oper} {x y:Operand} (hgR:¬ R g) (hgB:g<B) (h:Blk w g 253 #[v,.int .i64 last]) (hu:Fin R B q seq ds u w)
 (h1:ρ x=.pointer (some ⟨g,0,none⟩)) (h2:ρ y=u) (ho:o.op=.store 156 x y) :
 flowUpon Tryz.prog (fun v w'=>v=undef∧Just (fun b=>b=g) w w'∧∃ u,Blk w' g 253 #[u,.int .i64 last]∧Fin R B q seq ds u w') ((execOp ρ o).run Tryz.prog w):=by
 obtain⟨dst,op,ty,pos,after,guard⟩:=o
 simp only at ho
 subst ho
 have hj:=just_at w g 0 u
 have hf:=hu.just hj fun x _ h1 (h2:x=g)=>off_g hgR hgB h1 h2
 obtain⟨b,R',D',e1,e2,hR,_⟩:=hu
 obtain⟨A,c,rfl,_⟩:=hR.in_
 have f0:=h.frozen 0
 have c0:=h.cell 0
 exact flowUpon_skip (w':=w.setCell ⟨g,0,none⟩ (.slice A (q.length+1) c)) (by go_simp) ⟨rfl,hj,_,h.put 0 _,hf⟩
theorem add_store2 {w:World} {ρ:Operand→Value} {o:Oper} {x y:Operand} (hgR:¬ R g) (hgB:g<B) (h:∃ u,Blk w g 253 #[u,.int .i64 last]∧Fin R B q seq ds u w)
 (h1:ρ x=.pointer (some ⟨g,1,none⟩)) (h2:ρ y=.int .i64 seq) (ho:o.op=.store 2 x y) :
 flowUpon Tryz.prog (fun v w'=>v=undef∧Just (fun b=>b=g) w w'∧∃ u,Blk w' g 253 #[u,.int .i64 seq]∧Fin R B q seq ds u w') ((execOp ρ o).run Tryz.prog w):=by
 obtain⟨dst,op,ty,pos,after,guard⟩:=o
 simp only at ho
 subst ho
 obtain⟨u,hB,hu⟩:=h
 have hj:=just_at w g 1 (.int .i64 seq)
 have hf:=hu.just hj fun x _ h1 (h2:x=g)=>off_g hgR hgB h1 h2
 have f0:=hB.frozen 1
 have c0:=hB.cell 1
 exact flowUpon_skip (w':=w.setCell ⟨g,1,none⟩ (.int .i64 seq)) (by go_simp) ⟨rfl,hj,u,hB.put 1 _,hf⟩
end
theorem Add_ok (w:World) (Z:Nat→Prop) (g:Nat) (l:List Ab) (last seq:Int) (A:Option Addr) (m c:Nat) (ds:List Dl) (hd0:DIn w Z A m ds) (hmc:m≤c) (hcm:c≤maxLen) (ha:¬ seq<1) (hb:¬ seq≤last) (hc:0<m) (hd:m≤8) (hl:l.length<16) :
 Turns Tryz.prog 222 #[.pointer (some ⟨g,0,none⟩),.agg #[.int .i64 seq,.slice A m c]] (fun e=>e=.returned (.int .i64 0)) (QueueAt g l last) (QueueAt g (l++[(seq,ds)]) seq) w:=by
 intro V hQ hV
 have hQ':=hQ
 obtain⟨h1,v,q,R,D,hql,h3,hB,hRow,h6,h7,h8⟩:=hQ
 obtain⟨A0,c0,rfl,hI,hnc,hm0⟩:=hRow.in_
 have hga:Grow w (w.alloc (.cells #[.int .i64 seq,.slice A m c] 159)):=(Below.refl w.heap.size w).alloc (Nat.le_refl _) _
 have hBx0:=Blk.made w 159 #[.int .i64 seq,.slice A m c]
 obtain⟨x,HX⟩:∃ x:Nat,Hid (x=w.heap.size):=⟨_,rfl⟩
 obtain⟨wa,HA⟩:∃ wa:World,Hid (wa=w.alloc (.cells #[.int .i64 seq,.slice A m c] 159)):=⟨_,rfl⟩
 have hsa:wa.heap.size=x+1:=by rw[HA.out,HX.out];simp
 have HSA:=Lib.hid hsa
 clear hsa
 rw[←HA.out] at hga
 have hBx:Blk wa x 159 #[.int .i64 seq,.slice A m c]:=by rw[HA.out,HX.out];exact hBx0
 clear hBx0
 have hBq:=hB.grow hga
 have hq16:q.length<16:=by rw[←hql,List.length_map] at hl;exact hl
 go_enter Tryz.func222,Tryz.ntmps222
 go_wp2_with fail
 rw[←HA.out,←HX.out]
 refine wp_region_flow 25 53 [] rfl rfl (by kernel_rfl) (by kernel_rfl) (by kernel_rfl) ?_ ?_
 ·intro x hx φ he
  cases hx
 intro ops' A' K' T hops hA' hK hT
 refine fl_op1G 6 (.tmp 3) (.pointer (some ⟨x,0,none⟩)) (.pointer (some ⟨x,0,none⟩)) ?_
 refine fl_op1N 7 (.tmp 6) (.pointer (some ⟨x,0,none⟩)) (.int .i64 seq) (fun ρ h1 kk w1 (hg:Grow _ w1) hb hf=>by have c:=(hBx.grow hg).cell 0;go_simp) ?_
 refine fl_op2N 8 (.tmp 7) (.const (.int .i64 1)) (.int .i64 seq) (.int .i64 1) (.bool false) (fun ρ h1 h2 kk w1 (hg:Grow _ w1) hb hf=>by first|(go_simp;done)|(go_simp;omega)) ?_
 refine fl_mvN 9 (.bool false) ?_
 refine fl_op1W 10 (wif hops 3 false 9 false) (.tmp 3) (.pointer (some ⟨x,0,none⟩)) (.pointer (some ⟨x,0,none⟩)) (fun ρ h1 kk w1 (hg:Grow _ w1) hb hf=>by go_simp) ?_
 refine fl_op1W 11 (wif hops 3 false 9 false) (.tmp 10) (.pointer (some ⟨x,0,none⟩)) (.int .i64 seq) (fun ρ h1 kk w1 (hg:Grow _ w1) hb hf=>by have c:=(hBx.grow hg).cell 0;go_simp) ?_
 refine fl_mvW 12 (wif hops 3 false 9 false) (.pointer (some ⟨g,0,none⟩)) ?_
 refine fl_op1W 13 (wif hops 3 false 9 false) (.tmp 12) (.pointer (some ⟨g,0,none⟩)) (.pointer (some ⟨g,0,none⟩)) (fun ρ h1 kk w1 (hg:Grow _ w1) hb hf=>by go_simp) ?_
 refine fl_op1W 14 (wif hops 3 false 9 false) (.tmp 13) (.pointer (some ⟨g,0,none⟩)) (.pointer (some ⟨g,1,none⟩)) (fun ρ h1 kk w1 (hg:Grow _ w1) hb hf=>by go_simp) ?_
 refine fl_op1W 15 (wif hops 3 false 9 false) (.tmp 14) (.pointer (some ⟨g,1,none⟩)) (.int .i64 last) (fun ρ h1 kk w1 (hg:Grow _ w1) hb hf=>by have c:=(hBq.grow hg).cell 1;go_simp) ?_
 refine fl_op2W 16 (wif hops 3 false 9 false) (.tmp 11) (.tmp 15) (.int .i64 seq) (.int .i64 last) (.bool false) (fun ρ h1 h2 kk w1 (hg:Grow _ w1) hb hf=>by first|(go_simp;done)|(go_simp;omega)) ?_
 refine fl_pickN 17 false (.bool false) ?_
 refine fl_mvN 18 (.bool false) ?_
 refine fl_op1W 19 (wif hops 12 false 18 false) (.tmp 3) (.pointer (some ⟨x,0,none⟩)) (.pointer (some ⟨x,1,none⟩)) (fun ρ h1 kk w1 (hg:Grow _ w1) hb hf=>by go_simp) ?_
 refine fl_op1W 20 (wif hops 12 false 18 false) (.tmp 19) (.pointer (some ⟨x,1,none⟩)) (.slice A m c) (fun ρ h1 kk w1 (hg:Grow _ w1) hb hf=>by have c:=(hBx.grow hg).cell 1;go_simp) ?_
 refine fl_op1W 21 (wif hops 12 false 18 false) (.tmp 20) (.slice A m c) (.int .i64 (m:Int)) (fun ρ h1 kk w1 (hg:Grow _ w1) hb hf=>by go_simp) ?_
 refine fl_op2W 22 (wif hops 12 false 18 false) (.tmp 21) (.const (.int .i64 0)) (.int .i64 (m:Int)) (.int .i64 0) (.bool false) (fun ρ h1 h2 kk w1 (hg:Grow _ w1) hb hf=>by first|(go_simp;done)|(go_simp;omega)) ?_
 refine fl_pickN 23 false (.bool false) ?_
 refine fl_mvN 24 (.bool false) ?_
 refine fl_op1W 25 (wif hops 18 false 24 false) (.tmp 3) (.pointer (some ⟨x,0,none⟩)) (.pointer (some ⟨x,1,none⟩)) (fun ρ h1 kk w1 (hg:Grow _ w1) hb hf=>by go_simp) ?_
 refine fl_op1W 26 (wif hops 18 false 24 false) (.tmp 25) (.pointer (some ⟨x,1,none⟩)) (.slice A m c) (fun ρ h1 kk w1 (hg:Grow _ w1) hb hf=>by have c:=(hBx.grow hg).cell 1;go_simp) ?_
 refine fl_op1W 27 (wif hops 18 false 24 false) (.tmp 26) (.slice A m c) (.int .i64 (m:Int)) (fun ρ h1 kk w1 (hg:Grow _ w1) hb hf=>by go_simp) ?_
 refine fl_op2W 28 (wif hops 18 false 24 false) (.tmp 27) (.const (.int .i64 8)) (.int .i64 (m:Int)) (.int .i64 8) (.bool false) (fun ρ h1 h2 kk w1 (hg:Grow _ w1) hb hf=>by first|(go_simp;done)|(go_simp;omega)) ?_
 refine fl_pickN 29 false (.bool false) ?_
 refine fl_mvN 5 (.bool false) ?_
 refine fl_end (fun _ _ w1 (hg:Grow _ w1) _ hfacts=>hT _ _ ?_)
 clear hops hA' hK hT
 simp only[putsL,Act.put,List.setIfInBounds_toArray,List.set_cons_zero,List.set_cons_succ,List.drop_succ_cons,List.drop_zero]
 have c00:=(hBq.grow hg).cell 0
 go_wp2_with fail
 have hgw:=hga.trans hg
 have hRow1:=hRow.grow hgw
 have hBq1:=hBq.grow hg
 have hBx1:=hBx.grow hg
 have hin1:∀ b∈q,BatIn w1 D b:=fun b hb=>(h6 b hb).grow hgw
 have hd1:=In.grow hd0 hgw
 have hxB:=hBx1.lt
 have hgB:g<w1.heap.size:=hBq1.lt
 have hgR:¬ R g:=fun h=>(h7 g h).2.1 rfl
 have hxw:w.heap.size≤x:=by have:=HX.out;omega
 have hRw:∀ x,R x→x<w.heap.size:=fun b hb=>hV b (h7 b hb).1
 have hRB:∀ x,R x→x<w1.heap.size:=fun b hb=>Nat.lt_of_lt_of_le (hRw b hb) hgw.size
 have hxn:¬ (R x∨x=g):=fun h=>by
  rcases h with h|h
  ·have:=hRw x h;omega
  ·have:=hB.lt;omega
 have hDw:∀ x,D x→¬ (R x∨x=g):=fun b hb h=>by
  rcases h with h|h
  ·exact (h7 b h).2.2 hb
  ·exact (h8 b hb).2 h
 obtain⟨B,HBd⟩:∃ B:Nat,Hid (B=w1.heap.size):=⟨_,rfl⟩
 have HB:∀ w2,Just (fun b=>R b∨b=g) w1 w2→B≤w2.heap.size:=fun w2 h=>HBd.out▸h.size
 have hBw:=HBd.out
 rw[←hBw] at hgB hRB
 have hBx:=hBx1
 have hgw0:=hgw
 have HBw:w.heap.size≤B:=by rw[hBw];exact hgw.size
 clear hBq hga h6 c00 hB hg hgw hBw
 have k226:∀ (vs:Array Value) (w:World),(callFunc 226 vs).run Tryz.prog w=.ok (.enter 226 vs) w:=fun vs w=>by go_simp
 refine wp_region_reg rfl ?_
 refine reg_flow (AddSt R g B Z A m (.slice A0 q.length c0) q last seq ds) (addSt_ok hRB hgR) 0 18 53 [(7,.inr (fun _ u w=>BatNew B seq ds u w)),(8,.inr (fun _ u w=>RowNew B seq ds u w)),(9,.inr (Once (fun u w=>Fin R B q seq ds u w))),(14,.inl (undef)),(17,.inl (undef))] rfl (by kernel_rfl) (by kernel_rfl) (by kernel_rfl) ?_ (Just.of_grow (Grow.refl _).drew) ⟨hRow1,hBq1,hd1⟩ ?_
 ·intro x hx φ he
  simp only[List.mem_cons,List.not_mem_nil,or_false] at hx
  rcases hx with rfl|rfl|rfl|rfl|rfl<;>cases he
  all_goals first|exact lasts_quiet (lasting_bytes _)|exact lasts_plain hRB hgB (batNew_lasts B seq ds)|exact lasts_plain hRB hgB (rowNew_lasts B seq ds)|exact lasts_fin hRB hgR hgB
 intro ops' A' K' T hops hA' hK hT
 refine fl_mvN 37 (.pointer (some ⟨g,0,none⟩)) ?_
 refine fl_mvN 38 (.pointer (some ⟨g,0,none⟩)) ?_
 refine fl_mvN 39 (.pointer (some ⟨g,0,none⟩)) ?_
 refine fl_op1N 40 (.tmp 39) (.pointer (some ⟨g,0,none⟩)) (.pointer (some ⟨g,0,none⟩)) (fun ρ h1 kk w1 (hg:Just (fun b=>R b∨b=g) _ w1) hb hf=>by go_simp) ?_
 refine fl_op1N 41 (.tmp 40) (.pointer (some ⟨g,0,none⟩)) (.pointer (some ⟨g,0,none⟩)) (fun ρ h1 kk w1 (hg:Just (fun b=>R b∨b=g) _ w1) hb hf=>by go_simp) ?_
 refine fl_op1N 42 (.tmp 41) (.pointer (some ⟨g,0,none⟩)) (.slice A0 q.length c0) (fun ρ h1 kk w1 (hg:Just (fun b=>R b∨b=g) _ w1) hb hf=>by obtain rfl:=before_some 0 (by rfl) hb;have hI:=hb.1;have c:=hI.2.1.cell 0;go_simp) ?_
 refine fl_op1N 43 (.tmp 3) (.pointer (some ⟨x,0,none⟩)) (.agg #[.int .i64 seq,.slice A m c]) (fun ρ h1 kk w1 (hg:Just (fun b=>R b∨b=g) _ w1) hb hf=>by have hx:=hg.blk hBx (fun h=>hxn h);have e0:=hx.cell 0;have e1:=hx.cell 1;go_simp) ?_
 refine fl_callAny 44 (by rfl) (by decide) (wanted_none (by rfl)) (fun _ u w=>BatNew B seq ds u w) (by rw[hK.out];rfl) 226 _ _ (by rfl) [.agg #[.int .i64 seq,.slice A m c]] (by rfl) k226 (fun kk w1 (hg:Just (fun b=>R b∨b=g) _ w1) hb hf=>calls_behindAny (φ:=fun _ u w=>BatNew B seq ds u w) (by rfl) (by obtain rfl:=before_some 0 (by rfl) hb;have hI:=hb.1;exact own_new_bat (b:=⟨seq,A,m,c,ds⟩) ⟨rfl,rfl⟩ (own_any w1 Z ⟨seq,A,m,c,ds⟩ ⟨hI.2.2,hmc,hcm,hd⟩) (HB w1 hg))) (fun v44=>?_)
 refine fl_any1 45 (by rfl) (by decide) (wanted_none (by rfl)) (fun _ u w=>RowNew B seq ds u w) (by rw[hK.out];rfl) (.tmp 44) (v44) (by rfl) (fun ρ h1 kk w1 (hg:Just (fun b=>R b∨b=g) _ w1) hb hf=>by refine upon_behindAny (φ:=fun _ u w=>RowNew B seq ds u w) (by rfl) ?_;exact row_new_made (facts_take hf (by rw[hA'.out];kernel_rfl)) (HB w1 hg) h1 rfl) (fun v45=>?_)
 refine fl_any2 46 (by rfl) (by decide) (wanted_none (by rfl)) (Once (fun u w=>Fin R B q seq ds u w)) (by rw[hK.out];rfl) (.tmp 42) (.tmp 45) (.slice A0 q.length c0) (v45) (by rfl) (by rfl) (fun ρ h1 h2 kk w1 (hg:Just (fun b=>R b∨b=g) _ w1) hb hf=>by obtain rfl:=before_some 0 (by rfl) hb;have hI:=hb.1;refine upon_turnAny (φ:=Once (fun u w=>Fin R B q seq ds u w)) 0 (by rfl) ?_;exact add_append hRB hgR hI.1 hI.2.1 hq16 (facts_take hf (by rw[hA'.out];kernel_rfl)) (HB w1 hg) h1 h2 rfl) (fun v46=>?_)
 refine fl_op1N 47 (.tmp 3) (.pointer (some ⟨x,0,none⟩)) (.pointer (some ⟨x,0,none⟩)) (fun ρ h1 kk w1 (hg:Just (fun b=>R b∨b=g) _ w1) hb hf=>by go_simp) ?_
 refine fl_op1N 48 (.tmp 47) (.pointer (some ⟨x,0,none⟩)) (.int .i64 seq) (fun ρ h1 kk w1 (hg:Just (fun b=>R b∨b=g) _ w1) hb hf=>by have c:=(hg.blk hBx (fun h=>hxn h)).cell 0;go_simp) ?_
 refine fl_op1N 49 (.tmp 37) (.pointer (some ⟨g,0,none⟩)) (.pointer (some ⟨g,0,none⟩)) (fun ρ h1 kk w1 (hg:Just (fun b=>R b∨b=g) _ w1) hb hf=>by go_simp) ?_
 refine fl_op1N 50 (.tmp 49) (.pointer (some ⟨g,0,none⟩)) (.pointer (some ⟨g,0,none⟩)) (fun ρ h1 kk w1 (hg:Just (fun b=>R b∨b=g) _ w1) hb hf=>by go_simp) ?_
 refine fl_do2 (by rfl) (wanted_none (by rfl)) (undef) (by rw[hK.out];rfl) (.tmp 50) (.tmp 46) (.pointer (some ⟨g,0,none⟩)) (v46) (by rfl) (by rfl) (fun ρ h1 h2 kk w1 (hg:Just (fun b=>R b∨b=g) _ w1) hb hf=>by obtain rfl:=before_some 1 (by rfl) hb;have hI:=hb.1;refine upon_turn 1 (by rfl) ?_;exact add_store1 hgR hgB hI (facts_take hf (by rw[hA'.out];kernel_rfl)) h1 h2 rfl) ?_
 refine fl_op1N 51 (.tmp 38) (.pointer (some ⟨g,0,none⟩)) (.pointer (some ⟨g,0,none⟩)) (fun ρ h1 kk w1 (hg:Just (fun b=>R b∨b=g) _ w1) hb hf=>by go_simp) ?_
 refine fl_op1N 52 (.tmp 51) (.pointer (some ⟨g,0,none⟩)) (.pointer (some ⟨g,1,none⟩)) (fun ρ h1 kk w1 (hg:Just (fun b=>R b∨b=g) _ w1) hb hf=>by go_simp) ?_
 refine fl_do2 (by rfl) (wanted_none (by rfl)) (undef) (by rw[hK.out];rfl) (.tmp 52) (.tmp 48) (.pointer (some ⟨g,1,none⟩)) (.int .i64 seq) (by rfl) (by rfl) (fun ρ h1 h2 kk w1 (hg:Just (fun b=>R b∨b=g) _ w1) hb hf=>by obtain rfl:=before_some 2 (by rfl) hb;have hI:=hb.1;refine upon_turn 2 (by rfl) ?_;exact add_store2 hgR hgB hI h1 h2 rfl) ?_
 refine fl_end (fun _ _ w1 (hg:Just (fun b=>R b∨b=g) _ w1) hend hfacts=>hT _ _ ?_)
 clear hops hA' hK hT
 simp only[putsL,Act.put,List.setIfInBounds_toArray,List.set_cons_zero,List.set_cons_succ]
 refine reg_end ?_
 have hE:∃ u,Blk w1 g 253 #[u,.int .i64 seq]∧Fin R B q seq ds u w1:=hend
 obtain⟨u,hBu,b,R',D',e1,e2,hR',hb',hRx,hDx⟩:=hE
 clear hend hfacts
 go_wp2_with fail
 go_ret
 have hjw:Just (fun b=>R b∨b=g) w w1:=(Just.of_grow hgw0).trans hg
 refine⟨rfl,⟨.inl h1,u,q++[b],R',fun x=>D x∨D' x,?_,?_,hBu,?_,fun b' hb=>?_,fun x hx=>?_,fun x hx=>?_⟩,hjw.imp fun x hx=>?_⟩
 ·rw[List.map_append,hql,List.map_cons,List.map_nil];simp only[Bat.abs,e1,e2]
 ·rw[List.length_append,List.length_singleton];omega
 ·rw[List.length_append,List.length_singleton];exact hR'
 ·rcases List.mem_append.1 hb with h|h
  ·exact ((hin1 b' h).just hg hDw).mono fun _ => .inl
  ·rw[List.mem_singleton.1 h];exact hb'.mono fun _ => .inr
 ·have h2:=hRx x hx
  refine⟨?_,?_,fun h=>?_⟩
  ·rcases h2.1 with h|h
   ·exact .inl (h7 x h).1
   ·exact .inr ⟨by have:=HBw;omega,h2.2.1⟩
  ·rcases h2.1 with h|h
   ·exact (h7 x h).2.1
   ·omega
  ·rcases h with h|h
   ·rcases h2.1 with h3|h3
    ·exact (h7 x h3).2.2 h
    ·have:=hV x (h8 x h).1;have:=HBw;omega
   ·exact h2.2.2 h
 ·rcases hx with h|h
  ·exact⟨.inl (h8 x h).1,(h8 x h).2⟩
  ·have h2:=hDx x h
   exact⟨.inr ⟨by have:=HBw;omega,h2.2⟩,by have:=h2.1;omega⟩
 ·rcases hx with h|h
  ·exact (h7 x h).1
  ·rw[h];exact h1
end Go.Proofs.YtmijcbfgfkeodaaGreatDoor.Q
end
