/- Le, Le2, Le3, Frread, Splain, Scan, Dplain, Disk, Disk2, Crash, Dref, Dreads. -/
import Derived.Test.YtmijcbfgfkeodaaGreatDoorFz13
set_option linter.all false
set_option maxRecDepth 100000
section
namespace Go.Proofs.YtmijcbfgfkeodaaGreatDoor
open Go.RowKit Go.Hop
theorem int_info:(Tryz.prog.info? 3).map (fun i=>(i.zero,i.size,i.bytes))=some (some (.int .i64 0),1,8):=by kernel_rfl
theorem intE:Elem Tryz.prog 38 3 1 8 (.int .i64 0):=⟨Tryz.underlying38,info_parts int_info,rfl,by decide,by decide⟩
theorem cloneI_one (w:World) (g b c:Nat) (m:Int) (hc:w.cell? ⟨g,b,none⟩=some (.int .i64 m)) :
 Calls Tryz.prog 232 #[.slice (some ⟨g,b,none⟩) 1 c] w fun e w'=>∃ g' c',e=.returned (.slice (some ⟨g',0,none⟩) 1 c')∧w'.cell? ⟨g',0,none⟩=some (.int .i64 m)∧Grow w w':=by
 have hgl:g<w.heap.size:=World.block_lt_of_cell? w ⟨g,b,none⟩ (by rw[hc])
 have hnil:=fun (w':World)=>Lib.run_eql_slice_nil (P:=Tryz.prog) w' 38 3 (some ⟨g,b,none⟩) 1 c 0 0 Tryz.underlying38
 have hrd:Reads w w.heap.size 1 (some ⟨g,b,none⟩) 1 [.int .i64 m]:=⟨rfl,fun _=>⟨_,rfl,hgl,fun j u hu=>by
  match j,hu with
  | 0,hu=>simp at hu;subst hu;exact hc⟩⟩
 go_enter Tryz.func232,Tryz.ntmps232
 go_wp2_with (at_builtin;refine stay ?_)
 refine stay_out ?_
 refine wpList_own (V:=fun b=>b=w.heap.size) intE _ rfl (.tmp 5) (.tmp 6) rfl (.slice (some ⟨w.heap.size,0,none⟩) 0 0) 0 [] rfl (made_own w _ _) w.heap.size (some ⟨g,b,none⟩) 1 c [.int .i64 m] rfl (Reads.alloc hrd (Nat.le_refl _) _) (by simp[Value.oneCell']) (by omega) ?_
 intro v1 w1 hO1 hj1
 simp only[Nat.zero_add,List.nil_append] at hO1
 obtain⟨hO1,hg1⟩:=own_new hO1 hj1
 obtain⟨_,h0|⟨g',cap,cur,rfl,hV,hg',_,_,_,htk⟩⟩:=hO1
 ·exact absurd h0.2 (by omega)
 have hcell:w1.cell? ⟨g',0,none⟩=some (.int .i64 m):=by
  rw[cell_of_row _ _ _ _ _ _ hg',←Array.getElem?_toList]
  have:=congrArg (fun l=>l[0]?) htk
  simpa [List.getElem?_take] using this
 go_wp2_with fail
 go_ret
 exact⟨g',cap,rfl,hcell,hg1⟩
theorem len64_one (w:World):Calls Tryz.prog 266 #[.int .u64 1] w fun e w'=>∃ l:Int,e=.returned (.int .i64 l)∧w=w':=by
 go_enter Tryz.func266,Tryz.ntmps266
 go_wp2_with fail
 go_ret
 exact⟨_,rfl,rfl⟩
theorem len_one (w:World):Calls Tryz.prog 208 #[.int .u64 1] w fun e w'=>∃ l:Int,e=.returned (.int .i64 l)∧w=w':=by
 have hL:=len64_one w
 go_enter Tryz.func208,Tryz.ntmps208
 go_wp2_with fail
 refine hL.mono ?_
 rintro e w1 ⟨l,rfl,rfl⟩
 go_wp2_with fail
 go_ret
 exact⟨l,rfl,rfl⟩
theorem insI_one (w:World) (A:Option Addr) (c:Nat):Calls Tryz.prog 327 #[.slice A 1 c,.int .i64 0,.int .i64 1] w fun e w'=>e=.returned (.tuple #[])∧w=w':=by
 go_enter Tryz.func327,Tryz.ntmps327
 go_wp2_with fail
 go_loopw [6] (fun i wr=>i=.int .i64 1∧w=wr) (fun _ _=>0)
 case atStart=>exact⟨rfl,rfl⟩
 case round=>
  obtain⟨rfl,rfl⟩:=hrel
  go_wp2_with fail
  go_end0
  exact⟨rfl,rfl⟩
theorem pdqI_one (w:World) (A:Option Addr) (c:Nat) (l:Int):Calls Tryz.prog 291 #[.slice A 1 c,.int .i64 0,.int .i64 1,.int .i64 l] w fun e w'=>e=.returned (.tuple #[])∧w=w':=by
 have hI:=insI_one w A c
 go_enter Tryz.func291,Tryz.ntmps291
 go_wp2_with fail
 go_loopw [1,2] (fun a b wr=>a=.int .i64 0∧b=.int .i64 1∧w=wr) (fun _ _ _=>0)
 case atStart=>exact⟨rfl,rfl,rfl⟩
 case round=>
  obtain⟨rfl,rfl,rfl⟩:=hrel
  go_wp2_with fail
  refine hI.mono ?_
  rintro e w1 ⟨rfl,rfl⟩
  go_wp2_with fail
  refine bodyPost_ret (results_none rfl _ _ _) rfl ?_
  exact⟨rfl,rfl⟩
theorem sortI_one (w:World) (A:Option Addr) (c:Nat):Calls Tryz.prog 233 #[.slice A 1 c] w fun e w'=>e=.returned (.tuple #[])∧w=w':=by
 have hL:=len_one w
 have hP:=pdqI_one w A c
 go_enter Tryz.func233,Tryz.ntmps233
 go_wp2_with fail
 refine hL.mono ?_
 rintro e w1 ⟨l,rfl,rfl⟩
 go_wp2_with fail
 refine (hP l).mono ?_
 rintro e w1 ⟨rfl,rfl⟩
 go_wp2_with fail
 go_end0
 exact⟨rfl,rfl⟩
theorem lright_one (w:World):Calls Tryz.prog 165 #[.int .i64 1] w fun e w'=>e=.returned (.bool true)∧w=w':=by
 go_enter Tryz.func165,Tryz.ntmps165
 go_wp2_with fail
 go_ret
 exact⟨rfl,rfl⟩
theorem lTerm_one (w:World) (t:Int) (h0:0≤t) (h1:t≤1099511627776):Calls Tryz.prog 82 #[.int .i64 t,.int .i64 0,.int .i64 1] w fun e w'=>e=.returned (.int .i64 (t+1))∧w=w':=by
 have hL:=lright_one w
 have d0:decide (t<0)=false:=decide_eq_false (by omega)
 have d1:decide (1099511627776<t)=false:=decide_eq_false (by omega)
 have hw:IntKind.i64.wrap (t+1)=t+1:=by rw[IntKind.wrap_i64];omega
 go_enter Tryz.func82,Tryz.ntmps82
 go_wp2_with fail
 refine hL.mono ?_
 rintro e w1 ⟨rfl,rfl⟩
 go_wp2_with fail
 go_loopw [7] (fun v wr=>v=.int .i64 (t+1)∧w=wr) (fun _ _=>0)
 case atStart=>exact⟨rfl,rfl⟩
 case round=>
  obtain⟨rfl,rfl⟩:=hrel
  have hm:(t+1).tmod 1=0:=Int.tmod_one _
  go_wp2_with fail
  go_ret
  exact⟨rfl,rfl⟩
def voteC (t:Int) (p:Bool) (a had:Int) (best:Value) (n:Int):Array Value:=#[.int .i64 t,.int .i64 1,.bool p,.bool false,.bool false,.bool false,.bool false,.bool false,.bool false,.bool false,.int .i64 a,.int .i64 0,.int .i64 0,.int .i64 0,.int .i64 0,.int .i64 0,.int .i64 0,.int .i64 0,.int .i64 had,best,.int .i64 n]
theorem lNew_one (w:World) (t:Int):Calls Tryz.prog 86 #[.int .i64 t,.int .i64 1] w fun e w'=>∃ v,e=.returned (.pointer (some ⟨v,0,none⟩))∧Cell v 265 (voteC t false 0 0 (.slice none 0 0) 0) w' (New w w')∧Grow w w':=by
 have hL:=lright_one w
 unfold voteC
 go_enter Tryz.func86,Tryz.ntmps86
 go_wp2_with fail
 refine hL.mono ?_
 rintro e w1 ⟨rfl,rfl⟩
 go_wp2_with fail
 go_ret
 exact⟨_,rfl,⟨⟨Nat.le_refl _,by simp⟩,Blk.made w _ _⟩,grow_alloc w _⟩
def VoteAt (v:Nat) (t:Int) (p:Bool) (a had n:Int):Thing:=fun w V=>∃ A:Option Addr,Cell v 265 (voteC t p a had (.slice A 0 0) n) w V
theorem VoteAt.framed (v:Nat) (t:Int) (p:Bool) (a had n:Int):Framed (VoteAt v t p a had n):=fun w w' V ⟨A,h⟩ hk=>⟨A,Cell.framed v _ _ w w' V h hk⟩
theorem node_one (w:World) (v:Nat) (t a had n:Int) (p:Bool) (best:Value) (hB:Blk w v 265 (voteC t p a had best n)):Calls Tryz.prog 167 #[.pointer (some ⟨v,0,none⟩),.int .i64 0] w fun e w'=>e=.returned (.bool true)∧w=w':=by
 unfold voteC at hB
 have c1:=hB.cell 1
 go_enter Tryz.func167,Tryz.ntmps167
 go_wp2_with fail
 go_ret
 exact⟨rfl,rfl⟩
theorem vTerm_any (w:World) (v:Nat) (t a had n:Int) (p:Bool) (V:Nat→Prop) (h:VoteAt v t p a had n w V):Calls Tryz.prog 95 #[.pointer (some ⟨v,0,none⟩)] w fun e w'=>e=.returned (.int .i64 t)∧w=w':=by
 obtain⟨A,hv,hB⟩:=h
 unfold voteC at hB
 have c0:=hB.cell 0
 go_enter Tryz.func95,Tryz.ntmps95
 go_wp2_with fail
 go_ret
 exact⟨rfl,rfl⟩
theorem vBest_any (w:World) (v:Nat) (t a had n:Int) (p:Bool) (V:Nat→Prop) (h:VoteAt v t p a had n w V):Calls Tryz.prog 169 #[.pointer (some ⟨v,0,none⟩)] w fun e w'=>∃ A',e=.returned (.slice A' 0 0)∧Grow w w':=by
 obtain⟨A,hv,hB⟩:=h
 unfold voteC at hB
 have c19:=hB.cell 19
 have hC:=Copies_any w (fun _=>True) A 0 [] Ens.nil (by simp)
 go_enter Tryz.func169,Tryz.ntmps169
 go_wp2_with fail
 refine hC.mono ?_
 rintro e w1 ⟨u,rfl,_,⟨A',rfl⟩,hg⟩
 go_wp2_with fail
 go_ret
 exact⟨A',rfl,hg⟩
theorem won_0 (w:World) (v:Nat) (t a had:Int) (p:Bool) (best:Value) (hB:Blk w v 265 (voteC t p a had best 0)):Calls Tryz.prog 96 #[.pointer (some ⟨v,0,none⟩)] w fun e w'=>e=.returned (.bool false)∧Grow w w':=by
 unfold voteC at hB
 go_enter Tryz.func96,Tryz.ntmps96
 go_wp2_with fail
 refine wp_region_flow 11 13 [] rfl rfl (by kernel_rfl) (by kernel_rfl) (by kernel_rfl) ?_ ?_
 ·intro x hx φ he
  cases hx
 intro ops' A' K' T hops hA' hK hT
 refine fl_mvN 3 (.pointer (some ⟨v,0,none⟩)) ?_
 refine fl_op1G 4 (.tmp 3) (.pointer (some ⟨v,0,none⟩)) (.pointer (some ⟨v,0,none⟩)) ?_
 refine fl_op1G 5 (.tmp 4) (.pointer (some ⟨v,0,none⟩)) (.pointer (some ⟨v,20,none⟩)) ?_
 refine fl_op1N 6 (.tmp 5) (.pointer (some ⟨v,20,none⟩)) (.int .i64 0) (fun ρ h1 kk w1 (hg:Grow _ w1) hb hf=>by have c:=(hB.grow hg).cell 20;go_simp) ?_
 refine fl_op2N 7 (.const (.int .i64 2)) (.tmp 6) (.int .i64 2) (.int .i64 0) (.int .i64 0) (fun ρ h1 h2 kk w1 (hg:Grow _ w1) hb hf=>by go_simp;try rfl) ?_
 refine fl_mvN 8 (.pointer (some ⟨v,0,none⟩)) ?_
 refine fl_op1G 9 (.tmp 8) (.pointer (some ⟨v,0,none⟩)) (.pointer (some ⟨v,0,none⟩)) ?_
 refine fl_op1G 10 (.tmp 9) (.pointer (some ⟨v,0,none⟩)) (.pointer (some ⟨v,1,none⟩)) ?_
 refine fl_op1N 11 (.tmp 10) (.pointer (some ⟨v,1,none⟩)) (.int .i64 1) (fun ρ h1 kk w1 (hg:Grow _ w1) hb hf=>by have c:=(hB.grow hg).cell 1;go_simp) ?_
 refine fl_op2N 12 (.tmp 7) (.tmp 11) (.int .i64 0) (.int .i64 1) (.bool false) (fun ρ h1 h2 kk w1 (hg:Grow _ w1) hb hf=>by go_simp;try rfl) ?_
 refine fl_mvN 2 (.bool false) ?_
 refine fl_end (fun _ _ w1 (hg:Grow _ w1) _ hfacts=>hT _ _ ?_)
 clear hops hA' hK hT
 simp only[putsL,Act.put,List.setIfInBounds_toArray,List.set_cons_zero,List.set_cons_succ,List.drop_succ_cons,List.drop_zero]
 go_wp2_with fail
 go_ret
 exact⟨rfl,hg⟩
theorem won_1 (w:World) (v:Nat) (t a had:Int) (p:Bool) (best:Value) (hB:Blk w v 265 (voteC t p a had best 1)):Calls Tryz.prog 96 #[.pointer (some ⟨v,0,none⟩)] w fun e w'=>e=.returned (.bool true)∧Grow w w':=by
 unfold voteC at hB
 go_enter Tryz.func96,Tryz.ntmps96
 go_wp2_with fail
 refine wp_region_flow 11 13 [] rfl rfl (by kernel_rfl) (by kernel_rfl) (by kernel_rfl) ?_ ?_
 ·intro x hx φ he
  cases hx
 intro ops' A' K' T hops hA' hK hT
 refine fl_mvN 3 (.pointer (some ⟨v,0,none⟩)) ?_
 refine fl_op1G 4 (.tmp 3) (.pointer (some ⟨v,0,none⟩)) (.pointer (some ⟨v,0,none⟩)) ?_
 refine fl_op1G 5 (.tmp 4) (.pointer (some ⟨v,0,none⟩)) (.pointer (some ⟨v,20,none⟩)) ?_
 refine fl_op1N 6 (.tmp 5) (.pointer (some ⟨v,20,none⟩)) (.int .i64 1) (fun ρ h1 kk w1 (hg:Grow _ w1) hb hf=>by have c:=(hB.grow hg).cell 20;go_simp) ?_
 refine fl_op2N 7 (.const (.int .i64 2)) (.tmp 6) (.int .i64 2) (.int .i64 1) (.int .i64 2) (fun ρ h1 h2 kk w1 (hg:Grow _ w1) hb hf=>by go_simp;try rfl) ?_
 refine fl_mvN 8 (.pointer (some ⟨v,0,none⟩)) ?_
 refine fl_op1G 9 (.tmp 8) (.pointer (some ⟨v,0,none⟩)) (.pointer (some ⟨v,0,none⟩)) ?_
 refine fl_op1G 10 (.tmp 9) (.pointer (some ⟨v,0,none⟩)) (.pointer (some ⟨v,1,none⟩)) ?_
 refine fl_op1N 11 (.tmp 10) (.pointer (some ⟨v,1,none⟩)) (.int .i64 1) (fun ρ h1 kk w1 (hg:Grow _ w1) hb hf=>by have c:=(hB.grow hg).cell 1;go_simp) ?_
 refine fl_op2N 12 (.tmp 7) (.tmp 11) (.int .i64 2) (.int .i64 1) (.bool true) (fun ρ h1 h2 kk w1 (hg:Grow _ w1) hb hf=>by go_simp;try rfl) ?_
 refine fl_mvN 2 (.bool true) ?_
 refine fl_end (fun _ _ w1 (hg:Grow _ w1) _ hfacts=>hT _ _ ?_)
 clear hops hA' hK hT
 simp only[putsL,Act.put,List.setIfInBounds_toArray,List.set_cons_zero,List.set_cons_succ,List.drop_succ_cons,List.drop_zero]
 go_wp2_with fail
 go_ret
 exact⟨rfl,hg⟩
theorem vPromise_one (w:World) (v:Nat) (t had:Int) (A:Option Addr) (c:Nat) :
 Turns Tryz.prog 87 #[.pointer (some ⟨v,0,none⟩),.int .i64 0,.int .i64 had,.slice A 0 c] (fun e=>e=.returned (.bool true)) (VoteAt v t false 0 0 0) (VoteAt v t true 0 had 1) w:=by
 rintro V ⟨A0,hv,hB⟩ hV
 have hN:=node_one w v t 0 0 0 false _ hB
 have hW:=won_0 w v t 0 0 false _ hB
 have hvl:=hB.lt
 have hB':Blk w v 265 #[.int .i64 t,.int .i64 1,.bool false,.bool false,.bool false,.bool false,.bool false,.bool false,.bool false,.bool false,.int .i64 0,.int .i64 0,.int .i64 0,.int .i64 0,.int .i64 0,.int .i64 0,.int .i64 0,.int .i64 0,.int .i64 0,.slice A0 0 0,.int .i64 0]:=hB
 have c2:=hB'.cell 2
 go_enter Tryz.func87,Tryz.ntmps87
 go_wp2_with fail
 refine hN.mono ?_
 rintro e w1 ⟨rfl,rfl⟩
 go_wp2_with fail
 refine hW.mono ?_
 rintro e w1 ⟨rfl,hg1⟩
 have hB1:=hB'.grow hg1
 have hB2:Blk ((w1.setCell ⟨v,2,none⟩ (.bool true)).setCell ⟨v,20,none⟩ (.int .i64 1)) v 265 #[.int .i64 t,.int .i64 1,.bool true,.bool false,.bool false,.bool false,.bool false,.bool false,.bool false,.bool false,.int .i64 0,.int .i64 0,.int .i64 0,.int .i64 0,.int .i64 0,.int .i64 0,.int .i64 0,.int .i64 0,.int .i64 0,.slice A0 0 0,.int .i64 1]:=(hB1.put 2 _).put 20 _
 have a2:=hB1.cell 2
 have af2:=hB1.frozen 2
 have b20:=(hB1.put 2 (.bool true)).cell 20
 have bf20:=(hB1.put 2 (.bool true)).frozen 20
 have d20:=hB2.cell 20
 have hC:=fun w2=>Copies_any w2 (fun _=>True) A c [] Ens.nil (by simp)
 go_wp2_with fail
 refine (hC _).mono ?_
 rintro e w2 ⟨u,rfl,_,⟨A',rfl⟩,hg2⟩
 have hB3:=hB2.grow hg2
 have hB4:Blk ((w2.setCell ⟨v,18,none⟩ (.int .i64 had)).setCell ⟨v,19,none⟩ (.slice A' 0 0)) v 265 #[.int .i64 t,.int .i64 1,.bool true,.bool false,.bool false,.bool false,.bool false,.bool false,.bool false,.bool false,.int .i64 0,.int .i64 0,.int .i64 0,.int .i64 0,.int .i64 0,.int .i64 0,.int .i64 0,.int .i64 0,.int .i64 had,.slice A' 0 0,.int .i64 1]:=(hB3.put 18 _).put 19 _
 have hW2:=won_1 _ v t 0 had true _ hB4
 clear a2 af2 b20 bf20 d20
 have a18:=hB3.cell 18
 have af18:=hB3.frozen 18
 have b19:=(hB3.put 18 (.int .i64 had)).cell 19
 have bf19:=(hB3.put 18 (.int .i64 had)).frozen 19
 go_wp2_with fail
 refine hW2.mono ?_
 rintro e w5 ⟨rfl,hg5⟩
 go_wp2_with fail
 go_ret
 have J:=(((((((Just.of_grow (V:=V) hg1).put hv 2 (.bool true)).put hv 20 (.int .i64 1)).trans (Just.of_grow hg2)).put hv 18 (.int .i64 had)).put hv 19 (.slice A' 0 0)).trans (Just.of_grow hg5))
 exact⟨rfl,⟨A',.inl hv,hB4.grow hg5⟩,J⟩
def IsOne (m:Int) (u:Value) (w:World):Prop:=∃ g c,u=.slice (some ⟨g,0,none⟩) 1 c∧w.cell? ⟨g,0,none⟩=some (.int .i64 m)
theorem isOne_lasting (m:Int):Lasting (IsOne m):=fun u w w' ⟨g,c,e,h⟩ hg=>⟨g,c,e,(hg.cell (show g<w.heap.size from World.block_lt_of_cell? w ⟨g,0,none⟩ (by rw[h]))).trans h⟩
theorem vAccepted_one (w:World) (v:Nat) (t a had m:Int) (ham:a≤m) :
 Turns Tryz.prog 177 #[.pointer (some ⟨v,0,none⟩),.int .i64 0,.int .i64 m] (fun e=>e=.returned (.int .i64 m)) (VoteAt v t true a had 1) (VoteAt v t true m had 1) w:=by
 rintro V ⟨A0,hv,hB0⟩ hV
 have hN:=node_one w v t a had 1 true _ hB0
 have hvl:=hB0.lt
 have hB:Blk w v 265 #[.int .i64 t,.int .i64 1,.bool true,.bool false,.bool false,.bool false,.bool false,.bool false,.bool false,.bool false,.int .i64 a,.int .i64 0,.int .i64 0,.int .i64 0,.int .i64 0,.int .i64 0,.int .i64 0,.int .i64 0,.int .i64 had,.slice A0 0 0,.int .i64 1]:=hB0
 have hmx:∀ ts t w,(Builtin.max_ ts t #[.int .i64 a,.int .i64 m]).run Tryz.prog w=.ok (.int .i64 m) w:=fun ts t w=>by rw[run_max_int2];congr 2;split<;>omega
 have k232:∀ (vs:Array Value) (w:World),(callFunc 232 vs).run Tryz.prog w=.ok (.enter 232 vs) w:=fun vs w=>by go_simp
 go_enter Tryz.func177,Tryz.ntmps177
 go_wp2_with fail
 refine hN.mono ?_
 rintro e w1 ⟨rfl,rfl⟩
 go_wp2_with fail
 refine wp_region_flow 13 44 [] rfl rfl (by kernel_rfl) (by kernel_rfl) (by kernel_rfl) ?_ ?_
 ·intro x hx φ he
  cases hx
 intro ops' A' K' T hops hA' hK hT
 refine fl_mvN 11 (.pointer (some ⟨v,0,none⟩)) ?_
 refine fl_mvN 12 (.int .i64 0) ?_
 refine fl_mvN 13 (.pointer (some ⟨v,0,none⟩)) ?_
 refine fl_mvN 14 (.int .i64 0) ?_
 refine fl_op1G 15 (.tmp 13) (.pointer (some ⟨v,0,none⟩)) (.pointer (some ⟨v,0,none⟩)) ?_
 refine fl_op1G 16 (.tmp 15) (.pointer (some ⟨v,0,none⟩)) (.pointer (some ⟨v,10,none⟩)) ?_
 refine fl_op2N 17 (.tmp 16) (.tmp 14) (.pointer (some ⟨v,10,none⟩)) (.int .i64 0) (.pointer (some ⟨v,10,none⟩)) (fun ρ h1 h2 kk w1 (hg:Grow _ w1) hb hf=>by go_simp) ?_
 refine fl_op1N 18 (.tmp 17) (.pointer (some ⟨v,10,none⟩)) (.int .i64 a) (fun ρ h1 kk w1 (hg:Grow _ w1) hb hf=>by have c:=(hB.grow hg).cell 10;go_simp) ?_
 refine fl_mvN 19 (.int .i64 m) ?_
 refine fl_op2N 20 (.tmp 18) (.tmp 19) (.int .i64 a) (.int .i64 m) (.int .i64 m) (fun ρ h1 h2 kk w1 (hg:Grow _ w1) hb hf=>by go_simp) ?_
 refine fl_op1G 21 (.tmp 11) (.pointer (some ⟨v,0,none⟩)) (.pointer (some ⟨v,0,none⟩)) ?_
 refine fl_op1G 22 (.tmp 21) (.pointer (some ⟨v,0,none⟩)) (.pointer (some ⟨v,10,none⟩)) ?_
 refine fl_op2N 23 (.tmp 22) (.tmp 12) (.pointer (some ⟨v,10,none⟩)) (.int .i64 0) (.pointer (some ⟨v,10,none⟩)) (fun ρ h1 h2 kk w1 (hg:Grow _ w1) hb hf=>by go_simp) ?_
 refine fl_end (fun _ _ w1 (hg:Grow _ w1) _ hfacts=>hT _ _ ?_)
 clear hops hA' hK hT
 simp only[putsL,Act.put,List.setIfInBounds_toArray,List.set_cons_zero,List.set_cons_succ,List.drop_succ_cons,List.drop_zero]
 have hB1:=hB.grow hg
 have c10:=hB1.cell 10
 have f10:=hB1.frozen 10
 have hB2:Blk (w1.setCell ⟨v,10,none⟩ (.int .i64 m)) v 265 #[.int .i64 t,.int .i64 1,.bool true,.bool false,.bool false,.bool false,.bool false,.bool false,.bool false,.bool false,.int .i64 m,.int .i64 0,.int .i64 0,.int .i64 0,.int .i64 0,.int .i64 0,.int .i64 0,.int .i64 0,.int .i64 had,.slice A0 0 0,.int .i64 1]:=hB1.put 10 _
 have J1:=(Just.of_grow (V:=V) hg).put hv 10 (.int .i64 m)
 go_wp2_with fail
 obtain⟨w2,HW2⟩:∃ w2,Hid (w2=w1.setCell ⟨v,10,none⟩ (.int .i64 m)):=⟨_,rfl⟩
 rw[←HW2.out] at hB2 J1 ⊢
 clear c10 f10 hg hB1
 refine wp_region_flow 10 44 [(8,.inr (fun _=>IsOne m))] rfl rfl (by kernel_rfl) (by kernel_rfl) (by kernel_rfl) ?_ ?_
 ·intro x hx φ he
  simp only[List.mem_cons,List.not_mem_nil,or_false] at hx
  rcases hx with rfl<;>cases he
  all_goals first|exact lasts_quiet (lasting_bytes _)|exact lasts_quiet (isOne_lasting _)
 intro ops' A' K' T hops hA' hK hT
 refine fl_mvN 24 (.pointer (some ⟨v,0,none⟩)) ?_
 refine fl_op1G 25 (.tmp 24) (.pointer (some ⟨v,0,none⟩)) (.pointer (some ⟨v,0,none⟩)) ?_
 refine fl_op1G 26 (.tmp 25) (.pointer (some ⟨v,0,none⟩)) (.pointer (some ⟨v,10,none⟩)) ?_
 refine fl_mvN 27 (.pointer (some ⟨v,0,none⟩)) ?_
 refine fl_op1G 28 (.tmp 27) (.pointer (some ⟨v,0,none⟩)) (.pointer (some ⟨v,0,none⟩)) ?_
 refine fl_op1G 29 (.tmp 28) (.pointer (some ⟨v,0,none⟩)) (.pointer (some ⟨v,1,none⟩)) ?_
 refine fl_op1N 30 (.tmp 29) (.pointer (some ⟨v,1,none⟩)) (.int .i64 1) (fun ρ h1 kk w1 (hg:Grow _ w1) hb hf=>by have c:=(hB2.grow hg).cell 1;go_simp) ?_
 refine fl_op2N 31 (.tmp 26) (.tmp 30) (.pointer (some ⟨v,10,none⟩)) (.int .i64 1) (.slice (some ⟨v,10,none⟩) 1 8) (fun ρ h1 h2 kk w1 (hg:Grow _ w1) hb hf=>by go_simp) ?_
 refine fl_callAny 32 (by rfl) (by decide) (wanted_none (by rfl)) (fun _=>IsOne m) (by rw[hK.out];rfl) 232 _ _ (by rfl) [.slice (some ⟨v,10,none⟩) 1 8] (by rfl) k232 (fun kk w1 (hg:Grow _ w1) hb hf=>calls_behindAny (φ:=fun _=>IsOne m) (by rfl) (by exact (cloneI_one w1 v 10 8 m ((hB2.grow hg).cell 10)).mono fun _ _ ⟨g,c,he,h1,h2⟩=>⟨_,he,h2,g,c,rfl,h1⟩)) (fun v32=>?_)
 refine fl_mvN 7 (v32) ?_
 refine fl_end (fun _ _ w1 (hg:Grow _ w1) _ hfacts=>hT _ _ ?_)
 clear hops hA' hK hT
 simp only[putsL,Act.put,List.setIfInBounds_toArray,List.set_cons_zero,List.set_cons_succ,List.drop_succ_cons,List.drop_zero]
 obtain⟨g,c,rfl,hc⟩:IsOne m v32 w1:=hfacts.1
 clear hfacts
 have hS:=sortI_one w1 (some ⟨g,0,none⟩) c
 have hB3:=hB2.grow hg
 have c1:=hB3.cell 1
 go_wp2_with fail
 refine hS.mono ?_
 rintro e w4 ⟨rfl,rfl⟩
 go_wp2_with fail
 go_ret
 exact⟨rfl,⟨A0,.inl hv,hB3⟩,J1.trans (Just.of_grow hg)⟩
end Go.Proofs.YtmijcbfgfkeodaaGreatDoor
end
section
namespace Go.Proofs.YtmijcbfgfkeodaaGreatDoor.V
open Go.RowKit Go.Hop
theorem take_pre {l f:List UInt8} {k:Nat} (h:f <+: l.drop k):l.take (k+f.length)=l.take k++f:=by
 obtain⟨t,ht⟩:=h
 rw[List.take_add,←ht,List.take_left' rfl]
theorem frame_five (x:List UInt8):5≤(frame x).length:=by
 have:=enc_pos x.length
 rw[frame_len];omega
def NoFrame (l:List UInt8):Prop:=∀ y:List UInt8,y.length≤65536→¬ frame y <+: l
def ScanIs (l:List UInt8) (xs:List (List UInt8)) (k:Nat):Prop:=xs.flatMap frame++l.drop k=l∧k=(xs.flatMap frame).length∧(∀ x∈xs,x.length≤65536)∧NoFrame (l.drop k)
theorem scan_one:∀ (xs ys:List (List UInt8)) (r s:List UInt8),xs.flatMap frame++r=ys.flatMap frame++s→(∀ x∈xs,x.length≤65536)→(∀ x∈ys,x.length≤65536)→NoFrame r→NoFrame s→xs=ys
 | [],[],_,_,_,_,_,_,_=>rfl
 | [],y :: ys,r,s,h,_,hy,hr,_=>absurd (show frame y <+: r by
  rw[List.flatMap_nil,List.nil_append,List.flatMap_cons,List.append_assoc] at h
  rw[h];exact List.prefix_append _ _) (hr y (hy y List.mem_cons_self))
 | x :: xs,[],r,s,h,hx,_,_,hs=>absurd (show frame x <+: s by
     rw[List.flatMap_nil,List.nil_append,List.flatMap_cons,List.append_assoc] at h
     rw[←h];exact List.prefix_append _ _) (hs x (hx x List.mem_cons_self))
 | x :: xs,y :: ys,r,s,h,hx,hy,hr,hs=>by
   rw[List.flatMap_cons,List.flatMap_cons,List.append_assoc,List.append_assoc] at h
   have e:x=y:=frame_one (r:=frame x++(xs.flatMap frame++r)) (List.prefix_append _ _) (by rw[h];exact List.prefix_append _ _)
   subst e
   rw[scan_one xs ys r s (List.append_cancel_left h) (fun z hz=>hx z (List.mem_cons_of_mem _ hz)) (fun z hz=>hy z (List.mem_cons_of_mem _ hz)) hr hs]
theorem ScanIs.one {l:List UInt8} {xs ys:List (List UInt8)} {k j:Nat} (h:ScanIs l xs k) (h':ScanIs l ys j):xs=ys∧k=j:=by
 have e:=scan_one xs ys _ _ (h.1.trans h'.1.symm) h.2.2.1 h'.2.2.1 h.2.2.2 h'.2.2.2
 subst e
 exact⟨rfl,by rw[h.2.1,h'.2.1]⟩
theorem frames_len (xs:List (List UInt8)):5*xs.length≤(xs.flatMap frame).length:=by
 induction xs with
 | nil=>simp
 | cons x xs ih=>
   have:=frame_five x
   rw[List.flatMap_cons,List.length_append,List.length_cons];omega
theorem frames_more {l x:List UInt8} {xs:List (List UInt8)} {k:Nat} (h:l.take k=xs.flatMap frame) (hx:frame x <+: l.drop k):l.take (k+(frame x).length)=(xs++[x]).flatMap frame:=by
 rw[take_pre hx,h,List.flatMap_append,List.flatMap_cons,List.flatMap_nil,List.append_nil]
theorem frames_done {l:List UInt8} {xs:List (List UInt8)} {k:Nat} (h:l.take k=xs.flatMap frame) (hk:k≤l.length) (hx:∀ x∈xs,x.length≤65536) (hn:NoFrame (l.drop k)):ScanIs l xs k:=
 ⟨by rw[←h,List.take_append_drop],by rw[←h,List.length_take];omega,hx,hn⟩
structure BxIn (w:World) (V:Nat→Prop) (b:Bx):Prop where
 bs:In w V 1 b.A b.m (u8s b.bs)
 le:b.m≤b.c
 max:b.c≤maxLen
theorem BxIn.mono {w:World} {V V':Nat→Prop} {b:Bx} (h:BxIn w V b) (hV:∀ b,V b→V' b):BxIn w V' b:=⟨In.mono h.bs hV,h.le,h.max⟩
theorem BxIn.grow {w w':World} {V:Nat→Prop} {b:Bx} (h:BxIn w V b) (hg:Grow w w'):BxIn w' V b:=⟨In.grow h.bs hg,h.le,h.max⟩
theorem BxIn.just {w w':World} {V U:Nat→Prop} {b:Bx} (h:BxIn w V b) (hj:Just U w w') (hd:∀ b,V b→¬ U b):BxIn w' V b:=⟨In.just h.bs hj hd,h.le,h.max⟩
structure Bxs (w:World) (V D:Nat→Prop) (A:Option Addr) (n:Nat) (q:List Bx):Prop where
 row:In w V 1 A n (q.flatMap Bx.cells)
 all:∀ b∈q,BxIn w D b
theorem Bxs.grow {w w':World} {V D:Nat→Prop} {A:Option Addr} {n:Nat} {q:List Bx} (h:Bxs w V D A n q) (hg:Grow w w'):Bxs w' V D A n q:=⟨h.row.grow hg,fun b hb=>(h.all b hb).grow hg⟩
theorem Bxs.mono {w:World} {V D V' D':Nat→Prop} {A:Option Addr} {n:Nat} {q:List Bx} (h:Bxs w V D A n q) (hV:∀ b,V b→V' b) (hD:∀ b,D b→D' b):Bxs w V' D' A n q:=⟨h.row.mono hV,fun b hb=>(h.all b hb).mono hD⟩
def IsXs (xs:List (List UInt8)) (w0:World) (u:Value) (w:World):Prop:=∃ (A:Option Addr) (c:Nat) (q:List Bx),u=.slice A q.length c∧Bxs w (New w0 w) (New w0 w) A q.length q∧q.map Bx.bs=xs∧q.length≤c∧c≤maxLen
theorem bxs_info:(Tryz.prog.info? 65).map (fun i=>(i.zero,i.size,i.bytes))=some (some (.slice none 0 0),1,24):=by kernel_rfl
theorem bxE:Elem Tryz.prog 135 65 1 24 (.slice none 0 0):=⟨Tryz.underlying135,info_parts bxs_info,rfl,by decide,by decide⟩
theorem Scan_any (w:World) (A:Option Addr) (n c:Nat) (l:List UInt8) (hb:Bytes w w.heap.size A n l) (hnc:n≤c) (hcm:c≤maxLen) (hn:n≤1099511627776) :
 Calls Tryz.prog 145 #[.slice A n c] w fun e w'=>∃ (xs:List (List UInt8)) (k:Nat) (u:Value),ScanIs l xs k∧e=.returned (.tuple #[u,.int .i64 (k:Int)])∧IsXs xs w u w'∧Grow w w':=by
 have hlen:=hb.len
 go_enter Tryz.func145,Tryz.ntmps145
 go_wp2_with fail
 go_loopw [4,5] (fun s i wr=>∃ (k:Nat) (q:List Bx) (R D:Nat→Prop),k≤n∧i=.int .i64 (k:Int)∧Own wr R 65 1 s q.length (q.flatMap Bx.cells)∧(∀ b∈q,BxIn wr D b)∧(∀ x∈q.map Bx.bs,x.length≤65536)∧l.take k=(q.map Bx.bs).flatMap frame∧(∀ b,R b→New w wr b∧¬ D b)∧(∀ b,D b→New w wr b)∧Grow w wr) (fun _ i _=>n-(intOf i).toNat)
 case atStart=>exact⟨0,[],fun _=>False,fun _=>False,by omega,rfl,Own.nil,by simp,by simp,by simp,fun _ h=>h.elim,fun _ h=>h.elim,Grow.refl _⟩
 case round=>
  obtain⟨k,q,R,D,hkn,rfl,hO,hin,h6,hfr,hR,hD,hg⟩:=hrel
  obtain⟨A1,c1,rfl,hI1,hnc1,hm1⟩:=hO.in_
  have hq5:5*q.length≤k:=by
   have h1:=frames_len (q.map Bx.bs)
   rw[←hfr,List.length_take,List.length_map] at h1;omega
  have hsr:=hg.size
  have hbr:Bytes wr wr.heap.size A n l:=Reads.more (Reads.below hb hg) hg.size
  have hR':=Reads.cut hbr (k:=k) (cap:=c) hkn hnc
  have hb':Bytes wr wr.heap.size (if c=k then A else A.map (·.add k)) (n-k) (l.drop k):=by
   simp only[Nat.mul_one] at hR'
   unfold Bytes;rw[u8s_drop,Nat.mul_one];exact hR'
  have hdone:∀ (w1:World),Grow wr w1→NoFrame (l.drop k)→∃ (xs:List (List UInt8)) (k':Nat) (u:Value),ScanIs l xs k'∧Ending.returned (.tuple #[.slice A1 q.length c1,.int .i64 (k:Int)])=.returned (.tuple #[u,.int .i64 (k':Int)])∧IsXs xs w u w1∧Grow w w1:=fun w1 hg1 hno=>
   ⟨q.map Bx.bs,k,_,frames_done hfr (by omega) h6 hno,rfl,⟨A1,c1,q,rfl,⟨(hI1.mono fun b hb=>(⟨(hR b hb).1.1,by have:=(hR b hb).1.2;have:=hg1.size;omega⟩:New w w1 b)).grow hg1,fun b hb=>((hin b hb).mono fun x hx=>(⟨(hD x hx).1,by have:=(hD x hx).2;have:=hg1.size;omega⟩:New w w1 x)).grow hg1⟩,rfl,hnc1,hm1⟩,hg.trans hg1⟩
  by_cases hck:c=k
  ·rw[if_pos hck] at hb'
   have hnk:n=k:=by omega
   go_wp2_with fail
   go_at_call 101
   rw[show n-k=0 by omega] at hb'
   refine (Read_any _ _ 0 0 (l.drop k) hb' (by omega) (by omega)).mono ?_
   rintro e w1 ⟨x,k',ok,v,hRd,rfl,hO1,hg1⟩
   rcases hRd with ⟨_,hx6,hpre,hk'⟩|⟨rfl,hno,rfl,rfl⟩
   ·exfalso
    have h1:=hpre.length_le
    have h2:=frame_five x
    rw[List.length_drop] at h1;omega
   ·go_wp2_with fail
    go_ret2
    exact hdone w1 hg1 hno
  ·rw[if_neg hck] at hb'
   go_wp2_with fail
   go_at_call 101
   refine (Read_any _ _ (n-k) (c-k) (l.drop k) hb' (by omega) (by omega)).mono ?_
   rintro e w1 ⟨x,k',ok,v,hRd,rfl,hO1,hg1⟩
   rcases hRd with ⟨rfl,hx6,hpre,hk'⟩|⟨rfl,hno,rfl,rfl⟩
   ·have hpl:=hpre.length_le
    rw[List.length_drop] at hpl
    have h5:=frame_five x
    have HF:=Lib.hid (frames_more hfr hpre)
    obtain⟨A2,c2,rfl,hI2,hnc2,hm2⟩:=hO1.in_
    have hwk:IntKind.i64.wrap ((k:Int)+(k':Int))=(k:Int)+(k':Int):=by rw[IntKind.wrap_i64];omega
    have hs1:=hg1.size
    have hgB:=(Below.refl w1.heap.size w1).alloc (Nat.le_refl _) (.cells #[.slice A2 x.length c2] 65)
    have hRlt:∀ b,R b→b<wr.heap.size:=fun b hb=>(hR b hb).1.2
    go_wp2_with (at_builtin;refine stay ?_)
    refine stay_out ?_
    refine wpList_own (V:=R) bxE _ rfl (.tmp 21) (.tmp 23) rfl (.slice A1 q.length c1) q.length (q.flatMap Bx.cells) rfl (((hO.grow hRlt hg1).grow (fun b hb=>by have:=hRlt b hb;omega) hgB)) (w1.heap.size+1) (some ⟨w1.heap.size,0,none⟩) 1 1 (Bx.cells ⟨A2,x.length,c2,x⟩) rfl (reads_laid w1 _ 65 _ rfl _ rfl) (bx_one _) (by omega) ?_
    intro v2 w2 hO2 hj2
    have hs2:=hj2.size
    simp only[alloc_size] at hs2
    have hgj:Below w.heap.size w1 w2:=Below.trans (hgB.mono (by omega)) (hj2.below (B:=w.heap.size) (fun b hb=>(hR b hb).1.1) (by simp;omega))
    have hg2:Grow w w2:=Below.trans (hg.trans hg1) hgj
    have hD2:∀ b:Bx,BxIn w1 D b→BxIn w2 D b:=fun b hb=>(hb.grow hgB).just hj2 fun x hx hr=>(hR x hr).2 hx
    have hN2:∀ b:Bx,BxIn w1 (New wr w1) b→BxIn w2 (New wr w1) b:=fun b hb=>(hb.grow hgB).just hj2 fun x hx hr=>by have:=hx.1;have:=hRlt x hr;omega
    go_wp2_with fail
    go_roundw
    case rel=>
     refine⟨k+k',q++[⟨A2,x.length,c2,x⟩],Ext R (w1.alloc (.cells #[.slice A2 x.length c2] 65)) w2,fun b=>D b∨New wr w1 b,by omega,by go_num,?_,fun b hb=>?_,fun y hy=>?_,?_,fun b hb=>?_,fun b hb=>?_,hg2⟩
     ·rw[List.flatMap_append,List.flatMap_cons,List.flatMap_nil,List.append_nil,List.length_append];exact hO2
     ·rcases List.mem_append.1 hb with hb|hb
      ·exact (hD2 b ((hin b hb).grow hg1)).mono fun _ => .inl
      ·rw[List.mem_singleton.1 hb];exact (hN2 ⟨A2,x.length,c2,x⟩ ⟨hI2,hnc2,hm2⟩).mono fun _ => .inr
     ·rw[List.map_append] at hy
      rcases List.mem_append.1 hy with hy|hy
      ·exact h6 y hy
      ·rw[List.mem_singleton.1 hy];exact hx6
     ·rw[List.map_append,hk',HF.out];rfl
     ·rcases hb with hb|⟨h1,h2⟩
      ·refine⟨⟨(hR b hb).1.1,by have:=hRlt b hb;omega⟩,fun hd=>?_⟩
       rcases hd with hd|hd
       ·exact (hR b hb).2 hd
       ·have:=hd.1;have:=hRlt b hb;omega
      ·simp only[alloc_size] at h1
       refine⟨⟨by omega,h2⟩,fun hd=>?_⟩
       rcases hd with hd|hd
       ·have:=(hD b hd).2;omega
       ·have:=hd.2;omega
     ·rcases hb with hb|hb
      ·have:=hD b hb;exact⟨this.1,by have:=this.2;omega⟩
      ·have h1:=hb.1;have h2:=hb.2;exact⟨by omega,by omega⟩
    case measure=>simp[intOf];omega
   ·go_wp2_with fail
    go_ret2
    exact hdone w1 hg1 hno
def fits (l b:List UInt8):Bool:=decide (l.length+b.length≤1048576)
def appE (l b:List UInt8):Int:=if fits l b then 0 else 24
def appL (l b:List UInt8):List UInt8:=if fits l b then l++b else l
def cutB (l:List UInt8) (n:Int):Bool:=decide (0≤n) && decide (n≤(l.length:Int))
def cutL (l:List UInt8) (n:Int):List UInt8:=if cutB l n then l.take n.toNat else l
def cutK (l:List UInt8) (k:Nat) (n:Int):Nat:=if cutB l n then n.toNat else k
def DiskAt (t d:Nat) (l:List UInt8) (k:Nat):Thing:=fun w V=>
 V d∧k≤l.length∧l.length≤1048576∧∃ v,Blk w d t #[v,.int .i64 (k:Int)]∧Own w (fun b=>V b∧b≠d) 5 1 v l.length (u8s l)
theorem DiskAt.framed (t d:Nat) (l:List UInt8) (k:Nat):Framed (DiskAt t d l k):=fun w w' V h hk=>by
 obtain⟨h1,h2,h3,v,h4,h5⟩:=h
 exact⟨h1,h2,h3,v,(hk d h1).trans h4,h5.keep fun b hb=>hk b hb.1⟩
theorem fits_of {l b:List UInt8} (h:l.length+b.length≤1048576):fits l b=true:=by unfold fits;exact decide_eq_true h
theorem DiskAt.wide {t d:Nat} {l:List UInt8} {k:Nat} {w:World} {V V':Nat→Prop} (h:DiskAt t d l k w V) (hV:∀ b,V b→V' b):DiskAt t d l k w V':=by
 obtain⟨h1,h2,h3,v,h4,h5⟩:=h
 exact⟨hV d h1,h2,h3,v,h4,h5.mono fun b hb=>⟨hV b hb.1,hb.2⟩⟩
theorem cut_of {l:List UInt8} {n:Int} (h:cutB l n=true):∃ m:Nat,n=(m:Int)∧m≤l.length:=by
 unfold cutB at h
 rw[Bool.and_eq_true,decide_eq_true_eq,decide_eq_true_eq] at h
 exact⟨n.toNat,by omega,by omega⟩
theorem Sync_any (w:World) (d:Nat) (l:List UInt8) (k:Nat) :
 Turns Tryz.prog 218 #[.pointer (some ⟨d,0,none⟩)] (fun e=>e=.returned (.tuple #[])) (DiskAt 133 d l k) (DiskAt 133 d l l.length) w:=by
 intro V ⟨hd,hk,hl,v,hB,hO⟩ hV
 obtain⟨A,c,rfl,hR,hn,hm⟩:=hO.reads
 have c0:=hB.cell 0
 have f0:=hB.frozen 1
 have c1:=hB.cell 1
 go_enter Tryz.func218,Tryz.ntmps218
 go_wp2_with fail
 go_end0
 exact⟨rfl,⟨.inl hd,Nat.le_refl _,hl,_,hB.put 1 _,(hO.put (fun h=>h.2 rfl) 1 _).mono fun b hb=>⟨.inl hb.1,hb.2⟩⟩,(Just.of_grow (Grow.refl w)).put hd 1 _⟩
theorem Cut_no (w:World) (d:Nat) (l:List UInt8) (k:Nat) (n:Int) (hn:-9223372036854775808≤n∧n≤9223372036854775807) (hc:cutB l n=false) :
 Turns Tryz.prog 80 #[.pointer (some ⟨d,0,none⟩),.int .i64 n] (fun e=>e=.returned (.bool false)) (DiskAt 133 d l k) (DiskAt 133 d l k) w:=by
 intro V hD hV
 have hD':=hD
 obtain⟨hd,hk,hl,v,hB,hO⟩:=hD
 obtain⟨A,c,rfl,hR,hnc,hm⟩:=hO.reads
 have c0:=hB.cell 0
 unfold cutB at hc
 rw[Bool.and_eq_false_iff,decide_eq_false_iff_not,decide_eq_false_iff_not] at hc
 by_cases h0:n<0
 ·go_enter Tryz.func80,Tryz.ntmps80
  go_wp2_with fail
  go_ret
  exact⟨rfl,DiskAt.wide hD' (fun _ => .inl),Just.of_grow (Grow.refl w)⟩
 ·have h1:(l.length:Int)<n:=by omega
  go_enter Tryz.func80,Tryz.ntmps80
  go_wp2_with fail
  go_ret
  exact⟨rfl,DiskAt.wide hD' (fun _ => .inl),Just.of_grow (Grow.refl w)⟩
theorem Cut_yes (w:World) (d:Nat) (l:List UInt8) (k m:Nat) (hm:m≤l.length) :
 Turns Tryz.prog 80 #[.pointer (some ⟨d,0,none⟩),.int .i64 (m:Int)] (fun e=>e=.returned (.bool true)) (DiskAt 133 d l k) (DiskAt 133 d (l.take m) m) w:=by
 intro V ⟨hd,hk,hl,v,hB,hO⟩ hV
 obtain⟨A,c,rfl,hR,hnc,hc⟩:=hO.reads
 have hO2:=hO.cut hm
 have c0:=hB.cell 0
 have f0:=hB.frozen 0
 have f1:=hB.frozen 1
 have c1:=hB.cell 1
 have hlm:(l.take m).length=m:=by rw[List.length_take];omega
 go_enter Tryz.func80,Tryz.ntmps80
 go_wp2_with (go_at_call 163;refine (clip_any _ A m c (by omega)).mono ?_;rintro e w1 ⟨rfl,rfl⟩)
 go_ret
 have hB2:=(hB.put 0 (.slice A m m)).put 1 (.int .i64 (m:Int))
 refine⟨rfl,⟨.inl hd,by omega,by omega,_,hB2,?_⟩,((Just.of_grow (Grow.refl w)).put hd 0 _).put hd 1 _⟩
 rw[hlm,u8s_take]
 exact ((hO2.put (fun h=>h.2 rfl) 0 _).put (fun h=>h.2 rfl) 1 _).mono fun b hb=>⟨.inl hb.1,hb.2⟩
theorem Append_no (w:World) (d:Nat) (l:List UInt8) (k:Nat) (A:Option Addr) (n c:Nat) (b:List UInt8) (hb:Bytes w w.heap.size A n b) (hf:fits l b=false) :
 Turns Tryz.prog 153 #[.pointer (some ⟨d,0,none⟩),.slice A n c] (fun e=>e=.returned (.int .i64 24)) (DiskAt 133 d l k) (DiskAt 133 d l k) w:=by
 intro V hD hV
 have hD':=hD
 obtain⟨hd,hk,hl,v,hB,hO⟩:=hD
 obtain⟨A1,c1,rfl,hR,hnc,hm⟩:=hO.reads
 have c0:=hB.cell 0
 have hbl:=hb.len
 have hf':¬ l.length+n≤1048576:=by rw[←hbl];exact of_decide_eq_false hf
 go_enter Tryz.func153,Tryz.ntmps153
 go_wp2_with fail
 go_ret
 exact⟨rfl,DiskAt.wide hD' (fun _ => .inl),Just.of_grow (Grow.refl w)⟩
theorem Append_yes (w:World) (d:Nat) (l:List UInt8) (k:Nat) (A:Option Addr) (n c:Nat) (b:List UInt8) (hb:Bytes w w.heap.size A n b) (hf:fits l b=true) :
 Turns Tryz.prog 153 #[.pointer (some ⟨d,0,none⟩),.slice A n c] (fun e=>e=.returned (.int .i64 0)) (DiskAt 133 d l k) (DiskAt 133 d (l++b) k) w:=by
 intro V ⟨hd,hk,hl,v,hB,hO⟩ hV
 obtain⟨A1,c1,rfl,hR,hnc,hm⟩:=hO.reads
 have c0:=hB.cell 0
 have hbl:=hb.len
 have hf':l.length+n≤1048576:=by rw[←hbl];exact of_decide_eq_true hf
 go_enter Tryz.func153,Tryz.ntmps153
 go_wp2_with (at_builtin;refine stay ?_)
 refine stay_out ?_
 refine wpList_own u8E _ rfl (.tmp 18) (.tmp 19) rfl (.slice A1 l.length c1) l.length (u8s l) rfl hO w.heap.size A n c (u8s b) rfl hb u8s_one (by omega) ?_
 intro v1 w1 hO1 hj1
 have hB1:=hj1.blk hB (fun h=>h.2 rfl)
 obtain⟨A2,c2,rfl,hR2,_,_⟩:=hO1.reads
 have f1:=hB1.frozen 0
 have c1:=hB1.cell 0
 go_wp2_with fail
 go_ret
 have hdl:=hB.lt
 rw[←u8s_append] at hO1
 have hll:(l++b).length=l.length+n:=by rw[List.length_append,hbl]
 refine⟨rfl,⟨.inl hd,by omega,by omega,_,hB1.put 0 _,?_⟩,(hj1.imp fun k hk=>hk.1).put hd 0 _⟩
 rw[hll]
 have hne:¬ Ext (fun b=>V b∧b≠d) w w1 d:=fun h=>by
  rcases h with h|h
  ·exact h.2 rfl
  ·have:=h.1;omega
 exact (hO1.put hne 0 _).mono fun b hb=>⟨by rcases hb with h|h;exact .inl h.1;exact .inr ⟨h.1,by simpa [World.setCell] using h.2⟩,fun e=>by subst e;exact hne hb⟩
theorem Cut_any (w:World) (d:Nat) (l:List UInt8) (k:Nat) (n:Int) (hn:-9223372036854775808≤n∧n≤9223372036854775807) :
 Turns Tryz.prog 80 #[.pointer (some ⟨d,0,none⟩),.int .i64 n] (fun e=>e=.returned (.bool (cutB l n))) (DiskAt 133 d l k) (DiskAt 133 d (cutL l n) (cutK l k n)) w:=by
 unfold cutL cutK
 cases hc:cutB l n with
 | false=>exact Cut_no w d l k n hn hc
 | true=>
   obtain⟨m,rfl,hm⟩:=cut_of hc
   exact Cut_yes w d l k m hm
theorem Append_any (w:World) (d:Nat) (l:List UInt8) (k:Nat) (A:Option Addr) (n c:Nat) (b:List UInt8) (hb:Bytes w w.heap.size A n b) :
 Turns Tryz.prog 153 #[.pointer (some ⟨d,0,none⟩),.slice A n c] (fun e=>e=.returned (.int .i64 (appE l b))) (DiskAt 133 d l k) (DiskAt 133 d (appL l b) k) w:=by
 unfold appE appL
 cases hc:fits l b with
 | false=>exact Append_no w d l k A n c b hb hc
 | true=>exact Append_yes w d l k A n c b hb hc
theorem All_any (w:World) (d:Nat) (l:List UInt8) (k:Nat) (V:Nat→Prop) (hD:DiskAt 133 d l k w V) :
 Calls Tryz.prog 146 #[.pointer (some ⟨d,0,none⟩)] w fun e w'=>∃ v,e=.returned v∧Own w' (New w w') 5 1 v l.length (u8s l)∧Grow w w':=by
 obtain⟨hd,hk,hl,v,hB,hO⟩:=hD
 obtain⟨A1,c1,rfl,hR,hnc,hm⟩:=hO.reads
 have c0:=hB.cell 0
 go_enter Tryz.func146,Tryz.ntmps146
 go_wp2_with (go_at_call 180;refine (clone_any _ A1 l.length c1 l hR (by omega)).mono ?_;rintro e w1 ⟨v1,rfl,hO1,hg1⟩)
 go_ret
 exact⟨v1,rfl,hO1,hg1⟩
theorem New_any (w:World) :
 Calls Tryz.prog 22 #[] w fun e w'=>e=.returned (.pointer (some ⟨w.heap.size,0,none⟩))∧DiskAt 133 w.heap.size [] 0 w' (New w w')∧Grow w w':=by
 go_enter Tryz.func22,Tryz.ntmps22
 go_wp2_with fail
 go_ret
 exact⟨rfl,⟨⟨Nat.le_refl _,by simp⟩,Nat.le_refl _,by simp,_,Blk.made w _ _,Own.nil⟩,(Below.refl w.heap.size w).alloc (Nat.le_refl _) _⟩
end Go.Proofs.YtmijcbfgfkeodaaGreatDoor.V
end
