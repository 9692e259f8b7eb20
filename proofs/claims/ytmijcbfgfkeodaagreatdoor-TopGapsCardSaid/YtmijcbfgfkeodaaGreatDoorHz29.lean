/- Re3, Re4. -/
import Derived.Test.YtmijcbfgfkeodaaGreatDoorHz28
set_option linter.all false
set_option maxRecDepth 100000
section
namespace Go.Proofs.YtmijcbfgfkeodaaGreatDoor
open Go.RowKit Go.Hop Go.Proofs.YtmijcbfgfkeodaaGreatDoor.V
theorem soloSt_same {P:Nat→Prop} {S:Thing} {m1:Nat} {st:List (Nat×Nat)} {j k:Nat} {w:World} (h:(SoloSt P S S m1 st).before j k w):Solo P S w:=by
 have h1:=h.1
 cases k with
 | zero=>exact h1
 | succ k=>exact h1
theorem rpcounted_0 (w:World) (p:RpP) (v:Nat) (leads:Bool) (own:Int) (t:Nat) (had n:Int) (bs:List UInt8) (Mt:Thing) (hM:Framed Mt) (V:Nat→Prop) (hL:Many (rpL p 0 1 0 (.pointer (some ⟨v,0,none⟩)) leads own t t [] n bs Mt (VoteAt v t true 0 had 1)) w V) (hV:∀ b,V b→b<w.heap.size) :
 Calls Tryz.prog 98 #[.pointer (some ⟨p.r,0,none⟩),.int .i64 0,.int .i64 0] w fun e w'=>e=.returned (.slice none 0 0)∧Many (rpL p 0 1 0 (.pointer (some ⟨v,0,none⟩)) leads own t t [] n bs Mt (VoteAt v t true 0 had 1)) w' (Ext V w w')∧Just V w w':=by
 have hS0:=Solo.begin_ hL hV
 have hF0:=rpL_framed p 0 1 0 (.pointer (some ⟨v,0,none⟩)) leads own t t [] n bs Mt (VoteAt v t true 0 had 1) hM (VoteAt.framed _ _ _ _ _ _)
 have hB:=hS0.blk 0 rfl
 unfold rpC at hB
 have c5:=hB.cell 5
 have hA:=hS0.at_ 3 rfl hF0 (vAccepted_one w v t 0 had 0 (by omega))
 go_enter Tryz.func98,Tryz.ntmps98
 go_wp2_with fail
 refine hA.mono ?_
 rintro e w1 ⟨rfl,hj1,hS1⟩
 have hS1:Solo (Lic V w) (Many (rpL p 0 1 0 (.pointer (some ⟨v,0,none⟩)) leads own t t [] n bs Mt (VoteAt v t true 0 had 1))) w1:=hS1
 obtain⟨U,hU,hUl⟩:=hS1.see 1 rfl
 have hP:=rpapply_0 w1 p (.pointer (some ⟨v,0,none⟩)) leads own (hS1.blk 0 rfl) t t [] n bs U hU rfl
 clear c5
 go_wp2_with fail
 refine hP.mono ?_
 rintro e w2 ⟨rfl,hg2⟩
 go_wp2_with fail
 go_ret
 obtain⟨r1,r2⟩:=Solo.done (hS1.grows hF0 hg2) (hj1.trans (Just.of_grow hg2)) hV
 exact⟨rfl,r1,r2⟩
theorem rpwon_1 (w:World) (p:RpP) (v:Nat) (t h:Nat) (had n:Int) (bs:List UInt8) (h1:1≤t) (hlong:h<t) (hte:t≤9223372036854775807) (hn0:0≤n∧n≤1099511627776) (hroom:Room bs (wordB t t [])) (Mt:Thing) (hM:Framed Mt) (V:Nat→Prop) (hL:Many (rpL p 0 1 0 (.pointer (some ⟨v,0,none⟩)) false 0 t h [] n bs Mt (VoteAt v t true 0 had 1)) w V) (hV:∀ b,V b→b<w.heap.size) :
 Calls Tryz.prog 90 #[.pointer (some ⟨p.r,0,none⟩)] w fun e w'=>e=.returned (.slice none 0 0)∧Many (rpL p 0 1 0 (.pointer (some ⟨v,0,none⟩)) true 0 t t [] (n+1) (bs++frame (wordB t t [])) Mt (VoteAt v t true 0 had 1)) w' (Ext V w w')∧Just V w w':=by
 have k95:∀ (vs:Array Value) (w:World),(callFunc 95 vs).run Tryz.prog w=.ok (.enter 95 vs) w:=fun vs w=>by go_simp
 have k170:∀ (vs:Array Value) (w:World),(callFunc 170 vs).run Tryz.prog w=.ok (.enter 170 vs) w:=fun vs w=>by go_simp
 have k171:∀ (vs:Array Value) (w:World),(callFunc 171 vs).run Tryz.prog w=.ok (.enter 171 vs) w:=fun vs w=>by go_simp
 have k98:∀ (vs:Array Value) (w:World),(callFunc 98 vs).run Tryz.prog w=.ok (.enter 98 vs) w:=fun vs w=>by go_simp
 have k172:∀ (vs:Array Value) (w:World),(callFunc 172 vs).run Tryz.prog w=.ok (.enter 172 vs) w:=fun vs w=>by go_simp
 have hS0:=Solo.begin_ hL hV
 have hF0:=rpL_framed p 0 1 0 (.pointer (some ⟨v,0,none⟩)) false 0 t h [] n bs Mt (VoteAt v t true 0 had 1) hM (VoteAt.framed _ _ _ _ _ _)
 have hB:=hS0.blk 0 rfl
 unfold rpC at hB
 have c5:=hB.cell 5
 obtain⟨U3,hU3,hUl3⟩:=hS0.see 3 rfl
 have hBs:=vBest_any w v t 0 had 1 true U3 hU3
 go_enter Tryz.func90,Tryz.ntmps90
 go_wp2_with fail
 refine hBs.mono ?_
 rintro e w1 ⟨Ab,rfl,hg1⟩
 have hS1:=hS0.grows hF0 hg1
 have hB1:=hS1.blk 0 rfl
 unfold rpC at hB1
 obtain⟨U4,hU4,hUl4⟩:=hS1.see 3 rfl
 have hVt:∀ w2,Grow w1 w2→VoteAt v t true 0 had 1 w2 U4:=fun w2 hg=>VoteAt.framed _ _ _ _ _ _ w1 w2 U4 hU4 fun b hb=>hg.block b (hUl4 b hb).2
 clear c5 hB
 go_wp2_with fail
 refine wp_region_flow 10 48 [(8,.inl (.int .i64 (t:Int)))] rfl rfl (by kernel_rfl) (by kernel_rfl) (by kernel_rfl) ?_ ?_
 ·intro x hx φ he
  simp only[List.mem_cons,List.not_mem_nil,or_false] at hx
  rcases hx with rfl<;>cases he
 intro ops' A' K' T hops hA' hK hT
 refine fl_mvN 9 (.pointer (some ⟨p.r,0,none⟩)) ?_
 refine fl_op1N 10 (.tmp 9) (.pointer (some ⟨p.r,0,none⟩)) (.pointer (some ⟨p.r,0,none⟩)) (fun ρ h1 kk w2 (hg2:Grow _ w2) hb hf=>by go_simp) ?_
 refine fl_op1N 11 (.tmp 10) (.pointer (some ⟨p.r,0,none⟩)) (.pointer (some ⟨p.r,2,none⟩)) (fun ρ h1 kk w2 (hg2:Grow _ w2) hb hf=>by go_simp) ?_
 refine fl_op1N 12 (.tmp 11) (.pointer (some ⟨p.r,2,none⟩)) (.pointer (some ⟨p.s,0,none⟩)) (fun ρ h1 kk w2 (hg2:Grow _ w2) hb hf=>by have c:=(hB1.grow hg2).cell 2;go_simp) ?_
 refine fl_mvN 13 (.pointer (some ⟨p.r,0,none⟩)) ?_
 refine fl_op1N 14 (.tmp 13) (.pointer (some ⟨p.r,0,none⟩)) (.pointer (some ⟨p.r,0,none⟩)) (fun ρ h1 kk w2 (hg2:Grow _ w2) hb hf=>by go_simp) ?_
 refine fl_op1N 15 (.tmp 14) (.pointer (some ⟨p.r,0,none⟩)) (.pointer (some ⟨p.r,5,none⟩)) (fun ρ h1 kk w2 (hg2:Grow _ w2) hb hf=>by go_simp) ?_
 refine fl_op1N 16 (.tmp 15) (.pointer (some ⟨p.r,5,none⟩)) (.pointer (some ⟨v,0,none⟩)) (fun ρ h1 kk w2 (hg2:Grow _ w2) hb hf=>by have c:=(hB1.grow hg2).cell 5;go_simp) ?_
 refine fl_call 17 (by rfl) (by decide) (wanted_none (by rfl)) (.int .i64 (t:Int)) (by rw[hK.out];rfl) 95 _ _ (by rfl) [.pointer (some ⟨v,0,none⟩)] (by rfl) k95 (fun kk w2 (hg2:Grow _ w2) hb hf=>calls_behind (by rfl) (by exact grew_same (vTerm_any w2 v t 0 had 1 true U4 (hVt w2 hg2)))) ?_
 refine fl_mvN 18 (.slice Ab 0 0) ?_
 refine fl_end (fun _ _ w2 (hg2:Grow _ w2) _ hfacts=>hT _ _ ?_)
 clear hops hA' hK hT
 simp only[putsL,Act.put,List.setIfInBounds_toArray,List.set_cons_zero,List.set_cons_succ,List.drop_succ_cons,List.drop_zero]
 clear hfacts
 have hS2:=hS1.grows hF0 hg2
 have J2:Just (Lic V w) w w2:=Just.of_grow (hg1.trans hg2)
 have hAc:=hS2.at_ 1 rfl hF0 (sAccept_0 w2 p.s p.x p.d t h t [] [] n bs (fun _=>False) Ab 0 [] Ens.nil rfl (Nat.le_refl _) h1 hlong hte (by simp) (by simp) hn0 hroom)
 go_wp2_with fail
 refine hAc.mono ?_
 rintro e w3 ⟨rfl,hj3,hS3⟩
 obtain⟨b2,HB2⟩:∃ b2:List UInt8,Hid (b2=bs++frame (wordB t t [])):=⟨_,rfl⟩
 rw[←HB2.out] at hS3
 have hS3:Solo (Lic V w) (Many (rpL p 0 1 0 (.pointer (some ⟨v,0,none⟩)) false 0 t t [] (n+1) b2 Mt (VoteAt v t true 0 had 1))) w3:=hS3
 have hF3:=rpL_framed p 0 1 0 (.pointer (some ⟨v,0,none⟩)) false 0 t t [] (n+1) b2 Mt (VoteAt v t true 0 had 1) hM (VoteAt.framed _ _ _ _ _ _)
 have J3:=J2.trans hj3
 have hB3:=hS3.blk 0 rfl
 unfold rpC at hB3
 have c2:=hB3.cell 2
 have c6:=hB3.cell 6
 have c7:=hB3.cell 7
 obtain⟨U5,hU5,hUl5⟩:=hS3.see 1 rfl
 have hLn:Calls Tryz.prog 171 #[.pointer (some ⟨p.s,0,none⟩)] w3 fun e w'=>e=.returned (.int .i64 0)∧w3=w':=sLen_any w3 p.s p.x p.d t t [] _ b2 U5 hU5
 clear hB1
 go_wp2_with fail
 refine hLn.mono ?_
 rintro e w4 ⟨rfl,rfl⟩
 go_wp2_with (refine wpList_putS rfl _ _ _ rfl hS3 hF3 J3 0 rfl rfl (.bool true) rfl (Nat.le_of_ble_eq_true rfl) rfl (by kernel_rfl) ?_;intro w4 hS4 J4;refine stay ?_)
 refine stay_out ?_
 clear c2 c6 c7 hB3
 have hS4:Solo (Lic V w) (Many (rpL p 0 1 0 (.pointer (some ⟨v,0,none⟩)) true 0 t t [] (n+1) b2 Mt (VoteAt v t true 0 had 1))) w4:=hS4
 have hF4:=rpL_framed p 0 1 0 (.pointer (some ⟨v,0,none⟩)) true 0 t t [] (n+1) b2 Mt (VoteAt v t true 0 had 1) hM (VoteAt.framed _ _ _ _ _ _)
 go_wp2_with (refine wpList_putS rfl _ _ _ rfl hS4 hF4 J4 0 rfl rfl (.int .i64 0) rfl (Nat.le_of_ble_eq_true rfl) rfl (by kernel_rfl) ?_;intro w5 hS5 J5;refine stay ?_)
 refine stay_out ?_
 have hS5:Solo (Lic V w) (Many (rpL p 0 1 0 (.pointer (some ⟨v,0,none⟩)) true 0 t t [] (n+1) b2 Mt (VoteAt v t true 0 had 1))) w5:=hS5
 go_wp2_with fail
 refine wp_region_reg rfl ?_
 refine reg_flow (SoloSt (Lic V w) (Many (rpL p 0 1 0 (.pointer (some ⟨v,0,none⟩)) true 0 t t [] (n+1) b2 Mt (VoteAt v t true 0 had 1))) (Many (rpL p 0 1 0 (.pointer (some ⟨v,0,none⟩)) true 0 t t [] (n+1) b2 Mt (VoteAt v t true 0 had 1))) 10 []) (soloSt_ok (Many.framed _ hF4) (Many.framed _ hF4)) 0 15 48 [(9,.inl (.int .i64 0)),(10,.inl (.slice none 0 0)),(12,.inl (.slice none 0 0))] rfl (by kernel_rfl) (by kernel_rfl) (by kernel_rfl) ?_ (Just.of_grow (Grow.refl _).drew) (hS5.grows hF4 (Grow.refl _).drew) ?_
 ·intro x hx φ he
  simp only[List.mem_cons,List.not_mem_nil,or_false] at hx
  rcases hx with rfl|rfl|rfl<;>cases he
 intro ops' A' K' T hops hA' hK hT
 refine fl_mvN 34 (.pointer (some ⟨p.r,0,none⟩)) ?_
 refine fl_mvN 35 (.pointer (some ⟨p.r,0,none⟩)) ?_
 refine fl_op1N 36 (.tmp 35) (.pointer (some ⟨p.r,0,none⟩)) (.pointer (some ⟨p.r,0,none⟩)) (fun ρ h1 kk w6 (hg6:Just (Lic V w) _ w6) hb hf=>by go_simp) ?_
 refine fl_op1N 37 (.tmp 36) (.pointer (some ⟨p.r,0,none⟩)) (.pointer (some ⟨p.r,0,none⟩)) (fun ρ h1 kk w6 (hg6:Just (Lic V w) _ w6) hb hf=>by go_simp) ?_
 refine fl_op1N 38 (.tmp 37) (.pointer (some ⟨p.r,0,none⟩)) (.int .i64 0) (fun ρ h1 kk w6 (hg6:Just (Lic V w) _ w6) hb hf=>by have hI:=soloSt_same hb;have hB:=hI.blk 0 rfl;unfold rpC at hB;have c:=hB.cell 0;go_simp) ?_
 refine fl_mvN 39 (.pointer (some ⟨p.r,0,none⟩)) ?_
 refine fl_op1N 40 (.tmp 39) (.pointer (some ⟨p.r,0,none⟩)) (.pointer (some ⟨p.r,0,none⟩)) (fun ρ h1 kk w6 (hg6:Just (Lic V w) _ w6) hb hf=>by go_simp) ?_
 refine fl_op1N 41 (.tmp 40) (.pointer (some ⟨p.r,0,none⟩)) (.pointer (some ⟨p.r,2,none⟩)) (fun ρ h1 kk w6 (hg6:Just (Lic V w) _ w6) hb hf=>by go_simp) ?_
 refine fl_op1N 42 (.tmp 41) (.pointer (some ⟨p.r,2,none⟩)) (.pointer (some ⟨p.s,0,none⟩)) (fun ρ h1 kk w6 (hg6:Just (Lic V w) _ w6) hb hf=>by have hI:=soloSt_same hb;have hB:=hI.blk 0 rfl;unfold rpC at hB;have c:=hB.cell 2;go_simp) ?_
 refine fl_call 43 (by rfl) (by decide) (wanted_none (by rfl)) (.int .i64 0) (by rw[hK.out];rfl) 171 _ _ (by rfl) [.pointer (some ⟨p.s,0,none⟩)] (by rfl) k171 (fun kk w6 (hg6:Just (Lic V w) _ w6) hb hf=>calls_behind (by rfl) (by exact (by have hI:=soloSt_same hb;obtain⟨U,hU,hUl⟩:=hI.see 1 rfl;exact grew_same (sLen_any w6 p.s p.x p.d t t [] _ b2 U hU)))) ?_
 refine fl_call 44 (by rfl) (by decide) (wanted_none (by rfl)) (.slice none 0 0) (by rw[hK.out];rfl) 98 _ _ (by rfl) [.pointer (some ⟨p.r,0,none⟩),.int .i64 0,.int .i64 0] (by rfl) k98 (fun kk w6 (hg6:Just (Lic V w) _ w6) hb hf=>calls_turn 0 (by rfl) (by obtain rfl:=before_some 0 (by rfl) hb;have hI:=hb.1;exact (Solo.call hI fun V1 hM1 hV1=>rpcounted_0 w6 p v true 0 t had (n+1) b2 Mt hM V1 hM1 hV1))) ?_
 refine fl_mvN 45 (.pointer (some ⟨p.r,0,none⟩)) ?_
 refine fl_call 46 (by rfl) (by decide) (wanted_none (by rfl)) (.slice none 0 0) (by rw[hK.out];rfl) 172 _ _ (by rfl) [.pointer (some ⟨p.r,0,none⟩)] (by rfl) k172 (fun kk w6 (hg6:Just (Lic V w) _ w6) hb hf=>calls_behind (by rfl) (by exact (by have hI:=soloSt_same hb;obtain⟨U,hU,hUl⟩:=hI.see 1 rfl;exact rpaccepts_one w6 p 0 (.pointer (some ⟨v,0,none⟩)) true 0 (hI.blk 0 rfl) t t [] (n+1) b2 U hU (fun b hb=>(hUl b hb).2) (by simp)))) ?_
 refine fl_op2N 47 (.tmp 44) (.tmp 46) (.slice none 0 0) (.slice none 0 0) (.slice none 0 0) (fun ρ h1 h2 kk w6 (hg6:Just (Lic V w) _ w6) hb hf=>by go_simp) ?_
 refine fl_mvN 2 (.slice none 0 0) ?_
 refine fl_end (fun _ _ w6 (hg6:Just (Lic V w) _ w6) hend hfacts=>hT _ _ ?_)
 clear hops hA' hK hT
 simp only[putsL,Act.put,List.setIfInBounds_toArray,List.set_cons_zero,List.set_cons_succ]
 have hS6:Solo (Lic V w) (Many (rpL p 0 1 0 (.pointer (some ⟨v,0,none⟩)) true 0 t t [] (n+1) b2 Mt (VoteAt v t true 0 had 1))) w6:=hend
 clear hend hfacts
 refine reg_end ?_
 go_wp2_with fail
 go_ret
 obtain⟨r1,r2⟩:=Solo.done hS6 (J5.trans hg6) hV
 rw[HB2.out] at r1
 exact⟨rfl,r1,r2⟩
def EmpSl (u:Value) (_:World):Prop:=∃ A:Option Addr,u=.slice A 0 0
theorem empSl_lasting:Lasting EmpSl:=fun _ _ _ h _=>h
theorem rpLead_1 (w:World) (p:RpP) (t h:Nat) (n:Int) (bs:List UInt8) (ht:t≤1099511627776) (hht:h≤t) (hn0:0≤n∧n≤1000000000) (TE:Nat) (hTE:TE=t+1) (hroom:Room bs (wordB TE h [])) (hroom2:Room (bs++frame (wordB TE h [])) (wordB TE TE [])) (Mt:Thing) (hM:Framed Mt) (V:Nat→Prop) (hL:Many (rpL p 0 1 0 (.pointer none) false 0 t h [] n bs Mt Emp) w V) (hV:∀ b,V b→b<w.heap.size) :
 Calls Tryz.prog 32 #[.pointer (some ⟨p.r,0,none⟩)] w fun e w'=>e=.returned (.slice none 0 0)∧(∃ v,Many (rpL p 0 1 0 (.pointer (some ⟨v,0,none⟩)) true 0 TE TE [] (n+1+1) (bs++frame (wordB TE h [])++frame (wordB TE TE [])) Mt (VoteAt v TE true 0 (h:Int) 1)) w' (Ext V w w'))∧Just V w w':=by
 have k83:∀ (vs:Array Value) (w:World),(callFunc 83 vs).run Tryz.prog w=.ok (.enter 83 vs) w:=fun vs w=>by go_simp
 have k82:∀ (vs:Array Value) (w:World),(callFunc 82 vs).run Tryz.prog w=.ok (.enter 82 vs) w:=fun vs w=>by go_simp
 have k88:∀ (vs:Array Value) (w:World),(callFunc 88 vs).run Tryz.prog w=.ok (.enter 88 vs) w:=fun vs w=>by go_simp
 have k89:∀ (vs:Array Value) (w:World),(callFunc 89 vs).run Tryz.prog w=.ok (.enter 89 vs) w:=fun vs w=>by go_simp
 have k87:∀ (vs:Array Value) (w:World),(callFunc 87 vs).run Tryz.prog w=.ok (.enter 87 vs) w:=fun vs w=>by go_simp
 obtain⟨b2,HB2⟩:∃ b2:List UInt8,Hid (b2=bs++frame (wordB TE h [])):=⟨_,rfl⟩
 have hTi:(t:Int)+1=(TE:Int):=by omega
 have hlt:t<TE:=by omega
 have hTE1:1≤TE:=by omega
 have hTm:TE≤9223372036854775807:=by omega
 have hLT:∀ w1,Calls Tryz.prog 82 #[.int .i64 (t:Int),.int .i64 0,.int .i64 1] w1 fun e w'=>e=.returned (.int .i64 (TE:Int))∧w1=w':=fun w1=>by
  have h:=lTerm_one w1 (t:Int) (by omega) (by omega)
  rw[hTi] at h
  exact h
 clear hTi hTE
 have hS0:=Solo.begin_ hL hV
 have hF0:=rpL_framed p 0 1 0 (.pointer none) false 0 t h [] n bs Mt Emp hM Emp.framed
 have hB:=hS0.blk 0 rfl
 unfold rpC at hB
 obtain⟨U0,hU0,hUl0⟩:=hS0.see 1 rfl
 have hSg:=fun w1 (hg:Grow w w1)=>StateAt.framed p.s p.x p.d t h [] n bs w w1 U0 hU0 fun b hb=>hg.block b (hUl0 b hb).2
 go_enter Tryz.func32,Tryz.ntmps32
 go_wp2_with fail
 refine wp_region_flow 15 61 [(4,.inl (.int .i64 (t:Int))),(13,.inl (.int .i64 (TE:Int)))] rfl rfl (by kernel_rfl) (by kernel_rfl) (by kernel_rfl) ?_ ?_
 ·intro x hx φ he
  simp only[List.mem_cons,List.not_mem_nil,or_false] at hx
  rcases hx with rfl|rfl<;>cases he
 intro ops' A' K' T hops hA' hK hT
 refine fl_mvN 4 (.pointer (some ⟨p.r,0,none⟩)) ?_
 refine fl_op1G 5 (.tmp 4) (.pointer (some ⟨p.r,0,none⟩)) (.pointer (some ⟨p.r,0,none⟩)) ?_
 refine fl_op1G 6 (.tmp 5) (.pointer (some ⟨p.r,0,none⟩)) (.pointer (some ⟨p.r,2,none⟩)) ?_
 refine fl_op1N 7 (.tmp 6) (.pointer (some ⟨p.r,2,none⟩)) (.pointer (some ⟨p.s,0,none⟩)) (fun ρ h1 kk w1 (hg:Grow _ w1) hb hf=>by have c:=(hB.grow hg).cell 2;go_simp) ?_
 refine fl_call 8 (by rfl) (by decide) (wanted_none (by rfl)) (.int .i64 (t:Int)) (by rw[hK.out];rfl) 83 _ _ (by rfl) [.pointer (some ⟨p.s,0,none⟩)] (by rfl) k83 (fun kk w1 (hg:Grow _ w1) hb hf=>calls_behind (by rfl) (by exact grew_same (sTerm_any w1 _ _ _ t h [] n bs U0 (hSg w1 hg)))) ?_
 refine fl_mvN 9 (.pointer (some ⟨p.r,0,none⟩)) ?_
 refine fl_op1G 10 (.tmp 9) (.pointer (some ⟨p.r,0,none⟩)) (.pointer (some ⟨p.r,0,none⟩)) ?_
 refine fl_op1G 11 (.tmp 10) (.pointer (some ⟨p.r,0,none⟩)) (.pointer (some ⟨p.r,0,none⟩)) ?_
 refine fl_op1N 12 (.tmp 11) (.pointer (some ⟨p.r,0,none⟩)) (.int .i64 0) (fun ρ h1 kk w1 (hg:Grow _ w1) hb hf=>by have c:=(hB.grow hg).cell 0;go_simp) ?_
 refine fl_mvN 13 (.pointer (some ⟨p.r,0,none⟩)) ?_
 refine fl_op1G 14 (.tmp 13) (.pointer (some ⟨p.r,0,none⟩)) (.pointer (some ⟨p.r,0,none⟩)) ?_
 refine fl_op1G 15 (.tmp 14) (.pointer (some ⟨p.r,0,none⟩)) (.pointer (some ⟨p.r,1,none⟩)) ?_
 refine fl_op1N 16 (.tmp 15) (.pointer (some ⟨p.r,1,none⟩)) (.int .i64 1) (fun ρ h1 kk w1 (hg:Grow _ w1) hb hf=>by have c:=(hB.grow hg).cell 1;go_simp) ?_
 refine fl_call 17 (by rfl) (by decide) (wanted_none (by rfl)) (.int .i64 (TE:Int)) (by rw[hK.out];rfl) 82 _ _ (by rfl) [.int .i64 (t:Int),.int .i64 0,.int .i64 1] (by rfl) k82 (fun kk w1 (hg:Grow _ w1) hb hf=>calls_behind (by rfl) (by exact grew_same (hLT w1))) ?_
 refine fl_mvN 3 (.int .i64 (TE:Int)) ?_
 refine fl_end (fun _ _ w1 (hg:Grow _ w1) _ hfacts=>hT _ _ ?_)
 clear hops hA' hK hT
 simp only[putsL,Act.put,List.setIfInBounds_toArray,List.set_cons_zero,List.set_cons_succ,List.drop_succ_cons,List.drop_zero]
 clear hfacts
 have hS1:=hS0.grows hF0 hg
 have J1:Just (Lic V w) w w1:=Just.of_grow hg
 have hB1:=hS1.blk 0 rfl
 unfold rpC at hB1
 have c2:=hB1.cell 2
 have hPr:=hS1.at_ 1 rfl hF0 (sPromise_ok w1 p.s p.x p.d t h TE [] n bs hlt hTm (by omega) (by simp) (by simp) ⟨hn0.1,by omega⟩ hroom)
 clear hB hSg
 go_wp2_with fail
 clear c2
 refine hPr.mono ?_
 rintro e w2 ⟨rfl,hj2,hS2⟩
 rw[←HB2.out] at hS2 hroom2
 have hS2:Solo (Lic V w) (Many (rpL p 0 1 0 (.pointer none) false 0 TE h [] (n+1) b2 Mt Emp)) w2:=hS2
 have hF2:=rpL_framed p 0 1 0 (.pointer none) false 0 TE h [] (n+1) b2 Mt Emp hM Emp.framed
 have J2:=J1.trans hj2
 have hDn:=hS2.at_ 0 rfl hF2 (rpdown_any w2 p 0 1 0 (.pointer none) false 0)
 go_wp2_with fail
 refine hDn.mono ?_
 rintro e w3 ⟨rfl,hj3,hS3⟩
 have hS3:Solo (Lic V w) (Many (rpL p 0 1 0 (.pointer none) false 0 TE h [] (n+1) b2 Mt Emp)) w3:=hS3
 have J3:=J2.trans hj3
 have hB3:=hS3.blk 0 rfl
 unfold rpC at hB3
 have c1:=hB3.cell 1
 have hNw:=lNew_one w3 (TE:Int)
 go_wp2_with fail
 clear c1
 refine hNw.mono ?_
 rintro e w4 ⟨v,rfl,hC4,hg4⟩
 have hS4:=hS3.renew 3 rfl hF2 hg4 (R:=VoteAt v TE false 0 0 0) ⟨none,hC4⟩ (fun b hb=>hb)
 have hS4:Solo (Lic V w) (Many (rpL p 0 1 0 (.pointer none) false 0 TE h [] (n+1) b2 Mt (VoteAt v TE false 0 0 0))) w4:=hS4
 have hF4:=rpL_framed p 0 1 0 (.pointer none) false 0 TE h [] (n+1) b2 Mt (VoteAt v TE false 0 0 0) hM (VoteAt.framed _ _ _ _ _ _)
 have J4:=J3.trans (Just.of_grow hg4)
 have hB4:=hS4.blk 0 rfl
 unfold rpC at hB4
 have k5:=hB4.cell 5
 go_wp2_with (refine wpList_putS rfl _ _ _ rfl hS4 (hF4:AllFramed (rpL p 0 1 0 (.pointer none) false 0 TE h [] (n+1) b2 Mt (VoteAt v TE false 0 0 0))) J4 0 rfl rfl (.pointer (some ⟨v,0,none⟩)) rfl (Nat.le_of_ble_eq_true rfl) rfl (by kernel_rfl) ?_;intro w5 hS5 J5;refine stay ?_)
 refine stay_out ?_
 clear k5 hB4 hB3
 have hS5:Solo (Lic V w) (Many (rpL p 0 1 0 (.pointer (some ⟨v,0,none⟩)) false 0 TE h [] (n+1) b2 Mt (VoteAt v TE false 0 0 0))) w5:=hS5
 have hF5:AllFramed (rpL p 0 1 0 (.pointer (some ⟨v,0,none⟩)) false 0 TE h [] (n+1) b2 Mt (VoteAt v TE false 0 0 0)):=rpL_framed p 0 1 0 (.pointer (some ⟨v,0,none⟩)) false 0 TE h [] (n+1) b2 Mt (VoteAt v TE false 0 0 0) hM (VoteAt.framed _ _ _ _ _ _)
 have hB5:=hS5.blk 0 rfl
 unfold rpC at hB5
 obtain⟨U5,hU5,hUl5⟩:=hS5.see 1 rfl
 have hSg:=fun w1 (hg:Grow w5 w1)=>StateAt.framed p.s p.x p.d TE h [] (n+1) b2 w5 w1 U5 hU5 fun b hb=>hg.block b (hUl5 b hb).2
 go_wp2_with fail
 refine wp_region_flow 18 61 [(12,.inl (.int .i64 (h:Int))),(17,.inr (fun _=>EmpSl))] rfl rfl (by kernel_rfl) (by kernel_rfl) (by kernel_rfl) ?_ ?_
 ·intro x hx φ he
  simp only[List.mem_cons,List.not_mem_nil,or_false] at hx
  rcases hx with rfl|rfl<;>cases he
  all_goals first|exact lasts_quiet (lasting_bytes _)|exact lasts_quiet empSl_lasting
 intro ops' A' K' T hops hA' hK hT
 refine fl_mvN 36 (.pointer (some ⟨p.r,0,none⟩)) ?_
 refine fl_op1N 37 (.tmp 36) (.pointer (some ⟨p.r,0,none⟩)) (.pointer (some ⟨p.r,0,none⟩)) (fun ρ h1 kk w6 (hg6:Grow _ w6) hb hf=>by go_simp) ?_
 refine fl_op1N 38 (.tmp 37) (.pointer (some ⟨p.r,0,none⟩)) (.pointer (some ⟨p.r,5,none⟩)) (fun ρ h1 kk w6 (hg6:Grow _ w6) hb hf=>by go_simp) ?_
 refine fl_op1N 39 (.tmp 38) (.pointer (some ⟨p.r,5,none⟩)) (.pointer (some ⟨v,0,none⟩)) (fun ρ h1 kk w6 (hg6:Grow _ w6) hb hf=>by have c:=(hB5.grow hg6).cell 5;go_simp) ?_
 refine fl_mvN 40 (.pointer (some ⟨p.r,0,none⟩)) ?_
 refine fl_op1N 41 (.tmp 40) (.pointer (some ⟨p.r,0,none⟩)) (.pointer (some ⟨p.r,0,none⟩)) (fun ρ h1 kk w6 (hg6:Grow _ w6) hb hf=>by go_simp) ?_
 refine fl_op1N 42 (.tmp 41) (.pointer (some ⟨p.r,0,none⟩)) (.pointer (some ⟨p.r,0,none⟩)) (fun ρ h1 kk w6 (hg6:Grow _ w6) hb hf=>by go_simp) ?_
 refine fl_op1N 43 (.tmp 42) (.pointer (some ⟨p.r,0,none⟩)) (.int .i64 0) (fun ρ h1 kk w6 (hg6:Grow _ w6) hb hf=>by have c:=(hB5.grow hg6).cell 0;go_simp) ?_
 refine fl_mvN 44 (.pointer (some ⟨p.r,0,none⟩)) ?_
 refine fl_op1N 45 (.tmp 44) (.pointer (some ⟨p.r,0,none⟩)) (.pointer (some ⟨p.r,0,none⟩)) (fun ρ h1 kk w6 (hg6:Grow _ w6) hb hf=>by go_simp) ?_
 refine fl_op1N 46 (.tmp 45) (.pointer (some ⟨p.r,0,none⟩)) (.pointer (some ⟨p.r,2,none⟩)) (fun ρ h1 kk w6 (hg6:Grow _ w6) hb hf=>by go_simp) ?_
 refine fl_op1N 47 (.tmp 46) (.pointer (some ⟨p.r,2,none⟩)) (.pointer (some ⟨p.s,0,none⟩)) (fun ρ h1 kk w6 (hg6:Grow _ w6) hb hf=>by have c:=(hB5.grow hg6).cell 2;go_simp) ?_
 refine fl_call 48 (by rfl) (by decide) (wanted_none (by rfl)) (.int .i64 (h:Int)) (by rw[hK.out];rfl) 88 _ _ (by rfl) [.pointer (some ⟨p.s,0,none⟩)] (by rfl) k88 (fun kk w6 (hg6:Grow _ w6) hb hf=>calls_behind (by rfl) (by exact grew_same (sHad_any w6 _ _ _ TE h [] (n+1) b2 U5 (hSg w6 hg6)))) ?_
 refine fl_mvN 49 (.pointer (some ⟨p.r,0,none⟩)) ?_
 refine fl_op1N 50 (.tmp 49) (.pointer (some ⟨p.r,0,none⟩)) (.pointer (some ⟨p.r,0,none⟩)) (fun ρ h1 kk w6 (hg6:Grow _ w6) hb hf=>by go_simp) ?_
 refine fl_op1N 51 (.tmp 50) (.pointer (some ⟨p.r,0,none⟩)) (.pointer (some ⟨p.r,2,none⟩)) (fun ρ h1 kk w6 (hg6:Grow _ w6) hb hf=>by go_simp) ?_
 refine fl_op1N 52 (.tmp 51) (.pointer (some ⟨p.r,2,none⟩)) (.pointer (some ⟨p.s,0,none⟩)) (fun ρ h1 kk w6 (hg6:Grow _ w6) hb hf=>by have c:=(hB5.grow hg6).cell 2;go_simp) ?_
 refine fl_callAny 53 (by rfl) (by decide) (wanted_none (by rfl)) (fun _=>EmpSl) (by rw[hK.out];rfl) 89 _ _ (by rfl) [.pointer (some ⟨p.s,0,none⟩)] (by rfl) k89 (fun kk w6 (hg6:Grow _ w6) hb hf=>calls_behindAny (φ:=fun _=>EmpSl) (by rfl) (by exact (sLog_any w6 _ _ _ TE h [] (n+1) b2 U5 (hSg w6 hg6) (by simp)).mono fun e w2 h9=>by obtain⟨u,h1,_,⟨A9,h3⟩,h2⟩:=h9;exact⟨u,h1,h2,⟨A9,h3⟩⟩)) (fun v53=>?_)
 refine fl_end (fun _ _ w6 (hg6:Grow _ w6) _ hfacts=>hT _ _ ?_)
 clear hops hA' hK hT
 simp only[putsL,Act.put,List.setIfInBounds_toArray,List.set_cons_zero,List.set_cons_succ,List.drop_succ_cons,List.drop_zero]
 obtain⟨A9,rfl⟩:EmpSl v53 w6:=hfacts.1
 clear hfacts
 have hS6:=hS5.grows hF5 hg6
 have J6:=J5.trans (Just.of_grow hg6)
 have hVp:=hS6.at_ 3 rfl hF5 (vPromise_one w6 v (TE:Int) (h:Int) A9 0)
 go_wp2_with fail
 refine hVp.mono ?_
 rintro e w7 ⟨rfl,hj7,hS7⟩
 have hS7:Solo (Lic V w) (Many (rpL p 0 1 0 (.pointer (some ⟨v,0,none⟩)) false 0 TE h [] (n+1) b2 Mt (VoteAt v TE true 0 (h:Int) 1))) w7:=hS7
 have J7:=J6.trans hj7
 have hWn:=Solo.call hS7 fun V1 hM1 hV1=>rpwon_1 w7 p v TE h (h:Int) (n+1) b2 hTE1 (by omega) hTm (by omega) hroom2 Mt hM V1 hM1 hV1
 go_wp2_with fail
 refine hWn.mono ?_
 rintro e w8 ⟨rfl,hj8,hS8⟩
 go_wp2_with fail
 go_ret
 obtain⟨r1,r2⟩:=Solo.done hS8 (J7.trans hj8) hV
 rw[HB2.out] at r1
 exact⟨rfl,⟨v,r1⟩,r2⟩
end Go.Proofs.YtmijcbfgfkeodaaGreatDoor
end
