/- Re3, Re4, Re5. -/
import Derived.Test.YtmijcbfgfkeodaaGreatDoorIz32
set_option linter.all false
set_option maxRecDepth 100000
set_option maxHeartbeats 2000000
open Go.Value renaming int → ae,slice → ai
open Go.IntKind renaming i64 → af,u64 → ah
open Go.Proofs.Tryz renaming prog → au
open List renaming setIfInBounds_toArray → aw,drop_succ_cons → ax,set_cons_zero → ay,set_cons_succ → az,drop_zero → aB,not_mem_nil → aE,mem_cons → aF,nil_append → aR
open Nat renaming lt_of_lt_of_le → aA,le_refl → aC,le_trans → aH,le_of_ble_eq_true → aQ,zero_add → a_
section
namespace Go.Proofs.YtmijcbfgfkeodaaGreatDoor
open Go.RowKit Go.Hop V
theorem j9 {P:Nat→Prop} {S:cg} {m1:Nat} {st:List (Nat×Nat)} {j k:Nat} {w:World} (h:(iP P S S m1 st).before j k w):Solo P S w:=by
 have h1:=h.1
 cases k with
 | zero=>exact h1
 | succ k=>exact h1
theorem uA (w:World) (p:sT) (v:Nat) (leads:Bool) (own:Int) (t:Nat) (had n:Int) (bs:List UInt8) (Mt:cg) (hM:Framed Mt) (V:Nat→Prop) (hL:Many (iX p 0 1 0 (((v:Nat):Value)) leads own t t [] n bs Mt (cI v t true 0 had 1)) w V) (hV:∀ b,V b→b<w.heap.size) :
 Calls au 98 #[.pointer (some ⟨p.r,0,none⟩),ae af 0,ae af 0] w fun e w'=>e=.returned (ai none 0 0)∧Many (iX p 0 1 0 (((v:Nat):Value)) leads own t t [] n bs Mt (cI v t true 0 had 1)) w' (Ext V w w')∧Just V w w':=by
 have hS0:=Solo.begin_ hL hV
 have dX:=dC p 0 1 0 (((v:Nat):Value)) leads own t t [] n bs Mt (cI v t true 0 had 1) hM (cI.framed _ _ _ _ _ _)
 have hB:=hS0.blk 0 rfl
 unfold kh at hB
 have c5:=hB.cell 5
 have hA:=hS0.at_ 3 rfl dX (ls w v t 0 had 0 al)
 go_enter Tryz.func98,Tryz.ntmps98
 go_wp2_with fail
 refine hA.mono ?_
 rintro e w1 ⟨rfl,hj1,hS1⟩
 have hS1:Solo (cB V w) (Many (iX p 0 1 0 (((v:Nat):Value)) leads own t t [] n bs Mt (cI v t true 0 had 1))) w1:=hS1
 obtain⟨U,hU,ey⟩:=hS1.see 1 rfl
 have hP:=AE w1 p (((v:Nat):Value)) leads own (hS1.blk 0 rfl) t t [] n bs U hU rfl
 clear c5
 go_wp2_with fail
 refine hP.mono ?_
 rintro e w2 ⟨rfl,hg2⟩
 go_wp2_with fail
 go_ret
 obtain⟨r1,r2⟩:=Solo.done (hS1.grows dX hg2) (hj1.trans (Just.bJ hg2)) hV
 exact⟨rfl,r1,r2⟩
theorem FH (w:World) (p:sT) (v:Nat) (t h:Nat) (had n:Int) (bs:List UInt8) (h1:1≤t) (hlong:h<t) (hte:t≤9223372036854775807) (hn0:0≤n∧n≤1099511627776) (hroom:Room bs (ec t t [])) (Mt:cg) (hM:Framed Mt) (V:Nat→Prop) (hL:Many (iX p 0 1 0 (((v:Nat):Value)) false 0 t h [] n bs Mt (cI v t true 0 had 1)) w V) (hV:∀ b,V b→b<w.heap.size) :
 Calls au 90 #[.pointer (some ⟨p.r,0,none⟩)] w fun e w'=>e=.returned (ai none 0 0)∧Many (iX p 0 1 0 (((v:Nat):Value)) true 0 t t [] (n+1) (bs++frame (ec t t [])) Mt (cI v t true 0 had 1)) w' (Ext V w w')∧Just V w w':=by
 have NW:∀ (vs:Array Value) (w:World),(callFunc 95 vs).run au w=.ok (.enter 95 vs) w:=fun vs w=>by go_simp
 have k170:∀ (vs:Array Value) (w:World),(callFunc 170 vs).run au w=.ok (.enter 170 vs) w:=fun vs w=>by go_simp
 have IW:∀ (vs:Array Value) (w:World),(callFunc 171 vs).run au w=.ok (.enter 171 vs) w:=fun vs w=>by go_simp
 have NY:∀ (vs:Array Value) (w:World),(callFunc 98 vs).run au w=.ok (.enter 98 vs) w:=fun vs w=>by go_simp
 have IX:∀ (vs:Array Value) (w:World),(callFunc 172 vs).run au w=.ok (.enter 172 vs) w:=fun vs w=>by go_simp
 have hS0:=Solo.begin_ hL hV
 have dX:=dC p 0 1 0 (((v:Nat):Value)) false 0 t h [] n bs Mt (cI v t true 0 had 1) hM (cI.framed _ _ _ _ _ _)
 have hB:=hS0.blk 0 rfl
 unfold kh at hB
 have c5:=hB.cell 5
 obtain⟨U3,Gp,hUl3⟩:=hS0.see 3 rfl
 have JO:=zp w v t 0 had 1 true U3 Gp
 go_enter Tryz.func90,Tryz.ntmps90
 go_wp2_with fail
 refine JO.mono ?_
 rintro e w1 ⟨Ab,rfl,hg1⟩
 have hS1:=hS0.grows dX hg1
 have hB1:=hS1.blk 0 rfl
 unfold kh at hB1
 obtain⟨U4,AF,IY⟩:=hS1.see 3 rfl
 have JY:∀ w2,Grow w1 w2→cI v t true 0 had 1 w2 U4:=fun w2 hg=>cI.framed _ _ _ _ _ _ w1 w2 U4 AF fun b hb=>hg.block b (IY b hb).2
 clear c5 hB
 go_wp2_with fail
 refine bL 10 48 [(8,.inl (ae af (t:Int)))] rfl rfl am am am ?_ ?_
 ·intro x hx φ he
  simp only[aF,aE,or_false] at hx
  rcases hx with rfl<;>cases he
 intro ops' A' K' T hops hA' hK hT
 refine bP 9 (.pointer (some ⟨p.r,0,none⟩)) ?_
 refine bI 10 (.tmp 9) (.pointer (some ⟨p.r,0,none⟩)) (.pointer (some ⟨p.r,0,none⟩)) (fun ρ h1 kk w2 (hg2:Grow _ w2) hb hf=>by go_simp) ?_
 refine bI 11 (.tmp 10) (.pointer (some ⟨p.r,0,none⟩)) (.pointer (some ⟨p.r,2,none⟩)) (fun ρ h1 kk w2 (hg2:Grow _ w2) hb hf=>by go_simp) ?_
 refine bI 12 (.tmp 11) (.pointer (some ⟨p.r,2,none⟩)) (.pointer (some ⟨p.s,0,none⟩)) (fun ρ h1 kk w2 (hg2:Grow _ w2) hb hf=>by have c:=(hB1.grow hg2).cell 2;go_simp) ?_
 refine bP 13 (.pointer (some ⟨p.r,0,none⟩)) ?_
 refine bI 14 (.tmp 13) (.pointer (some ⟨p.r,0,none⟩)) (.pointer (some ⟨p.r,0,none⟩)) (fun ρ h1 kk w2 (hg2:Grow _ w2) hb hf=>by go_simp) ?_
 refine bI 15 (.tmp 14) (.pointer (some ⟨p.r,0,none⟩)) (.pointer (some ⟨p.r,5,none⟩)) (fun ρ h1 kk w2 (hg2:Grow _ w2) hb hf=>by go_simp) ?_
 refine bI 16 (.tmp 15) (.pointer (some ⟨p.r,5,none⟩)) (((v:Nat):Value)) (fun ρ h1 kk w2 (hg2:Grow _ w2) hb hf=>by have c:=(hB1.grow hg2).cell 5;go_simp) ?_
 refine cC 17 aj ak (bO aj) (ae af (t:Int)) (by rw[hK.out];rfl) 95 _ _ aj [((v:Nat):Value)] aj NW (fun kk w2 (hg2:Grow _ w2) hb hf=>b_ aj (by exact db (r6 w2 v t 0 had 1 true U4 (JY w2 hg2)))) ?_
 refine bP 18 (.slice Ab 0 0) ?_
 refine ce (fun _ _ w2 (hg2:Grow _ w2) _ bR=>hT _ _ ?_)
 clear hops hA' hK hT
 simp only[cj,Act.put,aw,ay,az,ax,aB]
 clear bR
 have hS2:=hS1.grows dX hg2
 have J2:Just (cB V w) w w2:=Just.bJ (hg1.trans hg2)
 have KZ:=hS2.at_ 1 rfl dX (zr w2 p.s p.x p.d t h t [] [] n bs (fun _=>False) Ab 0 [] lh.nil rfl (aC _) h1 hlong hte (by simp) (by simp) hn0 hroom)
 go_wp2_with fail
 refine KZ.mono ?_
 rintro e w3 ⟨rfl,hj3,dO⟩
 obtain⟨b2,HB2⟩:∃ b2:List UInt8,Hid (b2=bs++frame (ec t t [])):=⟨_,rfl⟩
 rw[←HB2.out] at dO
 have dO:Solo (cB V w) (Many (iX p 0 1 0 (((v:Nat):Value)) false 0 t t [] (n+1) b2 Mt (cI v t true 0 had 1))) w3:=dO
 have i9:=dC p 0 1 0 (((v:Nat):Value)) false 0 t t [] (n+1) b2 Mt (cI v t true 0 had 1) hM (cI.framed _ _ _ _ _ _)
 have J3:=J2.trans hj3
 have hB3:=dO.blk 0 rfl
 unfold kh at hB3
 have c2:=hB3.cell 2
 have c6:=hB3.cell 6
 have c7:=hB3.cell 7
 obtain⟨U5,FI,K_⟩:=dO.see 1 rfl
 have hLn:Calls au 171 #[.pointer (some ⟨p.s,0,none⟩)] w3 fun e w'=>e=.returned (ae af 0)∧w3=w':=pm w3 p.s p.x p.d t t [] _ b2 U5 FI
 clear hB1
 go_wp2_with fail
 refine hLn.mono ?_
 rintro e w4 ⟨rfl,rfl⟩
 go_wp2_with (refine dp rfl _ _ _ rfl dO i9 J3 0 rfl rfl (.bool true) rfl (aQ rfl) rfl am ?_;intro w4 ev J4;refine stay ?_)
 refine bV ?_
 clear c2 c6 c7 hB3
 have ev:Solo (cB V w) (Many (iX p 0 1 0 (((v:Nat):Value)) true 0 t t [] (n+1) b2 Mt (cI v t true 0 had 1))) w4:=ev
 have qc:=dC p 0 1 0 (((v:Nat):Value)) true 0 t t [] (n+1) b2 Mt (cI v t true 0 had 1) hM (cI.framed _ _ _ _ _ _)
 go_wp2_with (refine dp rfl _ _ _ rfl ev qc J4 0 rfl rfl (ae af 0) rfl (aQ rfl) rfl am ?_;intro w5 hS5 J5;refine stay ?_)
 refine bV ?_
 have hS5:Solo (cB V w) (Many (iX p 0 1 0 (((v:Nat):Value)) true 0 t t [] (n+1) b2 Mt (cI v t true 0 had 1))) w5:=hS5
 go_wp2_with fail
 refine c_ rfl ?_
 refine er (iP (cB V w) (Many (iX p 0 1 0 (((v:Nat):Value)) true 0 t t [] (n+1) b2 Mt (cI v t true 0 had 1))) (Many (iX p 0 1 0 (((v:Nat):Value)) true 0 t t [] (n+1) b2 Mt (cI v t true 0 had 1))) 10 []) (iu (Many.framed _ qc) (Many.framed _ qc)) 0 15 48 [(9,.inl (ae af 0)),(10,.inl (ai none 0 0)),(12,.inl (ai none 0 0))] rfl am am am ?_ (Just.bJ (Grow.refl _).drew) (hS5.grows qc (Grow.refl _).drew) ?_
 ·intro x hx φ he
  simp only[aF,aE,or_false] at hx
  rcases hx with rfl|rfl|rfl<;>cases he
 intro ops' A' K' T hops hA' hK hT
 refine bP 34 (.pointer (some ⟨p.r,0,none⟩)) ?_
 refine bP 35 (.pointer (some ⟨p.r,0,none⟩)) ?_
 refine bI 36 (.tmp 35) (.pointer (some ⟨p.r,0,none⟩)) (.pointer (some ⟨p.r,0,none⟩)) (fun ρ h1 kk w6 (dT:Just (cB V w) _ w6) hb hf=>by go_simp) ?_
 refine bI 37 (.tmp 36) (.pointer (some ⟨p.r,0,none⟩)) (.pointer (some ⟨p.r,0,none⟩)) (fun ρ h1 kk w6 (dT:Just (cB V w) _ w6) hb hf=>by go_simp) ?_
 refine bI 38 (.tmp 37) (.pointer (some ⟨p.r,0,none⟩)) (ae af 0) (fun ρ h1 kk w6 (dT:Just (cB V w) _ w6) hb hf=>by have hI:=j9 hb;have hB:=hI.blk 0 rfl;unfold kh at hB;have c:=hB.cell 0;go_simp) ?_
 refine bP 39 (.pointer (some ⟨p.r,0,none⟩)) ?_
 refine bI 40 (.tmp 39) (.pointer (some ⟨p.r,0,none⟩)) (.pointer (some ⟨p.r,0,none⟩)) (fun ρ h1 kk w6 (dT:Just (cB V w) _ w6) hb hf=>by go_simp) ?_
 refine bI 41 (.tmp 40) (.pointer (some ⟨p.r,0,none⟩)) (.pointer (some ⟨p.r,2,none⟩)) (fun ρ h1 kk w6 (dT:Just (cB V w) _ w6) hb hf=>by go_simp) ?_
 refine bI 42 (.tmp 41) (.pointer (some ⟨p.r,2,none⟩)) (.pointer (some ⟨p.s,0,none⟩)) (fun ρ h1 kk w6 (dT:Just (cB V w) _ w6) hb hf=>by have hI:=j9 hb;have hB:=hI.blk 0 rfl;unfold kh at hB;have c:=hB.cell 2;go_simp) ?_
 refine cC 43 aj ak (bO aj) (ae af 0) (by rw[hK.out];rfl) 171 _ _ aj [.pointer (some ⟨p.s,0,none⟩)] aj IW (fun kk w6 (dT:Just (cB V w) _ w6) hb hf=>b_ aj (by exact (by have hI:=j9 hb;obtain⟨U,hU,ey⟩:=hI.see 1 rfl;exact db (pm w6 p.s p.x p.d t t [] _ b2 U hU)))) ?_
 refine cC 44 aj ak (bO aj) (ai none 0 0) (by rw[hK.out];rfl) 98 _ _ aj [.pointer (some ⟨p.r,0,none⟩),ae af 0,ae af 0] aj NY (fun kk w6 (dT:Just (cB V w) _ w6) hb hf=>jD 0 aj (by obtain rfl:=cw 0 aj hb;have hI:=hb.1;exact (Solo.call hI fun V1 hM1 hV1=>uA w6 p v true 0 t had (n+1) b2 Mt hM V1 hM1 hV1))) ?_
 refine bP 45 (.pointer (some ⟨p.r,0,none⟩)) ?_
 refine cC 46 aj ak (bO aj) (ai none 0 0) (by rw[hK.out];rfl) 172 _ _ aj [.pointer (some ⟨p.r,0,none⟩)] aj IX (fun kk w6 (dT:Just (cB V w) _ w6) hb hf=>b_ aj (by exact (by have hI:=j9 hb;obtain⟨U,hU,ey⟩:=hI.see 1 rfl;exact lu w6 p 0 (((v:Nat):Value)) true 0 (hI.blk 0 rfl) t t [] (n+1) b2 U hU (fun b hb=>(ey b hb).2) (by simp)))) ?_
 refine cm 47 (.tmp 44) (.tmp 46) (ai none 0 0) (ai none 0 0) (ai none 0 0) (fun ρ h1 h2 kk w6 (dT:Just (cB V w) _ w6) hb hf=>by go_simp) ?_
 refine bP 2 (ai none 0 0) ?_
 refine ce (fun _ _ w6 (dT:Just (cB V w) _ w6) hend bR=>hT _ _ ?_)
 clear hops hA' hK hT
 simp only[cj,Act.put,aw,ay,az]
 have eC:Solo (cB V w) (Many (iX p 0 1 0 (((v:Nat):Value)) true 0 t t [] (n+1) b2 Mt (cI v t true 0 had 1))) w6:=hend
 clear hend bR
 refine eY ?_
 go_wp2_with fail
 go_ret
 obtain⟨r1,r2⟩:=Solo.done eC (J5.trans dT) hV
 rw[HB2.out] at r1
 exact⟨rfl,r1,r2⟩
def uB (u:Value) (_:World):Prop:=∃ A:Option Addr,u=.slice A 0 0
theorem qn:dv uB:=fun _ _ _ h _=>h
theorem DU (w:World) (p:sT) (t h:Nat) (n:Int) (bs:List UInt8) (ht:t≤1099511627776) (hht:h≤t) (hn0:0≤n∧n≤1000000000) (TE:Nat) (Rk:TE=t+1) (hroom:Room bs (ec TE h [])) (DV:Room (bs++frame (ec TE h [])) (ec TE TE [])) (Mt:cg) (hM:Framed Mt) (V:Nat→Prop) (hL:Many (iX p 0 1 0 (.pointer none) false 0 t h [] n bs Mt cW) w V) (hV:∀ b,V b→b<w.heap.size) :
 Calls au 32 #[.pointer (some ⟨p.r,0,none⟩)] w fun e w'=>e=.returned (ai none 0 0)∧(∃ v,Many (iX p 0 1 0 (((v:Nat):Value)) true 0 TE TE [] (n+1+1) (bs++frame (ec TE h [])++frame (ec TE TE [])) Mt (cI v TE true 0 (h:Int) 1)) w' (Ext V w w'))∧Just V w w':=by
 have NU:∀ (vs:Array Value) (w:World),(callFunc 83 vs).run au w=.ok (.enter 83 vs) w:=fun vs w=>by go_simp
 have Rl:∀ (vs:Array Value) (w:World),(callFunc 82 vs).run au w=.ok (.enter 82 vs) w:=fun vs w=>by go_simp
 have Rm:∀ (vs:Array Value) (w:World),(callFunc 88 vs).run au w=.ok (.enter 88 vs) w:=fun vs w=>by go_simp
 have NV:∀ (vs:Array Value) (w:World),(callFunc 89 vs).run au w=.ok (.enter 89 vs) w:=fun vs w=>by go_simp
 have k87:∀ (vs:Array Value) (w:World),(callFunc 87 vs).run au w=.ok (.enter 87 vs) w:=fun vs w=>by go_simp
 obtain⟨b2,HB2⟩:∃ b2:List UInt8,Hid (b2=bs++frame (ec TE h [])):=⟨_,rfl⟩
 have PE:(t:Int)+1=(TE:Int):=by omega
 have hlt:t<TE:=by omega
 have NZ:1≤TE:=by omega
 have PF:TE≤9223372036854775807:=by omega
 have Rn:∀ w1,Calls au 82 #[ae af (t:Int),ae af 0,ae af 1] w1 fun e w'=>e=.returned (ae af (TE:Int))∧w1=w':=fun w1=>by
  have h:=zo w1 (t:Int) al al
  rw[PE] at h
  exact h
 clear PE Rk
 have hS0:=Solo.begin_ hL hV
 have dX:=dC p 0 1 0 (.pointer none) false 0 t h [] n bs Mt cW hM cW.framed
 have hB:=hS0.blk 0 rfl
 unfold kh at hB
 obtain⟨U0,KE,N_⟩:=hS0.see 1 rfl
 have GA:=fun w1 (hg:Grow w w1)=>dJ.framed p.s p.x p.d t h [] n bs w w1 U0 KE fun b hb=>hg.block b (N_ b hb).2
 go_enter Tryz.func32,Tryz.ntmps32
 go_wp2_with fail
 refine bL 15 61 [(4,.inl (ae af (t:Int))),(13,.inl (ae af (TE:Int)))] rfl rfl am am am ?_ ?_
 ·intro x hx φ he
  simp only[aF,aE,or_false] at hx
  rcases hx with rfl|rfl<;>cases he
 intro ops' A' K' T hops hA' hK hT
 refine bP 4 (.pointer (some ⟨p.r,0,none⟩)) ?_
 refine bQ 5 (.tmp 4) (.pointer (some ⟨p.r,0,none⟩)) (.pointer (some ⟨p.r,0,none⟩)) ?_
 refine bQ 6 (.tmp 5) (.pointer (some ⟨p.r,0,none⟩)) (.pointer (some ⟨p.r,2,none⟩)) ?_
 refine bI 7 (.tmp 6) (.pointer (some ⟨p.r,2,none⟩)) (.pointer (some ⟨p.s,0,none⟩)) (fun ρ h1 kk w1 (hg:Grow _ w1) hb hf=>by have c:=(hB.grow hg).cell 2;go_simp) ?_
 refine cC 8 aj ak (bO aj) (ae af (t:Int)) (by rw[hK.out];rfl) 83 _ _ aj [.pointer (some ⟨p.s,0,none⟩)] aj NU (fun kk w1 (hg:Grow _ w1) hb hf=>b_ aj (by exact db (rb w1 _ _ _ t h [] n bs U0 (GA w1 hg)))) ?_
 refine bP 9 (.pointer (some ⟨p.r,0,none⟩)) ?_
 refine bQ 10 (.tmp 9) (.pointer (some ⟨p.r,0,none⟩)) (.pointer (some ⟨p.r,0,none⟩)) ?_
 refine bQ 11 (.tmp 10) (.pointer (some ⟨p.r,0,none⟩)) (.pointer (some ⟨p.r,0,none⟩)) ?_
 refine bI 12 (.tmp 11) (.pointer (some ⟨p.r,0,none⟩)) (ae af 0) (fun ρ h1 kk w1 (hg:Grow _ w1) hb hf=>by have c:=(hB.grow hg).cell 0;go_simp) ?_
 refine bP 13 (.pointer (some ⟨p.r,0,none⟩)) ?_
 refine bQ 14 (.tmp 13) (.pointer (some ⟨p.r,0,none⟩)) (.pointer (some ⟨p.r,0,none⟩)) ?_
 refine bQ 15 (.tmp 14) (.pointer (some ⟨p.r,0,none⟩)) (.pointer (some ⟨p.r,1,none⟩)) ?_
 refine bI 16 (.tmp 15) (.pointer (some ⟨p.r,1,none⟩)) (ae af 1) (fun ρ h1 kk w1 (hg:Grow _ w1) hb hf=>by have c:=(hB.grow hg).cell 1;go_simp) ?_
 refine cC 17 aj ak (bO aj) (ae af (TE:Int)) (by rw[hK.out];rfl) 82 _ _ aj [ae af (t:Int),ae af 0,ae af 1] aj Rl (fun kk w1 (hg:Grow _ w1) hb hf=>b_ aj (by exact db (Rn w1))) ?_
 refine bP 3 (ae af (TE:Int)) ?_
 refine ce (fun _ _ w1 (hg:Grow _ w1) _ bR=>hT _ _ ?_)
 clear hops hA' hK hT
 simp only[cj,Act.put,aw,ay,az,ax,aB]
 clear bR
 have hS1:=hS0.grows dX hg
 have J1:Just (cB V w) w w1:=Just.bJ hg
 have hB1:=hS1.blk 0 rfl
 unfold kh at hB1
 have c2:=hB1.cell 2
 have Ro:=hS1.at_ 1 rfl dX (tZ w1 p.s p.x p.d t h TE [] n bs hlt PF al (by simp) (by simp) ⟨hn0.1,by omega⟩ hroom)
 clear hB GA
 go_wp2_with fail
 clear c2
 refine Ro.mono ?_
 rintro e w2 ⟨rfl,hj2,hS2⟩
 rw[←HB2.out] at hS2 DV
 have hS2:Solo (cB V w) (Many (iX p 0 1 0 (.pointer none) false 0 TE h [] (n+1) b2 Mt cW)) w2:=hS2
 have hF2:=dC p 0 1 0 (.pointer none) false 0 TE h [] (n+1) b2 Mt cW hM cW.framed
 have J2:=J1.trans hj2
 have hDn:=hS2.at_ 0 rfl hF2 (xl w2 p 0 1 0 (.pointer none) false 0)
 go_wp2_with fail
 refine hDn.mono ?_
 rintro e w3 ⟨rfl,hj3,dO⟩
 have dO:Solo (cB V w) (Many (iX p 0 1 0 (.pointer none) false 0 TE h [] (n+1) b2 Mt cW)) w3:=dO
 have J3:=J2.trans hj3
 have hB3:=dO.blk 0 rfl
 unfold kh at hB3
 have c1:=hB3.cell 1
 have Fp:=Cu w3 (TE:Int)
 go_wp2_with fail
 clear c1
 refine Fp.mono ?_
 rintro e w4 ⟨v,rfl,Mu,hg4⟩
 have ev:=dO.renew 3 rfl hF2 hg4 (R:=cI v TE false 0 0 0) ⟨none,Mu⟩ (fun b hb=>hb)
 have ev:Solo (cB V w) (Many (iX p 0 1 0 (.pointer none) false 0 TE h [] (n+1) b2 Mt (cI v TE false 0 0 0))) w4:=ev
 have qc:=dC p 0 1 0 (.pointer none) false 0 TE h [] (n+1) b2 Mt (cI v TE false 0 0 0) hM (cI.framed _ _ _ _ _ _)
 have J4:=J3.trans (Just.bJ hg4)
 have hB4:=ev.blk 0 rfl
 unfold kh at hB4
 have k5:=hB4.cell 5
 go_wp2_with (refine dp rfl _ _ _ rfl ev (qc:bM (iX p 0 1 0 (.pointer none) false 0 TE h [] (n+1) b2 Mt (cI v TE false 0 0 0))) J4 0 rfl rfl (((v:Nat):Value)) rfl (aQ rfl) rfl am ?_;intro w5 hS5 J5;refine stay ?_)
 refine bV ?_
 clear k5 hB4 hB3
 have hS5:Solo (cB V w) (Many (iX p 0 1 0 (((v:Nat):Value)) false 0 TE h [] (n+1) b2 Mt (cI v TE false 0 0 0))) w5:=hS5
 have sU:bM (iX p 0 1 0 (((v:Nat):Value)) false 0 TE h [] (n+1) b2 Mt (cI v TE false 0 0 0)):=dC p 0 1 0 (((v:Nat):Value)) false 0 TE h [] (n+1) b2 Mt (cI v TE false 0 0 0) hM (cI.framed _ _ _ _ _ _)
 have L3:=hS5.blk 0 rfl
 unfold kh at L3
 obtain⟨U5,FI,K_⟩:=hS5.see 1 rfl
 have GA:=fun w1 (hg:Grow w5 w1)=>dJ.framed p.s p.x p.d TE h [] (n+1) b2 w5 w1 U5 FI fun b hb=>hg.block b (K_ b hb).2
 go_wp2_with fail
 refine bL 18 61 [(12,.inl (ae af (h:Int))),(17,.inr (fun _=>uB))] rfl rfl am am am ?_ ?_
 ·intro x hx φ he
  simp only[aF,aE,or_false] at hx
  rcases hx with rfl|rfl<;>cases he
  all_goals first|exact ca (cn _)|exact ca qn
 intro ops' A' K' T hops hA' hK hT
 refine bP 36 (.pointer (some ⟨p.r,0,none⟩)) ?_
 refine bI 37 (.tmp 36) (.pointer (some ⟨p.r,0,none⟩)) (.pointer (some ⟨p.r,0,none⟩)) (fun ρ h1 kk w6 (dT:Grow _ w6) hb hf=>by go_simp) ?_
 refine bI 38 (.tmp 37) (.pointer (some ⟨p.r,0,none⟩)) (.pointer (some ⟨p.r,5,none⟩)) (fun ρ h1 kk w6 (dT:Grow _ w6) hb hf=>by go_simp) ?_
 refine bI 39 (.tmp 38) (.pointer (some ⟨p.r,5,none⟩)) (((v:Nat):Value)) (fun ρ h1 kk w6 (dT:Grow _ w6) hb hf=>by have c:=(L3.grow dT).cell 5;go_simp) ?_
 refine bP 40 (.pointer (some ⟨p.r,0,none⟩)) ?_
 refine bI 41 (.tmp 40) (.pointer (some ⟨p.r,0,none⟩)) (.pointer (some ⟨p.r,0,none⟩)) (fun ρ h1 kk w6 (dT:Grow _ w6) hb hf=>by go_simp) ?_
 refine bI 42 (.tmp 41) (.pointer (some ⟨p.r,0,none⟩)) (.pointer (some ⟨p.r,0,none⟩)) (fun ρ h1 kk w6 (dT:Grow _ w6) hb hf=>by go_simp) ?_
 refine bI 43 (.tmp 42) (.pointer (some ⟨p.r,0,none⟩)) (ae af 0) (fun ρ h1 kk w6 (dT:Grow _ w6) hb hf=>by have c:=(L3.grow dT).cell 0;go_simp) ?_
 refine bP 44 (.pointer (some ⟨p.r,0,none⟩)) ?_
 refine bI 45 (.tmp 44) (.pointer (some ⟨p.r,0,none⟩)) (.pointer (some ⟨p.r,0,none⟩)) (fun ρ h1 kk w6 (dT:Grow _ w6) hb hf=>by go_simp) ?_
 refine bI 46 (.tmp 45) (.pointer (some ⟨p.r,0,none⟩)) (.pointer (some ⟨p.r,2,none⟩)) (fun ρ h1 kk w6 (dT:Grow _ w6) hb hf=>by go_simp) ?_
 refine bI 47 (.tmp 46) (.pointer (some ⟨p.r,2,none⟩)) (.pointer (some ⟨p.s,0,none⟩)) (fun ρ h1 kk w6 (dT:Grow _ w6) hb hf=>by have c:=(L3.grow dT).cell 2;go_simp) ?_
 refine cC 48 aj ak (bO aj) (ae af (h:Int)) (by rw[hK.out];rfl) 88 _ _ aj [.pointer (some ⟨p.s,0,none⟩)] aj Rm (fun kk w6 (dT:Grow _ w6) hb hf=>b_ aj (by exact db (CI w6 _ _ _ TE h [] (n+1) b2 U5 (GA w6 dT)))) ?_
 refine bP 49 (.pointer (some ⟨p.r,0,none⟩)) ?_
 refine bI 50 (.tmp 49) (.pointer (some ⟨p.r,0,none⟩)) (.pointer (some ⟨p.r,0,none⟩)) (fun ρ h1 kk w6 (dT:Grow _ w6) hb hf=>by go_simp) ?_
 refine bI 51 (.tmp 50) (.pointer (some ⟨p.r,0,none⟩)) (.pointer (some ⟨p.r,2,none⟩)) (fun ρ h1 kk w6 (dT:Grow _ w6) hb hf=>by go_simp) ?_
 refine bI 52 (.tmp 51) (.pointer (some ⟨p.r,2,none⟩)) (.pointer (some ⟨p.s,0,none⟩)) (fun ρ h1 kk w6 (dT:Grow _ w6) hb hf=>by have c:=(L3.grow dT).cell 2;go_simp) ?_
 refine cH 53 aj ak (bO aj) (fun _=>uB) (by rw[hK.out];rfl) 89 _ _ aj [.pointer (some ⟨p.s,0,none⟩)] aj NV (fun kk w6 (dT:Grow _ w6) hb hf=>cr (φ:=fun _=>uB) aj (by exact (mr w6 _ _ _ TE h [] (n+1) b2 U5 (GA w6 dT) (by simp)).mono fun e w2 h9=>by obtain⟨u,h1,_,⟨A9,h3⟩,h2⟩:=h9;exact⟨u,h1,h2,⟨A9,h3⟩⟩)) (fun v53=>?_)
 refine ce (fun _ _ w6 (dT:Grow _ w6) _ bR=>hT _ _ ?_)
 clear hops hA' hK hT
 simp only[cj,Act.put,aw,ay,az,ax,aB]
 obtain⟨A9,rfl⟩:uB v53 w6:=bR.1
 clear bR
 have eC:=hS5.grows sU dT
 have J6:=J5.trans (Just.bJ dT)
 have Rp:=eC.at_ 3 rfl sU (sd w6 v (TE:Int) (h:Int) A9 0)
 go_wp2_with fail
 refine Rp.mono ?_
 rintro e w7 ⟨rfl,nn,gB⟩
 have gB:Solo (cB V w) (Many (iX p 0 1 0 (((v:Nat):Value)) false 0 TE h [] (n+1) b2 Mt (cI v TE true 0 (h:Int) 1))) w7:=gB
 have J7:=J6.trans nn
 have Rq:=Solo.call gB fun V1 hM1 hV1=>FH w7 p v TE h (h:Int) (n+1) b2 NZ al PF al DV Mt hM V1 hM1 hV1
 go_wp2_with fail
 refine Rq.mono ?_
 rintro e w8 ⟨rfl,Gm,u9⟩
 go_wp2_with fail
 go_ret
 obtain⟨r1,r2⟩:=Solo.done u9 (J7.trans Gm) hV
 rw[HB2.out] at r1
 exact⟨rfl,⟨v,r1⟩,r2⟩
def dA (B:Nat) (cs:List Value) (u:Value) (w:World):Prop:=∃ U:Nat→Prop,Row w U 270 19 u 1 cs∧∀ b,U b→B≤b∧b<w.heap.size
def xp (B:Nat) (cs:List Value) (u:Value):cg:=fun w V=>∃ U:Nat→Prop,Row w U 270 19 u 1 cs∧∀ b,U b→B≤b∧V b
theorem xp.framed (B:Nat) (cs:List Value) (u:Value):Framed (xp B cs u):=fun w w' V ⟨U,h1,h2⟩ hk=>⟨U,h1.keep fun b hb _=>hk b (h2 b hb).2,h2⟩
theorem xp.msg {B:Nat} {cs:List Value} {u:Value} {w:World} {V:Nat→Prop} (h:xp B cs u w V) (hV:∀ b,V b→b<w.heap.size):dA B cs u w:=by
 obtain⟨U,h1,h2⟩:=h
 exact⟨U,h1,fun b hb=>⟨(h2 b hb).1,hV b (h2 b hb).2⟩⟩
def GC (v:Value):Nat:=match v with
 | .slice _ n _=>n
 | _=>0
theorem dA.grow {B:Nat} {cs:List Value} {u:Value} {w w':World} (h:dA B cs u w) (hg:Grow w w'):dA B cs u w':=by
 obtain⟨U,h1,h2⟩:=h
 exact⟨U,h1.grow hg,fun b hb=>⟨(h2 b hb).1,aA (h2 b hb).2 hg.size⟩⟩
theorem dA.sl {B:Nat} {cs:List Value} {u:Value} {w:World} (h:dA B cs u w):∃ A c,u=.slice A 1 c:=by
 obtain⟨U,h1,_⟩:=h
 obtain⟨A2,c2,e2,_⟩:=h1.fw
 exact⟨A2,c2,e2⟩
theorem dA.slc {B:Nat} {cs:List Value} {u:Value} {w:World} (h:dA B cs u w):∃ A c,u=.slice A 1 c∧1≤c:=by
 obtain⟨U,h1,_⟩:=h
 obtain⟨A2,c2,e2,_,h3,_⟩:=h1.fw
 exact⟨A2,c2,e2,h3⟩
theorem dA.mono {B B':Nat} {cs:List Value} {u:Value} {w:World} (h:dA B cs u w) (hb:B'≤B):dA B' cs u w:=by
 obtain⟨U,h1,h2⟩:=h
 exact⟨U,h1,fun b h=>⟨aH hb (h2 b h).1,(h2 b h).2⟩⟩
theorem AH (w:World) (p:sT) (v:Nat) (t:Nat) (n:Int) (bs:List UInt8) (k ag sh sq ep:Int) (ds:List Dl) (se:ByteArray) (fr tg:Int) (hok:(⟨k,ag,sh,sq,ep,ds,se,fr,tg⟩:En).Ok) (hk:Hid (k=1)) (hse:W.seen 0 0 sq=false) (hfa:W.far 0 sq=false) (oj:0≤ep) (hmay:K.i3 [] ds=0) (Vt:cg) (JY:Framed Vt) (V:Nat→Prop) (hL:Many (iX p 0 1 0 (((v:Nat):Value)) true 0 t t [⟨k,ag,sh,sq,ep,ds,se,fr,tg⟩] n bs (cX p.m [] [] none) Vt) w V) (hV:∀ b,V b→b<w.heap.size) :
 Calls au 176 #[.pointer (some ⟨p.r,0,none⟩),ae af 1] w fun e w'=>(∃ u,e=.returned u∧dA w.heap.size #[ae af fr,ae af 2,ae af 0,ae af 0,ae af 0,ae af 0,ae af 0,ai none 0 0,.string ⟨#[]⟩,ae af 0,ae af 0,ae af tg,ae af 1,ae ah 0,ae af 0,ae af 0,ai none 0 0,ae af 0,ae af 0].toList u w')∧Many (iX p 0 1 1 (((v:Nat):Value)) true 0 t t [⟨k,ag,sh,sq,ep,ds,se,fr,tg⟩] n bs (cX p.m (K.fP [] ds) (dQ [] ag (ae af ep)) (some ((ag,sh),(W.dm 0 0 sq).1,(W.dm 0 0 sq).2))) Vt) w' (Ext V w w')∧Just V w w':=by
 have k13:∀ (vs:Array Value) (w:World),(callFunc 13 vs).run au w=.ok (.enter 13 vs) w:=fun vs w=>by go_simp
 have hmn:∀ ts t w,(Builtin.min_ ts t #[ae af 1,ae af 1]).run au w=.ok (ae af 1) w:=fun ts t w=>by rw[run_min_int2];rfl
 have dX:=dC p 0 1 0 (((v:Nat):Value)) true 0 t t [⟨k,ag,sh,sq,ep,ds,se,fr,tg⟩] n bs (cX p.m [] [] none) Vt (cX.framed _ _ _ _) JY
 have hS0:=Solo.begin_ hL hV
 obtain⟨U,hSt,hU⟩:=hS0.see 1 rfl
 have hL0:=mr w p.s p.x p.d t t [⟨k,ag,sh,sq,ep,ds,se,fr,tg⟩] n bs U hSt (by simp)
 have hB:=hS0.blk 0 rfl
 unfold kh at hB
 have c2:=hB.cell 2
 go_enter Tryz.func176,Tryz.ntmps176
 go_wp2_with fail
 refine hL0.mono ?_
 rintro e wl ⟨u,rfl,hI,⟨Ax,PG⟩,hg1⟩
 obtain⟨A,c,q,hu,M5,hqe,hqc,hcm⟩:=hI
 obtain⟨x,rfl⟩:∃ x,q=[x]:=by
  have h:=congrArg List.length hqe
  simp at h
  match q,h with
  | [x],_=>exact⟨x,rfl⟩
 have hxe:x.e=⟨k,ag,sh,sq,ep,ds,se,fr,tg⟩:=by simpa using hqe
 rw[hu] at PG
 injection PG with h1 h2 h3
 subst h1 h3 hu
 obtain⟨ad,hkq,rfl,P8,iT,e0,e1⟩:=M5.1.iS al kG (k:=0) (by simp)
 have hx:=M5.2 x (by simp)
 obtain⟨_,A,c⟩:=x
 simp only at hxe
 subst hxe
 simp only[List.getElem_cons_zero,El.cells,En.agg,Nat.zero_mul,Addr.add_zero'] at e0 e1
 have e2:=e1 1 _ rfl
 have e3:=e1 2 _ rfl
 have e4:=e1 3 _ rfl
 have e5:=e1 4 _ rfl
 have e6:=e1 5 _ rfl
 have e7:=e1 6 _ rfl
 have e8:=e1 7 _ rfl
 have e1:=e1 0 _ rfl
 have e0:=e0 _ rfl
 have c4:=(hB.grow hg1).cell 4
 have hga:=bN wl (.cells #[ae af k,ae af ag,ae af sh,ae af sq,ae af ep,.slice A ds.length c,.string se,ae af fr,ae af tg] 32)
 have du:=ct.made wl 32 #[ae af k,ae af ag,ae af sh,ae af sq,ae af ep,.slice A ds.length c,.string se,ae af fr,ae af tg]
 obtain⟨y,HY⟩:∃ y:Nat,Hid (y=wl.heap.size):=⟨_,rfl⟩
 obtain⟨wa,dq⟩:∃ wa:World,Hid (wa=wl.alloc (.cells #[ae af k,ae af ag,ae af sh,ae af sq,ae af ep,.slice A ds.length c,.string se,ae af fr,ae af tg] 32)):=⟨_,rfl⟩
 rw[←dq.out] at hga du
 rw[←HY.out] at du
 have hgw:Grow w wa:=hg1.trans hga
 clear c2
 go_wp2_with fail
 go_loopw [5] (fun u wr=>(u=ai none 0 0∧wl=wr)∨(dA w.heap.size #[ae af fr,ae af 2,ae af 0,ae af 0,ae af 0,ae af 0,ae af 0,ai none 0 0,.string ⟨#[]⟩,ae af 0,ae af 0,ae af tg,ae af 1,ae ah 0,ae af 0,ae af 0,ai none 0 0,ae af 0,ae af 0].toList u wr∧Many (iX p 0 1 1 (((v:Nat):Value)) true 0 t t [⟨k,ag,sh,sq,ep,ds,se,fr,tg⟩] n bs (cX p.m (K.fP [] ds) (dQ [] ag (ae af ep)) (some ((ag,sh),(W.dm 0 0 sq).1,(W.dm 0 0 sq).2))) Vt) wr (Ext V w wr)∧Just V w wr)) (fun u _=>1-GC u)
 case atStart=>exact .inl ⟨rfl,rfl⟩
 case round=>
  rcases hrel with ⟨rfl,rfl⟩|⟨hO,GD,sI⟩
  ·have Jw:=Many.framed _ dX w wa V hL fun b hb=>hgw.block b (hV b hb)
   have L4:∀ b,V b→b<wa.heap.size:=fun b hb=>aA (hV b hb) hgw.size
   have ez:=Solo.begin_ Jw L4
   have i9:=dC p 0 1 0 (((v:Nat):Value)) true 0 t t [⟨k,ag,sh,sq,ep,ds,se,fr,tg⟩] n bs (cX p.m (K.fP [] ds) (dQ [] ag (ae af ep)) (some ((ag,sh),(W.dm 0 0 sq).1,(W.dm 0 0 sq).2))) Vt (cX.framed _ _ _ _) JY
   have hyn:¬ cB V wa y:=fun h=>h.elim (fun h=>by have:=hV _ h;have:=HY.out;have:=hg1.size;omega) fun h=>by have:=du.lt;omega
   have hDn:∀ b,New w wl b→¬ cB V wa b:=fun b hb h=>h.elim (fun h=>by have:=hV _ h;have:=hb.1;omega) fun h=>by have:=hb.2;have:=hga.size;omega
   have PH:∀ w5,Just (cB V wa) wa w5→Solo (cB V wa) (Many (iX p 0 1 0 (((v:Nat):Value)) true 0 t t [⟨k,ag,sh,sq,ep,ds,se,fr,tg⟩] n bs (cX p.m [] [] none) Vt)) w5→Calls au 13 #[.pointer (some ⟨p.m,0,none⟩),.agg #[ae af k,ae af ag,ae af sh,ae af sq,ae af ep,.slice A ds.length c,.string se,ae af fr,ae af tg]] w5 fun e w'=>e=.returned (.tuple #[ae af 1,ae ah 0])∧Just (cB V wa) w5 w'∧Solo (cB V wa) (Many (iX p 0 1 0 (((v:Nat):Value)) true 0 t t [⟨k,ag,sh,sq,ep,ds,se,fr,tg⟩] n bs (cX p.m (K.fP [] ds) (dQ [] ag (ae af ep)) (some ((ag,sh),(W.dm 0 0 sq).1,(W.dm 0 0 sq).2))) Vt)) w':=fun w5 hj hI=>hI.zw 2 rfl dX (fun U hU oi Gp=>xg w5 p.m [] [] 0 0 ⟨k,ag,sh,sq,ep,ds,se,fr,tg⟩ A c (New w wl) U oi hok hk.out (In.just (In.grow hx.1 hga) hj hDn) (fun b hb=>by have:=hb.2;have:=hga.size;have:=hj.size;omega) (fun b hb hu=>hDn b hb (Gp b hu)) (by simp) hse hfa ⟨0,rfl,oj⟩ hmay hU)
   go_wp2_with fail
   rw[←dq.out,←HY.out]
   clear e0 e1 e2 e3 e4 e5 e6 e7 e8 c4
   refine c_ rfl ?_
   refine er (iP (cB V wa) (Many (iX p 0 1 0 (((v:Nat):Value)) true 0 t t [⟨k,ag,sh,sq,ep,ds,se,fr,tg⟩] n bs (cX p.m [] [] none) Vt)) (Many (iX p 0 1 0 (((v:Nat):Value)) true 0 t t [⟨k,ag,sh,sq,ep,ds,se,fr,tg⟩] n bs (cX p.m (K.fP [] ds) (dQ [] ag (ae af ep)) (some ((ag,sh),(W.dm 0 0 sq).1,(W.dm 0 0 sq).2))) Vt)) 5 [(3,0),(4,0)]) (iu (Many.framed _ dX) (Many.framed _ i9)) 0 11 74 [(5,.inl (.tuple #[ae af 1,ae ah 0]))] rfl am am am ?_ (Just.bJ (Grow.refl _).drew) (ez.grows dX (Grow.refl _).drew) ?_
   ·intro x hx φ he
    simp only[aF,aE,or_false] at hx
    rcases hx with rfl<;>cases he
   intro ops' A' K' T hops hA' hK hT
   refine bP 32 (.pointer (some ⟨p.r,0,none⟩)) ?_
   refine bI 33 (.tmp 32) (.pointer (some ⟨p.r,0,none⟩)) (.pointer (some ⟨p.r,0,none⟩)) (fun ρ h1 kk w3 (hj3:Just (cB V wa) _ w3) hb hf=>by go_simp) ?_
   refine bI 34 (.tmp 33) (.pointer (some ⟨p.r,0,none⟩)) (.pointer (some ⟨p.r,3,none⟩)) (fun ρ h1 kk w3 (hj3:Just (cB V wa) _ w3) hb hf=>by go_simp) ?_
   refine bI 35 (.tmp 34) (.pointer (some ⟨p.r,3,none⟩)) (.pointer (some ⟨p.m,0,none⟩)) (fun ρ h1 kk w3 (hj3:Just (cB V wa) _ w3) hb hf=>by obtain rfl:=cw 0 aj hb;have hI:=hb.1;have hB:=hI.blk 0 rfl;unfold kh at hB;have c:=hB.cell 3;go_simp) ?_
   refine bI 36 (.tmp 7) (((y:Nat):Value)) (.agg #[ae af k,ae af ag,ae af sh,ae af sq,ae af ep,.slice A ds.length c,.string se,ae af fr,ae af tg]) (fun ρ h1 kk w3 (hj3:Just (cB V wa) _ w3) hb hf=>by obtain rfl:=cw 0 aj hb;have hI:=hb.1;have hB:=hj3.blk du hyn;have c0:=hB.cell 0;have c1:=hB.cell 1;have c2:=hB.cell 2;have c3:=hB.cell 3;have c4:=hB.cell 4;have c5:=hB.cell 5;have c6:=hB.cell 6;have c7:=hB.cell 7;have c8:=hB.cell 8;go_simp) ?_
   refine cC 37 aj ak (bO aj) (.tuple #[ae af 1,ae ah 0]) (by rw[hK.out];rfl) 13 _ _ aj [.pointer (some ⟨p.m,0,none⟩),.agg #[ae af k,ae af ag,ae af sh,ae af sq,ae af ep,.slice A ds.length c,.string se,ae af fr,ae af tg]] aj k13 (fun kk w3 (hj3:Just (cB V wa) _ w3) hb hf=>jD 0 aj (by obtain rfl:=cw 0 aj hb;have hI:=hb.1;exact (PH w3 hj3 hI))) ?_
   refine bP 31 (.tuple #[ae af 1,ae ah 0]) ?_
   refine bI 38 (.tmp 31) (.tuple #[ae af 1,ae ah 0]) (ae af 1) (fun ρ h1 kk w3 (hj3:Just (cB V wa) _ w3) hb hf=>by go_simp) ?_
   refine bI 39 (.tmp 31) (.tuple #[ae af 1,ae ah 0]) (ae ah 0) (fun ρ h1 kk w3 (hj3:Just (cB V wa) _ w3) hb hf=>by go_simp) ?_
   refine bP 8 (ae af 1) ?_
   refine bP 9 (ae ah 0) ?_
   refine ce (fun _ _ w3 (hj3:Just (cB V wa) _ w3) hend bR=>hT _ _ ?_)
   clear hops hA' hK hT
   simp only[cj,Act.put,aw,ay,az]
   clear bR PH
   have dO:Solo (cB V wa) (Many (iX p 0 1 0 (((v:Nat):Value)) true 0 t t [⟨k,ag,sh,sq,ep,ds,se,fr,tg⟩] n bs (cX p.m (K.fP [] ds) (dQ [] ag (ae af ep)) (some ((ag,sh),(W.dm 0 0 sq).1,(W.dm 0 0 sq).2))) Vt)) w3:=hend
   refine eY ?_
   have hB3:=dO.blk 0 rfl
   unfold kh at hB3
   have xq:ct w3 y 32 #[ae af k,ae af ag,ae af sh,ae af sq,ae af ep,.slice A ds.length c,.string se,ae af fr,ae af tg]:=hj3.blk du hyn
   go_wp2_with fail
   refine bL 15 74 [] rfl rfl am am am ?_ ?_
   ·intro x hx φ he
    cases hx
   intro ops' A' K' T hops hA' hK hT
   refine bP 40 (.pointer (some ⟨p.r,0,none⟩)) ?_
   refine bI 41 (.tmp 40) (.pointer (some ⟨p.r,0,none⟩)) (.pointer (some ⟨p.r,0,none⟩)) (fun ρ h1 kk w4 (hg4:Grow _ w4) hb hf=>by go_simp) ?_
   refine bI 42 (.tmp 41) (.pointer (some ⟨p.r,0,none⟩)) (.pointer (some ⟨p.r,6,none⟩)) (fun ρ h1 kk w4 (hg4:Grow _ w4) hb hf=>by go_simp) ?_
   refine bI 43 (.tmp 42) (.pointer (some ⟨p.r,6,none⟩)) (.bool true) (fun ρ h1 kk w4 (hg4:Grow _ w4) hb hf=>by have c:=(hB3.grow hg4).cell 6;go_simp) ?_
   refine bP 44 (.bool true) ?_
   refine da 45 (cx hops 4 true 44 true) (.pointer (some ⟨p.r,0,none⟩)) ?_
   refine bX 46 (cx hops 4 true 44 true) (.tmp 45) (.pointer (some ⟨p.r,0,none⟩)) (.pointer (some ⟨p.r,0,none⟩)) (fun ρ h1 kk w4 (hg4:Grow _ w4) hb hf=>by go_simp) ?_
   refine bX 47 (cx hops 4 true 44 true) (.tmp 46) (.pointer (some ⟨p.r,0,none⟩)) (.pointer (some ⟨p.r,4,none⟩)) (fun ρ h1 kk w4 (hg4:Grow _ w4) hb hf=>by go_simp) ?_
   refine bX 48 (cx hops 4 true 44 true) (.tmp 47) (.pointer (some ⟨p.r,4,none⟩)) (ae af 0) (fun ρ h1 kk w4 (hg4:Grow _ w4) hb hf=>by have c:=(hB3.grow hg4).cell 4;go_simp) ?_
   refine da 49 (cx hops 4 true 44 true) (.pointer (some ⟨p.r,0,none⟩)) ?_
   refine bX 50 (cx hops 4 true 44 true) (.tmp 49) (.pointer (some ⟨p.r,0,none⟩)) (.pointer (some ⟨p.r,0,none⟩)) (fun ρ h1 kk w4 (hg4:Grow _ w4) hb hf=>by go_simp) ?_
   refine bX 51 (cx hops 4 true 44 true) (.tmp 50) (.pointer (some ⟨p.r,0,none⟩)) (.pointer (some ⟨p.r,7,none⟩)) (fun ρ h1 kk w4 (hg4:Grow _ w4) hb hf=>by go_simp) ?_
   refine bX 52 (cx hops 4 true 44 true) (.tmp 51) (.pointer (some ⟨p.r,7,none⟩)) (ae af 0) (fun ρ h1 kk w4 (hg4:Grow _ w4) hb hf=>by have c:=(hB3.grow hg4).cell 7;go_simp) ?_
   refine dc 53 (cx hops 4 true 44 true) (.tmp 48) (.tmp 52) (ae af 0) (ae af 0) (.bool true) (fun ρ h1 h2 kk w4 (hg4:Grow _ w4) hb hf=>by go_simp) ?_
   refine cG 54 true (.bool true) ?_
   refine ce (fun _ _ w4 (hg4:Grow _ w4) _ bR=>hT _ _ ?_)
   clear hops hA' hK hT
   simp only[cj,Act.put,aw,ay,az,ax,aB]
   clear bR
   have ev:=dO.grows i9 hg4
   have L5:=xq.grow hg4
   have y7:=L5.cell 7
   have y8:=L5.cell 8
   have KY:=ct.made w4 270 #[ae af fr,ae af 2,ae af 0,ae af 0,ae af 0,ae af 0,ae af 0,ai none 0 0,.string ⟨#[]⟩,ae af 0,ae af 0,ae af tg,ae af 1,ae ah 0,ae af 0,ae af 0,ai none 0 0,ae af 0,ae af 0]
   have IR:=KY.fw (size:=19) (n:=1) aj
   have DN:=bN w4 (.cells #[ae af fr,ae af 2,ae af 0,ae af 0,ae af 0,ae af 0,ae af 0,ai none 0 0,.string ⟨#[]⟩,ae af 0,ae af 0,ae af tg,ae af 1,ae ah 0,ae af 0,ae af 0,ai none 0 0,ae af 0,ae af 0] 270)
   go_wp2_with (at_builtin;refine stay ?_)
   refine bV ?_
   clear y7 y8
   refine eD Gy _ rfl (.tmp 55) (.tmp 64) rfl (ai none 0 0) 0 [] rfl (Row.nil (V:=fun _=>False)) _ _ 1 1 #[ae af fr,ae af 2,ae af 0,ae af 0,ae af 0,ae af 0,ae af 0,ai none 0 0,.string ⟨#[]⟩,ae af 0,ae af 0,ae af tg,ae af 1,ae ah 0,ae af 0,ae af 0,ai none 0 0,ae af 0,ae af 0].toList rfl IR.reads (by simp[Value.oneCell']) ak ?_
   intro v10 Cc s6 IU
   have DO:=IU.below (B:=w4.heap.size) (fun b hb=>hb.elim) (by simp)
   have lS:Grow w4 Cc:=Below.trans DN DO
   have hgz:=hgw.size
   have hz34:=hj3.size
   have EA:=hg4.size
   have Rr:dA w.heap.size #[ae af fr,ae af 2,ae af 0,ae af 0,ae af 0,ae af 0,ae af 0,ai none 0 0,.string ⟨#[]⟩,ae af 0,ae af 0,ae af tg,ae af 1,ae ah 0,ae af 0,ae af 0,ai none 0 0,ae af 0,ae af 0].toList v10 Cc:=by
    simp only[a_,aR] at s6
    refine⟨_,s6,fun b hb=>?_⟩
    rcases hb with hb|hb
    ·exact hb.elim
    ·exact⟨by have:=hb.1;simp at this;omega,hb.2⟩
   have Hp:∃ U:Nat→Prop,Row Cc U 270 19 v10 1 #[ae af fr,ae af 2,ae af 0,ae af 0,ae af 0,ae af 0,ae af 0,ai none 0 0,.string ⟨#[]⟩,ae af 0,ae af 0,ae af tg,ae af 1,ae ah 0,ae af 0,ae af 0,ai none 0 0,ae af 0,ae af 0].toList∧∀ b,U b→w4.heap.size≤b∧b<Cc.heap.size:=by
    simp only[a_,aR] at s6
    refine⟨_,s6,fun b hb=>?_⟩
    rcases hb with hb|hb
    ·exact hb.elim
    ·exact⟨by have:=hb.1;simp at this;omega,hb.2⟩
   obtain⟨Ao,co,rfl⟩:=Rr.sl
   clear IR KY DN
   have gZ:=ev.join i9 lS (R:=xp w.heap.size #[ae af fr,ae af 2,ae af 0,ae af 0,ae af 0,ae af 0,ae af 0,ai none 0 0,.string ⟨#[]⟩,ae af 0,ae af 0,ae af tg,ae af 1,ae ah 0,ae af 0,ae af 0,ai none 0 0,ae af 0,ae af 0].toList (.slice Ao 1 co)) (U:=fun b=>w4.heap.size≤b∧b<Cc.heap.size) (by
    obtain⟨U,h1,h2⟩:=Hp
    exact⟨U,h1,fun b hb=>⟨by have:=h2 b hb;omega,h2 b hb⟩⟩) (fun b hb=>hb)
   have O0:=i9.cons (xp.framed w.heap.size #[ae af fr,ae af 2,ae af 0,ae af 0,ae af 0,ae af 0,ae af 0,ai none 0 0,.string ⟨#[]⟩,ae af 0,ae af 0,ae af tg,ae af 1,ae ah 0,ae af 0,ae af 0,ai none 0 0,ae af 0,ae af 0].toList (.slice Ao 1 co))
   have NT:Just (cB V wa) wa Cc:=hj3.trans (Just.bJ (hg4.trans lS))
   have L6:=gZ.blk 1 rfl
   unfold kh at L6
   have k4:=L6.cell 4
   go_wp2_with (refine dp rfl _ _ _ rfl gZ O0 NT 1 rfl rfl (ae af 1) rfl (aQ rfl) rfl am ?_;intro JH FJ Rs;refine stay ?_)
   refine bV ?_
   clear k4
   have FJ:Solo (cB V wa) (Many (xp w.heap.size #[ae af fr,ae af 2,ae af 0,ae af 0,ae af 0,ae af 0,ae af 0,ai none 0 0,.string ⟨#[]⟩,ae af 0,ae af 0,ae af tg,ae af 1,ae ah 0,ae af 0,ae af 0,ai none 0 0,ae af 0,ae af 0].toList (.slice Ao 1 co) :: iX p 0 1 1 (((v:Nat):Value)) true 0 t t [⟨k,ag,sh,sq,ep,ds,se,fr,tg⟩] n bs (cX p.m (K.fP [] ds) (dQ [] ag (ae af ep)) (some ((ag,sh),(W.dm 0 0 sq).1,(W.dm 0 0 sq).2))) Vt)) JH:=FJ
   obtain⟨U9,Rt,O1⟩:=FJ.see 0 rfl
   have O2:=Rt.msg fun b hb=>(O1 b hb).2
   obtain⟨r1,r2⟩:=Solo.done FJ.drop1 Rs L4
   have r3:=Many.wide _ JH (Ext V wa JH) (Ext V w JH) (fun b hb=>hb.elim .inl fun h => .inr ⟨by have:=h.1;omega,h.2⟩) r1
   have r4:=(Just.bJ (V:=V) hgw).trans r2
   go_wp2_with fail
   go_roundw
   case rel=>exact .inr ⟨O2,r3,r4⟩
   case measure=>simp[GC]
  ·obtain⟨Ao,co,rfl⟩:=hO.sl
   have O3:∀ b,Ext V w wr b→b<wr.heap.size:=fun b hb=>hb.elim (fun h=>by have:=hV b h;have:=sI.size;omega) fun h=>h.2
   have PI:=(Solo.begin_ GD O3).blk 0 rfl
   unfold kh at PI
   have k4:=PI.cell 4
   go_wp2_with fail
   go_ret
   exact⟨⟨_,rfl,hO⟩,GD,sI⟩
end Go.Proofs.YtmijcbfgfkeodaaGreatDoor
end
