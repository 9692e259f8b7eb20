/- Wd4, Wd5. -/
import Derived.Test.YtmijcbfgfkeodaaGreatDoorIz38
set_option linter.all false
set_option maxRecDepth 100000
set_option maxHeartbeats 2000000
open Go.Value renaming int → ae,slice → ai
open Go.IntKind renaming i64 → af,u64 → ah
open Go.Proofs.Tryz renaming prog → au
open List renaming setIfInBounds_toArray → aw,drop_succ_cons → ax,set_cons_zero → ay,set_cons_succ → az,drop_zero → aB,not_mem_nil → aE,mem_cons → aF,perm_append_comm → aG,length_map → aP,take_succ_cons → aV,take_zero → bw
open Nat renaming lt_of_lt_of_le → aA,le_refl → aC,le_trans → aH,le_of_ble_eq_true → aQ,zero_add → a_
section
namespace Go.Proofs.YtmijcbfgfkeodaaGreatDoor
open Go.RowKit Go.Hop V
theorem Li {α:Type _} (a b c d e f g:α):[a,b,c,d,e,f,g].Perm [f,c,a,e,g,d,b]:=
 List.Perm.map (fun k=>[a,b,c,d,e,f,g].getD k a) (by decide:[0,1,2,3,4,5,6].Perm [5,2,0,4,6,3,1])
theorem FV:(Tryz.prog.info? 66).map (fun i=>(i.zero,i.size,i.bytes))=some (some (.pointer none),1,8):=by kernel_rfl
theorem RI:Elem au 192 66 1 8 (.pointer none):=⟨Tryz.underlying192,info_parts FV,rfl,by decide,by decide⟩
theorem FW:(Tryz.prog.info? 55).map (fun i=>(i.zero,i.size,i.bytes))=some (some (.pointer none),1,8):=by kernel_rfl
theorem RJ:Elem au 193 55 1 8 (.pointer none):=⟨Tryz.underlying193,info_parts FW,rfl,by decide,by decide⟩
theorem FX:(Tryz.prog.info? 53).map (fun i=>(i.zero,i.size,i.bytes))=some (some (.pointer none),1,8):=by kernel_rfl
theorem PS:Elem au 194 53 1 8 (.pointer none):=⟨Tryz.underlying194,info_parts FX,rfl,by decide,by decide⟩
theorem xE {w:World} {u:Value} {r:Nat} {ρ:Operand→Value} {o:Oper} {x:Operand} (h1:ρ x=u) (hu:u=((r:Nat):Value)) (ho:o.op=.buildSlice 192 1 #[(0,x)]) :
 (execOp ρ o).run au w=.ok (.value (.slice (some ⟨w.heap.size,0,none⟩) 1 1)) (w.alloc (.cells #[((r:Nat):Value)] 66)):=by
 obtain⟨dst,op,ty,pos,after,guard⟩:=o
 simp only at ho
 subst ho hu
 go_simp
theorem xF {w:World} {u:Value} {r:Nat} {ρ:Operand→Value} {o:Oper} {x:Operand} (h1:ρ x=u) (hu:u=((r:Nat):Value)) (ho:o.op=.buildSlice 193 1 #[(0,x)]) :
 (execOp ρ o).run au w=.ok (.value (.slice (some ⟨w.heap.size,0,none⟩) 1 1)) (w.alloc (.cells #[((r:Nat):Value)] 55)):=by
 obtain⟨dst,op,ty,pos,after,guard⟩:=o
 simp only at ho
 subst ho hu
 go_simp
theorem FY (w:World):Calls au 106 #[ae af 1,ae af 1] w fun e w'=>∃ W,e=.returned (((W:Nat):Value))∧Wo W [] R0 A0 w' (New w w')∧Grow w w':=by
 have RL:∀ (vs:Array Value) (w:World),(callFunc 30 vs).run au w=.ok (.enter 30 vs) w:=fun vs w=>by go_simp
 have k23:∀ (vs:Array Value) (w:World),(callFunc 23 vs).run au w=.ok (.enter 23 vs) w:=fun vs w=>by go_simp
 have Eb:=Ne.j3 w 2 al al
 go_enter Tryz.func106,Tryz.ntmps106
 go_wp2_with fail
 refine Eb.mono ?_
 rintro e w1 ⟨rfl,hN1,hg1⟩
 obtain⟨g,HG⟩:∃ g:Nat,Hid (g=w.heap.size):=⟨_,rfl⟩
 rw[←HG.out] at hN1 ⊢
 have hS1:Solo (fun b=>w.heap.size≤b) (Many [Ne.dy g 2 [] (fun _=>false)]) w1:=Solo.my (l:=[]) (V:=fun _=>False) (U:=New w w1) (fun b hb=>aH hg1.size hb) trivial (fun b hb=>hb.elim) hN1 fun b hb=>⟨hb.1,hb.2,fun h=>h⟩
 have g2:=bN w1 (.cells (gG (ai none 0 0) (ai none 0 0) (ai none 0 0) g) 196)
 have hB2:=ct.made w1 196 (gG (ai none 0 0) (ai none 0 0) (ai none 0 0) g)
 obtain⟨W,Oe⟩:∃ W:Nat,Hid (W=w1.heap.size):=⟨_,rfl⟩
 obtain⟨w2,HW2⟩:∃ w2:World,Hid (w2=w1.alloc (.cells (gG (ai none 0 0) (ai none 0 0) (ai none 0 0) g) 196)):=⟨_,rfl⟩
 rw[←HW2.out] at g2 hB2
 rw[←Oe.out] at hB2
 have hS2:=hS1.join (bM.nil.cons (Ne.dy.framed _ _ _ _)) g2 (R:=Cell W 196 (gG (ai none 0 0) (ai none 0 0) (ai none 0 0) g)) (U:=fun b=>b=W) ⟨rfl,hB2⟩ (fun b hb=>by have e2:b=W:=hb;have:=Oe.out;have:=hB2.lt;omega)
 have J2:Just (fun b=>w.heap.size≤b) w w2:=Just.bJ (hg1.trans g2)
 unfold gG at HW2
 go_wp2_with fail
 rw[←HW2.out,←Oe.out]
 go_loopw [33] (fun i wr=>(i=ae af 0∧w2=wr)∨(i=ae af 1∧∃ (r d0:Nat) (rs ds:Value),Solo (fun b=>w.heap.size≤b) (Many [cD 66 rs [r],R0 r,cD 53 ds [d0],Cell W 196 (gG rs (ai none 0 0) ds g),Ne.dy g 2 [] (fun _=>false)]) wr∧Just (fun b=>w.heap.size≤b) w wr)∨(i=ae af 2∧∃ (a r d0 d1:Nat) (rs ij ds:Value),Solo (fun b=>w.heap.size≤b) (Many [cD 55 ij [a],A0 a,cD 66 rs [r],R0 r,cD 53 ds [d0,d1],Cell W 196 (gG rs ij ds g),Ne.dy g 2 [] (fun _=>false)]) wr∧Just (fun b=>w.heap.size≤b) w wr)) (fun i _=>2-(intOf i).toNat)
 case atStart=>exact .inl ⟨rfl,rfl⟩
 case round=>
  rcases hrel with ⟨rfl,rfl⟩|⟨rfl,r,d0,rs,ds,hSr,Jr⟩|⟨rfl,a,r,d0,d1,rs,ij,ds,hSr,Jr⟩
  ·have hSr:=hS2
   have Jr:=J2
   have mw:bM [Cell W 196 (gG (ai none 0 0) (ai none 0 0) (ai none 0 0) g),Ne.dy g 2 [] (fun _=>false)]:=((bM.nil.cons (Ne.dy.framed _ _ _ _)).cons (Cell.framed _ _ _))
   have Lj:=j3 w2
   go_wp2_with fail
   refine Lj.mono ?_
   rintro e w3 ⟨rfl,hD3,hg3⟩
   obtain⟨d0,HD⟩:∃ d0:Nat,Hid (d0=w2.heap.size):=⟨_,rfl⟩
   rw[←HD.out] at hD3 ⊢
   have dO:=hSr.join mw hg3 hD3 (fun b hb=>hb)
   have i9:=mw.cons (cT.framed 133 d0 [] 0)
   have J3:Just (fun b=>w.heap.size≤b) w w3:=Jr.trans (Just.bJ hg3)
   have hgb:=bN w3 (.cells #[((d0:Nat):Value)] 53)
   have hBb:=ct.made w3 53 #[((d0:Nat):Value)]
   have vJ:=hBb.fw (size:=1) (n:=1) aj
   have hW3:=dO.blk 1 rfl
   unfold gG at hW3
   have c2:=hW3.cell 2
   go_wp2_with (at_builtin;refine stay ?_)
   refine bV ?_
   refine eD PS _ rfl (.tmp 41) (.tmp 43) rfl (ai none 0 0) 0 [] rfl (Row.nil (V:=fun _=>False)) _ _ 1 1 [((d0:Nat):Value)] rfl vJ.reads (by simp[Value.oneCell']) ak ?_
   intro v4 w4 vU ko
   have Og:=ko.below (B:=w3.heap.size) (fun b hb=>hb.elim) (by simp)
   have hg4:Grow w3 w4:=Below.trans hgb Og
   have Lk:cD 53 v4 [d0] w4 (fun b=>w3.heap.size≤b∧b<w4.heap.size):=by
    have h:Row w4 _ 53 1 v4 1 [((d0:Nat):Value)]:=vU
    exact h.mono fun b hb=>hb.elim (fun h=>h.elim) fun h=>⟨by have:=h.1;simp at this;omega,h.2⟩
   have ev:=dO.join i9 hg4 Lk (fun b hb=>hb)
   have qc:=i9.cons (cD.framed 53 v4 [d0])
   have J4:=J3.trans (Just.bJ hg4)
   obtain⟨A4,uQ,e4,_⟩:=Row.fw Lk
   subst e4
   have GG:=ev.blk 2 rfl
   unfold gG at GG
   have k2:=GG.cell 2
   go_wp2_with (refine dp rfl _ _ _ rfl ev qc J4 2 rfl rfl (.slice A4 1 uQ) rfl (aQ rfl) rfl am ?_;intro w5 hS5 J5;refine stay ?_)
   refine bV ?_
   clear c2 k2
   have hS5:Solo (fun b=>w.heap.size≤b) (Many [cD 53 (.slice A4 1 uQ) [d0],cT 133 d0 [] 0,Cell W 196 (gG (ai none 0 0) (ai none 0 0) (.slice A4 1 uQ) g),Ne.dy g 2 [] (fun _=>false)]) w5:=hS5
   have hS5:=hS5.perm (List.Perm.swap _ _ _)
   have Ll:bM [cD 53 (.slice A4 1 uQ) [d0],Cell W 196 (gG (ai none 0 0) (ai none 0 0) (.slice A4 1 uQ) g),Ne.dy g 2 [] (fun _=>false)]:=(((bM.nil.cons (Ne.dy.framed _ _ _ _)).cons (Cell.framed _ _ _)).cons (cD.framed _ _ _))
   have Lm:=hS5.blk 2 rfl
   unfold gG at Lm
   obtain⟨U,hD5,ey,Oh,hk⟩:=Solo.uP Ll hS5
   have Oi:=Oh 1 W _ _ rfl
   go_wp2_with fail
   refine c_ rfl ?_
   refine er (pL U (fun a=>cT 133 d0 [] 0 a U∧∀ b,U b→b<a.heap.size) 8 []) (rB fun a b h fI=>⟨cT.framed 133 d0 [] 0 a b U h.1 (fun x hx=>fI.block x (h.2 x hx)),fun x hx=>aA (h.2 x hx) fI.size⟩) 0 13 78 [(8,.inr (Since (o6 R0 (fun b=>U b∨w5.heap.size≤b)))),(9,.inr (Since (fD 66 R0 (fun b=>U b∨w5.heap.size≤b)))),(10,.inr (Since (fD 66 R0 (fun b=>U b∨w5.heap.size≤b))))] rfl am am am ?_ (Just.bJ (Grow.refl _).drew) ⟨cT.framed 133 d0 [] 0 w5 _ U hD5 (fun x hx=>(Grow.refl w5).drew.block x (ey x hx).2),fun x hx=>(ey x hx).2⟩ ?_
   ·intro x hx φ he
    simp only[aF,aE,or_false] at hx
    rcases hx with rfl|rfl|rfl<;>cases he
    all_goals first|exact ca (cn _)|first|exact fG (mH R0.framed)|exact fG (lv R0.framed)
   intro ops' A' K' T hops hA' hK hT
   refine bP 50 (((W:Nat):Value)) ?_
   refine bP 51 (((W:Nat):Value)) ?_
   refine bI 52 (.tmp 51) (((W:Nat):Value)) (((W:Nat):Value)) (fun ρ h1 kk w6 (fI:Just U _ w6) hb hf=>by go_simp) ?_
   refine bI 53 (.tmp 52) (((W:Nat):Value)) (((W:Nat):Value)) (fun ρ h1 kk w6 (fI:Just U _ w6) hb hf=>by go_simp) ?_
   refine bI 54 (.tmp 53) (((W:Nat):Value)) (ai none 0 0) (fun ρ h1 kk w6 (fI:Just U _ w6) hb hf=>by have c:=(fI.blk Lm Oi).cell 0;go_simp) ?_
   refine bP 55 (ae af 0) ?_
   refine bP 56 (ae af 1) ?_
   refine bP 57 (((d0:Nat):Value)) ?_
   refine cH 58 aj ak (bO aj) (Since (o6 R0 (fun b=>U b∨w5.heap.size≤b))) (by rw[hK.out];rfl) 30 _ _ aj [ae af 0,ae af 1,((d0:Nat):Value)] aj RL (fun kk w6 (fI:Just U _ w6) hb hf=>fN (φ:=Since (o6 R0 (fun b=>U b∨w5.heap.size≤b))) 0 aj (by obtain rfl:=cw 0 aj hb;have hI:=hb.1;exact ((FM w6 d0 U hI.1 hI.2).mono fun e w9 h9=>by obtain⟨r9,h1,h2,h3⟩:=h9;exact⟨_,h1,h3,trivial,r9,Ext U w6 w9,rfl,h2,fun b hb=>hb.elim (fun h=>⟨.inl h,aA (hI.2 b h) h3.size⟩) fun h=>⟨.inr (aH fI.size h.1),h.2⟩⟩))) (fun v58=>?_)
   refine fE 59 aj ak (bO aj) (Since (fD 66 R0 (fun b=>U b∨w5.heap.size≤b))) (by rw[hK.out];rfl) (.tmp 58) (v58) aj (fun ρ h1 kk w6 (fI:Just U _ w6) hb hf=>by refine eN (R:=fun u w9=>Grow w6 w9∧Since (fD 66 R0 (fun b=>U b∨w5.heap.size≤b)) kk u w9) ?_ (fun u w9 h=>⟨fc aj h.1,by rw[gI aj];exact h.2⟩);have hf1:=gQ (show Since (o6 R0 (fun b=>U b∨w5.heap.size≤b)) kk _ w6 from (cy hf (by rw[hA'.out];kernel_rfl)));have hf0:Since (o6 R0 (fun b=>U b∨w5.heap.size≤b)) kk _ w6:=(cy hf (by rw[hA'.out];kernel_rfl));exact eN (nW (t:=0) R0.framed (fun b hb => .inr (aH fI.size hb)) hf1 (fun r9 e9=>xE h1 e9 rfl)) fun u w9 h=>⟨h.1,mG hf0 h.2⟩) (fun v59=>?_)
   refine gv 60 aj ak (bO aj) (Since (fD 66 R0 (fun b=>U b∨w5.heap.size≤b))) (by rw[hK.out];rfl) (.tmp 54) (.tmp 59) (ai none 0 0) (v59) aj aj (fun ρ h1 h2 kk w6 (fI:Just U _ w6) hb hf=>by refine eN (R:=fun u w9=>Grow w6 w9∧Since (fD 66 R0 (fun b=>U b∨w5.heap.size≤b)) kk u w9) ?_ (fun u w9 h=>⟨fc aj h.1,by rw[gI aj];exact h.2⟩);have hf1:=gQ (show Since (fD 66 R0 (fun b=>U b∨w5.heap.size≤b)) kk _ w6 from (cy hf (by rw[hA'.out];kernel_rfl)));have hf0:Since (fD 66 R0 (fun b=>U b∨w5.heap.size≤b)) kk _ w6:=(cy hf (by rw[hA'.out];kernel_rfl));exact eN (rD RI ak R0.framed (fun b hb => .inr (aH fI.size hb)) h1 h2 rfl hf1) fun u w9 h=>⟨h.1,mG hf0 h.2⟩) (fun v60=>?_)
   refine bI 61 (.tmp 50) (((W:Nat):Value)) (((W:Nat):Value)) (fun ρ h1 kk w6 (fI:Just U _ w6) hb hf=>by go_simp) ?_
   refine bI 62 (.tmp 61) (((W:Nat):Value)) (((W:Nat):Value)) (fun ρ h1 kk w6 (fI:Just U _ w6) hb hf=>by go_simp) ?_
   refine ce (fun _ _ w6 (fI:Just U _ w6) hend bR=>hT _ _ ?_)
   clear hops hA' hK hT
   simp only[cj,Act.put,aw,ay,az]
   obtain⟨rr,V6,GF,Oj⟩:fD 66 R0 (fun b=>U b∨w5.heap.size≤b) v60 w6:=gQ bR.1
   obtain⟨V7,V8,Jh,Mw⟩:=id GF
   obtain⟨A6,FZ,e6,_⟩:=Row.fw Jh
   subst e6
   clear bR hend
   obtain⟨eC,Jx⟩:=hk w6 [cD 66 (.slice A6 1 FZ) [rr],R0 rr] V6 fI GF Oj
   have eC:Solo (fun b=>w.heap.size≤b) (Many (cD 66 (.slice A6 1 FZ) [rr] :: R0 rr :: [cD 53 (.slice A4 1 uQ) [d0],Cell W 196 (gG (ai none 0 0) (ai none 0 0) (.slice A4 1 uQ) g),Ne.dy g 2 [] (fun _=>false)])) w6:=eC
   have xm:=(Ll.cons (R0.framed rr)).cons (cD.framed 66 (.slice A6 1 FZ) [rr])
   have J6:=J5.trans Jx
   have Ln:=eC.blk 3 rfl
   unfold gG at Ln
   have k0:=Ln.cell 0
   refine fM 13 14 am am ?_
   simp only[aV,bw,ax,aB]
   go_wp2_with (refine dp rfl _ _ _ rfl eC xm J6 3 rfl rfl (.slice A6 1 FZ) rfl (aQ rfl) rfl am ?_;intro w7 gB J7;refine stay ?_)
   refine bV ?_
   clear k0
   go_wp2_with fail
   refine eY ?_
   go_wp2_with fail
   go_roundw
   case rel=>exact .inr (.inl ⟨rfl,rr,d0,_,_,gB,J7⟩)
   case measure=>simp[intOf]
  ·have mw:bM [cD 66 rs [r],R0 r,cD 53 ds [d0],Cell W 196 (gG rs (ai none 0 0) ds g),Ne.dy g 2 [] (fun _=>false)]:=(((((bM.nil.cons (Ne.dy.framed _ _ _ _)).cons (Cell.framed _ _ _)).cons (cD.framed _ _ _)).cons (R0.framed _)).cons (cD.framed _ _ _))
   have Lj:=j3 wr
   go_wp2_with fail
   refine Lj.mono ?_
   rintro e w3 ⟨rfl,hD3,hg3⟩
   obtain⟨d1,HD⟩:∃ d1:Nat,Hid (d1=wr.heap.size):=⟨_,rfl⟩
   rw[←HD.out] at hD3 ⊢
   have dO:=hSr.join mw hg3 hD3 (fun b hb=>hb)
   have i9:=mw.cons (cT.framed 133 d1 [] 0)
   have J3:Just (fun b=>w.heap.size≤b) w w3:=Jr.trans (Just.bJ hg3)
   have hgb:=bN w3 (.cells #[((d1:Nat):Value)] 53)
   have hBb:=ct.made w3 53 #[((d1:Nat):Value)]
   have vJ:=hBb.fw (size:=1) (n:=1) aj
   have ev:=dO.grows i9 hgb
   have hW3:=dO.blk 4 rfl
   unfold gG at hW3
   have c2:=hW3.cell 2
   obtain⟨Ur,Ie,hUrl,hkr⟩:=ev.FU 3 rfl i9
   go_wp2_with (at_builtin;refine stay ?_)
   refine bV ?_
   refine eD PS _ rfl (.tmp 41) (.tmp 43) rfl ds 1 [((d0:Nat):Value)] rfl Ie _ _ 1 1 [((d1:Nat):Value)] rfl vJ.reads (by simp[Value.oneCell']) ak ?_
   intro v4 w4 vU ko
   obtain⟨ev,RN⟩:=hkr w4 (cD 53 v4 [d0,d1]) ko vU
   have J4:=(J3.trans (Just.bJ hgb)).trans RN
   obtain⟨A4,uQ,e4,_⟩:=Row.fw vU
   subst e4
   have ev:Solo (fun b=>w.heap.size≤b) (Many [cT 133 d1 [] 0,cD 66 rs [r],R0 r,cD 53 (.slice A4 2 uQ) [d0,d1],Cell W 196 (gG rs (ai none 0 0) ds g),Ne.dy g 2 [] (fun _=>false)]) w4:=ev
   have qc:bM [cT 133 d1 [] 0,cD 66 rs [r],R0 r,cD 53 (.slice A4 2 uQ) [d0,d1],Cell W 196 (gG rs (ai none 0 0) ds g),Ne.dy g 2 [] (fun _=>false)]:=((((((bM.nil.cons (Ne.dy.framed _ _ _ _)).cons (Cell.framed _ _ _)).cons (cD.framed _ _ _)).cons (R0.framed _)).cons (cD.framed _ _ _)).cons (cT.framed _ _ _ _))
   have GG:=ev.blk 4 rfl
   unfold gG at GG
   have k2:=GG.cell 2
   go_wp2_with (refine dp rfl _ _ _ rfl ev qc J4 4 rfl rfl (.slice A4 2 uQ) rfl (aQ rfl) rfl am ?_;intro w5 hS5 J5;refine stay ?_)
   refine bV ?_
   clear c2 k2
   have hS5:Solo (fun b=>w.heap.size≤b) (Many (cT 133 d1 [] 0 :: [cD 66 rs [r],R0 r,cD 53 (.slice A4 2 uQ) [d0,d1],Cell W 196 (gG rs (ai none 0 0) (.slice A4 2 uQ) g),Ne.dy g 2 [] (fun _=>false)])) w5:=hS5
   have Ll:bM [cD 66 rs [r],R0 r,cD 53 (.slice A4 2 uQ) [d0,d1],Cell W 196 (gG rs (ai none 0 0) (.slice A4 2 uQ) g),Ne.dy g 2 [] (fun _=>false)]:=(((((bM.nil.cons (Ne.dy.framed _ _ _ _)).cons (Cell.framed _ _ _)).cons (cD.framed _ _ _)).cons (R0.framed _)).cons (cD.framed _ _ _))
   have Lm:=hS5.blk 4 rfl
   unfold gG at Lm
   obtain⟨U,hD5,ey,Oh,hk⟩:=Solo.uP Ll hS5
   have Oi:=Oh 3 W _ _ rfl
   go_wp2_with fail
   refine c_ rfl ?_
   refine er (pL U (fun a=>cT 133 d1 [] 0 a U∧∀ b,U b→b<a.heap.size) 8 []) (rB fun a b h fI=>⟨cT.framed 133 d1 [] 0 a b U h.1 (fun x hx=>fI.block x (h.2 x hx)),fun x hx=>aA (h.2 x hx) fI.size⟩) 0 13 78 [(8,.inr (Since (o6 A0 (fun b=>U b∨w5.heap.size≤b)))),(9,.inr (Since (fD 55 A0 (fun b=>U b∨w5.heap.size≤b)))),(10,.inr (Since (fD 55 A0 (fun b=>U b∨w5.heap.size≤b))))] rfl am am am ?_ (Just.bJ (Grow.refl _).drew) ⟨cT.framed 133 d1 [] 0 w5 _ U hD5 (fun x hx=>(Grow.refl w5).drew.block x (ey x hx).2),fun x hx=>(ey x hx).2⟩ ?_
   ·intro x hx φ he
    simp only[aF,aE,or_false] at hx
    rcases hx with rfl|rfl|rfl<;>cases he
    all_goals first|exact ca (cn _)|first|exact fG (mH A0.framed)|exact fG (lv A0.framed)
   intro ops' A' K' T hops hA' hK hT
   refine bP 63 (((W:Nat):Value)) ?_
   refine bP 64 (((W:Nat):Value)) ?_
   refine bI 65 (.tmp 64) (((W:Nat):Value)) (((W:Nat):Value)) (fun ρ h1 kk w6 (fI:Just U _ w6) hb hf=>by go_simp) ?_
   refine bI 66 (.tmp 65) (((W:Nat):Value)) (.pointer (some ⟨W,1,none⟩)) (fun ρ h1 kk w6 (fI:Just U _ w6) hb hf=>by go_simp) ?_
   refine bI 67 (.tmp 66) (.pointer (some ⟨W,1,none⟩)) (ai none 0 0) (fun ρ h1 kk w6 (fI:Just U _ w6) hb hf=>by have c:=(fI.blk Lm Oi).cell 1;go_simp) ?_
   refine bP 68 (ae af 1) ?_
   refine bP 69 (ae af 1) ?_
   refine bP 70 (((d1:Nat):Value)) ?_
   refine cH 71 aj ak (bO aj) (Since (o6 A0 (fun b=>U b∨w5.heap.size≤b))) (by rw[hK.out];rfl) 23 _ _ aj [ae af 1,ae af 1,((d1:Nat):Value)] aj k23 (fun kk w6 (fI:Just U _ w6) hb hf=>fN (φ:=Since (o6 A0 (fun b=>U b∨w5.heap.size≤b))) 0 aj (by obtain rfl:=cw 0 aj hb;have hI:=hb.1;exact ((Jf w6 d1 U hI.1 hI.2).mono fun e w9 h9=>by obtain⟨r9,h1,h2,h3⟩:=h9;exact⟨_,h1,h3,trivial,r9,Ext U w6 w9,rfl,h2,fun b hb=>hb.elim (fun h=>⟨.inl h,aA (hI.2 b h) h3.size⟩) fun h=>⟨.inr (aH fI.size h.1),h.2⟩⟩))) (fun v71=>?_)
   refine fE 72 aj ak (bO aj) (Since (fD 55 A0 (fun b=>U b∨w5.heap.size≤b))) (by rw[hK.out];rfl) (.tmp 71) (v71) aj (fun ρ h1 kk w6 (fI:Just U _ w6) hb hf=>by refine eN (R:=fun u w9=>Grow w6 w9∧Since (fD 55 A0 (fun b=>U b∨w5.heap.size≤b)) kk u w9) ?_ (fun u w9 h=>⟨fc aj h.1,by rw[gI aj];exact h.2⟩);have hf1:=gQ (show Since (o6 A0 (fun b=>U b∨w5.heap.size≤b)) kk _ w6 from (cy hf (by rw[hA'.out];kernel_rfl)));have hf0:Since (o6 A0 (fun b=>U b∨w5.heap.size≤b)) kk _ w6:=(cy hf (by rw[hA'.out];kernel_rfl));exact eN (nW (t:=0) A0.framed (fun b hb => .inr (aH fI.size hb)) hf1 (fun r9 e9=>xF h1 e9 rfl)) fun u w9 h=>⟨h.1,mG hf0 h.2⟩) (fun v72=>?_)
   refine gv 73 aj ak (bO aj) (Since (fD 55 A0 (fun b=>U b∨w5.heap.size≤b))) (by rw[hK.out];rfl) (.tmp 67) (.tmp 72) (ai none 0 0) (v72) aj aj (fun ρ h1 h2 kk w6 (fI:Just U _ w6) hb hf=>by refine eN (R:=fun u w9=>Grow w6 w9∧Since (fD 55 A0 (fun b=>U b∨w5.heap.size≤b)) kk u w9) ?_ (fun u w9 h=>⟨fc aj h.1,by rw[gI aj];exact h.2⟩);have hf1:=gQ (show Since (fD 55 A0 (fun b=>U b∨w5.heap.size≤b)) kk _ w6 from (cy hf (by rw[hA'.out];kernel_rfl)));have hf0:Since (fD 55 A0 (fun b=>U b∨w5.heap.size≤b)) kk _ w6:=(cy hf (by rw[hA'.out];kernel_rfl));exact eN (rD RJ ak A0.framed (fun b hb => .inr (aH fI.size hb)) h1 h2 rfl hf1) fun u w9 h=>⟨h.1,mG hf0 h.2⟩) (fun v73=>?_)
   refine bI 74 (.tmp 63) (((W:Nat):Value)) (((W:Nat):Value)) (fun ρ h1 kk w6 (fI:Just U _ w6) hb hf=>by go_simp) ?_
   refine bI 75 (.tmp 74) (((W:Nat):Value)) (.pointer (some ⟨W,1,none⟩)) (fun ρ h1 kk w6 (fI:Just U _ w6) hb hf=>by go_simp) ?_
   refine ce (fun _ _ w6 (fI:Just U _ w6) hend bR=>hT _ _ ?_)
   clear hops hA' hK hT
   simp only[cj,Act.put,aw,ay,az]
   obtain⟨rr,V6,GF,Oj⟩:fD 55 A0 (fun b=>U b∨w5.heap.size≤b) v73 w6:=gQ bR.1
   obtain⟨V7,V8,Jh,Mw⟩:=id GF
   obtain⟨A6,FZ,e6,_⟩:=Row.fw Jh
   subst e6
   clear bR hend
   obtain⟨eC,Jx⟩:=hk w6 [cD 55 (.slice A6 1 FZ) [rr],A0 rr] V6 fI GF Oj
   have eC:Solo (fun b=>w.heap.size≤b) (Many (cD 55 (.slice A6 1 FZ) [rr] :: A0 rr :: [cD 66 rs [r],R0 r,cD 53 (.slice A4 2 uQ) [d0,d1],Cell W 196 (gG rs (ai none 0 0) (.slice A4 2 uQ) g),Ne.dy g 2 [] (fun _=>false)])) w6:=eC
   have xm:=(Ll.cons (A0.framed rr)).cons (cD.framed 55 (.slice A6 1 FZ) [rr])
   have J6:=J5.trans Jx
   have Ln:=eC.blk 5 rfl
   unfold gG at Ln
   have k0:=Ln.cell 1
   refine fM 13 14 am am ?_
   simp only[aV,bw,ax,aB]
   go_wp2_with (refine dp rfl _ _ _ rfl eC xm J6 5 rfl rfl (.slice A6 1 FZ) rfl (aQ rfl) rfl am ?_;intro w7 gB J7;refine stay ?_)
   refine bV ?_
   clear k0
   go_wp2_with fail
   refine eY ?_
   go_wp2_with fail
   go_roundw
   case rel=>exact .inr (.inr ⟨rfl,rr,r,d0,d1,_,_,_,gB,J7⟩)
   case measure=>simp[intOf]
  ·go_wp2_with fail
   go_ret
   obtain⟨_,V9,yB,Ec⟩:=hSr.perm (Li _ _ _ _ _ _ _)
   exact⟨W,rfl,⟨⟨g,r,a,d0,d1,rs,ij,ds⟩,Many.wide _ wr V9 _ (fun b hb=>Ec b hb) yB⟩,Jr.below (B:=w.heap.size) (fun b hb=>hb) (aC _)⟩
theorem jz (w:World) (g:Nat) (nodes:Int) (l:List Ne.Lb) (P:Nat→Bool) (V:Nat→Prop) (h:Ne.dy g nodes l P w V):Calls au 117 #[((g:Nat):Value)] w fun e w'=>e=.returned (ae af (l.length:Int))∧w=w':=by
 obtain⟨_,v,q,R,D,gS,_,_,_,hB,i6,_⟩:=h
 have hl:l.length=q.length:=by rw[←gS,aP]
 rw[hl]
 clear hl gS
 obtain⟨A0,c0,rfl,_⟩:=i6.fw
 have c1:w.cell? ⟨g,1,none⟩=some (.slice A0 q.length c0):=hB.cell 1
 go_enter Tryz.func117,Tryz.ntmps117
 go_wp2_with fail
 go_ret
 exact⟨rfl,rfl⟩
theorem nC {P:Nat→Prop} {S0 S1:cg} {m1:Nat} {st:List (Nat×Nat)} {j k:Nat} {w:World} (h:(iP P S0 S1 m1 st).before j k w):Solo P S0 w∨Solo P S1 w:=by
 have h1:=h.1
 cases k with
 | zero=>exact .inl h1
 | succ k=>exact .inr h1
theorem mI {ρ:Operand→Value} {o:Oper} {x:Operand} {ty:TypeId} {w:World} {g:Nat} {t:TypeId} {cs:Array Value} {fs:Array Field} (hx:ρ x=((g:Nat):Value)) (ho:o.op=.load ty x) (hB:ct w g t cs) (hu:Tryz.prog.underlying ty=some (.struct fs)) (hi:(Tryz.prog.info? ty).map (·.size)=some cs.size):(execOp ρ o).run au w=.ok (.value (.agg cs)) w:=by
 obtain⟨dst,op,ty',pos,after,guard⟩:=o
 simp only at ho
 subst ho
 have h:=run_loadAt_mid (P:=au) w g 0 ty cs.toList _ (fun j u hu=>by rw[a_,hB.cell,←Array.getElem?_toList];exact hu) hu rfl (by simpa using hi)
 simp[execOp,hx,h,Result.andThen]
theorem uR (w:World) (W:Nat) (q:o5) (RT:cg) (iR:Framed RT) (V:Nat→Prop) (hM:Many (cS W q [] RT (A0 q.a)) w V) (hV:∀ b,V b→b<w.heap.size) :
 Calls au 203 #[((W:Nat):Value),.agg #[ae af 9,ae af 1,ae af 0,ae af 7,.string ei]] w fun e w'=>e=.returned (.agg #[ae af 0,ae af 0,ae af 0,ae af 0,ae af 0,ae af 0,ae ah 0,ae af 0])∧Many (cS W q [] RT (A1 q.a)) w' (Ext V w w')∧Just V w w':=by
 have kP:=A0.framed q.a
 have hS0:=Solo.begin_ hM hV
 have dX:=ci W q [] (RT) (A0 q.a) iR kP
 have g1:=bN w (.cells #[ae af 9,ae af 1,ae af 0,ae af 7,.string ei] 98)
 have b1:=ct.made w 98 #[ae af 9,ae af 1,ae af 0,ae af 7,.string ei]
 have j_:=bN (w.alloc (.cells #[ae af 9,ae af 1,ae af 0,ae af 7,.string ei] 98)) (.cells #[ae af 0,ae af 0,ae af 0,ae af 0,ae af 0,ae af 0,ae ah 0,ae af 0] 100)
 have rY:=b1.grow j_
 have rW:=(hS0.blk 0 rfl).grow (g1.trans j_)
 unfold gG at rW
 have c1:=rY.cell 1
 obtain⟨y,HY⟩:∃ y:Nat,Hid (y=w.heap.size):=⟨_,rfl⟩
 obtain⟨wa,dq⟩:∃ wa:World,Hid (wa=w.alloc (.cells #[ae af 9,ae af 1,ae af 0,ae af 7,.string ei] 98)):=⟨_,rfl⟩
 have hz0:wa.heap.size=y+1:=by rw[dq.out,HY.out];simp
 rw[←dq.out] at g1 b1
 rw[←HY.out] at b1
 have g2:=bN wa (.cells #[ae af 0,ae af 0,ae af 0,ae af 0,ae af 0,ae af 0,ae ah 0,ae af 0] 100)
 have b2:=ct.made wa 100 #[ae af 0,ae af 0,ae af 0,ae af 0,ae af 0,ae af 0,ae ah 0,ae af 0]
 obtain⟨z,HZ⟩:∃ z:Nat,Hid (z=y+1):=⟨_,rfl⟩
 obtain⟨wb,ia⟩:∃ wb:World,Hid (wb=wa.alloc (.cells #[ae af 0,ae af 0,ae af 0,ae af 0,ae af 0,ae af 0,ae ah 0,ae af 0] 100)):=⟨_,rfl⟩
 rw[←ia.out] at g2 b2
 rw[hz0,←HZ.out] at b2
 have ez:=hS0.join dX g1 (R:=Cell y 98 #[ae af 9,ae af 1,ae af 0,ae af 7,.string ei]) (U:=fun b=>b=y) ⟨rfl,b1⟩ (fun b hb=>by have h8:b=y:=hb;have:=HY.out;have:=b1.lt;omega)
 have eP:=dX.cons (Cell.framed y 98 #[ae af 9,ae af 1,ae af 0,ae af 7,.string ei])
 have hSb:=ez.join eP g2 (R:=Cell z 100 #[ae af 0,ae af 0,ae af 0,ae af 0,ae af 0,ae af 0,ae ah 0,ae af 0]) (U:=fun b=>b=z) ⟨rfl,b2⟩ (fun b hb=>by have h8:b=z:=hb;have:=HZ.out;have:=b2.lt;omega)
 have hSb:Solo (cB V w) (Many (cS W q [] (RT) (A0 q.a)++[Cell z 100 #[ae af 0,ae af 0,ae af 0,ae af 0,ae af 0,ae af 0,ae ah 0,ae af 0],Cell y 98 #[ae af 9,ae af 1,ae af 0,ae af 7,.string ei]])) wb:=hSb.perm (aG (l₁:=[Cell z 100 #[ae af 0,ae af 0,ae af 0,ae af 0,ae af 0,ae af 0,ae ah 0,ae af 0],Cell y 98 #[ae af 9,ae af 1,ae af 0,ae af 7,.string ei]]))
 have iU:=bW dX ((bM.nil.cons (Cell.framed y 98 #[ae af 9,ae af 1,ae af 0,ae af 7,.string ei])).cons (Cell.framed z 100 #[ae af 0,ae af 0,ae af 0,ae af 0,ae af 0,ae af 0,ae ah 0,ae af 0]))
 have Jb:Just (cB V w) w wb:=(Just.bJ g1).trans (Just.bJ g2)
 have hyz:¬ (fun b=>b=z) y:=fun e=>by have e2:y=z:=e;have:=HZ.out;omega
 clear b1 b2 g1 g2 hz0 ez j_
 obtain⟨U1,nN,_⟩:=hSb.see 1 rfl
 obtain⟨U2,oi,_⟩:=hSb.see 2 rfl
 have hat:=sJ wb W q.g q.rs q.ij q.ds q.r q.a q.d0 q.d1 U1 U2 (hSb.blk 0 rfl) nN oi
 go_enter Tryz.func203,Tryz.ntmps203
 go_wp2_with fail
 rw[←dq.out,←HY.out,←ia.out,←HZ.out]
 refine hat.mono ?_
 rintro e w1 ⟨rfl,rfl⟩
 clear c1
 have hyb:=hSb.blk 8 rfl
 have c0:=hyb.cell 0
 have c3:=hyb.cell 3
 have c4:=hyb.cell 4
 have hIn:=hSb.at_ 6 rfl iU (A_ wb q.a)
 go_wp2_with fail
 clear c0 c3 c4
 refine hIn.mono ?_
 rintro e w2 ⟨rfl,hj2,hS2⟩
 have hS2:Solo (cB V w) (Many (cS W q [] RT (A1 q.a)++[Cell z 100 #[ae af 0,ae af 0,ae af 0,ae af 0,ae af 0,ae af 0,ae ah 0,ae af 0],Cell y 98 #[ae af 9,ae af 1,ae af 0,ae af 7,.string ei]])) w2:=hS2
 have hF2:=bW (ci W q [] RT (A1 q.a) iR (A1.framed q.a)) ((bM.nil.cons (Cell.framed y 98 #[ae af 9,ae af 1,ae af 0,ae af 7,.string ei])).cons (Cell.framed z 100 #[ae af 0,ae af 0,ae af 0,ae af 0,ae af 0,ae af 0,ae ah 0,ae af 0]))
 have J2:=Jb.trans hj2
 have uS:=hS2.blk 7 rfl
 go_wp2_with (refine ch rfl 100 _ _ rfl _ rfl [ae af 0,ae af 0,ae af 0,ae af 0,ae af 0,ae af 0,ae ah 0,ae af 0] rfl uS rfl rfl am ?_;intro w9 mE fK DC;refine stay ?_)
 refine bV ?_
 have iq:=hS2.turned 7 rfl hF2 fK mE
 have J9:=J2.trans (fK.imp fun b hb=>hb▸(hS2.ig 7 rfl).1)
 go_wp2_with fail
 refine bodyPost_ret (dr rfl _ z rfl mE Tryz.underlying100 am) rfl ?_
 have gZ:Solo (cB V w) (Many (cS W q [] (RT) (A1 q.a))) w9:=(Solo.perm (aG (l₁:=cS W q [] (RT) (A1 q.a)) (l₂:=[Cell z 100 #[ae af 0,ae af 0,ae af 0,ae af 0,ae af 0,ae af 0,ae ah 0,ae af 0],Cell y 98 #[ae af 9,ae af 1,ae af 0,ae af 7,.string ei]])) iq).drop1.drop1
 obtain⟨r1,r2⟩:=Solo.done gZ J9 hV
 exact⟨rfl,r1,r2⟩
theorem xG (w:World) (W:Nat) (q:o5) (RT:cg) (iR:Framed RT) (V:Nat→Prop) (hM:Many (cS W q [] RT (A1 q.a)) w V) (hV:∀ b,V b→b<w.heap.size) :
 Calls au 203 #[((W:Nat):Value),.agg #[ae af 10,ae af 1,ae af 0,ae af 0,.string ⟨#[]⟩]] w fun e w'=>e=.returned (.agg #[ae af 0,ae af 0,ae af 1,ae af 0,ae af 0,ae af 0,ae ah 0,ae af 0])∧Many (cS W q [] RT (A2 q.a)) w' (Ext V w w')∧Just V w w':=by
 have kP:=A1.framed q.a
 have hS0:=Solo.begin_ hM hV
 have dX:=ci W q [] (RT) (A1 q.a) iR kP
 have g1:=bN w (.cells #[ae af 10,ae af 1,ae af 0,ae af 0,.string ⟨#[]⟩] 98)
 have b1:=ct.made w 98 #[ae af 10,ae af 1,ae af 0,ae af 0,.string ⟨#[]⟩]
 have j_:=bN (w.alloc (.cells #[ae af 10,ae af 1,ae af 0,ae af 0,.string ⟨#[]⟩] 98)) (.cells #[ae af 0,ae af 0,ae af 0,ae af 0,ae af 0,ae af 0,ae ah 0,ae af 0] 100)
 have rY:=b1.grow j_
 have rW:=(hS0.blk 0 rfl).grow (g1.trans j_)
 unfold gG at rW
 have c1:=rY.cell 1
 obtain⟨y,HY⟩:∃ y:Nat,Hid (y=w.heap.size):=⟨_,rfl⟩
 obtain⟨wa,dq⟩:∃ wa:World,Hid (wa=w.alloc (.cells #[ae af 10,ae af 1,ae af 0,ae af 0,.string ⟨#[]⟩] 98)):=⟨_,rfl⟩
 have hz0:wa.heap.size=y+1:=by rw[dq.out,HY.out];simp
 rw[←dq.out] at g1 b1
 rw[←HY.out] at b1
 have g2:=bN wa (.cells #[ae af 0,ae af 0,ae af 0,ae af 0,ae af 0,ae af 0,ae ah 0,ae af 0] 100)
 have b2:=ct.made wa 100 #[ae af 0,ae af 0,ae af 0,ae af 0,ae af 0,ae af 0,ae ah 0,ae af 0]
 obtain⟨z,HZ⟩:∃ z:Nat,Hid (z=y+1):=⟨_,rfl⟩
 obtain⟨wb,ia⟩:∃ wb:World,Hid (wb=wa.alloc (.cells #[ae af 0,ae af 0,ae af 0,ae af 0,ae af 0,ae af 0,ae ah 0,ae af 0] 100)):=⟨_,rfl⟩
 rw[←ia.out] at g2 b2
 rw[hz0,←HZ.out] at b2
 have ez:=hS0.join dX g1 (R:=Cell y 98 #[ae af 10,ae af 1,ae af 0,ae af 0,.string ⟨#[]⟩]) (U:=fun b=>b=y) ⟨rfl,b1⟩ (fun b hb=>by have h8:b=y:=hb;have:=HY.out;have:=b1.lt;omega)
 have eP:=dX.cons (Cell.framed y 98 #[ae af 10,ae af 1,ae af 0,ae af 0,.string ⟨#[]⟩])
 have hSb:=ez.join eP g2 (R:=Cell z 100 #[ae af 0,ae af 0,ae af 0,ae af 0,ae af 0,ae af 0,ae ah 0,ae af 0]) (U:=fun b=>b=z) ⟨rfl,b2⟩ (fun b hb=>by have h8:b=z:=hb;have:=HZ.out;have:=b2.lt;omega)
 have hSb:Solo (cB V w) (Many (cS W q [] (RT) (A1 q.a)++[Cell z 100 #[ae af 0,ae af 0,ae af 0,ae af 0,ae af 0,ae af 0,ae ah 0,ae af 0],Cell y 98 #[ae af 10,ae af 1,ae af 0,ae af 0,.string ⟨#[]⟩]])) wb:=hSb.perm (aG (l₁:=[Cell z 100 #[ae af 0,ae af 0,ae af 0,ae af 0,ae af 0,ae af 0,ae ah 0,ae af 0],Cell y 98 #[ae af 10,ae af 1,ae af 0,ae af 0,.string ⟨#[]⟩]]))
 have iU:=bW dX ((bM.nil.cons (Cell.framed y 98 #[ae af 10,ae af 1,ae af 0,ae af 0,.string ⟨#[]⟩])).cons (Cell.framed z 100 #[ae af 0,ae af 0,ae af 0,ae af 0,ae af 0,ae af 0,ae ah 0,ae af 0]))
 have Jb:Just (cB V w) w wb:=(Just.bJ g1).trans (Just.bJ g2)
 have hyz:¬ (fun b=>b=z) y:=fun e=>by have e2:y=z:=e;have:=HZ.out;omega
 clear b1 b2 g1 g2 hz0 ez j_
 obtain⟨U1,nN,_⟩:=hSb.see 1 rfl
 obtain⟨U2,oi,_⟩:=hSb.see 2 rfl
 have hat:=sJ wb W q.g q.rs q.ij q.ds q.r q.a q.d0 q.d1 U1 U2 (hSb.blk 0 rfl) nN oi
 go_enter Tryz.func203,Tryz.ntmps203
 go_wp2_with fail
 rw[←dq.out,←HY.out,←ia.out,←HZ.out]
 refine hat.mono ?_
 rintro e w1 ⟨rfl,rfl⟩
 clear c1
 have hyb:=hSb.blk 8 rfl
 have c0:=hyb.cell 0
 have hIn:=hSb.at_ 6 rfl iU (Jg wb q.a)
 go_wp2_with fail
 clear c0
 refine hIn.mono ?_
 rintro e w2 ⟨⟨A,c,rfl⟩,hj2,hS2⟩
 have hS2:Solo (cB V w) (Many (cS W q [] RT (A2 q.a)++[Cell z 100 #[ae af 0,ae af 0,ae af 0,ae af 0,ae af 0,ae af 0,ae ah 0,ae af 0],Cell y 98 #[ae af 10,ae af 1,ae af 0,ae af 0,.string ⟨#[]⟩]])) w2:=hS2
 have hF2:=bW (ci W q [] RT (A2 q.a) iR (A2.framed q.a)) ((bM.nil.cons (Cell.framed y 98 #[ae af 10,ae af 1,ae af 0,ae af 0,.string ⟨#[]⟩])).cons (Cell.framed z 100 #[ae af 0,ae af 0,ae af 0,ae af 0,ae af 0,ae af 0,ae ah 0,ae af 0]))
 have J2:=Jb.trans hj2
 have uS:=hS2.blk 7 rfl
 go_wp2_with (refine ch rfl 100 _ _ rfl _ rfl [ae af 0,ae af 0,ae af 1,ae af 0,ae af 0,ae af 0,ae ah 0,ae af 0] rfl uS rfl rfl am ?_;intro w9 mE fK DC;refine stay ?_)
 refine bV ?_
 have iq:=hS2.turned 7 rfl hF2 fK mE
 have J9:=J2.trans (fK.imp fun b hb=>hb▸(hS2.ig 7 rfl).1)
 go_wp2_with fail
 refine bodyPost_ret (dr rfl _ z rfl mE Tryz.underlying100 am) rfl ?_
 have gZ:Solo (cB V w) (Many (cS W q [] (RT) (A2 q.a))) w9:=(Solo.perm (aG (l₁:=cS W q [] (RT) (A2 q.a)) (l₂:=[Cell z 100 #[ae af 0,ae af 0,ae af 1,ae af 0,ae af 0,ae af 0,ae ah 0,ae af 0],Cell y 98 #[ae af 10,ae af 1,ae af 0,ae af 0,.string ⟨#[]⟩]])) iq).drop1.drop1
 obtain⟨r1,r2⟩:=Solo.done gZ J9 hV
 exact⟨rfl,r1,r2⟩
end Go.Proofs.YtmijcbfgfkeodaaGreatDoor
end
