/- Ag9. -/
import Derived.Test.YtmijcbfgfkeodaaGreatDoorIz30
set_option linter.all false
set_option maxRecDepth 100000
set_option maxHeartbeats 2000000
open Go.Value renaming int → ae,slice → ai
open Go.IntKind renaming i64 → af,u64 → ah
open Go.Proofs.Tryz renaming prog → au
open List renaming setIfInBounds_toArray → aw,drop_succ_cons → ax,set_cons_zero → ay,set_cons_succ → az,drop_zero → aB,not_mem_nil → aE,mem_cons → aF,perm_append_comm → aG
section
namespace Go.Proofs.YtmijcbfgfkeodaaGreatDoor
open Go.RowKit Go.Hop V
theorem Aw {w:World} {o:Oper} {ρ:Operand→Value} {x1 x2 x3 x5 x6:Operand} {k0 k1 k2 ep fr tg:Int} (ho:o.op=.build 32 #[(0,.const (ae af 1)),(1,x1),(2,x2),(3,x3),(5,x5),(6,x6)]) (hc:∀ v,ρ (.const v)=v) (h1:ρ x1=.agg #[ae af k0,ae af k1,ae af k2]) (h2:ρ x2=ae af ep) {A:Option Addr} {n c:Nat} (h3:ρ x3=.slice A n c) (h5:ρ x5=ae af fr) (h6:ρ x6=ae af tg) :
 (execOp ρ o).run au w=.ok (.value (.agg #[ae af 1,ae af k0,ae af k1,ae af k2,ae af ep,.slice A n c,.string ⟨#[]⟩,ae af fr,ae af tg])) w:=by
 obtain⟨dst,op,ty,pos,after,guard⟩:=o
 simp only at ho
 subst ho
 have h0:=hc (ae af 1)
 go_simp
theorem FB (w:World) (p:uq) (node:Nat) (now tag:Int) (asks:List (Int×Value)) (tr:List ((Int×Int×Int)×Value)) (n:Int) (bs:List UInt8) (k:Nat) (ep:Int) (sl:Value) (fJ:List Dl) (l0:List Q.Ab) (k0:Int) (cu:Value) (s:ByteArray) (x c:Nat) (A:Option Addr) (D:Nat→Prop) (htag:0≤tag∧tag≤4611686018427387904) (tg:Int) (Bb:tg=tag+1) (hc1:1≤c) (hc:c≤maxLen) (V:Nat→Prop) (hM:Many (iW p (cP p.st p.z ep sl fJ l0 k0 cu) node 1 now tag 0 asks tr n bs k) w V) (hV:∀ b,V b→b<w.heap.size) (hd:fV w D A 1 [(s,x)]) (hDl:∀ b,D b→b<w.heap.size) (j5:∀ b,D b→¬ V b) :
 Calls au 305 #[.pointer (some ⟨p.a,0,none⟩),.agg #[ae af (node:Int),ae af 0,ae af 1],.agg #[ae af 0,ae af 0],.agg #[ae af 1,.slice A 1 c]] w fun e w'=>(∃ A2 c2,e=.returned (.agg (ki 0 ⟨1,node,0,1,ep,[(s,x)],⟨#[]⟩,node,tg⟩ A2 c2))∧fY w' (fun b=>w.heap.size≤b∧b<w'.heap.size∧¬ V b) ⟨⟨1,node,0,1,ep,[(s,x)],⟨#[]⟩,node,tg⟩,A2,c2⟩)∧(∃ y,Many (iW p (cP p.st p.z ep sl fJ l0 k0 cu) node 1 now tg 0 (dQ asks tg (.agg #[ae af (node:Int),ae af 0,ae af 1])) (dQ tr (node,0,1) (.agg #[ae af 1,ae af y])) n bs k) w' (Ext V w w'))∧Just V w w':=by
 have NL:∀ (vs:Array Value) (w:World),(callFunc 346 vs).run au w=.ok (.enter 346 vs) w:=fun vs w=>by go_simp
 have IG:∀ (vs:Array Value) (w:World),(callFunc 175 vs).run au w=.ok (.enter 175 vs) w:=fun vs w=>by go_simp
 have R9:=Lib.hid Bb
 have htg2:0≤tg∧tg≤9223372036854775807:=by omega
 clear Bb
 have hS0:=Solo.begin_ hM hV
 have dX:=cE p (cP p.st p.z ep sl fJ l0 k0 cu) (cP.framed _ _ _ _ _ _ _ _) node 1 now tag 0 asks tr n bs k
 have g1:=bN w (.cells #[ae af (node:Int),ae af 0,ae af 1] 26)
 have b1:=ct.made w 26 #[ae af (node:Int),ae af 0,ae af 1]
 obtain⟨y1,M1⟩:∃ y:Nat,Hid (y=w.heap.size):=⟨_,rfl⟩
 have z1:(w.alloc (.cells #[ae af (node:Int),ae af 0,ae af 1] 26)).heap.size=w.heap.size+1:=by simp
 obtain⟨wA,HA⟩:∃ w':World,Hid (w'=w.alloc (.cells #[ae af (node:Int),ae af 0,ae af 1] 26)):=⟨_,rfl⟩
 rw[←HA.out] at g1 b1 z1
 rw[←M1.out] at b1 z1
 have g2:=bN wA (.cells #[ae af 0,ae af 0] 378)
 have b2:=ct.made wA 378 #[ae af 0,ae af 0]
 have z2:(wA.alloc (.cells #[ae af 0,ae af 0] 378)).heap.size=wA.heap.size+1:=by simp
 obtain⟨y2,M3⟩:∃ y:Nat,Hid (y=wA.heap.size):=⟨_,rfl⟩
 obtain⟨wB,HB⟩:∃ w':World,Hid (w'=wA.alloc (.cells #[ae af 0,ae af 0] 378)):=⟨_,rfl⟩
 rw[←HB.out] at g2 b2 z2
 rw[←M3.out] at b2 z2
 have g3:=bN wB (.cells #[ae af 1,.slice A 1 c] 159)
 have b3:=ct.made wB 159 #[ae af 1,.slice A 1 c]
 obtain⟨y3,M4⟩:∃ y:Nat,Hid (y=wB.heap.size):=⟨_,rfl⟩
 obtain⟨wC,HC⟩:∃ w':World,Hid (w'=wB.alloc (.cells #[ae af 1,.slice A 1 c] 159)):=⟨_,rfl⟩
 rw[←HC.out] at g3 b3
 rw[←M4.out] at b3
 have e2:y2=y1+1:=by rw[M3.out,z1]
 have e3:y3=y1+1+1:=by rw[M4.out,z2,e2]
 have hS1:=hS0.join dX g1 (R:=Cell y1 26 #[ae af (node:Int),ae af 0,ae af 1]) (U:=fun b=>b=y1) ⟨rfl,b1⟩ (fun b hb=>by have:=M1.out;have:=b1.lt;omega)
 have hS2:=hS1.join (dX.cons (Cell.framed _ _ _)) g2 (R:=Cell y2 378 #[ae af 0,ae af 0]) (U:=fun b=>b=y2) ⟨rfl,b2⟩ (fun b hb=>by have:=M3.out;have:=b2.lt;omega)
 have dO:=hS2.join ((dX.cons (Cell.framed _ _ _)).cons (Cell.framed _ _ _)) g3 (R:=Cell y3 159 #[ae af 1,.slice A 1 c]) (U:=fun b=>b=y3) ⟨rfl,b3⟩ (fun b hb=>by have:=M4.out;have:=b3.lt;omega)
 go_enter Tryz.func305,Tryz.ntmps305
 go_wp2_with (refine cK rfl (uw _ _ _ rfl) ?_;intro y4 wD b4 g4 hy4 EA;refine stay ?_)
 refine bV ?_
 rw[←HA.out,←HB.out,←HC.out] at g4 hy4
 rw[←M1.out,←e3,←e2]
 have ev:=dO.join (((dX.cons (Cell.framed _ _ _)).cons (Cell.framed _ _ _)).cons (Cell.framed _ _ _)) g4 (R:=Cell y4 270 #[ae af 0,ae af 0,ae af 0,ae af 0,ae af 0,ae af 0,ae af 0,ai none 0 0,.string ⟨#[]⟩,ae af 0,ae af 0,ae af 0,ae af 0,ae ah 0,ae af 0,ae af 0,ai none 0 0,ae af 0,ae af 0]) (U:=fun b=>b=y4) ⟨rfl,b4⟩ (fun b hb=>by omega)
 have gD:Grow w wD:=((g1.trans g2).trans g3).trans g4
 have J4:=Just.bJ (V:=cB V w) gD
 clear e2 e3 hS1 hS2 dO g1 g2 g3 g4 b1 b2 b3 b4 z1 z2 hy4 EA HA HB HC M1 M3 M4
 have hS5:Solo (cB V w) (Many (Many (iW p (cP p.st p.z ep sl fJ l0 k0 cu) node 1 now tag 0 asks tr n bs k) :: [Cell y4 270 #[ae af 0,ae af 0,ae af 0,ae af 0,ae af 0,ae af 0,ae af 0,ai none 0 0,.string ⟨#[]⟩,ae af 0,ae af 0,ae af 0,ae af 0,ae ah 0,ae af 0,ae af 0,ai none 0 0,ae af 0,ae af 0],Cell y3 159 #[ae af 1,.slice A 1 c],Cell y2 378 #[ae af 0,ae af 0],Cell y1 26 #[ae af (node:Int),ae af 0,ae af 1]])) wD:=Solo.eG (ev.perm (aG (l₁:=[Cell y4 270 #[ae af 0,ae af 0,ae af 0,ae af 0,ae af 0,ae af 0,ae af 0,ai none 0 0,.string ⟨#[]⟩,ae af 0,ae af 0,ae af 0,ae af 0,ae ah 0,ae af 0,ae af 0,ai none 0 0,ae af 0,ae af 0],Cell y3 159 #[ae af 1,.slice A 1 c],Cell y2 378 #[ae af 0,ae af 0],Cell y1 26 #[ae af (node:Int),ae af 0,ae af 1]])))
 have JU:=(((bM.nil.cons (Cell.framed y1 26 #[ae af (node:Int),ae af 0,ae af 1])).cons (Cell.framed y2 378 #[ae af 0,ae af 0])).cons (Cell.framed y3 159 #[ae af 1,.slice A 1 c])).cons (Cell.framed y4 270 #[ae af 0,ae af 0,ae af 0,ae af 0,ae af 0,ae af 0,ae af 0,ai none 0 0,.string ⟨#[]⟩,ae af 0,ae af 0,ae af 0,ae af 0,ae ah 0,ae af 0,ae af 0,ai none 0 0,ae af 0,ae af 0])
 have Ey:=(hS5.blk 4 rfl)
 have c0:=Ey.cell 0
 have c1:=Ey.cell 1
 have c2:=Ey.cell 2
 have hN:=hS5.at_ 0 rfl (JU.cons (Many.framed _ dX)) fun U hU ey=>As wD p node 1 now tag 0 asks tr n bs k (cP p.st p.z ep sl fJ l0 k0 cu) (cP.framed _ _ _ _ _ _ _ _) node 0 1 htag U hU ey
 go_wp2_with fail
 clear c0 c1 c2 Ey
 refine hN.mono ?_
 rintro en w1 ⟨rfl,hj1,eC⟩
 rw[←R9.out] at eC ⊢
 have eC:Solo (cB V w) (Many ((eR p.st p.z ep sl fJ l0 k0 cu++[Cell p.a 143 (ib p node 1 now tg 0),cJ k_ p.bK (dQ asks tg (.agg #[ae af (node:Int),ae af 0,ae af 1])),cJ mL p.bT tr,cU p.x p.d n bs k])++[Cell y4 270 #[ae af 0,ae af 0,ae af 0,ae af 0,ae af 0,ae af 0,ae af 0,ai none 0 0,.string ⟨#[]⟩,ae af 0,ae af 0,ae af 0,ae af 0,ae ah 0,ae af 0,ae af 0,ai none 0 0,ae af 0,ae af 0],Cell y3 159 #[ae af 1,.slice A 1 c],Cell y2 378 #[ae af 0,ae af 0],Cell y1 26 #[ae af (node:Int),ae af 0,ae af 1]])) w1:=Solo.flat (l:=eR p.st p.z ep sl fJ l0 k0 cu) (Solo.flat eC)
 have xm:=bW (bW (cV p.st p.z ep sl fJ l0 k0 cu) (cE p cW cW.framed node 1 now tg 0 (dQ asks tg (.agg #[ae af (node:Int),ae af 0,ae af 1])) tr n bs k).tail) JU
 have J6:=J4.trans hj1
 have IH:=eC.blk 6 rfl
 have II:=eC.blk 0 rfl
 have IJ:=eC.blk 13 rfl
 have hb6:=eC.blk 11 rfl
 unfold ib at IH
 unfold ov at II
 go_wp2_with fail
 refine bL 17 65 [(16,.inr (fun _=>fR w1.heap.size 32 #[ae af 0,ae af 0,ae af 0,ae af 0,ae af 0,ai none 0 0,.string ⟨#[]⟩,ae af 0,ae af 0]))] rfl rfl am am am ?_ ?_
 ·intro x hx φ he
  simp only[aF,aE,or_false] at hx
  rcases hx with rfl<;>cases he
  all_goals first|exact ca (cn _)|exact ca (fS _ _ _)
 intro ops' A' K' T hops hA' hK hT
 refine bI 14 (.tmp 5) (((y1:Nat):Value)) (.agg #[ae af (node:Int),ae af 0,ae af 1]) (fun ρ h1 kk w2 (hg2:Grow _ w2) hb hf=>by have c0:=(IJ.grow hg2).cell 0;have c1:=(IJ.grow hg2).cell 1;have c2:=(IJ.grow hg2).cell 2;go_simp) ?_
 refine bP 15 (.pointer (some ⟨p.a,0,none⟩)) ?_
 refine bI 16 (.tmp 15) (.pointer (some ⟨p.a,0,none⟩)) (.pointer (some ⟨p.a,0,none⟩)) (fun ρ h1 kk w2 (hg2:Grow _ w2) hb hf=>by go_simp) ?_
 refine bI 17 (.tmp 16) (.pointer (some ⟨p.a,0,none⟩)) (.pointer (some ⟨p.a,3,none⟩)) (fun ρ h1 kk w2 (hg2:Grow _ w2) hb hf=>by go_simp) ?_
 refine bI 18 (.tmp 17) (.pointer (some ⟨p.a,3,none⟩)) (.pointer (some ⟨p.st,0,none⟩)) (fun ρ h1 kk w2 (hg2:Grow _ w2) hb hf=>by have c:=(IH.grow hg2).cell 3;go_simp) ?_
 refine bI 19 (.tmp 18) (.pointer (some ⟨p.st,0,none⟩)) (.pointer (some ⟨p.st,0,none⟩)) (fun ρ h1 kk w2 (hg2:Grow _ w2) hb hf=>by go_simp) ?_
 refine bI 20 (.tmp 19) (.pointer (some ⟨p.st,0,none⟩)) (.pointer (some ⟨p.st,0,none⟩)) (fun ρ h1 kk w2 (hg2:Grow _ w2) hb hf=>by go_simp) ?_
 refine bI 21 (.tmp 20) (.pointer (some ⟨p.st,0,none⟩)) (ae af ep) (fun ρ h1 kk w2 (hg2:Grow _ w2) hb hf=>by have c:=(II.grow hg2).cell 0;go_simp) ?_
 refine bI 22 (.tmp 7) (((y3:Nat):Value)) (.pointer (some ⟨y3,1,none⟩)) (fun ρ h1 kk w2 (hg2:Grow _ w2) hb hf=>by go_simp) ?_
 refine bI 23 (.tmp 22) (.pointer (some ⟨y3,1,none⟩)) (.slice A 1 c) (fun ρ h1 kk w2 (hg2:Grow _ w2) hb hf=>by have c:=(hb6.grow hg2).cell 1;go_simp) ?_
 refine bP 24 (.pointer (some ⟨p.a,0,none⟩)) ?_
 refine bI 25 (.tmp 24) (.pointer (some ⟨p.a,0,none⟩)) (.pointer (some ⟨p.a,0,none⟩)) (fun ρ h1 kk w2 (hg2:Grow _ w2) hb hf=>by go_simp) ?_
 refine bI 26 (.tmp 25) (.pointer (some ⟨p.a,0,none⟩)) (.pointer (some ⟨p.a,0,none⟩)) (fun ρ h1 kk w2 (hg2:Grow _ w2) hb hf=>by go_simp) ?_
 refine bI 27 (.tmp 26) (.pointer (some ⟨p.a,0,none⟩)) (ae af (node:Int)) (fun ρ h1 kk w2 (hg2:Grow _ w2) hb hf=>by have c:=(IH.grow hg2).cell 0;go_simp) ?_
 refine bP 28 (ae af tg) ?_
 refine lz 29 aj ak (bO aj) (by rw[hK.out];rfl) aj (.agg #[ae af 1,ae af (node:Int),ae af 0,ae af 1,ae af ep,.slice A 1 c,.string ⟨#[]⟩,ae af (node:Int),ae af tg]) (fun kk w2 (hg2:Grow _ w2) hb hf=>by exact Aw rfl (fun v=>rfl) rfl rfl rfl rfl rfl) ?_
 refine gH 10 aj ak (bO aj) (fun _=>fR w1.heap.size 32 #[ae af 0,ae af 0,ae af 0,ae af 0,ae af 0,ai none 0 0,.string ⟨#[]⟩,ae af 0,ae af 0]) (by rw[hK.out];rfl) (fun kk w2 (hg2:Grow _ w2) hb hf=>by refine cA (φ:=fun _=>fR w1.heap.size 32 #[ae af 0,ae af 0,ae af 0,ae af 0,ae af 0,ai none 0 0,.string ⟨#[]⟩,ae af 0,ae af 0]) aj ?_;exact cF (DG w2 _ _ rfl) ⟨bN w2 _,_,rfl,ct.made w2 _ _,hg2.size⟩) (fun v10=>?_)
 refine ce (fun _ _ w2 (hg2:Grow _ w2) _ bR=>hT _ _ ?_)
 clear hops hA' hK hT
 simp only[cj,Act.put,aw,ay,az,ax,aB]
 obtain⟨y5,rfl,hY0,hy0⟩:fR w1.heap.size 32 #[ae af 0,ae af 0,ae af 0,ae af 0,ae af 0,ai none 0 0,.string ⟨#[]⟩,ae af 0,ae af 0] v10 w2:=bR.1
 clear bR
 go_wp2_with (refine ch rfl 32 _ _ rfl _ rfl [ae af 1,ae af (node:Int),ae af 0,ae af 1,ae af ep,.slice A 1 c,.string ⟨#[]⟩,ae af (node:Int),ae af tg] rfl hY0 rfl rfl am ?_;intro w3 kg hjb hsb;refine stay ?_)
 refine bV ?_
 have hg3:Grow w1 w3:=Below.trans hg2 (hjb.below (B:=w1.heap.size) (fun b hb=>by rw[hb];exact hy0) hg2.size)
 have gB:=eC.join xm hg3 (R:=Cell y5 32 #[ae af 1,ae af (node:Int),ae af 0,ae af 1,ae af ep,.slice A 1 c,.string ⟨#[]⟩,ae af (node:Int),ae af tg]) (U:=fun b=>b=y5) ⟨rfl,kg⟩ (fun b hb=>by rw[hb];exact⟨hy0,kg.lt⟩)
 have wW:=xm.cons (Cell.framed y5 32 #[ae af 1,ae af (node:Int),ae af 0,ae af 1,ae af ep,.slice A 1 c,.string ⟨#[]⟩,ae af (node:Int),ae af tg])
 have J7:=J6.trans (Just.bJ hg3)
 clear IH II IJ hb6 hY0
 have IA:=gB.blk 7 rfl
 have JV:=gB.blk 14 rfl
 have NM:=gB.blk 13 rfl
 unfold ib at IA
 have hwu:IntKind.u64.wrap tg=tg:=by rw[wrap_u64];omega
 go_wp2_with fail
 refine bL 19 65 [(16,.inr (fun _=>kN)),(17,.inr (fun _=>kN)),(18,.inr (fun _=>ru))] rfl rfl am am am ?_ ?_
 ·intro x hx φ he
  simp only[aF,aE,or_false] at hx
  rcases hx with rfl|rfl|rfl<;>cases he
  all_goals first|exact ca (cn _)|first|exact ca qj|exact ca ql
 intro ops' A' K' T hops hA' hK hT
 refine bP 30 (.pointer (some ⟨p.a,0,none⟩)) ?_
 refine bI 31 (.tmp 30) (.pointer (some ⟨p.a,0,none⟩)) (.pointer (some ⟨p.a,0,none⟩)) (fun ρ h1 kk w4 (hg4:Grow _ w4) hb hf=>by go_simp) ?_
 refine bI 32 (.tmp 31) (.pointer (some ⟨p.a,0,none⟩)) (.pointer (some ⟨p.a,7,none⟩)) (fun ρ h1 kk w4 (hg4:Grow _ w4) hb hf=>by go_simp) ?_
 refine bI 33 (.tmp 32) (.pointer (some ⟨p.a,7,none⟩)) (.map (some p.bT)) (fun ρ h1 kk w4 (hg4:Grow _ w4) hb hf=>by have c:=(IA.grow hg4).cell 7;go_simp) ?_
 refine bI 34 (.tmp 5) (((y1:Nat):Value)) (.agg #[ae af (node:Int),ae af 0,ae af 1]) (fun ρ h1 kk w4 (hg4:Grow _ w4) hb hf=>by have c0:=(JV.grow hg4).cell 0;have c1:=(JV.grow hg4).cell 1;have c2:=(JV.grow hg4).cell 2;go_simp) ?_
 refine bI 35 (.tmp 6) (((y2:Nat):Value)) (((y2:Nat):Value)) (fun ρ h1 kk w4 (hg4:Grow _ w4) hb hf=>by go_simp) ?_
 refine bI 36 (.tmp 35) (((y2:Nat):Value)) (ae af 0) (fun ρ h1 kk w4 (hg4:Grow _ w4) hb hf=>by have c:=(NM.grow hg4).cell 0;go_simp) ?_
 refine cm 37 (.tmp 36) (.const (ae af 1)) (ae af 0) (ae af 1) (ae af 1) (fun ρ h1 h2 kk w4 (hg4:Grow _ w4) hb hf=>by go_simp;try rfl) ?_
 refine bP 38 (.pointer (some ⟨p.a,0,none⟩)) ?_
 refine bI 39 (.tmp 38) (.pointer (some ⟨p.a,0,none⟩)) (.pointer (some ⟨p.a,0,none⟩)) (fun ρ h1 kk w4 (hg4:Grow _ w4) hb hf=>by go_simp) ?_
 refine bI 40 (.tmp 39) (.pointer (some ⟨p.a,0,none⟩)) (.pointer (some ⟨p.a,4,none⟩)) (fun ρ h1 kk w4 (hg4:Grow _ w4) hb hf=>by go_simp) ?_
 refine bI 41 (.tmp 40) (.pointer (some ⟨p.a,4,none⟩)) (ae af now) (fun ρ h1 kk w4 (hg4:Grow _ w4) hb hf=>by have c:=(IA.grow hg4).cell 4;go_simp) ?_
 refine bP 42 (ae af tg) ?_
 refine bI 43 (.tmp 42) (ae af tg) (ae ah tg) (fun ρ h1 kk w4 (hg4:Grow _ w4) hb hf=>by go_simp;try rfl) ?_
 refine bI 44 (.tmp 6) (((y2:Nat):Value)) (((y2:Nat):Value)) (fun ρ h1 kk w4 (hg4:Grow _ w4) hb hf=>by go_simp) ?_
 refine bI 45 (.tmp 44) (((y2:Nat):Value)) (ae af 0) (fun ρ h1 kk w4 (hg4:Grow _ w4) hb hf=>by have c:=(NM.grow hg4).cell 0;go_simp) ?_
 refine cH 46 aj ak (bO aj) (fun _=>kN) (by rw[hK.out];rfl) 346 _ _ aj [ae ah tg,ae af 0,ae af 4,ae af 32] aj NL (fun kk w4 (hg4:Grow _ w4) hb hf=>cr (φ:=fun _=>kN) aj (by exact FA w4 tg)) (fun v46=>?_)
 refine gv 47 aj ak (bO aj) (fun _=>kN) (by rw[hK.out];rfl) (.tmp 41) (.tmp 46) (ae af now) (v46) aj aj (fun ρ h1 h2 kk w4 (hg4:Grow _ w4) hb hf=>by refine cA (φ:=fun _=>kN) aj ?_;exact DF rfl h1 h2 (cy hf (by rw[hA'.out];kernel_rfl))) (fun v47=>?_)
 refine gH 48 aj ak (bO aj) (fun _=>ru) (by rw[hK.out];rfl) (fun kk w4 (hg4:Grow _ w4) hb hf=>by refine cA (φ:=fun _=>ru) aj ?_;exact Av rfl rfl rfl (cy hf (by rw[hA'.out];kernel_rfl))) (fun v48=>?_)
 refine ce (fun _ _ w4 (hg4:Grow _ w4) _ bR=>hT _ _ ?_)
 clear hops hA' hK hT
 simp only[cj,Act.put,aw,ay,az,ax,aB]
 obtain⟨yw,rfl⟩:ru v48 w4:=bR.1
 clear bR
 have u9:=gB.grows wW hg4
 obtain⟨w5,hrun,iq,dY⟩:=u9.qb (φ:=fun w'=>(Instr.mapUpdate 140 (.map (some p.bT)) (.agg #[ae af (node:Int),ae af 0,ae af 1]) (.agg #[ae af 1,ae af yw])).run au w4=.ok () w') 9 rfl wW (fun U hU ey=>by
  obtain⟨w',h1,h2,h3⟩:=cJ.put Iy (t:=140) (et:=378) am hU ((node:Int),0,1) (.agg #[ae af 1,ae af yw])
  exact⟨w',h1,h2,h3.imp fun b hb=>hb▸hU.1⟩)
 have iq:Solo (cB V w) (Many (Cell y5 32 #[ae af 1,ae af (node:Int),ae af 0,ae af 1,ae af ep,.slice A 1 c,.string ⟨#[]⟩,ae af (node:Int),ae af tg] :: ((eR p.st p.z ep sl fJ l0 k0 cu++[Cell p.a 143 (ib p node 1 now tg 0),cJ k_ p.bK (dQ asks tg (.agg #[ae af (node:Int),ae af 0,ae af 1])),cJ mL p.bT (dQ tr ((node:Int),0,1) (.agg #[ae af 1,ae af yw])),cU p.x p.d n bs k])++[Cell y4 270 #[ae af 0,ae af 0,ae af 0,ae af 0,ae af 0,ae af 0,ae af 0,ai none 0 0,.string ⟨#[]⟩,ae af 0,ae af 0,ae af 0,ae af 0,ae ah 0,ae af 0,ae af 0,ai none 0 0,ae af 0,ae af 0],Cell y3 159 #[ae af 1,.slice A 1 c],Cell y2 378 #[ae af 0,ae af 0],Cell y1 26 #[ae af (node:Int),ae af 0,ae af 1]]))) w5:=iq
 have L_:=(bW (bW (cV p.st p.z ep sl fJ l0 k0 cu) (cE p cW cW.framed node 1 now tg 0 (dQ asks tg (.agg #[ae af (node:Int),ae af 0,ae af 1])) (dQ tr ((node:Int),0,1) (.agg #[ae af 1,ae af yw])) n bs k).tail) JU).cons (Cell.framed y5 32 #[ae af 1,ae af (node:Int),ae af 0,ae af 1,ae af ep,.slice A 1 c,.string ⟨#[]⟩,ae af (node:Int),ae af tg])
 have J9:Just (cB V w) w w5:=(J7.trans (Just.bJ hg4)).trans dY
 clear IA JV NM
 have JR:=iq.blk 7 rfl
 have Ra:=iq.blk 13 rfl
 have FC:=iq.blk 0 rfl
 unfold ib at JR
 have Nq:=J9.size
 have Rb:fV w5 D A 1 [(s,x)]:=In.just hd J9 fun b hb hl=>hl.elim (j5 b hb) (fun h=>by have:=hDl b hb;omega)
 have hEl:∀ w1,Grow w5 w1→fY w1 D ⟨⟨1,node,0,1,ep,[(s,x)],⟨#[]⟩,node,tg⟩,A,c⟩:=fun w1 hg=>⟨In.grow Rb hg,hc1,hc,by show 1≤1048576;decide⟩
 go_wp2_with fail
 clear hrun
 refine bL 16 65 [(13,.inr (fun _=>jh w5.heap.size ⟨1,node,0,1,ep,[(s,x)],⟨#[]⟩,node,tg⟩)),(14,.inr (fun _=>nz w5.heap.size ⟨1,node,0,1,ep,[(s,x)],⟨#[]⟩,node,tg⟩)),(15,.inr (fun _=>l7 w5.heap.size 0 ⟨1,node,0,1,ep,[(s,x)],⟨#[]⟩,node,tg⟩))] rfl rfl am am am ?_ ?_
 ·intro x hx φ he
  simp only[aF,aE,or_false] at hx
  rcases hx with rfl|rfl|rfl<;>cases he
  all_goals first|exact ca (cn _)|first|exact ca (kM _ _)|exact ca (pH _ _)|exact ca (o4 _ _ _)
 intro ops' A' K' T hops hA' hK hT
 refine bP 49 (.pointer (some ⟨p.a,0,none⟩)) ?_
 refine bI 50 (.tmp 49) (.pointer (some ⟨p.a,0,none⟩)) (.pointer (some ⟨p.a,0,none⟩)) (fun ρ h1 kk w6 (dT:Grow _ w6) hb hf=>by go_simp) ?_
 refine bI 51 (.tmp 50) (.pointer (some ⟨p.a,0,none⟩)) (.pointer (some ⟨p.a,6,none⟩)) (fun ρ h1 kk w6 (dT:Grow _ w6) hb hf=>by go_simp) ?_
 refine bI 52 (.tmp 51) (.pointer (some ⟨p.a,6,none⟩)) (ae af 0) (fun ρ h1 kk w6 (dT:Grow _ w6) hb hf=>by have c:=(JR.grow dT).cell 6;go_simp) ?_
 refine bI 53 (.tmp 6) (((y2:Nat):Value)) (((y2:Nat):Value)) (fun ρ h1 kk w6 (dT:Grow _ w6) hb hf=>by go_simp) ?_
 refine bI 54 (.tmp 53) (((y2:Nat):Value)) (ae af 0) (fun ρ h1 kk w6 (dT:Grow _ w6) hb hf=>by have c:=(Ra.grow dT).cell 0;go_simp) ?_
 refine cm 55 (.tmp 52) (.tmp 54) (ae af 0) (ae af 0) (ae af 0) (fun ρ h1 h2 kk w6 (dT:Grow _ w6) hb hf=>by go_simp;try rfl) ?_
 refine bP 56 (.pointer (some ⟨p.a,0,none⟩)) ?_
 refine bI 57 (.tmp 56) (.pointer (some ⟨p.a,0,none⟩)) (.pointer (some ⟨p.a,0,none⟩)) (fun ρ h1 kk w6 (dT:Grow _ w6) hb hf=>by go_simp) ?_
 refine bI 58 (.tmp 57) (.pointer (some ⟨p.a,0,none⟩)) (.pointer (some ⟨p.a,1,none⟩)) (fun ρ h1 kk w6 (dT:Grow _ w6) hb hf=>by go_simp) ?_
 refine bI 59 (.tmp 58) (.pointer (some ⟨p.a,1,none⟩)) (ae af 1) (fun ρ h1 kk w6 (dT:Grow _ w6) hb hf=>by have c:=(JR.grow dT).cell 1;go_simp) ?_
 refine cm 60 (.tmp 55) (.tmp 59) (ae af 0) (ae af 1) (ae af 0) (fun ρ h1 h2 kk w6 (dT:Grow _ w6) hb hf=>by go_simp) ?_
 refine bI 61 (.tmp 10) (((y5:Nat):Value)) (.agg #[ae af 1,ae af (node:Int),ae af 0,ae af 1,ae af ep,.slice A 1 c,.string ⟨#[]⟩,ae af (node:Int),ae af tg]) (fun ρ h1 kk w6 (dT:Grow _ w6) hb hf=>by have c0:=(FC.grow dT).cell 0;have c1:=(FC.grow dT).cell 1;have c2:=(FC.grow dT).cell 2;have c3:=(FC.grow dT).cell 3;have c4:=(FC.grow dT).cell 4;have c5:=(FC.grow dT).cell 5;have c6:=(FC.grow dT).cell 6;have c7:=(FC.grow dT).cell 7;have c8:=(FC.grow dT).cell 8;go_simp) ?_
 refine cH 62 aj ak (bO aj) (fun _=>jh w5.heap.size ⟨1,node,0,1,ep,[(s,x)],⟨#[]⟩,node,tg⟩) (by rw[hK.out];rfl) 175 _ _ aj [.agg #[ae af 1,ae af (node:Int),ae af 0,ae af 1,ae af ep,.slice A 1 c,.string ⟨#[]⟩,ae af (node:Int),ae af tg]] aj IG (fun kk w6 (dT:Grow _ w6) hb hf=>cr (φ:=fun _=>jh w5.heap.size ⟨1,node,0,1,ep,[(s,x)],⟨#[]⟩,node,tg⟩) aj (by exact uv w5.heap.size w6 D ⟨⟨1,node,0,1,ep,[(s,x)],⟨#[]⟩,node,tg⟩,A,c⟩ (hEl w6 dT) dT.size)) (fun v62=>?_)
 refine gH 63 aj ak (bO aj) (fun _=>nz w5.heap.size ⟨1,node,0,1,ep,[(s,x)],⟨#[]⟩,node,tg⟩) (by rw[hK.out];rfl) (fun kk w6 (dT:Grow _ w6) hb hf=>by refine cA (φ:=fun _=>nz w5.heap.size ⟨1,node,0,1,ep,[(s,x)],⟨#[]⟩,node,tg⟩) aj ?_;exact Au rfl (fun v=>rfl) rfl (cy hf (by rw[hA'.out];kernel_rfl))) (fun v63=>?_)
 refine gH 64 aj ak (bO aj) (fun _=>l7 w5.heap.size 0 ⟨1,node,0,1,ep,[(s,x)],⟨#[]⟩,node,tg⟩) (by rw[hK.out];rfl) (fun kk w6 (dT:Grow _ w6) hb hf=>by refine cA (φ:=fun _=>l7 w5.heap.size 0 ⟨1,node,0,1,ep,[(s,x)],⟨#[]⟩,node,tg⟩) aj ?_;exact xo rfl rfl rfl (cy hf (by rw[hA'.out];kernel_rfl))) (fun v64=>?_)
 refine ce (fun _ _ w6 (dT:Grow _ w6) _ bR=>hT _ _ ?_)
 clear hops hA' hK hT
 simp only[cj,Act.put,aw,ay,az,ax,aB]
 obtain⟨A6,c6,rfl,KW⟩:l7 w5.heap.size 0 ⟨1,node,0,1,ep,[(s,x)],⟨#[]⟩,node,tg⟩ v64 w6:=bR.1
 clear bR hEl
 have NN:=iq.grows L_ dT
 have Jx:=J9.trans (Just.bJ dT)
 have hy4:=NN.blk 11 rfl
 have Rc:=NN.ig 11 rfl
 unfold ki
 go_wp2_with (refine ch rfl 270 _ _ rfl _ rfl [ae af 0,ae af 1,ae af 1,ae af (node:Int),ae af 0,ae af 1,ae af ep,.slice A6 1 c6,.string ⟨#[]⟩,ae af (node:Int),ae af tg,ae af 0,ae af 0,ae ah 0,ae af 0,ae af 0,ai none 0 0,ae af 0,ae af 0] rfl hy4 rfl rfl am ?_;intro w7 Cb nn hs7;refine stay ?_)
 refine bV ?_
 have NP:=NN.turned 11 rfl L_ nn Cb
 have Jy:=Jx.trans (nn.imp fun b hb=>by rw[hb];exact Rc.1)
 go_wp2_with fail
 refine bodyPost_ret (dr rfl _ y4 rfl Cb Tryz.underlying270 am) rfl ?_
 have hSz:Solo (cB V w) (Many (((eR p.st p.z ep sl fJ l0 k0 cu++[Cell p.a 143 (ib p node 1 now tg 0),cJ k_ p.bK (dQ asks tg (.agg #[ae af (node:Int),ae af 0,ae af 1])),cJ mL p.bT (dQ tr ((node:Int),0,1) (.agg #[ae af 1,ae af yw])),cU p.x p.d n bs k])++[Cell y4 270 #[ae af 0,ae af 1,ae af 1,ae af (node:Int),ae af 0,ae af 1,ae af ep,.slice A6 1 c6,.string ⟨#[]⟩,ae af (node:Int),ae af tg,ae af 0,ae af 0,ae ah 0,ae af 0,ae af 0,ai none 0 0,ae af 0,ae af 0],Cell y3 159 #[ae af 1,.slice A 1 c],Cell y2 378 #[ae af 0,ae af 0],Cell y1 26 #[ae af (node:Int),ae af 0,ae af 1]]))) w7:=NP.drop1
 have DI:Solo (cB V w) (Many (iW p (cP p.st p.z ep sl fJ l0 k0 cu) node 1 now tg 0 (dQ asks tg (.agg #[ae af (node:Int),ae af 0,ae af 1])) (dQ tr ((node:Int),0,1) (.agg #[ae af 1,ae af yw])) n bs k)) w7:=Solo.eG (l:=eR p.st p.z ep sl fJ l0 k0 cu) (((Solo.perm (aG) hSz).drop1.drop1.drop1.drop1))
 obtain⟨r1,r2⟩:=Solo.done DI Jy hV
 have hsx:=Jx.size
 have hs7':=nn.size
 refine⟨⟨A6,c6,rfl,?_⟩,⟨yw,r1⟩,r2⟩
 exact⟨In.mono (In.just KW.1 nn fun b hb e=>by rw[e] at hb;have:=hb.1;have:=(iq.ig 11 rfl).2;omega) fun b hb=>⟨by have:=hb.1;omega,by have:=hb.2;omega,fun h=>by have:=hV b h;have:=hb.1;omega⟩,KW.2⟩
end Go.Proofs.YtmijcbfgfkeodaaGreatDoor
end
