/- Wd6, Wd7. -/
import Derived.Test.YtmijcbfgfkeodaaGreatDoorIz39
set_option linter.all false
set_option maxRecDepth 100000
set_option maxHeartbeats 2000000
open Go.Value renaming int → ae,slice → ai
open Go.IntKind renaming i64 → af,u64 → ah
open Go.Proofs.Tryz renaming prog → au
open List renaming setIfInBounds_toArray → aw,drop_succ_cons → ax,set_cons_zero → ay,set_cons_succ → az,drop_zero → aB,not_mem_nil → aE,mem_cons → aF,perm_append_comm → aG,take_succ_cons → aV,take_zero → bw
open Nat renaming lt_of_lt_of_le → aA,le_trans → aH
section
namespace Go.Proofs.YtmijcbfgfkeodaaGreatDoor
open Go.RowKit Go.Hop V
theorem lb:dK.Ok:=Is (ag:=((1:Nat):Int)) (sq:=1) (ep:=1) (v:=7) (fr:=((1:Nat):Int)) (tg:=4294967296+1) al al al al al al
theorem ej.mono {B B':Nat} {to:Int} {e:En} {u:Value} {w:World} (h:ej B to e u w) (hb:B'≤B):ej B' to e u w:=by
 obtain⟨A,c,U,h1,h2,h3⟩:=h
 exact⟨A,c,U,h1,fun b h=>⟨aH hb (h2 b h).1,(h2 b h).2⟩,In.mono h3.1 fun b h=>⟨aH hb h.1,h.2⟩,h3.2⟩
theorem o7 (B:Nat) (to:Int) (e:En):dv (ej B to e):=fun _ _ _ h hg=>h.grow hg
theorem F_:(frame (dV dK)).length≤1048576:=by
 have h1:=pg lb
 have h2:=eS (dV dK) al
 omega
theorem Ed (w:World) (W:Nat) (q:o5) (RT:cg) (iR:Framed RT) (V:Nat→Prop) (hM:Many (cS W q [] RT (A2 q.a)) w V) (hV:∀ b,V b→b<w.heap.size) :
 Calls au 195 #[((W:Nat):Value),.agg #[ae af 1,ae af 1,ae af 0,ae af 1,.string ⟨#[]⟩]] w fun e w'=>e=.returned (.agg #[ae af 0,ae af 1,ae af 0,ae af 0,ae af 0,ae af 0,ae ah 0,ae af 0])∧Many (cS W q [(1,0,frame (dV dK))] RT (A3 q.a)) w' (Ext V w w')∧Just V w w':=by
 have Ji:∀ (vs:Array Value) (w:World),(callFunc 244 vs).run au w=.ok (.enter 244 vs) w:=fun vs w=>by go_simp
 have Ol:∀ (vs:Array Value) (w:World),(callFunc 245 vs).run au w=.ok (.enter 245 vs) w:=fun vs w=>by go_simp
 have kP:=A2.framed q.a
 have hS0:=Solo.begin_ hM hV
 have dX:=ci W q [] (RT) (A2 q.a) iR kP
 have g1:=bN w (.cells #[ae af 1,ae af 1,ae af 0,ae af 1,.string ⟨#[]⟩] 98)
 have b1:=ct.made w 98 #[ae af 1,ae af 1,ae af 0,ae af 1,.string ⟨#[]⟩]
 have j_:=bN (w.alloc (.cells #[ae af 1,ae af 1,ae af 0,ae af 1,.string ⟨#[]⟩] 98)) (.cells #[ae af 0,ae af 0,ae af 0,ae af 0,ae af 0,ae af 0,ae ah 0,ae af 0] 100)
 have rY:=b1.grow j_
 have rW:=(hS0.blk 0 rfl).grow (g1.trans j_)
 unfold gG at rW
 have c1:=rY.cell 1
 obtain⟨y,HY⟩:∃ y:Nat,Hid (y=w.heap.size):=⟨_,rfl⟩
 obtain⟨wa,dq⟩:∃ wa:World,Hid (wa=w.alloc (.cells #[ae af 1,ae af 1,ae af 0,ae af 1,.string ⟨#[]⟩] 98)):=⟨_,rfl⟩
 have hz0:wa.heap.size=y+1:=by rw[dq.out,HY.out];simp
 rw[←dq.out] at g1 b1
 rw[←HY.out] at b1
 have g2:=bN wa (.cells #[ae af 0,ae af 0,ae af 0,ae af 0,ae af 0,ae af 0,ae ah 0,ae af 0] 100)
 have b2:=ct.made wa 100 #[ae af 0,ae af 0,ae af 0,ae af 0,ae af 0,ae af 0,ae ah 0,ae af 0]
 obtain⟨z,HZ⟩:∃ z:Nat,Hid (z=y+1):=⟨_,rfl⟩
 obtain⟨wb,ia⟩:∃ wb:World,Hid (wb=wa.alloc (.cells #[ae af 0,ae af 0,ae af 0,ae af 0,ae af 0,ae af 0,ae ah 0,ae af 0] 100)):=⟨_,rfl⟩
 rw[←ia.out] at g2 b2
 rw[hz0,←HZ.out] at b2
 have ez:=hS0.join dX g1 (R:=Cell y 98 #[ae af 1,ae af 1,ae af 0,ae af 1,.string ⟨#[]⟩]) (U:=fun b=>b=y) ⟨rfl,b1⟩ (fun b hb=>by have h8:b=y:=hb;have:=HY.out;have:=b1.lt;omega)
 have eP:=dX.cons (Cell.framed y 98 #[ae af 1,ae af 1,ae af 0,ae af 1,.string ⟨#[]⟩])
 have hSb:=ez.join eP g2 (R:=Cell z 100 #[ae af 0,ae af 0,ae af 0,ae af 0,ae af 0,ae af 0,ae ah 0,ae af 0]) (U:=fun b=>b=z) ⟨rfl,b2⟩ (fun b hb=>by have h8:b=z:=hb;have:=HZ.out;have:=b2.lt;omega)
 have hSb:Solo (cB V w) (Many (cS W q [] (RT) (A2 q.a)++[Cell z 100 #[ae af 0,ae af 0,ae af 0,ae af 0,ae af 0,ae af 0,ae ah 0,ae af 0],Cell y 98 #[ae af 1,ae af 1,ae af 0,ae af 1,.string ⟨#[]⟩]])) wb:=hSb.perm (aG (l₁:=[Cell z 100 #[ae af 0,ae af 0,ae af 0,ae af 0,ae af 0,ae af 0,ae ah 0,ae af 0],Cell y 98 #[ae af 1,ae af 1,ae af 0,ae af 1,.string ⟨#[]⟩]]))
 have iU:=bW dX ((bM.nil.cons (Cell.framed y 98 #[ae af 1,ae af 1,ae af 0,ae af 1,.string ⟨#[]⟩])).cons (Cell.framed z 100 #[ae af 0,ae af 0,ae af 0,ae af 0,ae af 0,ae af 0,ae ah 0,ae af 0]))
 have Jb:Just (cB V w) w wb:=(Just.bJ g1).trans (Just.bJ g2)
 have hyz:¬ (fun b=>b=z) y:=fun e=>by have e2:y=z:=e;have:=HZ.out;omega
 clear b1 b2 g1 g2 hz0 ez j_
 obtain⟨U1,nN,_⟩:=hSb.see 1 rfl
 obtain⟨U3,Gp,_⟩:=hSb.see 3 rfl
 have Lj:=E6 wb W q.g q.rs q.ij q.ds q.r q.a q.d0 q.d1 U3 (hSb.blk 0 rfl) Gp
 have EB:=nU wb W q.g q.rs q.ij q.ds q.r q.a q.d0 q.d1 U1 (hSb.blk 0 rfl) nN
 go_enter Tryz.func195,Tryz.ntmps195
 go_wp2_with fail
 rw[←dq.out,←HY.out,←ia.out,←HZ.out]
 refine Lj.mono ?_
 rintro e w1 ⟨rfl,rfl⟩
 clear c1
 have hyb:=hSb.blk 8 rfl
 have c1:=hyb.cell 1
 have c3:=hyb.cell 3
 go_wp2_with fail
 refine EB.mono ?_
 rintro e w1 ⟨rfl,rfl⟩
 clear c1 c3
 have i9:bM (cS W q [] RT (A3 q.a)++[Cell z 100 #[ae af 0,ae af 0,ae af 0,ae af 0,ae af 0,ae af 0,ae ah 0,ae af 0],Cell y 98 #[ae af 1,ae af 1,ae af 0,ae af 1,.string ⟨#[]⟩]]):=bW (ci W q [] RT (A3 q.a) iR (A3.framed q.a)) ((bM.nil.cons (Cell.framed y 98 #[ae af 1,ae af 1,ae af 0,ae af 1,.string ⟨#[]⟩])).cons (Cell.framed z 100 #[ae af 0,ae af 0,ae af 0,ae af 0,ae af 0,ae af 0,ae ah 0,ae af 0]))
 go_wp2_with fail
 refine c_ rfl ?_
 refine er (iP (cB V w) (Many (cS W q [] RT (A2 q.a)++[Cell z 100 #[ae af 0,ae af 0,ae af 0,ae af 0,ae af 0,ae af 0,ae ah 0,ae af 0],Cell y 98 #[ae af 1,ae af 1,ae af 0,ae af 1,.string ⟨#[]⟩]])) (Many (cS W q [] RT (A3 q.a)++[Cell z 100 #[ae af 0,ae af 0,ae af 0,ae af 0,ae af 0,ae af 0,ae ah 0,ae af 0],Cell y 98 #[ae af 1,ae af 1,ae af 0,ae af 1,.string ⟨#[]⟩]])) 9 [(5,0),(6,0),(8,0)]) (iu (Many.framed _ iU) (Many.framed _ i9)) 0 10 54 [(6,.inl (.pointer (some ⟨q.a,0,none⟩))),(9,.inr (Behind (ej wb.heap.size 0 dK)))] rfl am am am ?_ (Just.bJ (Grow.refl _).drew) (hSb.grows iU (Grow.refl _).drew) ?_
 ·intro x hx φ he
  simp only[aF,aE,or_false] at hx
  rcases hx with rfl|rfl<;>cases he
  all_goals first|exact ca (cn _)|exact gE (o7 _ _ _)
 intro ops' A' K' T hops hA' hK hT
 refine bP 40 (((W:Nat):Value)) ?_
 refine bI 41 (.tmp 3) (((y:Nat):Value)) (.pointer (some ⟨y,1,none⟩)) (fun ρ h1 kk w5 (dY:Just (cB V w) _ w5) hb hf=>by go_simp) ?_
 refine bI 42 (.tmp 41) (.pointer (some ⟨y,1,none⟩)) (ae af 1) (fun ρ h1 kk w5 (dY:Just (cB V w) _ w5) hb hf=>by rcases nC hb with hI|hI<;>(have c:=(hI.blk 8 rfl).cell 1;go_simp)) ?_
 refine bP 43 (((W:Nat):Value)) ?_
 refine bI 44 (.tmp 3) (((y:Nat):Value)) (.pointer (some ⟨y,1,none⟩)) (fun ρ h1 kk w5 (dY:Just (cB V w) _ w5) hb hf=>by go_simp) ?_
 refine bI 45 (.tmp 44) (.pointer (some ⟨y,1,none⟩)) (ae af 1) (fun ρ h1 kk w5 (dY:Just (cB V w) _ w5) hb hf=>by obtain rfl:=cw 0 aj hb;have hI:=hb.1;have c:=(hI.blk 8 rfl).cell 1;go_simp) ?_
 refine cC 46 aj ak (bO aj) (.pointer (some ⟨q.a,0,none⟩)) (by rw[hK.out];rfl) 244 _ _ aj [((W:Nat):Value),ae af 1] aj Ji (fun kk w5 (dY:Just (cB V w) _ w5) hb hf=>b_ aj (by obtain rfl:=cw 0 aj hb;have hI:=hb.1;exact (by obtain⟨U1,nN,_⟩:=hI.see 1 rfl;obtain⟨U2,oi,_⟩:=hI.see 2 rfl;exact db (sJ w5 W q.g q.rs q.ij q.ds q.r q.a q.d0 q.d1 U1 U2 (hI.blk 0 rfl) nN oi)))) ?_
 refine bI 47 (.tmp 3) (((y:Nat):Value)) (.pointer (some ⟨y,3,none⟩)) (fun ρ h1 kk w5 (dY:Just (cB V w) _ w5) hb hf=>by go_simp) ?_
 refine bI 48 (.tmp 47) (.pointer (some ⟨y,3,none⟩)) (ae af 1) (fun ρ h1 kk w5 (dY:Just (cB V w) _ w5) hb hf=>by obtain rfl:=cw 0 aj hb;have hI:=hb.1;have c:=(hI.blk 8 rfl).cell 3;go_simp) ?_
 refine cH 49 aj ak (bO aj) (Behind (ej wb.heap.size 0 dK)) (by rw[hK.out];rfl) 245 _ _ aj [.pointer (some ⟨q.a,0,none⟩),ae af 1] aj Ol (fun kk w5 (dY:Just (cB V w) _ w5) hb hf=>fN (φ:=Behind (ej wb.heap.size 0 dK)) 0 aj (by obtain rfl:=cw 0 aj hb;have hI:=hb.1;exact ((Solo.LY (ι:=Unit) (C:=fun _ e w9=>∃ u,e=.returned u∧ej w5.heap.size 0 dK u w9) (S':=fun _=>A3 q.a) 6 rfl iU hI (fun U hU ey Gv=>(FT w5 q.a U hU ey).mono fun e w9 h=>⟨(),h⟩)).mono fun e w9 h9=>by obtain⟨_,⟨u,h1,h2⟩,h3,h4⟩:=h9;exact⟨u,h1,h3,h4,h2.mono dY.size⟩))) (fun v49=>?_)
 refine ce (fun _ _ w5 (dY:Just (cB V w) _ w5) hend bR=>hT _ _ ?_)
 clear hops hA' hK hT
 simp only[cj,Act.put,aw,ay,az]
 have hO:ej wb.heap.size 0 dK v49 w5:=ja bR.1
 have hS5:Solo (cB V w) (Many (cS W q [] RT (A3 q.a)++[Cell z 100 #[ae af 0,ae af 0,ae af 0,ae af 0,ae af 0,ae af 0,ae ah 0,ae af 0],Cell y 98 #[ae af 1,ae af 1,ae af 0,ae af 1,.string ⟨#[]⟩]])) w5:=hend
 clear bR
 have J5:=Jb.trans dY
 obtain⟨A,c,Uo,O7,JL,hEl⟩:=hO
 have Om:dA wb.heap.size (ae af 0 :: (i5 dK A c).toList) v49 w5:=⟨Uo,O7,JL⟩
 have du:∀ w1,Grow w5 w1→Calls au 252 #[.agg (i5 dK A c).toList.toArray] w1 fun en w'=>∃ v,en=.returned (.tuple #[v,ae af 0])∧Grow w1 w'∧bZ (frame (dV dK)) v w':=fun w1 hg=>wm w1 dK _ A c lb (In.grow hEl.1 hg)
 have On:=ci W q [] RT (A3 q.a) iR (A3.framed q.a)
 have hSd:=Solo.at_ 0 rfl (((bM.nil.cons (Cell.framed y 98 #[ae af 1,ae af 1,ae af 0,ae af 1,.string ⟨#[]⟩])).cons (Cell.framed z 100 #[ae af 0,ae af 0,ae af 0,ae af 0,ae af 0,ae af 0,ae ah 0,ae af 0])).cons (Many.framed _ On)) (Solo.eG (l:=cS W q [] RT (A3 q.a)) hS5) (fun U hU ey=>uJ w5 W q [] RT (A3 q.a) iR (A3.framed q.a) 1 0 (i5 dK A c).toList rfl rfl v49 _ Om (frame (dV dK)) F_ du rfl rfl (by simp) U hU ey)
 refine fM 10 11 am am ?_
 simp only[aV,bw,ax,aB]
 go_wp2_with fail
 refine hSd.mono ?_
 rintro e w6 ⟨rfl,fI,eC⟩
 have eC:Solo (cB V w) (Many (cS W q [(1,0,frame (dV dK))] RT (A3 q.a)++[Cell z 100 #[ae af 0,ae af 0,ae af 0,ae af 0,ae af 0,ae af 0,ae ah 0,ae af 0],Cell y 98 #[ae af 1,ae af 1,ae af 0,ae af 1,.string ⟨#[]⟩]])) w6:=Solo.flat (l:=cS W q [(1,0,frame (dV dK))] RT (A3 q.a)) eC
 have xm:=bW (ci W q [(1,0,frame (dV dK))] RT (A3 q.a) iR (A3.framed q.a)) ((bM.nil.cons (Cell.framed y 98 #[ae af 1,ae af 1,ae af 0,ae af 1,.string ⟨#[]⟩])).cons (Cell.framed z 100 #[ae af 0,ae af 0,ae af 0,ae af 0,ae af 0,ae af 0,ae ah 0,ae af 0]))
 have J6:=J5.trans fI
 go_wp2_with fail
 refine eY ?_
 have c1:=(eC.blk 8 rfl).cell 1
 have uS:=eC.blk 7 rfl
 go_wp2_with (refine ch rfl 100 _ _ rfl _ rfl [ae af 0,ae af 1,ae af 0,ae af 0,ae af 0,ae af 0,ae ah 0,ae af 0] rfl uS rfl rfl am ?_;intro w9 mE fK DC;refine stay ?_)
 refine bV ?_
 have iq:=eC.turned 7 rfl xm fK mE
 have J9:=J6.trans (fK.imp fun b hb=>hb▸(eC.ig 7 rfl).1)
 go_wp2_with fail
 refine bodyPost_ret (dr rfl _ z rfl mE Tryz.underlying100 am) rfl ?_
 have gZ:Solo (cB V w) (Many (cS W q [(1,0,frame (dV dK))] (RT) (A3 q.a))) w9:=(Solo.perm (aG (l₁:=cS W q [(1,0,frame (dV dK))] (RT) (A3 q.a)) (l₂:=[Cell z 100 #[ae af 0,ae af 1,ae af 0,ae af 0,ae af 0,ae af 0,ae ah 0,ae af 0],Cell y 98 #[ae af 1,ae af 1,ae af 0,ae af 1,.string ⟨#[]⟩]])) iq).drop1.drop1
 obtain⟨r1,r2⟩:=Solo.done gZ J9 hV
 exact⟨rfl,r1,r2⟩
theorem uT (w:World) (ρ:Operand→Value) (o:Oper) (ho:o.op=.alloc 211):(execOp ρ o).run au w=.ok (.value (.pointer (some ⟨w.heap.size,0,none⟩))) (w.alloc (.cells #[ae af 0,ae af 0,ai none 0 0] 211)):=by
 obtain⟨dst,op,ty,pos,after,guard⟩:=o
 simp only at ho
 subst ho
 go_simp
theorem gF (w:World) (ρ:Operand→Value) (o:Oper) (ho:o.op=.alloc 100):(execOp ρ o).run au w=.ok (.value (.pointer (some ⟨w.heap.size,0,none⟩))) (w.alloc (.cells #[ae af 0,ae af 0,ae af 0,ae af 0,ae af 0,ae af 0,ae ah 0,ae af 0] 100)):=by
 obtain⟨dst,op,ty,pos,after,guard⟩:=o
 simp only at ho
 subst ho
 go_simp
theorem Jj:dK.W:=by
 rcases lb.2 with h|h
 ·exact h
 ·exact absurd h.1 ak
theorem G0:(frame (dZ (4294967296+1) 1 0)).length≤1048576:=by
 have h1:=pi (tag:=4294967296+1) (code:=1) (n:=0) al al al
 have h2:=eS (dZ (4294967296+1) 1 0) al
 omega
theorem uU (w:World) (r:Nat) (A:Option Addr) (c:Nat) (D V:Nat→Prop) (hD:fY w D ⟨dK,A,c⟩) (hDl:∀ b,D b→b<w.heap.size) (j5:∀ b,D b→¬ V b) (hR:R1 r w V) (hV:∀ b,V b→b<w.heap.size) :
 Calls au 33 #[((r:Nat):Value),ae af 1,.agg (i5 dK A c)] w fun e w'=>(∃ u,e=.returned u∧dA w.heap.size #[ae af 1,ae af 2,ae af 0,ae af 0,ae af 0,ae af 0,ae af 0,ai none 0 0,.string ⟨#[]⟩,ae af 0,ae af 0,ae af (4294967296+1),ae af 1,ae ah 0,ae af 0,ae af 0,ai none 0 0,ae af 0,ae af 0].toList u w')∧Just V w w':=
 uG w r 1 ((1:Nat):Int) 0 1 1 [(ei,7)] ⟨#[]⟩ 1 (4294967296+1) lb (Lib.hid rfl) (Aa 0) (Dv 0) al (Dw 0 7 al) ((1:Nat):Int) lb A c D V hD hDl j5 hR hV
theorem uV (w:World) (W:Nat) (q:o5) (V:Nat→Prop) (hM:Many (cS W q [(1,0,frame (dV dK))] (R1 q.r) (A3 q.a)) w V) (hV:∀ b,V b→b<w.heap.size) :
 Calls au 196 #[((W:Nat):Value),ae af 0] w fun e w'=>e=.returned (.agg #[ae af 0,ae af 0,ae af 0,ae af 0,ae af 0,ae af 0,ae ah 0,ae af 0])∧Many (cS W q [(0,1,frame (dZ (4294967296+1) 1 0))] cW (A3 q.a)) w' (Ext V w w')∧Just V w w':=by
 have RO:∀ (vs:Array Value) (w:World),(callFunc 33 vs).run au w=.ok (.enter 33 vs) w:=fun vs w=>by go_simp
 have iR:=R1.framed q.r
 have kP:=A3.framed q.a
 have hS0:=Solo.begin_ hM hV
 have dX:=ci W q [(1,0,frame (dV dK))] (R1 q.r) (A3 q.a) iR kP
 have g1:=bN w (.cells #[ae af 0,ae af 0,ae af 0,ae af 0,ae af 0,ae af 0,ae ah 0,ae af 0] 100)
 have b1:=ct.made w 100 #[ae af 0,ae af 0,ae af 0,ae af 0,ae af 0,ae af 0,ae ah 0,ae af 0]
 have rW:=(hS0.blk 0 rfl).grow g1
 unfold gG at rW
 have c3:=rW.cell 3
 obtain⟨z,HZ⟩:∃ z:Nat,Hid (z=w.heap.size):=⟨_,rfl⟩
 obtain⟨wb,ia⟩:∃ wb:World,Hid (wb=w.alloc (.cells #[ae af 0,ae af 0,ae af 0,ae af 0,ae af 0,ae af 0,ae ah 0,ae af 0] 100)):=⟨_,rfl⟩
 rw[←ia.out] at g1 b1
 rw[←HZ.out] at b1
 have hSb:=hS0.join dX g1 (R:=Cell z 100 #[ae af 0,ae af 0,ae af 0,ae af 0,ae af 0,ae af 0,ae ah 0,ae af 0]) (U:=fun b=>b=z) ⟨rfl,b1⟩ (fun b hb=>by have h8:b=z:=hb;have:=HZ.out;have:=b1.lt;omega)
 have iU:=dX.cons (Cell.framed z 100 #[ae af 0,ae af 0,ae af 0,ae af 0,ae af 0,ae af 0,ae ah 0,ae af 0])
 have hDl:=hSb.LY (ι:=Option Addr×Nat×Nat) (C:=fun j e _=>e=.returned (.tuple #[.agg #[ae af 1,ae af 0,.slice j.1 j.2.1 j.2.2],ae af 0])) (S':=fun j=>Ne.Taken q.g 2 [] (fun _=>false) (frame (dV dK)) j) 5 rfl iU (fun U hU ey Gv=>Ne.nT wb q.g 2 [(1,0,frame (dV dK))] (fun _=>false) 0 (by simp) rfl U hU ey)
 go_enter Tryz.func196,Tryz.ntmps196
 go_wp2_with fail
 rw[←ia.out,←HZ.out]
 refine hDl.mono ?_
 rintro e w1 ⟨⟨A,m,c⟩,he,hj1,hS1⟩
 dsimp only at he hS1
 subst he
 clear c3
 have hS1:Solo (cB V w) (Many [Cell z 100 #[ae af 0,ae af 0,ae af 0,ae af 0,ae af 0,ae af 0,ae ah 0,ae af 0],Cell W 196 (gG q.rs q.ij q.ds q.g),cD 66 q.rs [q.r],cD 55 q.ij [q.a],cD 53 q.ds [q.d0,q.d1],Ne.Taken q.g 2 [] (fun _=>false) (frame (dV dK)) (A,m,c),R1 q.r,A3 q.a]) w1:=hS1
 have hF1:bM [Cell z 100 #[ae af 0,ae af 0,ae af 0,ae af 0,ae af 0,ae af 0,ae ah 0,ae af 0],Cell W 196 (gG q.rs q.ij q.ds q.g),cD 66 q.rs [q.r],cD 55 q.ij [q.a],cD 53 q.ds [q.d0,q.d1],Ne.Taken q.g 2 [] (fun _=>false) (frame (dV dK)) (A,m,c),R1 q.r,A3 q.a]:=(((((((bM.nil.cons kP).cons iR).cons (Ne.Taken.framed _ _ _ _ _ _)).cons (cD.framed _ _ _)).cons (cD.framed _ _ _)).cons (cD.framed _ _ _)).cons (Cell.framed _ _ _)).cons (Cell.framed _ _ _)
 have J1:Just (cB V w) w w1:=(Just.bJ g1).trans hj1
 go_wp2_with (refine cK rfl (uT _ _ _ rfl) ?_;intro x w2 hB2 hg2 hz2 hs2;refine stay ?_)
 refine bV ?_
 go_wp2_with (refine ch rfl 211 _ _ rfl _ rfl [ae af 1,ae af 0,.slice A m c] rfl hB2 rfl rfl am ?_;intro w3 qW hj3 hs3;refine stay ?_)
 refine bV ?_
 have hg3:Grow w1 w3:=Below.trans hg2 (hj3.below (B:=w1.heap.size) (fun b hb=>by have e2:b=x:=hb;omega) al)
 have x1:=qW.cell 1
 go_wp2_with (refine cK rfl (gF _ _ _ rfl) ?_;intro ze w4 hB4 hg4 EA hs4;refine stay ?_)
 refine bV ?_
 go_wp2_with (refine ch rfl 100 _ _ rfl _ rfl [ae af 0,ae af 0,ae af 0,ae af 0,ae af 0,ae af 0,ae ah 0,ae af 0] rfl hB4 rfl rfl am ?_;intro w5 o8 dY hs5;refine stay ?_)
 refine bV ?_
 clear x1
 have hg5:Grow w3 w5:=Below.trans hg4 (dY.below (B:=w3.heap.size) (fun b hb=>by have e2:b=ze:=hb;omega) al)
 have zd:=qW.grow hg5
 have dO:=hS1.join hF1 hg3 (R:=Cell x 211 #[ae af 1,ae af 0,.slice A m c]) (U:=fun b=>b=x) ⟨rfl,qW⟩ (fun b hb=>by have e2:b=x:=hb;omega)
 have i9:=hF1.cons (Cell.framed x 211 #[ae af 1,ae af 0,.slice A m c])
 have hS5:=dO.join i9 hg5 (R:=Cell ze 100 #[ae af 0,ae af 0,ae af 0,ae af 0,ae af 0,ae af 0,ae ah 0,ae af 0]) (U:=fun b=>b=ze) ⟨rfl,o8⟩ (fun b hb=>by have e2:b=ze:=hb;omega)
 have sU:=i9.cons (Cell.framed ze 100 #[ae af 0,ae af 0,ae af 0,ae af 0,ae af 0,ae af 0,ae ah 0,ae af 0])
 have J5:=(J1.trans (Just.bJ hg3)).trans (Just.bJ hg5)
 obtain⟨U7,⟨RP,Oo,hmc,hcm⟩,Oq⟩:=hS5.see 7 rfl
 have du:Bytes w5 w5.heap.size A m (frame (dV dK)):=In.reads (Oo.mono (V':=fun b=>b<w5.heap.size) fun b hb=>(Oq b hb).2)
 have hS5:=hS5.map 7 rfl (S':=Ne.dy q.g 2 [] (fun _=>false)) (fun U h=>h.1)
 have hS5:Solo (cB V w) (Many (cS W q [] (R1 q.r) (A3 q.a)++[Cell ze 100 #[ae af 0,ae af 0,ae af 0,ae af 0,ae af 0,ae af 0,ae ah 0,ae af 0],Cell x 211 #[ae af 1,ae af 0,.slice A m c],Cell z 100 #[ae af 0,ae af 0,ae af 0,ae af 0,ae af 0,ae af 0,ae ah 0,ae af 0]])) w5:=hS5.perm (aG (l₁:=[Cell ze 100 #[ae af 0,ae af 0,ae af 0,ae af 0,ae af 0,ae af 0,ae ah 0,ae af 0],Cell x 211 #[ae af 1,ae af 0,.slice A m c],Cell z 100 #[ae af 0,ae af 0,ae af 0,ae af 0,ae af 0,ae af 0,ae ah 0,ae af 0]]))
 have x2:=zd.cell 2
 clear hB2 hB4 qW o8 dO i9 hS1 sU
 have sc:=zk w5 dK A m c lb Jj du hmc hcm
 go_wp2_with fail
 clear x2
 refine sc.mono ?_
 rintro e w6 ⟨A6,c6,rfl,hEl,dT⟩
 go_wp2_with (refine cK rfl (fQ _ _ _ rfl) ?_;intro y8 RQ Ot Jk Ou hs6;refine stay ?_)
 refine bV ?_
 go_wp2_with (refine ch rfl 73 _ _ rfl _ rfl (i5 dK A6 c6).toList rfl Ot rfl rfl am ?_;intro w7 JX nn hs7;refine stay ?_)
 refine bV ?_
 have B0:Grow w6 w7:=Below.trans Jk (nn.below (B:=w6.heap.size) (fun b hb=>by have e2:b=y8:=hb;omega) al)
 have Jl:=dT.trans B0
 obtain⟨h05,V5,Od,Jm⟩:=hS5
 have sU:=bW (ci W q [] (R1 q.r) (A3 q.a) iR kP) (((bM.nil.cons (Cell.framed z 100 #[ae af 0,ae af 0,ae af 0,ae af 0,ae af 0,ae af 0,ae ah 0,ae af 0])).cons (Cell.framed x 211 #[ae af 1,ae af 0,.slice A m c])).cons (Cell.framed ze 100 #[ae af 0,ae af 0,ae af 0,ae af 0,ae af 0,ae af 0,ae ah 0,ae af 0]))
 have hl5:∀ b,V5 b→b<w7.heap.size:=fun b hb=>aA (Jm b hb).2 Jl.size
 have gB:Solo (cB V5 w7) (Many (cS W q [] (R1 q.r) (A3 q.a)++[Cell ze 100 #[ae af 0,ae af 0,ae af 0,ae af 0,ae af 0,ae af 0,ae ah 0,ae af 0],Cell x 211 #[ae af 1,ae af 0,.slice A m c],Cell z 100 #[ae af 0,ae af 0,ae af 0,ae af 0,ae af 0,ae af 0,ae ah 0,ae af 0]])) w7:=Solo.begin_ (Many.framed _ sU w5 w7 V5 Od fun b hb=>Jl.block b (Jm b hb).2) hl5
 have wW:=sU
 have Ft:=dT.size
 have hs67:=B0.size
 have Ov:¬ (cB V5 w7) y8:=fun h=>h.elim (fun h=>by have:=(Jm _ h).2;omega) fun h=>by have:=JX.lt;omega
 have hDn:∀ b,New w5 w6 b→¬ (cB V5 w7) b:=fun b hb h=>h.elim (fun h=>by have:=(Jm _ h).2;have:=hb.1;omega) fun h=>by have:=hb.2;omega
 have Lp:fY w7 (New w5 w6) ⟨dK,A6,c6⟩:=⟨In.grow hEl.1 B0,hEl.2⟩
 have hx7:=gB.blk 8 rfl
 have x1:=hx7.cell 1
 obtain⟨U1,nN,_⟩:=gB.see 1 rfl
 have EB:=jb w7 W q.g q.rs q.ij q.ds q.r q.a q.d0 q.d1 U1 (gB.blk 0 rfl) nN
 go_wp2_with fail
 refine EB.mono ?_
 rintro e w8 ⟨rfl,rfl⟩
 clear x1
 have RR:bM (cS W q [] cW (A3 q.a)++[Cell ze 100 #[ae af 0,ae af 0,ae af 0,ae af 0,ae af 0,ae af 0,ae ah 0,ae af 0],Cell x 211 #[ae af 1,ae af 0,.slice A m c],Cell z 100 #[ae af 0,ae af 0,ae af 0,ae af 0,ae af 0,ae af 0,ae ah 0,ae af 0]]):=bW (ci W q [] cW (A3 q.a) cW.framed kP) (((bM.nil.cons (Cell.framed z 100 #[ae af 0,ae af 0,ae af 0,ae af 0,ae af 0,ae af 0,ae ah 0,ae af 0])).cons (Cell.framed x 211 #[ae af 1,ae af 0,.slice A m c])).cons (Cell.framed ze 100 #[ae af 0,ae af 0,ae af 0,ae af 0,ae af 0,ae af 0,ae ah 0,ae af 0]))
 go_wp2_with fail
 refine c_ rfl ?_
 refine er (iP (cB V5 w7) (Many (cS W q [] (R1 q.r) (A3 q.a)++[Cell ze 100 #[ae af 0,ae af 0,ae af 0,ae af 0,ae af 0,ae af 0,ae ah 0,ae af 0],Cell x 211 #[ae af 1,ae af 0,.slice A m c],Cell z 100 #[ae af 0,ae af 0,ae af 0,ae af 0,ae af 0,ae af 0,ae ah 0,ae af 0]])) (Many (cS W q [] cW (A3 q.a)++[Cell ze 100 #[ae af 0,ae af 0,ae af 0,ae af 0,ae af 0,ae af 0,ae ah 0,ae af 0],Cell x 211 #[ae af 1,ae af 0,.slice A m c],Cell z 100 #[ae af 0,ae af 0,ae af 0,ae af 0,ae af 0,ae af 0,ae ah 0,ae af 0]])) 7 [(5,0),(6,0)]) (iu (Many.framed _ wW) (Many.framed _ RR)) 0 8 72 [(7,.inr (Behind (dA w7.heap.size #[ae af 1,ae af 2,ae af 0,ae af 0,ae af 0,ae af 0,ae af 0,ai none 0 0,.string ⟨#[]⟩,ae af 0,ae af 0,ae af (4294967296+1),ae af 1,ae ah 0,ae af 0,ae af 0,ai none 0 0,ae af 0,ae af 0].toList)))] rfl am am am ?_ (Just.bJ (Grow.refl _).drew) (gB.grows wW (Grow.refl _).drew) ?_
 ·intro x hx φ he
  simp only[aF,aE,or_false] at hx
  rcases hx with rfl<;>cases he
  all_goals first|exact ca (cn _)|exact gE (kO _ _)
 intro ops' A' K' T hops hA' hK hT
 refine bP 42 (((W:Nat):Value)) ?_
 refine bI 43 (.tmp 5) (((x:Nat):Value)) (.pointer (some ⟨x,1,none⟩)) (fun ρ h1 kk w9 (fK:Just (cB V5 w7) _ w9) hb hf=>by go_simp) ?_
 refine bI 44 (.tmp 43) (.pointer (some ⟨x,1,none⟩)) (ae af 0) (fun ρ h1 kk w9 (fK:Just (cB V5 w7) _ w9) hb hf=>by rcases nC hb with hI|hI<;>(have c:=(hI.blk 8 rfl).cell 1;go_simp)) ?_
 refine bP 45 (.pointer (some ⟨q.r,0,none⟩)) ?_
 refine bI 46 (.tmp 5) (((x:Nat):Value)) (((x:Nat):Value)) (fun ρ h1 kk w9 (fK:Just (cB V5 w7) _ w9) hb hf=>by go_simp) ?_
 refine bI 47 (.tmp 46) (((x:Nat):Value)) (ae af 1) (fun ρ h1 kk w9 (fK:Just (cB V5 w7) _ w9) hb hf=>by obtain rfl:=cw 0 aj hb;have hI:=hb.1;have c:=(hI.blk 8 rfl).cell 0;go_simp) ?_
 refine bI 48 (.tmp 8) (((y8:Nat):Value)) (.agg (i5 dK A6 c6)) (fun ρ h1 kk w9 (fK:Just (cB V5 w7) _ w9) hb hf=>by obtain rfl:=cw 0 aj hb;have hI:=hb.1;exact mI h1 rfl (fK.blk JX Ov) Tryz.underlying73 am) ?_
 refine cH 49 aj ak (bO aj) (Behind (dA w7.heap.size #[ae af 1,ae af 2,ae af 0,ae af 0,ae af 0,ae af 0,ae af 0,ai none 0 0,.string ⟨#[]⟩,ae af 0,ae af 0,ae af (4294967296+1),ae af 1,ae ah 0,ae af 0,ae af 0,ai none 0 0,ae af 0,ae af 0].toList)) (by rw[hK.out];rfl) 33 _ _ aj [.pointer (some ⟨q.r,0,none⟩),ae af 1,.agg (i5 dK A6 c6)] aj RO (fun kk w9 (fK:Just (cB V5 w7) _ w9) hb hf=>fN (φ:=Behind (dA w7.heap.size #[ae af 1,ae af 2,ae af 0,ae af 0,ae af 0,ae af 0,ae af 0,ai none 0 0,.string ⟨#[]⟩,ae af 0,ae af 0,ae af (4294967296+1),ae af 1,ae ah 0,ae af 0,ae af 0,ai none 0 0,ae af 0,ae af 0].toList)) 0 aj (by obtain rfl:=cw 0 aj hb;have hI:=hb.1;exact ((Solo.LY (ι:=Unit) (C:=fun _ e wq=>∃ u,e=.returned u∧dA w9.heap.size #[ae af 1,ae af 2,ae af 0,ae af 0,ae af 0,ae af 0,ae af 0,ai none 0 0,.string ⟨#[]⟩,ae af 0,ae af 0,ae af (4294967296+1),ae af 1,ae ah 0,ae af 0,ae af 0,ai none 0 0,ae af 0,ae af 0].toList u wq) (S':=fun _=>cW) 5 rfl wW hI (fun U hU ey Gv=>(uU w9 q.r A6 c6 (New w5 w6) U ⟨In.just Lp.1 fK hDn,Lp.2⟩ (fun b hb=>by have:=hb.2;have:=fK.size;omega) (fun b hb hu=>hDn b hb (Gv b hu)) hU ey).mono fun e wq h=>⟨(),h.1,trivial,h.2⟩)).mono fun e wq hq=>by obtain⟨_,⟨u,h1,h2⟩,h3,h4⟩:=hq;exact⟨u,h1,h3,h4,h2.mono fK.size⟩))) (fun v49=>?_)
 refine ce (fun _ _ w9 (fK:Just (cB V5 w7) _ w9) hend bR=>hT _ _ ?_)
 clear hops hA' hK hT
 simp only[cj,Act.put,aw,ay,az]
 have hO:dA w7.heap.size #[ae af 1,ae af 2,ae af 0,ae af 0,ae af 0,ae af 0,ae af 0,ai none 0 0,.string ⟨#[]⟩,ae af 0,ae af 0,ae af (4294967296+1),ae af 1,ae ah 0,ae af 0,ae af 0,ai none 0 0,ae af 0,ae af 0].toList v49 w9:=ja bR.1
 have iq:Solo (cB V5 w7) (Many (cS W q [] cW (A3 q.a)++[Cell ze 100 #[ae af 0,ae af 0,ae af 0,ae af 0,ae af 0,ae af 0,ae ah 0,ae af 0],Cell x 211 #[ae af 1,ae af 0,.slice A m c],Cell z 100 #[ae af 0,ae af 0,ae af 0,ae af 0,ae af 0,ae af 0,ae ah 0,ae af 0]])) w9:=hend
 clear bR
 have hBa:∀ w1,Grow w9 w1→Calls au 252 #[.agg (eW (4294967296+1) 1 0).toList.toArray] w1 fun en w'=>∃ v,en=.returned (.tuple #[v,ae af 0])∧Grow w1 w'∧bZ (frame (dZ (4294967296+1) 1 0)) v w':=fun w1 hg=>wn w1 (4294967296+1) 1 0 al al al
 have On:=ci W q [] cW (A3 q.a) cW.framed kP
 have hSd:=Solo.at_ 0 rfl ((((bM.nil.cons (Cell.framed z 100 #[ae af 0,ae af 0,ae af 0,ae af 0,ae af 0,ae af 0,ae ah 0,ae af 0])).cons (Cell.framed x 211 #[ae af 1,ae af 0,.slice A m c])).cons (Cell.framed ze 100 #[ae af 0,ae af 0,ae af 0,ae af 0,ae af 0,ae af 0,ae ah 0,ae af 0])).cons (Many.framed _ On)) (Solo.eG (l:=cS W q [] cW (A3 q.a)) iq) (fun U hU ey=>uJ w9 W q [] cW (A3 q.a) cW.framed kP 0 1 (eW (4294967296+1) 1 0).toList rfl rfl v49 _ hO (frame (dZ (4294967296+1) 1 0)) G0 hBa rfl rfl (by simp) U hU ey)
 refine fM 8 9 am am ?_
 simp only[aV,bw,ax,aB]
 go_wp2_with fail
 refine hSd.mono ?_
 rintro e wA ⟨rfl,RS,JZ⟩
 have JZ:Solo (cB V5 w7) (Many (cS W q [(0,1,frame (dZ (4294967296+1) 1 0))] cW (A3 q.a)++[Cell ze 100 #[ae af 0,ae af 0,ae af 0,ae af 0,ae af 0,ae af 0,ae ah 0,ae af 0],Cell x 211 #[ae af 1,ae af 0,.slice A m c],Cell z 100 #[ae af 0,ae af 0,ae af 0,ae af 0,ae af 0,ae af 0,ae ah 0,ae af 0]])) wA:=Solo.flat (l:=cS W q [(0,1,frame (dZ (4294967296+1) 1 0))] cW (A3 q.a)) JZ
 have M7:=bW (ci W q [(0,1,frame (dZ (4294967296+1) 1 0))] cW (A3 q.a) cW.framed kP) (((bM.nil.cons (Cell.framed z 100 #[ae af 0,ae af 0,ae af 0,ae af 0,ae af 0,ae af 0,ae ah 0,ae af 0])).cons (Cell.framed x 211 #[ae af 1,ae af 0,.slice A m c])).cons (Cell.framed ze 100 #[ae af 0,ae af 0,ae af 0,ae af 0,ae af 0,ae af 0,ae ah 0,ae af 0]))
 have JA:=fK.trans RS
 go_wp2_with fail
 refine eY ?_
 have Ow:=JZ.blk 7 rfl
 have Ox:=JZ.blk 9 rfl
 go_wp2_with (first|(refine bY rfl 100 _ rfl _ rfl (Ow) Tryz.underlying100 am ?_)|(refine ch rfl 100 _ _ rfl _ rfl [ae af 0,ae af 0,ae af 0,ae af 0,ae af 0,ae af 0,ae ah 0,ae af 0] rfl Ox rfl rfl am ?_;intro wB Lq Lr hsB;refine stay ?_))
 refine bV ?_
 have Oy:=JZ.turned 9 rfl M7 Lr Lq
 have JB:=JA.trans (Lr.imp fun b hb=>hb▸(JZ.ig 9 rfl).1)
 go_wp2_with fail
 refine bodyPost_ret (dr rfl _ z rfl Lq Tryz.underlying100 am) rfl ?_
 have Oz:Solo (cB V5 w7) (Many (cS W q [(0,1,frame (dZ (4294967296+1) 1 0))] cW (A3 q.a))) wB:=(Solo.perm (aG (l₁:=cS W q [(0,1,frame (dZ (4294967296+1) 1 0))] cW (A3 q.a)) (l₂:=[Cell ze 100 #[ae af 0,ae af 0,ae af 0,ae af 0,ae af 0,ae af 0,ae ah 0,ae af 0],Cell x 211 #[ae af 1,ae af 0,.slice A m c],Cell z 100 #[ae af 0,ae af 0,ae af 0,ae af 0,ae af 0,ae af 0,ae ah 0,ae af 0]])) Oy).drop1.drop1.drop1
 obtain⟨r1,r2⟩:=Solo.done Oz JB hl5
 have J9:Just (cB V w) w wB:=(J5.trans (Just.bJ Jl)).trans (r2.imp fun b hb=>(Jm b hb).1)
 have hSD:Solo (cB V w) (Many (cS W q [(0,1,frame (dZ (4294967296+1) 1 0))] cW (A3 q.a))) wB:=Solo.pr (fun b hb => .inr (aH J9.size hb)) r1 fun b hb=>by
  have h5:=J5.size
  have h2:=r2.size
  rcases hb with hb|hb
  ·exact⟨(Jm b hb).1,by have:=(Jm b hb).2;omega⟩
  ·exact⟨.inr (by have:=hb.1;omega),hb.2⟩
 obtain⟨s1,s2⟩:=Solo.done hSD J9 hV
 exact⟨rfl,s1,s2⟩
end Go.Proofs.YtmijcbfgfkeodaaGreatDoor
end
