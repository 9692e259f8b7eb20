/- Wd9. -/
import Derived.Test.YtmijcbfgfkeodaaGreatDoorIz41
set_option linter.all false
set_option maxRecDepth 100000
open Go.Value renaming int → ae,slice → ai
open Go.IntKind renaming i64 → af,u64 → ah
open Go.Proofs.Tryz renaming prog → au
open List renaming setIfInBounds_toArray → aw,drop_succ_cons → ax,set_cons_zero → ay,set_cons_succ → az,drop_zero → aB,not_mem_nil → aE,mem_cons → aF,perm_append_comm → aG,take_succ_cons → aV,take_zero → bw
section
namespace Go.Proofs.YtmijcbfgfkeodaaGreatDoor
open Go.RowKit Go.Hop V
theorem B1 (w:World) (W:Nat) (q:o5) (RT:cg) (iR:Framed RT) (V:Nat→Prop) (hM:Many (cS W q [] (RT) (A0 q.a)) w V) (hV:∀ b,V b→b<w.heap.size) :
 Calls au 116 #[((W:Nat):Value),.agg #[ae af 9,ae af 1,ae af 0,ae af 7,.string ei]] w fun e w'=>e=.returned (.agg #[ae af 0,ae af 0,ae af 0,ae af 0,ae af 0,ae af 0,ae ah 0,ae af 0])∧Many (cS W q [] (RT) (A1 q.a)) w' (Ext V w w')∧Just V w w':=by
 have iR:Framed (RT):=iR
 have kP:Framed (A0 q.a):=A0.framed q.a
 have hS0:=Solo.begin_ hM hV
 have dX:=ci W q [] (RT) (A0 q.a) iR kP
 have g1:=bN w (.cells #[ae af 9,ae af 1,ae af 0,ae af 7,.string ei] 98)
 have b1:=ct.made w 98 #[ae af 9,ae af 1,ae af 0,ae af 7,.string ei]
 have j_:=bN (w.alloc (.cells #[ae af 9,ae af 1,ae af 0,ae af 7,.string ei] 98)) (.cells #[ae af 0,ae af 0,ae af 0,ae af 0,ae af 0,ae af 0,ae ah 0,ae af 0] 100)
 have rY:=b1.grow j_
 have rW:=(hS0.blk 0 rfl).grow (g1.trans j_)
 unfold gG at rW
 have c0:=rY.cell 0
 have c1:=rY.cell 1
 have c2:=rY.cell 2
 have c3:=rY.cell 3
 have c4:=rY.cell 4
 obtain⟨y,HY⟩:∃ y:Nat,Hid (y=w.heap.size):=⟨_,rfl⟩
 obtain⟨wa,dq⟩:∃ wa:World,Hid (wa=w.alloc (.cells #[ae af 9,ae af 1,ae af 0,ae af 7,.string ei] 98)):=⟨_,rfl⟩
 have hz0:wa.heap.size=y+1:=by rw[dq.out,HY.out];simp
 rw[←dq.out] at g1 b1
 rw[←HY.out] at b1
 have g2:=bN wa (.cells #[ae af 0,ae af 0,ae af 0,ae af 0,ae af 0,ae af 0,ae ah 0,ae af 0] 100)
 have b2:=ct.made wa 100 #[ae af 0,ae af 0,ae af 0,ae af 0,ae af 0,ae af 0,ae ah 0,ae af 0]
 obtain⟨z,HZ⟩:∃ z:Nat,Hid (z=y+1):=⟨_,rfl⟩
 obtain⟨wb,ia⟩:∃ wb:World,Hid (wb=wa.alloc (.cells #[ae af 0,ae af 0,ae af 0,ae af 0,ae af 0,ae af 0,ae ah 0,ae af 0] 100)):=⟨_,rfl⟩
 rw[←ia.out] at g2 b2
 rw[hz0,←HZ.out] at b2
 have ez:=hS0.join dX g1 (R:=Cell y 98 #[ae af 9,ae af 1,ae af 0,ae af 7,.string ei]) (U:=fun b=>b=y) ⟨rfl,b1⟩ (fun b hb=>by have h8:b=y:=hb;have:=HY.out;have:=b1.lt;omega)
 have eP:=dX.cons (Cell.framed y 98 #[ae af 9,ae af 1,ae af 0,ae af 7,.string ei])
 have hSb:=ez.join eP g2 (R:=Cell z 100 #[ae af 0,ae af 0,ae af 0,ae af 0,ae af 0,ae af 0,ae ah 0,ae af 0]) (U:=fun b=>b=z) ⟨rfl,b2⟩ (fun b hb=>by have h8:b=z:=hb;have:=HZ.out;have:=b2.lt;omega)
 have hSb:Solo (cB V w) (Many (cS W q [] (RT) (A0 q.a)++[Cell z 100 #[ae af 0,ae af 0,ae af 0,ae af 0,ae af 0,ae af 0,ae ah 0,ae af 0],Cell y 98 #[ae af 9,ae af 1,ae af 0,ae af 7,.string ei]])) wb:=hSb.perm (aG (l₁:=[Cell z 100 #[ae af 0,ae af 0,ae af 0,ae af 0,ae af 0,ae af 0,ae ah 0,ae af 0],Cell y 98 #[ae af 9,ae af 1,ae af 0,ae af 7,.string ei]]))
 have iU:=bW dX ((bM.nil.cons (Cell.framed y 98 #[ae af 9,ae af 1,ae af 0,ae af 7,.string ei])).cons (Cell.framed z 100 #[ae af 0,ae af 0,ae af 0,ae af 0,ae af 0,ae af 0,ae ah 0,ae af 0]))
 have Jb:Just (cB V w) w wb:=(Just.bJ g1).trans (Just.bJ g2)
 have hyz:¬ (fun b=>b=z) y:=fun e=>by have e2:y=z:=e;have:=HZ.out;omega
 clear b1 b2 g1 g2 hz0 ez j_
 have hc:=Solo.at_ 0 rfl (((bM.nil.cons (Cell.framed y 98 #[ae af 9,ae af 1,ae af 0,ae af 7,.string ei])).cons (Cell.framed z 100 #[ae af 0,ae af 0,ae af 0,ae af 0,ae af 0,ae af 0,ae ah 0,ae af 0])).cons (Many.framed _ dX)) (Solo.eG (l:=cS W q [] (RT) (A0 q.a)) hSb) (fun U hU ey=>uR wb W q RT iR U hU ey)
 go_enter Tryz.func116,Tryz.ntmps116
 go_wp2_with fail
 rw[←dq.out,←HY.out,←ia.out,←HZ.out]
 clear c0 c1 c2 c3 c4
 refine hc.mono ?_
 rintro e w2 ⟨rfl,hj2,hS2⟩
 have hS2:Solo (cB V w) (Many (cS W q [] (RT) (A1 q.a)++[Cell z 100 #[ae af 0,ae af 0,ae af 0,ae af 0,ae af 0,ae af 0,ae ah 0,ae af 0],Cell y 98 #[ae af 9,ae af 1,ae af 0,ae af 7,.string ei]])) w2:=Solo.flat (l:=cS W q [] (RT) (A1 q.a)) hS2
 have hF2:=bW (ci W q [] (RT) (A1 q.a) (iR) (A1.framed q.a)) ((bM.nil.cons (Cell.framed y 98 #[ae af 9,ae af 1,ae af 0,ae af 7,.string ei])).cons (Cell.framed z 100 #[ae af 0,ae af 0,ae af 0,ae af 0,ae af 0,ae af 0,ae ah 0,ae af 0]))
 have J2:=Jb.trans hj2
 have uS:=hS2.blk 7 rfl
 go_wp2_with (refine ch rfl 100 _ _ rfl _ rfl [ae af 0,ae af 0,ae af 0,ae af 0,ae af 0,ae af 0,ae ah 0,ae af 0] rfl uS rfl rfl am ?_;intro w9 mE fK DC;refine stay ?_)
 refine bV ?_
 have iq:=hS2.turned 7 rfl hF2 fK mE
 have J9:=J2.trans (fK.imp fun b hb=>hb▸(hS2.ig 7 rfl).1)
 go_wp2_with fail
 refine bodyPost_ret (dr rfl _ z rfl mE Tryz.underlying100 am) rfl ?_
 have gZ:Solo (cB V w) (Many (cS W q [] (RT) (A1 q.a))) w9:=(Solo.perm (aG (l₁:=cS W q [] (RT) (A1 q.a)) (l₂:=[Cell z 100 #[ae af 0,ae af 0,ae af 0,ae af 0,ae af 0,ae af 0,ae ah 0,ae af 0],Cell y 98 #[ae af 9,ae af 1,ae af 0,ae af 7,.string ei]])) iq).drop1.drop1
 obtain⟨r1,r2⟩:=Solo.done gZ J9 hV
 exact⟨rfl,r1,r2⟩
theorem Ef (w:World) (W:Nat) (q:o5) (RT:cg) (iR:Framed RT) (V:Nat→Prop) (hM:Many (cS W q [] (RT) (A1 q.a)) w V) (hV:∀ b,V b→b<w.heap.size) :
 Calls au 116 #[((W:Nat):Value),.agg #[ae af 10,ae af 1,ae af 0,ae af 0,.string ⟨#[]⟩]] w fun e w'=>e=.returned (.agg #[ae af 0,ae af 0,ae af 1,ae af 0,ae af 0,ae af 0,ae ah 0,ae af 0])∧Many (cS W q [] (RT) (A2 q.a)) w' (Ext V w w')∧Just V w w':=by
 have iR:Framed (RT):=iR
 have kP:Framed (A1 q.a):=A1.framed q.a
 have hS0:=Solo.begin_ hM hV
 have dX:=ci W q [] (RT) (A1 q.a) iR kP
 have g1:=bN w (.cells #[ae af 10,ae af 1,ae af 0,ae af 0,.string ⟨#[]⟩] 98)
 have b1:=ct.made w 98 #[ae af 10,ae af 1,ae af 0,ae af 0,.string ⟨#[]⟩]
 have j_:=bN (w.alloc (.cells #[ae af 10,ae af 1,ae af 0,ae af 0,.string ⟨#[]⟩] 98)) (.cells #[ae af 0,ae af 0,ae af 0,ae af 0,ae af 0,ae af 0,ae ah 0,ae af 0] 100)
 have rY:=b1.grow j_
 have rW:=(hS0.blk 0 rfl).grow (g1.trans j_)
 unfold gG at rW
 have c0:=rY.cell 0
 have c1:=rY.cell 1
 have c2:=rY.cell 2
 have c3:=rY.cell 3
 have c4:=rY.cell 4
 obtain⟨y,HY⟩:∃ y:Nat,Hid (y=w.heap.size):=⟨_,rfl⟩
 obtain⟨wa,dq⟩:∃ wa:World,Hid (wa=w.alloc (.cells #[ae af 10,ae af 1,ae af 0,ae af 0,.string ⟨#[]⟩] 98)):=⟨_,rfl⟩
 have hz0:wa.heap.size=y+1:=by rw[dq.out,HY.out];simp
 rw[←dq.out] at g1 b1
 rw[←HY.out] at b1
 have g2:=bN wa (.cells #[ae af 0,ae af 0,ae af 0,ae af 0,ae af 0,ae af 0,ae ah 0,ae af 0] 100)
 have b2:=ct.made wa 100 #[ae af 0,ae af 0,ae af 0,ae af 0,ae af 0,ae af 0,ae ah 0,ae af 0]
 obtain⟨z,HZ⟩:∃ z:Nat,Hid (z=y+1):=⟨_,rfl⟩
 obtain⟨wb,ia⟩:∃ wb:World,Hid (wb=wa.alloc (.cells #[ae af 0,ae af 0,ae af 0,ae af 0,ae af 0,ae af 0,ae ah 0,ae af 0] 100)):=⟨_,rfl⟩
 rw[←ia.out] at g2 b2
 rw[hz0,←HZ.out] at b2
 have ez:=hS0.join dX g1 (R:=Cell y 98 #[ae af 10,ae af 1,ae af 0,ae af 0,.string ⟨#[]⟩]) (U:=fun b=>b=y) ⟨rfl,b1⟩ (fun b hb=>by have h8:b=y:=hb;have:=HY.out;have:=b1.lt;omega)
 have eP:=dX.cons (Cell.framed y 98 #[ae af 10,ae af 1,ae af 0,ae af 0,.string ⟨#[]⟩])
 have hSb:=ez.join eP g2 (R:=Cell z 100 #[ae af 0,ae af 0,ae af 0,ae af 0,ae af 0,ae af 0,ae ah 0,ae af 0]) (U:=fun b=>b=z) ⟨rfl,b2⟩ (fun b hb=>by have h8:b=z:=hb;have:=HZ.out;have:=b2.lt;omega)
 have hSb:Solo (cB V w) (Many (cS W q [] (RT) (A1 q.a)++[Cell z 100 #[ae af 0,ae af 0,ae af 0,ae af 0,ae af 0,ae af 0,ae ah 0,ae af 0],Cell y 98 #[ae af 10,ae af 1,ae af 0,ae af 0,.string ⟨#[]⟩]])) wb:=hSb.perm (aG (l₁:=[Cell z 100 #[ae af 0,ae af 0,ae af 0,ae af 0,ae af 0,ae af 0,ae ah 0,ae af 0],Cell y 98 #[ae af 10,ae af 1,ae af 0,ae af 0,.string ⟨#[]⟩]]))
 have iU:=bW dX ((bM.nil.cons (Cell.framed y 98 #[ae af 10,ae af 1,ae af 0,ae af 0,.string ⟨#[]⟩])).cons (Cell.framed z 100 #[ae af 0,ae af 0,ae af 0,ae af 0,ae af 0,ae af 0,ae ah 0,ae af 0]))
 have Jb:Just (cB V w) w wb:=(Just.bJ g1).trans (Just.bJ g2)
 have hyz:¬ (fun b=>b=z) y:=fun e=>by have e2:y=z:=e;have:=HZ.out;omega
 clear b1 b2 g1 g2 hz0 ez j_
 have hc:=Solo.at_ 0 rfl (((bM.nil.cons (Cell.framed y 98 #[ae af 10,ae af 1,ae af 0,ae af 0,.string ⟨#[]⟩])).cons (Cell.framed z 100 #[ae af 0,ae af 0,ae af 0,ae af 0,ae af 0,ae af 0,ae ah 0,ae af 0])).cons (Many.framed _ dX)) (Solo.eG (l:=cS W q [] (RT) (A1 q.a)) hSb) (fun U hU ey=>xG wb W q RT iR U hU ey)
 go_enter Tryz.func116,Tryz.ntmps116
 go_wp2_with fail
 rw[←dq.out,←HY.out,←ia.out,←HZ.out]
 clear c0 c1 c2 c3 c4
 refine hc.mono ?_
 rintro e w2 ⟨rfl,hj2,hS2⟩
 have hS2:Solo (cB V w) (Many (cS W q [] (RT) (A2 q.a)++[Cell z 100 #[ae af 0,ae af 0,ae af 0,ae af 0,ae af 0,ae af 0,ae ah 0,ae af 0],Cell y 98 #[ae af 10,ae af 1,ae af 0,ae af 0,.string ⟨#[]⟩]])) w2:=Solo.flat (l:=cS W q [] (RT) (A2 q.a)) hS2
 have hF2:=bW (ci W q [] (RT) (A2 q.a) (iR) (A2.framed q.a)) ((bM.nil.cons (Cell.framed y 98 #[ae af 10,ae af 1,ae af 0,ae af 0,.string ⟨#[]⟩])).cons (Cell.framed z 100 #[ae af 0,ae af 0,ae af 0,ae af 0,ae af 0,ae af 0,ae ah 0,ae af 0]))
 have J2:=Jb.trans hj2
 have uS:=hS2.blk 7 rfl
 go_wp2_with (refine ch rfl 100 _ _ rfl _ rfl [ae af 0,ae af 0,ae af 1,ae af 0,ae af 0,ae af 0,ae ah 0,ae af 0] rfl uS rfl rfl am ?_;intro w9 mE fK DC;refine stay ?_)
 refine bV ?_
 have iq:=hS2.turned 7 rfl hF2 fK mE
 have J9:=J2.trans (fK.imp fun b hb=>hb▸(hS2.ig 7 rfl).1)
 go_wp2_with fail
 refine bodyPost_ret (dr rfl _ z rfl mE Tryz.underlying100 am) rfl ?_
 have gZ:Solo (cB V w) (Many (cS W q [] (RT) (A2 q.a))) w9:=(Solo.perm (aG (l₁:=cS W q [] (RT) (A2 q.a)) (l₂:=[Cell z 100 #[ae af 0,ae af 0,ae af 1,ae af 0,ae af 0,ae af 0,ae ah 0,ae af 0],Cell y 98 #[ae af 10,ae af 1,ae af 0,ae af 0,.string ⟨#[]⟩]])) iq).drop1.drop1
 obtain⟨r1,r2⟩:=Solo.done gZ J9 hV
 exact⟨rfl,r1,r2⟩
theorem G1 (w:World) (W:Nat) (q:o5) (RT:cg) (iR:Framed RT) (V:Nat→Prop) (hM:Many (cS W q [] (RT) (A2 q.a)) w V) (hV:∀ b,V b→b<w.heap.size) :
 Calls au 116 #[((W:Nat):Value),.agg #[ae af 1,ae af 1,ae af 0,ae af 1,.string ⟨#[]⟩]] w fun e w'=>e=.returned (.agg #[ae af 0,ae af 1,ae af 0,ae af 0,ae af 0,ae af 0,ae ah 0,ae af 0])∧Many (cS W q [(1,0,frame (dV dK))] (RT) (A3 q.a)) w' (Ext V w w')∧Just V w w':=by
 have iR:Framed (RT):=iR
 have kP:Framed (A2 q.a):=A2.framed q.a
 have hS0:=Solo.begin_ hM hV
 have dX:=ci W q [] (RT) (A2 q.a) iR kP
 have g1:=bN w (.cells #[ae af 1,ae af 1,ae af 0,ae af 1,.string ⟨#[]⟩] 98)
 have b1:=ct.made w 98 #[ae af 1,ae af 1,ae af 0,ae af 1,.string ⟨#[]⟩]
 have j_:=bN (w.alloc (.cells #[ae af 1,ae af 1,ae af 0,ae af 1,.string ⟨#[]⟩] 98)) (.cells #[ae af 0,ae af 0,ae af 0,ae af 0,ae af 0,ae af 0,ae ah 0,ae af 0] 100)
 have rY:=b1.grow j_
 have rW:=(hS0.blk 0 rfl).grow (g1.trans j_)
 unfold gG at rW
 have c0:=rY.cell 0
 have c1:=rY.cell 1
 have c2:=rY.cell 2
 have c3:=rY.cell 3
 have c4:=rY.cell 4
 obtain⟨y,HY⟩:∃ y:Nat,Hid (y=w.heap.size):=⟨_,rfl⟩
 obtain⟨wa,dq⟩:∃ wa:World,Hid (wa=w.alloc (.cells #[ae af 1,ae af 1,ae af 0,ae af 1,.string ⟨#[]⟩] 98)):=⟨_,rfl⟩
 have hz0:wa.heap.size=y+1:=by rw[dq.out,HY.out];simp
 rw[←dq.out] at g1 b1
 rw[←HY.out] at b1
 have g2:=bN wa (.cells #[ae af 0,ae af 0,ae af 0,ae af 0,ae af 0,ae af 0,ae ah 0,ae af 0] 100)
 have b2:=ct.made wa 100 #[ae af 0,ae af 0,ae af 0,ae af 0,ae af 0,ae af 0,ae ah 0,ae af 0]
 obtain⟨z,HZ⟩:∃ z:Nat,Hid (z=y+1):=⟨_,rfl⟩
 obtain⟨wb,ia⟩:∃ wb:World,Hid (wb=wa.alloc (.cells #[ae af 0,ae af 0,ae af 0,ae af 0,ae af 0,ae af 0,ae ah 0,ae af 0] 100)):=⟨_,rfl⟩
 rw[←ia.out] at g2 b2
 rw[hz0,←HZ.out] at b2
 have ez:=hS0.join dX g1 (R:=Cell y 98 #[ae af 1,ae af 1,ae af 0,ae af 1,.string ⟨#[]⟩]) (U:=fun b=>b=y) ⟨rfl,b1⟩ (fun b hb=>by have h8:b=y:=hb;have:=HY.out;have:=b1.lt;omega)
 have eP:=dX.cons (Cell.framed y 98 #[ae af 1,ae af 1,ae af 0,ae af 1,.string ⟨#[]⟩])
 have hSb:=ez.join eP g2 (R:=Cell z 100 #[ae af 0,ae af 0,ae af 0,ae af 0,ae af 0,ae af 0,ae ah 0,ae af 0]) (U:=fun b=>b=z) ⟨rfl,b2⟩ (fun b hb=>by have h8:b=z:=hb;have:=HZ.out;have:=b2.lt;omega)
 have hSb:Solo (cB V w) (Many (cS W q [] (RT) (A2 q.a)++[Cell z 100 #[ae af 0,ae af 0,ae af 0,ae af 0,ae af 0,ae af 0,ae ah 0,ae af 0],Cell y 98 #[ae af 1,ae af 1,ae af 0,ae af 1,.string ⟨#[]⟩]])) wb:=hSb.perm (aG (l₁:=[Cell z 100 #[ae af 0,ae af 0,ae af 0,ae af 0,ae af 0,ae af 0,ae ah 0,ae af 0],Cell y 98 #[ae af 1,ae af 1,ae af 0,ae af 1,.string ⟨#[]⟩]]))
 have iU:=bW dX ((bM.nil.cons (Cell.framed y 98 #[ae af 1,ae af 1,ae af 0,ae af 1,.string ⟨#[]⟩])).cons (Cell.framed z 100 #[ae af 0,ae af 0,ae af 0,ae af 0,ae af 0,ae af 0,ae ah 0,ae af 0]))
 have Jb:Just (cB V w) w wb:=(Just.bJ g1).trans (Just.bJ g2)
 have hyz:¬ (fun b=>b=z) y:=fun e=>by have e2:y=z:=e;have:=HZ.out;omega
 clear b1 b2 g1 g2 hz0 ez j_
 have hc:=Solo.at_ 0 rfl (((bM.nil.cons (Cell.framed y 98 #[ae af 1,ae af 1,ae af 0,ae af 1,.string ⟨#[]⟩])).cons (Cell.framed z 100 #[ae af 0,ae af 0,ae af 0,ae af 0,ae af 0,ae af 0,ae ah 0,ae af 0])).cons (Many.framed _ dX)) (Solo.eG (l:=cS W q [] (RT) (A2 q.a)) hSb) (fun U hU ey=>Ed wb W q RT iR U hU ey)
 go_enter Tryz.func116,Tryz.ntmps116
 go_wp2_with fail
 rw[←dq.out,←HY.out,←ia.out,←HZ.out]
 clear c0 c1 c2 c3 c4
 refine hc.mono ?_
 rintro e w2 ⟨rfl,hj2,hS2⟩
 have hS2:Solo (cB V w) (Many (cS W q [(1,0,frame (dV dK))] (RT) (A3 q.a)++[Cell z 100 #[ae af 0,ae af 0,ae af 0,ae af 0,ae af 0,ae af 0,ae ah 0,ae af 0],Cell y 98 #[ae af 1,ae af 1,ae af 0,ae af 1,.string ⟨#[]⟩]])) w2:=Solo.flat (l:=cS W q [(1,0,frame (dV dK))] (RT) (A3 q.a)) hS2
 have hF2:=bW (ci W q [(1,0,frame (dV dK))] (RT) (A3 q.a) (iR) (A3.framed q.a)) ((bM.nil.cons (Cell.framed y 98 #[ae af 1,ae af 1,ae af 0,ae af 1,.string ⟨#[]⟩])).cons (Cell.framed z 100 #[ae af 0,ae af 0,ae af 0,ae af 0,ae af 0,ae af 0,ae ah 0,ae af 0]))
 have J2:=Jb.trans hj2
 have uS:=hS2.blk 7 rfl
 go_wp2_with (refine ch rfl 100 _ _ rfl _ rfl [ae af 0,ae af 1,ae af 0,ae af 0,ae af 0,ae af 0,ae ah 0,ae af 0] rfl uS rfl rfl am ?_;intro w9 mE fK DC;refine stay ?_)
 refine bV ?_
 have iq:=hS2.turned 7 rfl hF2 fK mE
 have J9:=J2.trans (fK.imp fun b hb=>hb▸(hS2.ig 7 rfl).1)
 go_wp2_with fail
 refine bodyPost_ret (dr rfl _ z rfl mE Tryz.underlying100 am) rfl ?_
 have gZ:Solo (cB V w) (Many (cS W q [(1,0,frame (dV dK))] (RT) (A3 q.a))) w9:=(Solo.perm (aG (l₁:=cS W q [(1,0,frame (dV dK))] (RT) (A3 q.a)) (l₂:=[Cell z 100 #[ae af 0,ae af 1,ae af 0,ae af 0,ae af 0,ae af 0,ae ah 0,ae af 0],Cell y 98 #[ae af 1,ae af 1,ae af 0,ae af 1,.string ⟨#[]⟩]])) iq).drop1.drop1
 obtain⟨r1,r2⟩:=Solo.done gZ J9 hV
 exact⟨rfl,r1,r2⟩
theorem Jn (w:World) (W:Nat) (q:o5) (V:Nat→Prop) (hM:Many (cS W q [(1,0,frame (dV dK))] (R1 q.r) (A3 q.a)) w V) (hV:∀ b,V b→b<w.heap.size) :
 Calls au 116 #[((W:Nat):Value),.agg #[ae af 2,ae af 0,ae af 0,ae af 0,.string ⟨#[]⟩]] w fun e w'=>e=.returned (.agg #[ae af 0,ae af 0,ae af 0,ae af 0,ae af 0,ae af 0,ae ah 0,ae af 0])∧Many (cS W q [(0,1,frame (dZ (4294967296+1) 1 0))] (cW) (A3 q.a)) w' (Ext V w w')∧Just V w w':=by
 have iR:Framed (R1 q.r):=R1.framed q.r
 have kP:Framed (A3 q.a):=A3.framed q.a
 have hS0:=Solo.begin_ hM hV
 have dX:=ci W q [(1,0,frame (dV dK))] (R1 q.r) (A3 q.a) iR kP
 have g1:=bN w (.cells #[ae af 2,ae af 0,ae af 0,ae af 0,.string ⟨#[]⟩] 98)
 have b1:=ct.made w 98 #[ae af 2,ae af 0,ae af 0,ae af 0,.string ⟨#[]⟩]
 have j_:=bN (w.alloc (.cells #[ae af 2,ae af 0,ae af 0,ae af 0,.string ⟨#[]⟩] 98)) (.cells #[ae af 0,ae af 0,ae af 0,ae af 0,ae af 0,ae af 0,ae ah 0,ae af 0] 100)
 have rY:=b1.grow j_
 have rW:=(hS0.blk 0 rfl).grow (g1.trans j_)
 unfold gG at rW
 have c0:=rY.cell 0
 have c1:=rY.cell 1
 have c2:=rY.cell 2
 have c3:=rY.cell 3
 have c4:=rY.cell 4
 obtain⟨y,HY⟩:∃ y:Nat,Hid (y=w.heap.size):=⟨_,rfl⟩
 obtain⟨wa,dq⟩:∃ wa:World,Hid (wa=w.alloc (.cells #[ae af 2,ae af 0,ae af 0,ae af 0,.string ⟨#[]⟩] 98)):=⟨_,rfl⟩
 have hz0:wa.heap.size=y+1:=by rw[dq.out,HY.out];simp
 rw[←dq.out] at g1 b1
 rw[←HY.out] at b1
 have g2:=bN wa (.cells #[ae af 0,ae af 0,ae af 0,ae af 0,ae af 0,ae af 0,ae ah 0,ae af 0] 100)
 have b2:=ct.made wa 100 #[ae af 0,ae af 0,ae af 0,ae af 0,ae af 0,ae af 0,ae ah 0,ae af 0]
 obtain⟨z,HZ⟩:∃ z:Nat,Hid (z=y+1):=⟨_,rfl⟩
 obtain⟨wb,ia⟩:∃ wb:World,Hid (wb=wa.alloc (.cells #[ae af 0,ae af 0,ae af 0,ae af 0,ae af 0,ae af 0,ae ah 0,ae af 0] 100)):=⟨_,rfl⟩
 rw[←ia.out] at g2 b2
 rw[hz0,←HZ.out] at b2
 have ez:=hS0.join dX g1 (R:=Cell y 98 #[ae af 2,ae af 0,ae af 0,ae af 0,.string ⟨#[]⟩]) (U:=fun b=>b=y) ⟨rfl,b1⟩ (fun b hb=>by have h8:b=y:=hb;have:=HY.out;have:=b1.lt;omega)
 have eP:=dX.cons (Cell.framed y 98 #[ae af 2,ae af 0,ae af 0,ae af 0,.string ⟨#[]⟩])
 have hSb:=ez.join eP g2 (R:=Cell z 100 #[ae af 0,ae af 0,ae af 0,ae af 0,ae af 0,ae af 0,ae ah 0,ae af 0]) (U:=fun b=>b=z) ⟨rfl,b2⟩ (fun b hb=>by have h8:b=z:=hb;have:=HZ.out;have:=b2.lt;omega)
 have hSb:Solo (cB V w) (Many (cS W q [(1,0,frame (dV dK))] (R1 q.r) (A3 q.a)++[Cell z 100 #[ae af 0,ae af 0,ae af 0,ae af 0,ae af 0,ae af 0,ae ah 0,ae af 0],Cell y 98 #[ae af 2,ae af 0,ae af 0,ae af 0,.string ⟨#[]⟩]])) wb:=hSb.perm (aG (l₁:=[Cell z 100 #[ae af 0,ae af 0,ae af 0,ae af 0,ae af 0,ae af 0,ae ah 0,ae af 0],Cell y 98 #[ae af 2,ae af 0,ae af 0,ae af 0,.string ⟨#[]⟩]]))
 have iU:=bW dX ((bM.nil.cons (Cell.framed y 98 #[ae af 2,ae af 0,ae af 0,ae af 0,.string ⟨#[]⟩])).cons (Cell.framed z 100 #[ae af 0,ae af 0,ae af 0,ae af 0,ae af 0,ae af 0,ae ah 0,ae af 0]))
 have Jb:Just (cB V w) w wb:=(Just.bJ g1).trans (Just.bJ g2)
 have hyz:¬ (fun b=>b=z) y:=fun e=>by have e2:y=z:=e;have:=HZ.out;omega
 clear b1 b2 g1 g2 hz0 ez j_
 have hc:=Solo.at_ 0 rfl (((bM.nil.cons (Cell.framed y 98 #[ae af 2,ae af 0,ae af 0,ae af 0,.string ⟨#[]⟩])).cons (Cell.framed z 100 #[ae af 0,ae af 0,ae af 0,ae af 0,ae af 0,ae af 0,ae ah 0,ae af 0])).cons (Many.framed _ dX)) (Solo.eG (l:=cS W q [(1,0,frame (dV dK))] (R1 q.r) (A3 q.a)) hSb) (fun U hU ey=>uV wb W q U hU ey)
 go_enter Tryz.func116,Tryz.ntmps116
 go_wp2_with fail
 rw[←dq.out,←HY.out,←ia.out,←HZ.out]
 clear c0 c1 c2 c3 c4
 refine hc.mono ?_
 rintro e w2 ⟨rfl,hj2,hS2⟩
 have hS2:Solo (cB V w) (Many (cS W q [(0,1,frame (dZ (4294967296+1) 1 0))] (cW) (A3 q.a)++[Cell z 100 #[ae af 0,ae af 0,ae af 0,ae af 0,ae af 0,ae af 0,ae ah 0,ae af 0],Cell y 98 #[ae af 2,ae af 0,ae af 0,ae af 0,.string ⟨#[]⟩]])) w2:=Solo.flat (l:=cS W q [(0,1,frame (dZ (4294967296+1) 1 0))] (cW) (A3 q.a)) hS2
 have hF2:=bW (ci W q [(0,1,frame (dZ (4294967296+1) 1 0))] (cW) (A3 q.a) (cW.framed) (A3.framed q.a)) ((bM.nil.cons (Cell.framed y 98 #[ae af 2,ae af 0,ae af 0,ae af 0,.string ⟨#[]⟩])).cons (Cell.framed z 100 #[ae af 0,ae af 0,ae af 0,ae af 0,ae af 0,ae af 0,ae ah 0,ae af 0]))
 have J2:=Jb.trans hj2
 have uS:=hS2.blk 7 rfl
 go_wp2_with (refine ch rfl 100 _ _ rfl _ rfl [ae af 0,ae af 0,ae af 0,ae af 0,ae af 0,ae af 0,ae ah 0,ae af 0] rfl uS rfl rfl am ?_;intro w9 mE fK DC;refine stay ?_)
 refine bV ?_
 have iq:=hS2.turned 7 rfl hF2 fK mE
 have J9:=J2.trans (fK.imp fun b hb=>hb▸(hS2.ig 7 rfl).1)
 go_wp2_with fail
 refine bodyPost_ret (dr rfl _ z rfl mE Tryz.underlying100 am) rfl ?_
 have gZ:Solo (cB V w) (Many (cS W q [(0,1,frame (dZ (4294967296+1) 1 0))] (cW) (A3 q.a))) w9:=(Solo.perm (aG (l₁:=cS W q [(0,1,frame (dZ (4294967296+1) 1 0))] (cW) (A3 q.a)) (l₂:=[Cell z 100 #[ae af 0,ae af 0,ae af 0,ae af 0,ae af 0,ae af 0,ae ah 0,ae af 0],Cell y 98 #[ae af 2,ae af 0,ae af 0,ae af 0,.string ⟨#[]⟩]])) iq).drop1.drop1
 obtain⟨r1,r2⟩:=Solo.done gZ J9 hV
 exact⟨rfl,r1,r2⟩
theorem B4 (w:World) (W:Nat) (q:o5) (V:Nat→Prop) (hM:Many (cS W q [(0,1,frame (dZ (4294967296+1) 1 0))] (cW) (A3 q.a)) w V) (hV:∀ b,V b→b<w.heap.size) :
 Calls au 116 #[((W:Nat):Value),.agg #[ae af 2,ae af 0,ae af 0,ae af 0,.string ⟨#[]⟩]] w fun e w'=>e=.returned (.agg #[ae af 0,ae af 1,ae af 1,ae af ((1:Nat):Int),ae af 0,ae af 1,ae ah 0,ae af 0])∧Many (cS W q [] (cW) (cW)) w' (Ext V w w')∧Just V w w':=by
 have iR:Framed (cW):=cW.framed
 have kP:Framed (A3 q.a):=A3.framed q.a
 have hS0:=Solo.begin_ hM hV
 have dX:=ci W q [(0,1,frame (dZ (4294967296+1) 1 0))] (cW) (A3 q.a) iR kP
 have g1:=bN w (.cells #[ae af 2,ae af 0,ae af 0,ae af 0,.string ⟨#[]⟩] 98)
 have b1:=ct.made w 98 #[ae af 2,ae af 0,ae af 0,ae af 0,.string ⟨#[]⟩]
 have j_:=bN (w.alloc (.cells #[ae af 2,ae af 0,ae af 0,ae af 0,.string ⟨#[]⟩] 98)) (.cells #[ae af 0,ae af 0,ae af 0,ae af 0,ae af 0,ae af 0,ae ah 0,ae af 0] 100)
 have rY:=b1.grow j_
 have rW:=(hS0.blk 0 rfl).grow (g1.trans j_)
 unfold gG at rW
 have c0:=rY.cell 0
 have c1:=rY.cell 1
 have c2:=rY.cell 2
 have c3:=rY.cell 3
 have c4:=rY.cell 4
 obtain⟨y,HY⟩:∃ y:Nat,Hid (y=w.heap.size):=⟨_,rfl⟩
 obtain⟨wa,dq⟩:∃ wa:World,Hid (wa=w.alloc (.cells #[ae af 2,ae af 0,ae af 0,ae af 0,.string ⟨#[]⟩] 98)):=⟨_,rfl⟩
 have hz0:wa.heap.size=y+1:=by rw[dq.out,HY.out];simp
 rw[←dq.out] at g1 b1
 rw[←HY.out] at b1
 have g2:=bN wa (.cells #[ae af 0,ae af 0,ae af 0,ae af 0,ae af 0,ae af 0,ae ah 0,ae af 0] 100)
 have b2:=ct.made wa 100 #[ae af 0,ae af 0,ae af 0,ae af 0,ae af 0,ae af 0,ae ah 0,ae af 0]
 obtain⟨z,HZ⟩:∃ z:Nat,Hid (z=y+1):=⟨_,rfl⟩
 obtain⟨wb,ia⟩:∃ wb:World,Hid (wb=wa.alloc (.cells #[ae af 0,ae af 0,ae af 0,ae af 0,ae af 0,ae af 0,ae ah 0,ae af 0] 100)):=⟨_,rfl⟩
 rw[←ia.out] at g2 b2
 rw[hz0,←HZ.out] at b2
 have ez:=hS0.join dX g1 (R:=Cell y 98 #[ae af 2,ae af 0,ae af 0,ae af 0,.string ⟨#[]⟩]) (U:=fun b=>b=y) ⟨rfl,b1⟩ (fun b hb=>by have h8:b=y:=hb;have:=HY.out;have:=b1.lt;omega)
 have eP:=dX.cons (Cell.framed y 98 #[ae af 2,ae af 0,ae af 0,ae af 0,.string ⟨#[]⟩])
 have hSb:=ez.join eP g2 (R:=Cell z 100 #[ae af 0,ae af 0,ae af 0,ae af 0,ae af 0,ae af 0,ae ah 0,ae af 0]) (U:=fun b=>b=z) ⟨rfl,b2⟩ (fun b hb=>by have h8:b=z:=hb;have:=HZ.out;have:=b2.lt;omega)
 have hSb:Solo (cB V w) (Many (cS W q [(0,1,frame (dZ (4294967296+1) 1 0))] (cW) (A3 q.a)++[Cell z 100 #[ae af 0,ae af 0,ae af 0,ae af 0,ae af 0,ae af 0,ae ah 0,ae af 0],Cell y 98 #[ae af 2,ae af 0,ae af 0,ae af 0,.string ⟨#[]⟩]])) wb:=hSb.perm (aG (l₁:=[Cell z 100 #[ae af 0,ae af 0,ae af 0,ae af 0,ae af 0,ae af 0,ae ah 0,ae af 0],Cell y 98 #[ae af 2,ae af 0,ae af 0,ae af 0,.string ⟨#[]⟩]]))
 have iU:=bW dX ((bM.nil.cons (Cell.framed y 98 #[ae af 2,ae af 0,ae af 0,ae af 0,.string ⟨#[]⟩])).cons (Cell.framed z 100 #[ae af 0,ae af 0,ae af 0,ae af 0,ae af 0,ae af 0,ae ah 0,ae af 0]))
 have Jb:Just (cB V w) w wb:=(Just.bJ g1).trans (Just.bJ g2)
 have hyz:¬ (fun b=>b=z) y:=fun e=>by have e2:y=z:=e;have:=HZ.out;omega
 clear b1 b2 g1 g2 hz0 ez j_
 have hc:=Solo.at_ 0 rfl (((bM.nil.cons (Cell.framed y 98 #[ae af 2,ae af 0,ae af 0,ae af 0,.string ⟨#[]⟩])).cons (Cell.framed z 100 #[ae af 0,ae af 0,ae af 0,ae af 0,ae af 0,ae af 0,ae ah 0,ae af 0])).cons (Many.framed _ dX)) (Solo.eG (l:=cS W q [(0,1,frame (dZ (4294967296+1) 1 0))] (cW) (A3 q.a)) hSb) (fun U hU ey=>uW wb W q U hU ey)
 go_enter Tryz.func116,Tryz.ntmps116
 go_wp2_with fail
 rw[←dq.out,←HY.out,←ia.out,←HZ.out]
 clear c0 c1 c2 c3 c4
 refine hc.mono ?_
 rintro e w2 ⟨rfl,hj2,hS2⟩
 have hS2:Solo (cB V w) (Many (cS W q [] (cW) (cW)++[Cell z 100 #[ae af 0,ae af 0,ae af 0,ae af 0,ae af 0,ae af 0,ae ah 0,ae af 0],Cell y 98 #[ae af 2,ae af 0,ae af 0,ae af 0,.string ⟨#[]⟩]])) w2:=Solo.flat (l:=cS W q [] (cW) (cW)) hS2
 have hF2:=bW (ci W q [] (cW) (cW) (cW.framed) (cW.framed)) ((bM.nil.cons (Cell.framed y 98 #[ae af 2,ae af 0,ae af 0,ae af 0,.string ⟨#[]⟩])).cons (Cell.framed z 100 #[ae af 0,ae af 0,ae af 0,ae af 0,ae af 0,ae af 0,ae ah 0,ae af 0]))
 have J2:=Jb.trans hj2
 have uS:=hS2.blk 7 rfl
 go_wp2_with (refine ch rfl 100 _ _ rfl _ rfl [ae af 0,ae af 1,ae af 1,ae af ((1:Nat):Int),ae af 0,ae af 1,ae ah 0,ae af 0] rfl uS rfl rfl am ?_;intro w9 mE fK DC;refine stay ?_)
 refine bV ?_
 have iq:=hS2.turned 7 rfl hF2 fK mE
 have J9:=J2.trans (fK.imp fun b hb=>hb▸(hS2.ig 7 rfl).1)
 go_wp2_with fail
 refine bodyPost_ret (dr rfl _ z rfl mE Tryz.underlying100 am) rfl ?_
 have gZ:Solo (cB V w) (Many (cS W q [] (cW) (cW))) w9:=(Solo.perm (aG (l₁:=cS W q [] (cW) (cW)) (l₂:=[Cell z 100 #[ae af 0,ae af 1,ae af 1,ae af ((1:Nat):Int),ae af 0,ae af 1,ae ah 0,ae af 0],Cell y 98 #[ae af 2,ae af 0,ae af 0,ae af 0,.string ⟨#[]⟩]])) iq).drop1.drop1
 obtain⟨r1,r2⟩:=Solo.done gZ J9 hV
 exact⟨rfl,r1,r2⟩
theorem G2 (w:World) (W:Nat) (q:o5) (AT:cg) (kP:Framed AT) (V:Nat→Prop) (hM:Many (cS W q [] (R0 q.r) AT) w V) (hV:∀ b,V b→b<w.heap.size) :
 Calls au 116 #[((W:Nat):Value),.agg #[ae af 8,ae af 0,ae af 0,ae af 0,.string ⟨#[]⟩]] w fun e w'=>e=.returned (.agg #[ae af 0,ae af 0,ae af 0,ae af 0,ae af 0,ae af 0,ae ah 0,ae af 0])∧Many (cS W q [] (R1 q.r) AT) w' (Ext V w w')∧Just V w w':=by
 have RV:∀ (vs:Array Value) (w:World),(callFunc 32 vs).run au w=.ok (.enter 32 vs) w:=fun vs w=>by go_simp
 have iR:=R0.framed q.r
 have hS0:=Solo.begin_ hM hV
 have dX:=ci W q [] (R0 q.r) (AT) iR kP
 have g1:=bN w (.cells #[ae af 8,ae af 0,ae af 0,ae af 0,.string ⟨#[]⟩] 98)
 have b1:=ct.made w 98 #[ae af 8,ae af 0,ae af 0,ae af 0,.string ⟨#[]⟩]
 have j_:=bN (w.alloc (.cells #[ae af 8,ae af 0,ae af 0,ae af 0,.string ⟨#[]⟩] 98)) (.cells #[ae af 0,ae af 0,ae af 0,ae af 0,ae af 0,ae af 0,ae ah 0,ae af 0] 100)
 have rY:=b1.grow j_
 have rW:=(hS0.blk 0 rfl).grow (g1.trans j_)
 unfold gG at rW
 have c0:=rY.cell 0
 have c1:=rY.cell 1
 have c2:=rY.cell 2
 have c3:=rY.cell 3
 have c4:=rY.cell 4
 obtain⟨y,HY⟩:∃ y:Nat,Hid (y=w.heap.size):=⟨_,rfl⟩
 obtain⟨wa,dq⟩:∃ wa:World,Hid (wa=w.alloc (.cells #[ae af 8,ae af 0,ae af 0,ae af 0,.string ⟨#[]⟩] 98)):=⟨_,rfl⟩
 have hz0:wa.heap.size=y+1:=by rw[dq.out,HY.out];simp
 rw[←dq.out] at g1 b1
 rw[←HY.out] at b1
 have g2:=bN wa (.cells #[ae af 0,ae af 0,ae af 0,ae af 0,ae af 0,ae af 0,ae ah 0,ae af 0] 100)
 have b2:=ct.made wa 100 #[ae af 0,ae af 0,ae af 0,ae af 0,ae af 0,ae af 0,ae ah 0,ae af 0]
 obtain⟨z,HZ⟩:∃ z:Nat,Hid (z=y+1):=⟨_,rfl⟩
 obtain⟨wb,ia⟩:∃ wb:World,Hid (wb=wa.alloc (.cells #[ae af 0,ae af 0,ae af 0,ae af 0,ae af 0,ae af 0,ae ah 0,ae af 0] 100)):=⟨_,rfl⟩
 rw[←ia.out] at g2 b2
 rw[hz0,←HZ.out] at b2
 have ez:=hS0.join dX g1 (R:=Cell y 98 #[ae af 8,ae af 0,ae af 0,ae af 0,.string ⟨#[]⟩]) (U:=fun b=>b=y) ⟨rfl,b1⟩ (fun b hb=>by have h8:b=y:=hb;have:=HY.out;have:=b1.lt;omega)
 have eP:=dX.cons (Cell.framed y 98 #[ae af 8,ae af 0,ae af 0,ae af 0,.string ⟨#[]⟩])
 have hSb:=ez.join eP g2 (R:=Cell z 100 #[ae af 0,ae af 0,ae af 0,ae af 0,ae af 0,ae af 0,ae ah 0,ae af 0]) (U:=fun b=>b=z) ⟨rfl,b2⟩ (fun b hb=>by have h8:b=z:=hb;have:=HZ.out;have:=b2.lt;omega)
 have hSb:Solo (cB V w) (Many (cS W q [] (R0 q.r) (AT)++[Cell z 100 #[ae af 0,ae af 0,ae af 0,ae af 0,ae af 0,ae af 0,ae ah 0,ae af 0],Cell y 98 #[ae af 8,ae af 0,ae af 0,ae af 0,.string ⟨#[]⟩]])) wb:=hSb.perm (aG (l₁:=[Cell z 100 #[ae af 0,ae af 0,ae af 0,ae af 0,ae af 0,ae af 0,ae ah 0,ae af 0],Cell y 98 #[ae af 8,ae af 0,ae af 0,ae af 0,.string ⟨#[]⟩]]))
 have iU:=bW dX ((bM.nil.cons (Cell.framed y 98 #[ae af 8,ae af 0,ae af 0,ae af 0,.string ⟨#[]⟩])).cons (Cell.framed z 100 #[ae af 0,ae af 0,ae af 0,ae af 0,ae af 0,ae af 0,ae ah 0,ae af 0]))
 have Jb:Just (cB V w) w wb:=(Just.bJ g1).trans (Just.bJ g2)
 have hyz:¬ (fun b=>b=z) y:=fun e=>by have e2:y=z:=e;have:=HZ.out;omega
 clear b1 b2 g1 g2 hz0 ez j_
 obtain⟨U1,nN,_⟩:=hSb.see 1 rfl
 have EB:=jb wb W q.g q.rs q.ij q.ds q.r q.a q.d0 q.d1 U1 (hSb.blk 0 rfl) nN
 have hF1:bM (cS W q [] (R1 q.r) AT++[Cell z 100 #[ae af 0,ae af 0,ae af 0,ae af 0,ae af 0,ae af 0,ae ah 0,ae af 0],Cell y 98 #[ae af 8,ae af 0,ae af 0,ae af 0,.string ⟨#[]⟩]]):=bW (ci W q [] (R1 q.r) AT (R1.framed q.r) kP) ((bM.nil.cons (Cell.framed y 98 #[ae af 8,ae af 0,ae af 0,ae af 0,.string ⟨#[]⟩])).cons (Cell.framed z 100 #[ae af 0,ae af 0,ae af 0,ae af 0,ae af 0,ae af 0,ae ah 0,ae af 0]))
 go_enter Tryz.func116,Tryz.ntmps116
 go_wp2_with fail
 rw[←dq.out,←HY.out,←ia.out,←HZ.out]
 clear c0 c1 c2 c3 c4
 refine EB.mono ?_
 rintro e w1 ⟨rfl,rfl⟩
 go_wp2_with fail
 refine c_ rfl ?_
 refine er (iP (cB V w) (Many (cS W q [] (R0 q.r) AT++[Cell z 100 #[ae af 0,ae af 0,ae af 0,ae af 0,ae af 0,ae af 0,ae ah 0,ae af 0],Cell y 98 #[ae af 8,ae af 0,ae af 0,ae af 0,.string ⟨#[]⟩]])) (Many (cS W q [] (R1 q.r) AT++[Cell z 100 #[ae af 0,ae af 0,ae af 0,ae af 0,ae af 0,ae af 0,ae ah 0,ae af 0],Cell y 98 #[ae af 8,ae af 0,ae af 0,ae af 0,.string ⟨#[]⟩]])) 4 []) (iu (Many.framed _ iU) (Many.framed _ hF1)) 0 5 96 [(4,.inl (ai none 0 0))] rfl am am am ?_ (Just.bJ (Grow.refl _).drew) (hSb.grows iU (Grow.refl _).drew) ?_
 ·intro x hx φ he
  simp only[aF,aE,or_false] at hx
  rcases hx with rfl<;>cases he
 intro ops' A' K' T hops hA' hK hT
 refine bP 77 (((W:Nat):Value)) ?_
 refine bI 78 (.tmp 3) (((y:Nat):Value)) (.pointer (some ⟨y,1,none⟩)) (fun ρ h1 kk w5 (dY:Just (cB V w) _ w5) hb hf=>by go_simp) ?_
 refine bI 79 (.tmp 78) (.pointer (some ⟨y,1,none⟩)) (ae af 0) (fun ρ h1 kk w5 (dY:Just (cB V w) _ w5) hb hf=>by rcases nC hb with hI|hI<;>(have c:=(hI.blk 8 rfl).cell 1;go_simp)) ?_
 refine bP 80 (.pointer (some ⟨q.r,0,none⟩)) ?_
 refine cC 81 aj ak (bO aj) (ai none 0 0) (by rw[hK.out];rfl) 32 _ _ aj [.pointer (some ⟨q.r,0,none⟩)] aj RV (fun kk w5 (dY:Just (cB V w) _ w5) hb hf=>jD 0 aj (by obtain rfl:=cw 0 aj hb;have hI:=hb.1;exact (Solo.at_ 5 rfl iU hI (DY w5 q.r)))) ?_
 refine ce (fun _ _ w5 (dY:Just (cB V w) _ w5) hend bR=>hT _ _ ?_)
 clear hops hA' hK hT
 simp only[cj,Act.put,aw,ay,az]
 have hS5:Solo (cB V w) (Many (cS W q [] (R1 q.r) AT++[Cell z 100 #[ae af 0,ae af 0,ae af 0,ae af 0,ae af 0,ae af 0,ae ah 0,ae af 0],Cell y 98 #[ae af 8,ae af 0,ae af 0,ae af 0,.string ⟨#[]⟩]])) w5:=hend
 clear bR
 have J5:=Jb.trans dY
 have OB:=xv w5 W 0
 refine fM 5 6 am am ?_
 simp only[aV,bw,ax,aB]
 go_wp2_with fail
 refine OB.mono ?_
 rintro e w6 ⟨rfl,rfl⟩
 go_wp2_with fail
 refine eY ?_
 have c1:=(hS5.blk 8 rfl).cell 1
 have uS:=hS5.blk 7 rfl
 go_wp2_with (refine ch rfl 100 _ _ rfl _ rfl [ae af 0,ae af 0,ae af 0,ae af 0,ae af 0,ae af 0,ae ah 0,ae af 0] rfl uS rfl rfl am ?_;intro w9 mE fK DC;refine stay ?_)
 refine bV ?_
 have iq:=hS5.turned 7 rfl hF1 fK mE
 have J9:=J5.trans (fK.imp fun b hb=>hb▸(hS5.ig 7 rfl).1)
 go_wp2_with fail
 refine bodyPost_ret (dr rfl _ z rfl mE Tryz.underlying100 am) rfl ?_
 have gZ:Solo (cB V w) (Many (cS W q [] (R1 q.r) (AT))) w9:=(Solo.perm (aG (l₁:=cS W q [] (R1 q.r) (AT)) (l₂:=[Cell z 100 #[ae af 0,ae af 0,ae af 0,ae af 0,ae af 0,ae af 0,ae ah 0,ae af 0],Cell y 98 #[ae af 8,ae af 0,ae af 0,ae af 0,.string ⟨#[]⟩]])) iq).drop1.drop1
 obtain⟨r1,r2⟩:=Solo.done gZ J9 hV
 exact⟨rfl,r1,r2⟩
end Go.Proofs.YtmijcbfgfkeodaaGreatDoor
end
