/- Wda, St2, Ca1. -/
import Derived.Test.YtmijcbfgfkeodaaGreatDoorIz42
set_option linter.all false
set_option maxRecDepth 100000
set_option maxHeartbeats 2000000
open Go.Value renaming int → ae,slice → ai
open Go.IntKind renaming i64 → af,u64 → ah
open Go.Proofs.Tryz renaming prog → au
open List renaming setIfInBounds_toArray → aw,drop_succ_cons → ax,set_cons_zero → ay,set_cons_succ → az,drop_zero → aB,not_mem_nil → aE,mem_cons → aF,perm_append_comm → aG,nil_append → aR
open Nat renaming lt_of_lt_of_le → aA,le_refl → aC,le_trans → aH,le_of_ble_eq_true → aQ,zero_add → a_
section
namespace Go.Proofs.YtmijcbfgfkeodaaGreatDoor
open Go.RowKit Go.Hop V
theorem jA (w:World) (W:Nat) (q:o5) (L L2:List Ne.Lb) (RT AT G3 G4:cg) (iR:Framed RT) (kP:Framed AT) (OC:Framed G3) (OD:Framed G4) (k a b n:Int) (s:ByteArray) (why node code i0 i1 i2 x o9:Int)
 (hdo:∀ (w:World) (V:Nat→Prop),Many (cS W q L RT AT) w V→(∀ b,V b→b<w.heap.size)→Calls au 116 #[((W:Nat):Value),.agg #[ae af k,ae af a,ae af b,ae af n,.string s]] w fun e w'=>e=.returned (.agg #[ae af why,ae af node,ae af code,ae af i0,ae af i1,ae af i2,ae ah x,ae af o9])∧Many (cS W q L2 G3 G4) w' (Ext V w w')∧Just V w w')
 (V:Nat→Prop) (hM:Many (cS W q L RT AT) w V) (hV:∀ b,V b→b<w.heap.size) :
 Calls au 44 #[((W:Nat):Value),.agg #[ae af k,ae af a,ae af b,ae af n,.string s]] w fun e w'=>e=.returned (.agg #[ae af why,ae af node,ae af code,ae af i0,ae af i1,ae af i2,ae ah x,ae af (L2.length:Int)])∧Many (cS W q L2 G3 G4) w' (Ext V w w')∧Just V w w':=by
 have hS0:=Solo.begin_ hM hV
 have dX:=ci W q L (RT) (AT) iR kP
 have g1:=bN w (.cells #[ae af k,ae af a,ae af b,ae af n,.string s] 98)
 have b1:=ct.made w 98 #[ae af k,ae af a,ae af b,ae af n,.string s]
 have j_:=bN (w.alloc (.cells #[ae af k,ae af a,ae af b,ae af n,.string s] 98)) (.cells #[ae af 0,ae af 0,ae af 0,ae af 0,ae af 0,ae af 0,ae ah 0,ae af 0] 100)
 have rY:=b1.grow j_
 have rW:=(hS0.blk 0 rfl).grow (g1.trans j_)
 unfold gG at rW
 have c0:=rY.cell 0
 have c1:=rY.cell 1
 have c2:=rY.cell 2
 have c3:=rY.cell 3
 have c4:=rY.cell 4
 obtain⟨y,HY⟩:∃ y:Nat,Hid (y=w.heap.size):=⟨_,rfl⟩
 obtain⟨wa,dq⟩:∃ wa:World,Hid (wa=w.alloc (.cells #[ae af k,ae af a,ae af b,ae af n,.string s] 98)):=⟨_,rfl⟩
 have hz0:wa.heap.size=y+1:=by rw[dq.out,HY.out];simp
 rw[←dq.out] at g1 b1
 rw[←HY.out] at b1
 have g2:=bN wa (.cells #[ae af 0,ae af 0,ae af 0,ae af 0,ae af 0,ae af 0,ae ah 0,ae af 0] 100)
 have b2:=ct.made wa 100 #[ae af 0,ae af 0,ae af 0,ae af 0,ae af 0,ae af 0,ae ah 0,ae af 0]
 obtain⟨z,HZ⟩:∃ z:Nat,Hid (z=y+1):=⟨_,rfl⟩
 obtain⟨wb,ia⟩:∃ wb:World,Hid (wb=wa.alloc (.cells #[ae af 0,ae af 0,ae af 0,ae af 0,ae af 0,ae af 0,ae ah 0,ae af 0] 100)):=⟨_,rfl⟩
 rw[←ia.out] at g2 b2
 rw[hz0,←HZ.out] at b2
 have ez:=hS0.join dX g1 (R:=Cell y 98 #[ae af k,ae af a,ae af b,ae af n,.string s]) (U:=fun b=>b=y) ⟨rfl,b1⟩ (fun b hb=>by have h8:b=y:=hb;have:=HY.out;have:=b1.lt;omega)
 have eP:=dX.cons (Cell.framed y 98 #[ae af k,ae af a,ae af b,ae af n,.string s])
 have hSb:=ez.join eP g2 (R:=Cell z 100 #[ae af 0,ae af 0,ae af 0,ae af 0,ae af 0,ae af 0,ae ah 0,ae af 0]) (U:=fun b=>b=z) ⟨rfl,b2⟩ (fun b hb=>by have h8:b=z:=hb;have:=HZ.out;have:=b2.lt;omega)
 have hSb:Solo (cB V w) (Many (cS W q L (RT) (AT)++[Cell z 100 #[ae af 0,ae af 0,ae af 0,ae af 0,ae af 0,ae af 0,ae ah 0,ae af 0],Cell y 98 #[ae af k,ae af a,ae af b,ae af n,.string s]])) wb:=hSb.perm (aG (l₁:=[Cell z 100 #[ae af 0,ae af 0,ae af 0,ae af 0,ae af 0,ae af 0,ae ah 0,ae af 0],Cell y 98 #[ae af k,ae af a,ae af b,ae af n,.string s]]))
 have iU:=bW dX ((bM.nil.cons (Cell.framed y 98 #[ae af k,ae af a,ae af b,ae af n,.string s])).cons (Cell.framed z 100 #[ae af 0,ae af 0,ae af 0,ae af 0,ae af 0,ae af 0,ae ah 0,ae af 0]))
 have Jb:Just (cB V w) w wb:=(Just.bJ g1).trans (Just.bJ g2)
 have hyz:¬ (fun b=>b=z) y:=fun e=>by have e2:y=z:=e;have:=HZ.out;omega
 clear b1 b2 g1 g2 hz0 ez j_
 have hc:=Solo.at_ 0 rfl (((bM.nil.cons (Cell.framed y 98 #[ae af k,ae af a,ae af b,ae af n,.string s])).cons (Cell.framed z 100 #[ae af 0,ae af 0,ae af 0,ae af 0,ae af 0,ae af 0,ae ah 0,ae af 0])).cons (Many.framed _ dX)) (Solo.eG (l:=cS W q L RT AT) hSb) (fun U hU ey=>hdo wb U hU ey)
 go_enter Tryz.func44,Tryz.ntmps44
 go_wp2_with fail
 rw[←dq.out,←HY.out,←ia.out,←HZ.out]
 clear c0 c1 c2 c3 c4
 refine hc.mono ?_
 rintro e w2 ⟨rfl,hj2,hS2⟩
 have hS2:Solo (cB V w) (Many (cS W q L2 G3 G4++[Cell z 100 #[ae af 0,ae af 0,ae af 0,ae af 0,ae af 0,ae af 0,ae ah 0,ae af 0],Cell y 98 #[ae af k,ae af a,ae af b,ae af n,.string s]])) w2:=Solo.flat (l:=cS W q L2 G3 G4) hS2
 have hF2:=bW (ci W q L2 G3 G4 OC OD) ((bM.nil.cons (Cell.framed y 98 #[ae af k,ae af a,ae af b,ae af n,.string s])).cons (Cell.framed z 100 #[ae af 0,ae af 0,ae af 0,ae af 0,ae af 0,ae af 0,ae ah 0,ae af 0]))
 have J2:=Jb.trans hj2
 go_wp2_with (refine cK rfl (gF _ _ _ rfl) ?_;intro xx w3 hB3 hg3 hz3 hs3;refine stay ?_)
 refine bV ?_
 go_wp2_with (refine ch rfl 100 _ _ rfl _ rfl [ae af why,ae af node,ae af code,ae af i0,ae af i1,ae af i2,ae ah x,ae af o9] rfl hB3 rfl rfl am ?_;intro w4 vV ko hs4;refine stay ?_)
 refine bV ?_
 have hg4:Grow w2 w4:=Below.trans hg3 (ko.below (B:=w2.heap.size) (fun b hb=>by have e2:b=xx:=hb;omega) al)
 have ev:=hS2.join hF2 hg4 (R:=Cell xx 100 #[ae af why,ae af node,ae af code,ae af i0,ae af i1,ae af i2,ae ah x,ae af o9]) (U:=fun b=>b=xx) ⟨rfl,vV⟩ (fun b hb=>by have e2:b=xx:=hb;omega)
 have qc:=hF2.cons (Cell.framed xx 100 #[ae af why,ae af node,ae af code,ae af i0,ae af i1,ae af i2,ae ah x,ae af o9])
 have J4:=J2.trans (Just.bJ hg4)
 have GG:=ev.blk 1 rfl
 unfold gG at GG
 have c3:=GG.cell 3
 obtain⟨U5,FI,_⟩:=ev.see 5 rfl
 have hLn:=jz w4 q.g 2 L2 (fun _=>false) U5 FI
 go_wp2_with fail
 refine hLn.mono ?_
 rintro e w5 ⟨rfl,rfl⟩
 clear c3
 have k7:=(ev.blk 0 rfl).cell 7
 go_wp2_with (refine dp rfl _ _ _ rfl ev qc J4 0 rfl rfl (ae af (L2.length:Int)) rfl (aQ rfl) rfl am ?_;intro w6 eC J6;refine stay ?_)
 refine bV ?_
 clear k7
 have eC:Solo (cB V w) (Many (Cell xx 100 #[ae af why,ae af node,ae af code,ae af i0,ae af i1,ae af i2,ae ah x,ae af (L2.length:Int)] :: (cS W q L2 G3 G4++[Cell z 100 #[ae af 0,ae af 0,ae af 0,ae af 0,ae af 0,ae af 0,ae ah 0,ae af 0],Cell y 98 #[ae af k,ae af a,ae af b,ae af n,.string s]]))) w6:=eC
 have xm:=hF2.cons (Cell.framed xx 100 #[ae af why,ae af node,ae af code,ae af i0,ae af i1,ae af i2,ae ah x,ae af (L2.length:Int)])
 have hx6:=eC.blk 0 rfl
 have Ou:=eC.blk 8 rfl
 go_wp2_with (first|(refine bY rfl 100 _ rfl _ rfl (hx6) Tryz.underlying100 am ?_)|(refine ch rfl 100 _ _ rfl _ rfl [ae af why,ae af node,ae af code,ae af i0,ae af i1,ae af i2,ae ah x,ae af (L2.length:Int)] rfl Ou rfl rfl am ?_;intro w7 PU nn hs7;refine stay ?_))
 refine bV ?_
 have gB:=eC.turned 8 rfl xm nn PU
 have J7:=J6.trans (nn.imp fun b hb=>hb▸(eC.ig 8 rfl).1)
 go_wp2_with fail
 refine bodyPost_ret (dr rfl _ z rfl PU Tryz.underlying100 am) rfl ?_
 have gZ:Solo (cB V w) (Many (cS W q L2 G3 G4)) w7:=(Solo.perm (aG (l₁:=cS W q L2 G3 G4) (l₂:=[Cell z 100 #[ae af why,ae af node,ae af code,ae af i0,ae af i1,ae af i2,ae ah x,ae af (L2.length:Int)],Cell y 98 #[ae af k,ae af a,ae af b,ae af n,.string s]])) (Solo.drop1 gB)).drop1.drop1
 obtain⟨r1,r2⟩:=Solo.done gZ J7 hV
 exact⟨rfl,r1,r2⟩
theorem Eg (w:World) (A:Option Addr) (c:Nat) (D:Nat→Prop) (xs:List Value) (hxs:∀ u∈xs,u.oneCell'=true) (hI:In w D 3 A 1 xs) :
 Calls au 123 #[.slice A 1 c] w fun e w'=>(∃ A' c',e=.returned (.slice A' 1 c'))∧Grow w w':=by
 have hnil:=fun (w':World)=>Lib.run_eql_slice_nil (P:=au) w' 41 26 A 1 c 0 0 Tryz.underlying41
 obtain⟨ad,rfl,_⟩:=hI.2 al
 go_enter Tryz.func123,Tryz.ntmps123
 go_wp2_with (at_builtin;refine stay ?_)
 refine bV ?_
 refine cR (V:=fun b=>b=w.heap.size) Ex _ rfl (.tmp 5) (.tmp 6) rfl (.slice (some ⟨w.heap.size,0,none⟩) 0 0) 0 [] rfl (fO w 26 3) w.heap.size (some ad) 1 c xs rfl (Reads.alloc hI.reads (aC _) _) hxs ak ?_
 intro v1 w1 fW hj1
 simp only[a_,aR] at fW
 obtain⟨fW,hg1⟩:=i_ fW hj1
 obtain⟨A1,c1,rfl,_⟩:=fW.fw
 go_wp2_with fail
 go_ret
 exact⟨⟨_,_,rfl⟩,hg1⟩
def rE (B:Nat) (xs:List Value) (u:Value) (w:World):Prop:=∃ A,u=.slice A 1 1∧In w (fun b=>B≤b∧b<w.heap.size) 3 A 1 xs
theorem qo (B:Nat) (xs:List Value):dv (rE B xs):=fun u w w' ⟨A,h1,h2⟩ hg=>⟨A,h1,(h2.grow hg).mono fun b hb=>⟨hb.1,aA hb.2 hg.size⟩⟩
theorem G5 (w:World) (A:Option Addr) (c:Nat) (D:Nat→Prop) (xs:List Value) (hxs:∀ u∈xs,u.oneCell'=true) (hI:In w D 3 A 1 xs) (hc:1≤c) :
 Calls au 60 #[ai none 0 0,.slice A 1 c] w fun e w'=>∃ u,e=.returned u∧Grow w w'∧rE w.heap.size xs u w':=by
 have ga:=bN w (.cells #[ai none 0 0,.slice A 1 c] 41)
 have hC:=Aj (w.alloc (.cells #[ai none 0 0,.slice A 1 c] 41)) w.heap.size A c (ct.made w _ _) D xs hxs (hI.grow ga)
 go_enter Tryz.func60,Tryz.ntmps60
 go_wp2_with fail
 refine hC.mono ?_
 rintro e w1 ⟨v1,rfl,hR,hg1⟩
 obtain⟨A1,c1,rfl,hI1,hc1,_⟩:=hR.fw
 have hS:=fun fv=>Fw w1 A1 c1 fv
 go_wp2_with fail
 refine (hS _).mono ?_
 rintro e w2 ⟨rfl,rfl⟩
 have hK:=xk w1 A1 c1
 go_wp2_with fail
 refine hK.mono ?_
 rintro e w2 ⟨rfl,rfl⟩
 have hP:=Fx w1 A1 c1 hc1
 go_wp2_with fail
 refine hP.mono ?_
 rintro e w2 ⟨rfl,rfl⟩
 go_wp2_with fail
 go_ret
 exact⟨_,rfl,ga.trans hg1,A1,rfl,hI1.mono fun b hb=>⟨aH ga.size hb.1,hb.2⟩⟩
def Sn (s:Nat):cg:=Cell s 205 #[ai none 0 0,ai none 0 0,ai none 0 0]
def Sk (s:Nat):cg:=fun w V=>∃ (A:Option Addr) (xs:List Value),(∀ u∈xs,u.oneCell'=true)∧Many [(fun w V=>In w V 3 A 1 xs),Cell s 205 #[.slice A 1 1,ai none 0 0,ai none 0 0]] w V
theorem Sn.framed (s:Nat):Framed (Sn s):=Cell.framed _ _ _
theorem xH (A:Option Addr) (xs:List Value):Framed (fun w V=>In w V 3 A 1 xs):=fun _ _ _ h hk=>In.keep h fun b hb _=>hk b hb
theorem G6 (w:World):Calls au 107 #[] w fun e w'=>∃ s,e=.returned (((s:Nat):Value))∧Sn s w' (fun b=>w.heap.size≤b∧b<w'.heap.size)∧Grow w w':=by
 go_enter Tryz.func107,Tryz.ntmps107
 go_wp2_with fail
 go_ret
 exact⟨w.heap.size,rfl,⟨⟨aC _,by simp⟩,ct.made w _ _⟩,bN w _⟩
theorem B5 (w:World) (s:Nat) (V:Nat→Prop) (h:Sk s w V):Calls au 47 #[((s:Nat):Value)] w fun e w'=>(∃ A' c',e=.returned (.slice A' 1 c'))∧Grow w w':=by
 obtain⟨A,xs,h0,U1,U2,hI,⟨_,_,hC,_⟩,_⟩:=h
 have c0:=hC.2.cell 0
 have hK:=Eg w A 1 U1 xs h0 hI
 go_enter Tryz.func47,Tryz.ntmps47
 go_wp2_with fail
 refine hK.mono ?_
 rintro e w1 ⟨⟨A',c',rfl⟩,hg⟩
 go_wp2_with fail
 go_ret
 exact⟨⟨_,_,rfl⟩,hg⟩
theorem ka (w:World) (s:Value) (k a b n:Int) (t:ByteArray) (hk:k≠2) (why node code i0 i1 i2 x o9:Int):Calls au 115 #[s,.agg #[ae af k,ae af a,ae af b,ae af n,.string t],.agg #[ae af why,ae af node,ae af code,ae af i0,ae af i1,ae af i2,ae ah x,ae af o9]] w fun e w'=>e=.returned (.tuple #[])∧Grow w w':=by
 have g1:=bN w (.cells #[ae af k,ae af a,ae af b,ae af n,.string t] 98)
 have b1:=ct.made w 98 #[ae af k,ae af a,ae af b,ae af n,.string t]
 have g2:=bN (w.alloc (.cells #[ae af k,ae af a,ae af b,ae af n,.string t] 98)) (.cells #[ae af why,ae af node,ae af code,ae af i0,ae af i1,ae af i2,ae ah x,ae af o9] 100)
 have b2:=ct.made (w.alloc (.cells #[ae af k,ae af a,ae af b,ae af n,.string t] 98)) 100 #[ae af why,ae af node,ae af code,ae af i0,ae af i1,ae af i2,ae ah x,ae af o9]
 have b1:=b1.grow g2
 have c0:=b1.cell 0
 have d1:decide (k=2)=false:=decide_eq_false hk
 go_enter Tryz.func115,Tryz.ntmps115
 go_wp2_with fail
 refine bodyPost_ret (results_none rfl _ _ _) rfl ?_
 exact⟨rfl,g1.trans g2⟩
theorem xI (w:World) (s:Value) (a b n:Int) (t:ByteArray) (node i0 i1 i2 x o9:Int):Calls au 115 #[s,.agg #[ae af 2,ae af a,ae af b,ae af n,.string t],.agg #[ae af 0,ae af node,ae af 0,ae af i0,ae af i1,ae af i2,ae ah x,ae af o9]] w fun e w'=>e=.returned (.tuple #[])∧Grow w w':=by
 have g1:=bN w (.cells #[ae af 2,ae af a,ae af b,ae af n,.string t] 98)
 have b1:=ct.made w 98 #[ae af 2,ae af a,ae af b,ae af n,.string t]
 have g2:=bN (w.alloc (.cells #[ae af 2,ae af a,ae af b,ae af n,.string t] 98)) (.cells #[ae af 0,ae af node,ae af 0,ae af i0,ae af i1,ae af i2,ae ah x,ae af o9] 100)
 have b2:=ct.made (w.alloc (.cells #[ae af 2,ae af a,ae af b,ae af n,.string t] 98)) 100 #[ae af 0,ae af node,ae af 0,ae af i0,ae af i1,ae af i2,ae ah x,ae af o9]
 have b1:=b1.grow g2
 have c0:=b1.cell 0
 have e0:=b2.cell 0
 have e2:=b2.cell 2
 go_enter Tryz.func115,Tryz.ntmps115
 go_wp2_with fail
 go_end0
 exact⟨rfl,g1.trans g2⟩
theorem B6 (w:World) (s:Nat) (a b n:Int) (t:ByteArray) (node i0 i1 i2 x o9:Int) (V:Nat→Prop) (hS:Sn s w V) (hV:∀ b,V b→b<w.heap.size):Calls au 115 #[((s:Nat):Value),.agg #[ae af 2,ae af a,ae af b,ae af n,.string t],.agg #[ae af 0,ae af node,ae af 1,ae af i0,ae af i1,ae af i2,ae ah x,ae af o9]] w fun e w'=>e=.returned (.tuple #[])∧Sk s w' (Ext V w w')∧Just V w w':=by
 have RX:∀ (vs:Array Value) (w:World),(callFunc 60 vs).run au w=.ok (.enter 60 vs) w:=fun vs w=>by go_simp
 have g1:=bN w (.cells #[ae af 2,ae af a,ae af b,ae af n,.string t] 98)
 have b1:=ct.made w 98 #[ae af 2,ae af a,ae af b,ae af n,.string t]
 have g2:=bN (w.alloc (.cells #[ae af 2,ae af a,ae af b,ae af n,.string t] 98)) (.cells #[ae af 0,ae af node,ae af 1,ae af i0,ae af i1,ae af i2,ae ah x,ae af o9] 100)
 have b2:=ct.made (w.alloc (.cells #[ae af 2,ae af a,ae af b,ae af n,.string t] 98)) 100 #[ae af 0,ae af node,ae af 1,ae af i0,ae af i1,ae af i2,ae ah x,ae af o9]
 have b1:=b1.grow g2
 have c0:=b1.cell 0
 have e0:=b2.cell 0
 have e2:=b2.cell 2
 have hS0:Solo (cB V w) (Many [Sn s]) w:=Solo.begin_ (S:=Many [Sn s]) ⟨V,fun _=>False,hS,trivial,fun _ h=>h,fun _ h=>h.elim,fun _ _ h=>h⟩ hV
 have dX:bM [Sn s]:=bM.nil.cons (Sn.framed s)
 obtain⟨y,HY⟩:∃ y:Nat,Hid (y=w.heap.size):=⟨_,rfl⟩
 obtain⟨z,HZ⟩:∃ z:Nat,Hid (z=y+1):=⟨_,rfl⟩
 obtain⟨wb,ia⟩:∃ wb:World,Hid (wb=(w.alloc (.cells #[ae af 2,ae af a,ae af b,ae af n,.string t] 98)).alloc (.cells #[ae af 0,ae af node,ae af 1,ae af i0,ae af i1,ae af i2,ae ah x,ae af o9] 100)):=⟨_,rfl⟩
 have hz0:(w.alloc (.cells #[ae af 2,ae af a,ae af b,ae af n,.string t] 98)).heap.size=y+1:=by rw[HY.out];simp
 have gb:=g1.trans g2
 rw[hz0,←HZ.out] at b2
 rw[←ia.out] at gb b2
 have hSb:=hS0.grows dX gb
 have hsb:=hSb.blk (x:=s) (t:=205) (cs:=#[ai none 0 0,ai none 0 0,ai none 0 0]) 0 rfl
 go_enter Tryz.func115,Tryz.ntmps115
 go_wp2_with fail
 rw[←ia.out,←HY.out,←HZ.out]
 clear c0 e0 e2
 refine bL 11 56 [(7,.inr (fun _=>fT 3 1 [ae af i0,ae af i1,ae af i2])),(8,.inr (fun _=>rE wb.heap.size [ae af i0,ae af i1,ae af i2]))] rfl rfl am am am ?_ ?_
 ·intro x hx φ he
  simp only[aF,aE,or_false] at hx
  rcases hx with rfl|rfl<;>cases he
  all_goals first|exact ca (cn _)|first|exact ca (fj _ _ _)|exact ca (qo _ _)
 intro ops' A' K' T hops hA' hK hT
 refine bP 19 (((s:Nat):Value)) ?_
 refine bP 20 (((s:Nat):Value)) ?_
 refine bI 21 (.tmp 20) (((s:Nat):Value)) (((s:Nat):Value)) (fun ρ h1 kk w2 (hg2:Grow _ w2) hb hf=>by go_simp) ?_
 refine bI 22 (.tmp 21) (((s:Nat):Value)) (((s:Nat):Value)) (fun ρ h1 kk w2 (hg2:Grow _ w2) hb hf=>by go_simp) ?_
 refine bI 23 (.tmp 22) (((s:Nat):Value)) (ai none 0 0) (fun ρ h1 kk w2 (hg2:Grow _ w2) hb hf=>by have c:=(hsb.grow hg2).cell 0;go_simp) ?_
 refine bI 24 (.tmp 5) (((z:Nat):Value)) (.pointer (some ⟨z,3,none⟩)) (fun ρ h1 kk w2 (hg2:Grow _ w2) hb hf=>by go_simp) ?_
 refine bI 25 (.tmp 24) (.pointer (some ⟨z,3,none⟩)) (.agg #[ae af i0,ae af i1,ae af i2]) (fun ρ h1 kk w2 (hg2:Grow _ w2) hb hf=>by have c3:=(b2.grow hg2).cell 3;have c4:=(b2.grow hg2).cell 4;have c5:=(b2.grow hg2).cell 5;go_simp) ?_
 refine fE 26 aj ak (bO aj) (fun _=>fT 3 1 [ae af i0,ae af i1,ae af i2]) (by rw[hK.out];rfl) (.tmp 25) (.agg #[ae af i0,ae af i1,ae af i2]) aj (fun ρ h1 kk w2 (hg2:Grow _ w2) hb hf=>by refine cA (φ:=fun _=>fT 3 1 [ae af i0,ae af i1,ae af i2]) aj ?_;exact lU rfl h1) (fun v26=>?_)
 refine cH 27 aj ak (bO aj) (fun _=>rE wb.heap.size [ae af i0,ae af i1,ae af i2]) (by rw[hK.out];rfl) 60 _ _ aj [ai none 0 0,v26] aj RX (fun kk w2 (hg2:Grow _ w2) hb hf=>cr (φ:=fun _=>rE wb.heap.size [ae af i0,ae af i1,ae af i2]) aj (by exact (by obtain⟨A7,e7,h7⟩:fT 3 1 [ae af i0,ae af i1,ae af i2] v26 w2:=(cy hf (by rw[hA'.out];kernel_rfl));subst e7;exact (G5 w2 A7 1 _ _ (jw _ _ _) h7 al).mono fun e w9 h9=>by obtain⟨u,h1,h2,A8,h3,h4⟩:=h9;exact⟨u,h1,h2,A8,h3,h4.mono fun b hb=>⟨aH hg2.size hb.1,hb.2⟩⟩))) (fun v27=>?_)
 refine bI 28 (.tmp 19) (((s:Nat):Value)) (((s:Nat):Value)) (fun ρ h1 kk w2 (hg2:Grow _ w2) hb hf=>by go_simp) ?_
 refine bI 29 (.tmp 28) (((s:Nat):Value)) (((s:Nat):Value)) (fun ρ h1 kk w2 (hg2:Grow _ w2) hb hf=>by go_simp) ?_
 refine ce (fun _ _ w2 (hg2:Grow _ w2) _ bR=>hT _ _ ?_)
 clear hops hA' hK hT
 simp only[cj,Act.put,aw,ay,az,ax,aB]
 obtain⟨A9,rfl,IR⟩:rE wb.heap.size [ae af i0,ae af i1,ae af i2] v27 w2:=bR.1
 clear bR
 have hS2:=hSb.join dX hg2 (R:=fun w V=>In w V 3 A9 1 [ae af i0,ae af i1,ae af i2]) (U:=fun b=>wb.heap.size≤b∧b<w2.heap.size) IR (fun b hb=>hb)
 have hS2:Solo (cB V w) (Many [(fun w V=>In w V 3 A9 1 [ae af i0,ae af i1,ae af i2]),Cell s 205 #[ai none 0 0,ai none 0 0,ai none 0 0]]) w2:=hS2
 have hF2:bM [(fun w V=>In w V 3 A9 1 [ae af i0,ae af i1,ae af i2]),Cell s 205 #[ai none 0 0,ai none 0 0,ai none 0 0]]:=dX.cons (xH _ _)
 have J2:Just (cB V w) w w2:=Just.bJ (gb.trans hg2)
 have k0:=(hS2.blk 1 rfl).cell 0
 go_wp2_with (refine dp rfl _ _ _ rfl hS2 hF2 J2 1 rfl rfl (.slice A9 1 1) rfl (aQ rfl) rfl am ?_;intro w3 dO J3;refine stay ?_)
 refine bV ?_
 go_wp2_with fail
 go_end0
 obtain⟨r1,r2⟩:=Solo.done dO J3 hV
 exact⟨rfl,⟨A9,_,jw _ _ _,r1⟩,r2⟩
theorem jB (w:World) (ρ:Operand→Value) (o:Oper) (ho:o.op=.alloc 98):(execOp ρ o).run au w=.ok (.value (.pointer (some ⟨w.heap.size,0,none⟩))) (w.alloc (.cells #[ae af 0,ae af 0,ae af 0,ae af 0,.string ⟨#[]⟩] 98)):=by
 obtain⟨dst,op,ty,pos,after,guard⟩:=o
 simp only at ho
 subst ho
 go_simp
theorem G7 (w:World) (W:Nat) (q:o5) (RT AT:cg) (s:Nat) (V:Nat→Prop) (hM:Many (cS W q [] RT AT) w V) (hV:∀ b,V b→b<w.heap.size):Calls au 122 #[((W:Nat):Value),((s:Nat):Value),ae af 100,ae af (-1)] w fun e w'=>e=.returned (.tuple #[ae af 0,.pointer none])∧w=w':=by
 have hS:=Solo.begin_ hM hV
 obtain⟨U4,AF,_⟩:=hS.see 4 rfl
 have Eb:=jy w W q.g q.rs q.ij q.ds (hS.blk 0 rfl)
 have hLn:Calls au 117 #[.pointer (some ⟨q.g,0,none⟩)] w fun e w'=>e=.returned (ae af 0)∧w=w':=jz w q.g 2 [] (fun _=>false) U4 AF
 go_enter Tryz.func122,Tryz.ntmps122
 go_wp2_with fail
 go_loopw [10,11] (fun v n wr=>v=.pointer none∧n=ae af 0∧w=wr) (fun _ _ _=>0)
 case atStart=>exact⟨rfl,rfl,rfl⟩
 case round=>
  obtain⟨rfl,rfl,rfl⟩:=hrel
  go_wp2_with fail
  refine Eb.mono ?_
  rintro e w1 ⟨rfl,rfl⟩
  go_wp2_with fail
  refine hLn.mono ?_
  rintro e w1 ⟨rfl,rfl⟩
  go_wp2_with fail
  go_ret2
  exact⟨rfl,rfl⟩
theorem G8 (w:World) (W:Nat) (q:o5) (RT AT:cg) (s:Nat) (V:Nat→Prop) (hM:Many (cS W q [] RT AT) w V) (hV:∀ b,V b→b<w.heap.size):Calls au 109 #[((W:Nat):Value),((s:Nat):Value),ae af 100] w fun e w'=>e=.returned (ae af 0)∧w=w':=by
 have hD:=G7 w W q RT AT s V hM hV
 go_enter Tryz.func109,Tryz.ntmps109
 go_wp2_with fail
 refine hD.mono ?_
 rintro e w1 ⟨rfl,rfl⟩
 go_wp2_with fail
 go_ret
 exact⟨rfl,rfl⟩
theorem G9 (w:World) (W:Nat) (q:o5) (s:Nat) (V:Nat→Prop) (hM:Many (cS W q [(1,0,frame (dV dK))] (R1 q.r) (A3 q.a)++[Sn s]) w V) (hV:∀ b,V b→b<w.heap.size):Calls au 122 #[((W:Nat):Value),((s:Nat):Value),ae af 400,ae af (-1)] w fun e w'=>e=.returned (.tuple #[ae af 2,.pointer none])∧Many (cS W q [] cW cW++[Sk s]) w' (Ext V w w')∧Just V w w':=by
 have hS0:=Solo.begin_ hM hV
 go_enter Tryz.func122,Tryz.ntmps122
 go_wp2_with fail
 go_loopw [10,11] (fun v n wr=>(v=.pointer none∧n=ae af 0∧w=wr)∨(v=.pointer none∧n=ae af 1∧Solo (cB V w) (Many (cS W q [(0,1,frame (dZ (4294967296+1) 1 0))] cW (A3 q.a)++[Sn s])) wr∧Just (cB V w) w wr)∨(v=.pointer none∧n=ae af 2∧Solo (cB V w) (Many (cS W q [] cW cW++[Sk s])) wr∧Just (cB V w) w wr)) (fun _ n _=>2-(intOf n).toNat)
 case atStart=>exact .inl ⟨rfl,rfl,rfl⟩
 case round=>
  rcases hrel with ⟨rfl,rfl,rfl⟩|⟨rfl,rfl,hSr,Jr⟩|⟨rfl,rfl,hSr,Jr⟩
  ·have hSr:=hS0
   have Jr:Just (cB V w) w w:=Just.bJ (Grow.refl w)
   obtain⟨U4,AF,_⟩:=hSr.see 4 rfl
   have Eb:=jy w W q.g q.rs q.ij q.ds (hSr.blk 0 rfl)
   have hLn:Calls au 117 #[.pointer (some ⟨q.g,0,none⟩)] w fun e w'=>e=.returned (ae af 1)∧w=w':=jz w q.g 2 [(1,0,frame (dV dK))] (fun _=>false) U4 AF
   go_wp2_with fail
   refine Eb.mono ?_
   rintro e w1 ⟨rfl,rfl⟩
   go_wp2_with fail
   refine hLn.mono ?_
   rintro e w1 ⟨rfl,rfl⟩
   go_wp2_with (refine cK rfl (jB _ _ _ rfl) ?_;intro y w1 hB1 hg1 hz1 hs1;refine stay ?_)
   refine bV ?_
   go_wp2_with (refine ch rfl 98 _ _ rfl _ rfl [ae af 2,ae af 0,ae af 0,ae af 0,.string ⟨#[]⟩] rfl hB1 rfl rfl am ?_;intro w2 hY2 hj2 hs2;refine stay ?_)
   refine bV ?_
   have hg2:Grow w w2:=Below.trans hg1 (hj2.below (B:=w.heap.size) (fun b hb=>by have e2:b=y:=hb;omega) al)
   have mw:bM (cS W q [(1,0,frame (dV dK))] (R1 q.r) (A3 q.a)++[Sn s]):=bW (ci W q [(1,0,frame (dV dK))] (R1 q.r) (A3 q.a) (R1.framed q.r) (A3.framed q.a)) (bM.nil.cons (Sn.framed s))
   have hS2:=hSr.join mw hg2 (R:=Cell y 98 #[ae af 2,ae af 0,ae af 0,ae af 0,.string ⟨#[]⟩]) (U:=fun b=>b=y) ⟨rfl,hY2⟩ (fun b hb=>by have e2:b=y:=hb;omega)
   have hS2:Solo (cB V w) (Many (cS W q [(1,0,frame (dV dK))] (R1 q.r) (A3 q.a)++[Sn s,Cell y 98 #[ae af 2,ae af 0,ae af 0,ae af 0,.string ⟨#[]⟩]])) w2:=hS2.perm (aG (l₁:=[Cell y 98 #[ae af 2,ae af 0,ae af 0,ae af 0,.string ⟨#[]⟩]]))
   have J2:=Jr.trans (Just.bJ hg2)
   have uX:bM [Sn s,Cell y 98 #[ae af 2,ae af 0,ae af 0,ae af 0,.string ⟨#[]⟩]]:=(bM.nil.cons (Cell.framed y 98 #[ae af 2,ae af 0,ae af 0,ae af 0,.string ⟨#[]⟩])).cons (Sn.framed s)
   have Eh:=Solo.at_ 0 rfl (uX.cons (Many.framed _ (ci W q [(1,0,frame (dV dK))] (R1 q.r) (A3 q.a) (R1.framed q.r) (A3.framed q.a)))) (Solo.eG (l:=cS W q [(1,0,frame (dV dK))] (R1 q.r) (A3 q.a)) hS2) (fun U hU ey=>jA w2 W q [(1,0,frame (dV dK))] [(0,1,frame (dZ (4294967296+1) 1 0))] (R1 q.r) (A3 q.a) cW (A3 q.a) (R1.framed q.r) (A3.framed q.a) cW.framed (A3.framed q.a) 2 0 0 0 ⟨#[]⟩ 0 0 0 0 0 0 0 0 (fun w9 V9 yB Ec=>Jn w9 W q V9 yB Ec) U hU ey)
   have hy2:=hS2.blk 8 rfl
   go_wp2_with (refine bY rfl 98 _ rfl _ rfl (hy2) Tryz.underlying98 am ?_)
   refine Eh.mono ?_
   rintro e w3 ⟨rfl,hj3,dO⟩
   have dO:Solo (cB V w) (Many (cS W q [(0,1,frame (dZ (4294967296+1) 1 0))] cW (A3 q.a)++[Sn s,Cell y 98 #[ae af 2,ae af 0,ae af 0,ae af 0,.string ⟨#[]⟩]])) w3:=Solo.flat (l:=cS W q [(0,1,frame (dZ (4294967296+1) 1 0))] cW (A3 q.a)) dO
   have J3:=J2.trans hj3
   go_wp2_with (refine cK rfl (gF _ _ _ rfl) ?_;intro ze w4 hB4 hg4 EA hs4;refine stay ?_)
   refine bV ?_
   go_wp2_with (refine ch rfl 100 _ _ rfl _ rfl [ae af 0,ae af 0,ae af 0,ae af 0,ae af 0,ae af 0,ae ah 0,ae af 1] rfl hB4 rfl rfl am ?_;intro w5 o8 dY hs5;refine stay ?_)
   refine bV ?_
   have hg5:Grow w3 w5:=Below.trans hg4 (dY.below (B:=w3.heap.size) (fun b hb=>by have e2:b=ze:=hb;omega) al)
   have i9:bM (cS W q [(0,1,frame (dZ (4294967296+1) 1 0))] cW (A3 q.a)++[Sn s,Cell y 98 #[ae af 2,ae af 0,ae af 0,ae af 0,.string ⟨#[]⟩]]):=bW (ci W q [(0,1,frame (dZ (4294967296+1) 1 0))] cW (A3 q.a) cW.framed (A3.framed q.a)) uX
   have hS5:=dO.join i9 hg5 (R:=Cell ze 100 #[ae af 0,ae af 0,ae af 0,ae af 0,ae af 0,ae af 0,ae ah 0,ae af 1]) (U:=fun b=>b=ze) ⟨rfl,o8⟩ (fun b hb=>by have e2:b=ze:=hb;omega)
   have sU:=i9.cons (Cell.framed ze 100 #[ae af 0,ae af 0,ae af 0,ae af 0,ae af 0,ae af 0,ae ah 0,ae af 1])
   have J5:=J3.trans (Just.bJ hg5)
   have xB:=hS5.blk 9 rfl
   have OE:=hS5.blk 0 rfl
   have hAdd:=xI w5 (((s:Nat):Value)) 0 0 0 ⟨#[]⟩ 0 0 0 0 0 1
   go_wp2_with (first|(refine bY rfl 98 _ rfl _ rfl (xB) Tryz.underlying98 am ?_)|(refine bY rfl 100 _ rfl _ rfl (OE) Tryz.underlying100 am ?_))
   refine hAdd.mono ?_
   rintro e w6 ⟨rfl,dT⟩
   have eC:=hS5.grows sU dT
   have J6:=J5.trans (Just.bJ dT)
   have Ls:=eC.blk 0 rfl
   have e0:=Ls.cell 0
   have e2:=Ls.cell 2
   have gB:Solo (cB V w) (Many (cS W q [(0,1,frame (dZ (4294967296+1) 1 0))] cW (A3 q.a)++[Sn s])) w6:=(Solo.perm (aG (l₁:=cS W q [(0,1,frame (dZ (4294967296+1) 1 0))] cW (A3 q.a)++[Sn s]) (l₂:=[Cell y 98 #[ae af 2,ae af 0,ae af 0,ae af 0,.string ⟨#[]⟩]])) eC.drop1).drop1
   go_wp2_with fail
   go_roundw
   case rel=>exact .inr (.inl ⟨rfl,rfl,gB,J6⟩)
   case measure=>simp[intOf]
  ·skip
   obtain⟨U4,AF,_⟩:=hSr.see 4 rfl
   have Eb:=jy wr W q.g q.rs q.ij q.ds (hSr.blk 0 rfl)
   have hLn:Calls au 117 #[.pointer (some ⟨q.g,0,none⟩)] wr fun e w'=>e=.returned (ae af 1)∧wr=w':=jz wr q.g 2 [(0,1,frame (dZ (4294967296+1) 1 0))] (fun _=>false) U4 AF
   go_wp2_with fail
   refine Eb.mono ?_
   rintro e w1 ⟨rfl,rfl⟩
   go_wp2_with fail
   refine hLn.mono ?_
   rintro e w1 ⟨rfl,rfl⟩
   go_wp2_with (refine cK rfl (jB _ _ _ rfl) ?_;intro y w1 hB1 hg1 hz1 hs1;refine stay ?_)
   refine bV ?_
   go_wp2_with (refine ch rfl 98 _ _ rfl _ rfl [ae af 2,ae af 0,ae af 0,ae af 0,.string ⟨#[]⟩] rfl hB1 rfl rfl am ?_;intro w2 hY2 hj2 hs2;refine stay ?_)
   refine bV ?_
   have hg2:Grow wr w2:=Below.trans hg1 (hj2.below (B:=wr.heap.size) (fun b hb=>by have e2:b=y:=hb;omega) al)
   have mw:bM (cS W q [(0,1,frame (dZ (4294967296+1) 1 0))] cW (A3 q.a)++[Sn s]):=bW (ci W q [(0,1,frame (dZ (4294967296+1) 1 0))] cW (A3 q.a) cW.framed (A3.framed q.a)) (bM.nil.cons (Sn.framed s))
   have hS2:=hSr.join mw hg2 (R:=Cell y 98 #[ae af 2,ae af 0,ae af 0,ae af 0,.string ⟨#[]⟩]) (U:=fun b=>b=y) ⟨rfl,hY2⟩ (fun b hb=>by have e2:b=y:=hb;omega)
   have hS2:Solo (cB V w) (Many (cS W q [(0,1,frame (dZ (4294967296+1) 1 0))] cW (A3 q.a)++[Sn s,Cell y 98 #[ae af 2,ae af 0,ae af 0,ae af 0,.string ⟨#[]⟩]])) w2:=hS2.perm (aG (l₁:=[Cell y 98 #[ae af 2,ae af 0,ae af 0,ae af 0,.string ⟨#[]⟩]]))
   have J2:=Jr.trans (Just.bJ hg2)
   have uX:bM [Sn s,Cell y 98 #[ae af 2,ae af 0,ae af 0,ae af 0,.string ⟨#[]⟩]]:=(bM.nil.cons (Cell.framed y 98 #[ae af 2,ae af 0,ae af 0,ae af 0,.string ⟨#[]⟩])).cons (Sn.framed s)
   have Eh:=Solo.at_ 0 rfl (uX.cons (Many.framed _ (ci W q [(0,1,frame (dZ (4294967296+1) 1 0))] cW (A3 q.a) cW.framed (A3.framed q.a)))) (Solo.eG (l:=cS W q [(0,1,frame (dZ (4294967296+1) 1 0))] cW (A3 q.a)) hS2) (fun U hU ey=>jA w2 W q [(0,1,frame (dZ (4294967296+1) 1 0))] [] cW (A3 q.a) cW cW cW.framed (A3.framed q.a) cW.framed cW.framed 2 0 0 0 ⟨#[]⟩ 0 1 1 ((1:Nat):Int) 0 1 0 0 (fun w V hM hV=>B4 w W q V hM hV) U hU ey)
   have hy2:=hS2.blk 8 rfl
   go_wp2_with (refine bY rfl 98 _ rfl _ rfl (hy2) Tryz.underlying98 am ?_)
   refine Eh.mono ?_
   rintro e w3 ⟨rfl,hj3,dO⟩
   have dO:Solo (cB V w) (Many (cS W q [] cW cW++[Sn s,Cell y 98 #[ae af 2,ae af 0,ae af 0,ae af 0,.string ⟨#[]⟩]])) w3:=Solo.flat (l:=cS W q [] cW cW) dO
   have J3:=J2.trans hj3
   go_wp2_with (refine cK rfl (gF _ _ _ rfl) ?_;intro ze w4 hB4 hg4 EA hs4;refine stay ?_)
   refine bV ?_
   go_wp2_with (refine ch rfl 100 _ _ rfl _ rfl [ae af 0,ae af 1,ae af 1,ae af ((1:Nat):Int),ae af 0,ae af 1,ae ah 0,ae af 0] rfl hB4 rfl rfl am ?_;intro w5 o8 dY hs5;refine stay ?_)
   refine bV ?_
   have hg5:Grow w3 w5:=Below.trans hg4 (dY.below (B:=w3.heap.size) (fun b hb=>by have e2:b=ze:=hb;omega) al)
   have i9:bM (cS W q [] cW cW++[Sn s,Cell y 98 #[ae af 2,ae af 0,ae af 0,ae af 0,.string ⟨#[]⟩]]):=bW (ci W q [] cW cW cW.framed cW.framed) uX
   have hS5:=dO.join i9 hg5 (R:=Cell ze 100 #[ae af 0,ae af 1,ae af 1,ae af ((1:Nat):Int),ae af 0,ae af 1,ae ah 0,ae af 0]) (U:=fun b=>b=ze) ⟨rfl,o8⟩ (fun b hb=>by have e2:b=ze:=hb;omega)
   have sU:=i9.cons (Cell.framed ze 100 #[ae af 0,ae af 1,ae af 1,ae af ((1:Nat):Int),ae af 0,ae af 1,ae ah 0,ae af 0])
   have J5:=J3.trans (Just.bJ hg5)
   have xB:=hS5.blk 9 rfl
   have OE:=hS5.blk 0 rfl
   have hAdd:=hS5.at_ 8 rfl sU (fun U hU ey=>B6 w5 s 0 0 0 ⟨#[]⟩ 1 ((1:Nat):Int) 0 1 0 0 U hU ey)
   go_wp2_with (first|(refine bY rfl 98 _ rfl _ rfl (xB) Tryz.underlying98 am ?_)|(refine bY rfl 100 _ rfl _ rfl (OE) Tryz.underlying100 am ?_))
   refine hAdd.mono ?_
   rintro e w6 ⟨rfl,fI,eC⟩
   have eC:Solo (cB V w) (Many (Cell ze 100 #[ae af 0,ae af 1,ae af 1,ae af ((1:Nat):Int),ae af 0,ae af 1,ae ah 0,ae af 0] :: (cS W q [] cW cW++[Sk s,Cell y 98 #[ae af 2,ae af 0,ae af 0,ae af 0,.string ⟨#[]⟩]]))) w6:=eC
   have J6:=J5.trans fI
   have Ls:=eC.blk 0 rfl
   have e0:=Ls.cell 0
   have e2:=Ls.cell 2
   have gB:Solo (cB V w) (Many (cS W q [] cW cW++[Sk s])) w6:=(Solo.perm (aG (l₁:=cS W q [] cW cW++[Sk s]) (l₂:=[Cell y 98 #[ae af 2,ae af 0,ae af 0,ae af 0,.string ⟨#[]⟩]])) eC.drop1).drop1
   go_wp2_with fail
   go_roundw
   case rel=>exact .inr (.inr ⟨rfl,rfl,gB,J6⟩)
   case measure=>simp[intOf]
  ·obtain⟨U4,AF,_⟩:=hSr.see 4 rfl
   have Eb:=jy wr W q.g q.rs q.ij q.ds (hSr.blk 0 rfl)
   have hLn:Calls au 117 #[.pointer (some ⟨q.g,0,none⟩)] wr fun e w'=>e=.returned (ae af 0)∧wr=w':=jz wr q.g 2 [] (fun _=>false) U4 AF
   go_wp2_with fail
   refine Eb.mono ?_
   rintro e w1 ⟨rfl,rfl⟩
   go_wp2_with fail
   refine hLn.mono ?_
   rintro e w1 ⟨rfl,rfl⟩
   go_wp2_with fail
   go_ret2
   obtain⟨r1,r2⟩:=Solo.done hSr Jr hV
   exact⟨rfl,r1,r2⟩
theorem Ga (w:World) (W:Nat) (q:o5) (s:Nat) (V:Nat→Prop) (hM:Many (cS W q [(1,0,frame (dV dK))] (R1 q.r) (A3 q.a)++[Sn s]) w V) (hV:∀ b,V b→b<w.heap.size):Calls au 109 #[((W:Nat):Value),((s:Nat):Value),ae af 400] w fun e w'=>e=.returned (ae af 2)∧Many (cS W q [] cW cW++[Sk s]) w' (Ext V w w')∧Just V w w':=by
 have hD:=G9 w W q s V hM hV
 go_enter Tryz.func109,Tryz.ntmps109
 go_wp2_with fail
 refine hD.mono ?_
 rintro e w1 ⟨rfl,r1,r2⟩
 go_wp2_with fail
 go_ret
 exact⟨rfl,r1,r2⟩
end Go.Proofs.YtmijcbfgfkeodaaGreatDoor
end
