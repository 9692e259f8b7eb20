/- Aw1, Aw2, Bulk, Ga4. -/
import Derived.Test.YtmijcbfgfkeodaaGreatDoorIz43
import Derived.Test.YtmijcbfgfkeodaaGreatDoorRows
set_option linter.all false
set_option maxRecDepth 100000
set_option maxHeartbeats 2000000
open Go.Value renaming int → ae,slice → ai
open Go.IntKind renaming i64 → af,u64 → ah
open Go.Proofs.Tryz renaming prog → au
open List renaming perm_append_comm → aG,length_cons → aL,cons_append → bA
open Nat renaming le_trans → aH
section
namespace Go.Proofs.YtmijcbfgfkeodaaGreatDoor
open Go.RowKit Go.Hop V
theorem _root_.Go.Hop.ct.sL {w:World} {g:Nat} {t:TypeId} {vs:List Value} (h:ct w g t vs.toArray) (b:Nat) (cs:List Value) (hc:(vs.drop b).take cs.length=cs):w.rangeAt g b cs:=fun j u hu=>by
 have hj:j<cs.length:=(List.getElem?_eq_some_iff.1 hu).1
 rw[←hc,List.getElem?_take,if_pos hj,List.getElem?_drop] at hu
 rw[h.cell]
 simpa using hu
theorem Ei (w:World) (W:Nat) (q:o5) (s b:Nat) (V:Nat→Prop) (hM:Many (cS W q [] (R0 q.r) (A0 q.a)++[Sn s,Cell b 98 #[ae af 8,ae af 0,ae af 0,ae af 0,.string ⟨#[]⟩]]) w V) (hV:∀ b,V b→b<w.heap.size):Calls au 43 #[((W:Nat):Value),((s:Nat):Value),.slice (some ⟨b,0,none⟩) 1 1] w fun e w'=>e=.returned (.bool true)∧Many (cS W q [] (R1 q.r) (A0 q.a)++[Sn s,Cell b 98 #[ae af 8,ae af 0,ae af 0,ae af 0,.string ⟨#[]⟩]]) w' (Ext V w w')∧Just V w w':=by
 have hS0:=Solo.begin_ hM hV
 go_enter Tryz.func43,Tryz.ntmps43
 go_wp2_with fail
 go_loopw [12] (fun i wr=>(i=ae af 0∧w=wr)∨(i=ae af 1∧Solo (cB V w) (Many (cS W q [] (R1 q.r) (A0 q.a)++[Sn s,Cell b 98 #[ae af 8,ae af 0,ae af 0,ae af 0,.string ⟨#[]⟩]])) wr∧Just (cB V w) w wr)) (fun i _=>1-(intOf i).toNat)
 case atStart=>exact .inl ⟨rfl,rfl⟩
 case round=>
  rcases hrel with ⟨rfl,rfl⟩|⟨rfl,hSr,Jr⟩
  ·have hSr:=hS0
   have Jr:Just (cB V w) w w:=Just.bJ (Grow.refl w)
   have mw:bM (cS W q [] (R0 q.r) (A0 q.a)++[Sn s,Cell b 98 #[ae af 8,ae af 0,ae af 0,ae af 0,.string ⟨#[]⟩]]):=bW (ci W q [] (R0 q.r) (A0 q.a) (R0.framed q.r) (A0.framed q.a)) ((bM.nil.cons (Cell.framed b 98 #[ae af 8,ae af 0,ae af 0,ae af 0,.string ⟨#[]⟩])).cons (Sn.framed s))
   have hrec:=(hSr.blk 8 rfl).sL 0 [ae af 8,ae af 0,ae af 0,ae af 0,.string ⟨#[]⟩] rfl
   go_wp2_with (refine eL rfl 98 _ rfl b 0 rfl [ae af 8,ae af 0,ae af 0,ae af 0,.string ⟨#[]⟩] hrec Tryz.underlying98 am ?_;refine stay ?_)
   refine bV ?_
   go_wp2_with (refine cK rfl (jB _ _ _ rfl) ?_;intro y w1 hB1 hg1 hz1 hs1;refine stay ?_)
   refine bV ?_
   go_wp2_with (refine ch rfl 98 _ _ rfl _ rfl [ae af 8,ae af 0,ae af 0,ae af 0,.string ⟨#[]⟩] rfl hB1 rfl rfl am ?_;intro w2 hY2 hj2 hs2;refine stay ?_)
   refine bV ?_
   have hg2:Grow w w2:=Below.trans hg1 (hj2.below (B:=w.heap.size) (fun b hb=>by have e2:b=y:=hb;omega) al)
   have hS2:=hSr.join mw hg2 (R:=Cell y 98 #[ae af 8,ae af 0,ae af 0,ae af 0,.string ⟨#[]⟩]) (U:=fun b=>b=y) ⟨rfl,hY2⟩ (fun b hb=>by have e2:b=y:=hb;omega)
   have hS2:Solo (cB V w) (Many (cS W q [] (R0 q.r) (A0 q.a)++[Sn s,Cell b 98 #[ae af 8,ae af 0,ae af 0,ae af 0,.string ⟨#[]⟩],Cell y 98 #[ae af 8,ae af 0,ae af 0,ae af 0,.string ⟨#[]⟩]])) w2:=hS2.perm (aG (l₁:=[Cell y 98 #[ae af 8,ae af 0,ae af 0,ae af 0,.string ⟨#[]⟩]]))
   have J2:=Jr.trans (Just.bJ hg2)
   have uX:bM [Sn s,Cell b 98 #[ae af 8,ae af 0,ae af 0,ae af 0,.string ⟨#[]⟩],Cell y 98 #[ae af 8,ae af 0,ae af 0,ae af 0,.string ⟨#[]⟩]]:=((bM.nil.cons (Cell.framed y 98 #[ae af 8,ae af 0,ae af 0,ae af 0,.string ⟨#[]⟩])).cons (Cell.framed b 98 #[ae af 8,ae af 0,ae af 0,ae af 0,.string ⟨#[]⟩])).cons (Sn.framed s)
   have Eh:=Solo.at_ 0 rfl (uX.cons (Many.framed _ (ci W q [] (R0 q.r) (A0 q.a) (R0.framed q.r) (A0.framed q.a)))) (Solo.eG (l:=cS W q [] (R0 q.r) (A0 q.a)) hS2) (fun U hU ey=>jA w2 W q [] [] (R0 q.r) (A0 q.a) (R1 q.r) (A0 q.a) (R0.framed q.r) (A0.framed q.a) (R1.framed q.r) (A0.framed q.a) 8 0 0 0 ⟨#[]⟩ 0 0 0 0 0 0 0 0 (fun w9 V9 yB Ec=>G2 w9 W q (A0 q.a) (A0.framed q.a) V9 yB Ec) U hU ey)
   have hy2:=hS2.blk 9 rfl
   go_wp2_with (refine bY rfl 98 _ rfl _ rfl (hy2) Tryz.underlying98 am ?_)
   refine Eh.mono ?_
   rintro e w3 ⟨rfl,hj3,dO⟩
   have dO:Solo (cB V w) (Many (cS W q [] (R1 q.r) (A0 q.a)++[Sn s,Cell b 98 #[ae af 8,ae af 0,ae af 0,ae af 0,.string ⟨#[]⟩],Cell y 98 #[ae af 8,ae af 0,ae af 0,ae af 0,.string ⟨#[]⟩]])) w3:=Solo.flat (l:=cS W q [] (R1 q.r) (A0 q.a)) dO
   have J3:=J2.trans hj3
   go_wp2_with (refine cK rfl (gF _ _ _ rfl) ?_;intro ze w4 hB4 hg4 EA hs4;refine stay ?_)
   refine bV ?_
   go_wp2_with (refine ch rfl 100 _ _ rfl _ rfl [ae af 0,ae af 0,ae af 0,ae af 0,ae af 0,ae af 0,ae ah 0,ae af 0] rfl hB4 rfl rfl am ?_;intro w5 o8 dY hs5;refine stay ?_)
   refine bV ?_
   have hg5:Grow w3 w5:=Below.trans hg4 (dY.below (B:=w3.heap.size) (fun b hb=>by have e2:b=ze:=hb;omega) al)
   have i9:bM (cS W q [] (R1 q.r) (A0 q.a)++[Sn s,Cell b 98 #[ae af 8,ae af 0,ae af 0,ae af 0,.string ⟨#[]⟩],Cell y 98 #[ae af 8,ae af 0,ae af 0,ae af 0,.string ⟨#[]⟩]]):=bW (ci W q [] (R1 q.r) (A0 q.a) (R1.framed q.r) (A0.framed q.a)) uX
   have hS5:=dO.grows i9 hg5
   have J5:=J3.trans (Just.bJ hg5)
   have xB:=hS5.blk 9 rfl
   have hAdd:=fun x o9=>ka w5 (((s:Nat):Value)) 8 0 0 0 ⟨#[]⟩ ak 0 0 0 0 0 0 x o9
   go_wp2_with (first|(refine bY rfl 98 _ rfl _ rfl (xB) Tryz.underlying98 am ?_)|(refine bY rfl 100 _ rfl _ rfl (o8) Tryz.underlying100 am ?_))
   refine (hAdd _ _).mono ?_
   rintro e w6 ⟨rfl,dT⟩
   have eC:=hS5.grows i9 dT
   have J6:=J5.trans (Just.bJ dT)
   have e0:=(o8.grow dT).cell 0
   have gB:Solo (cB V w) (Many (cS W q [] (R1 q.r) (A0 q.a)++[Sn s,Cell b 98 #[ae af 8,ae af 0,ae af 0,ae af 0,.string ⟨#[]⟩]])) w6:=(Solo.perm (aG (l₁:=cS W q [] (R1 q.r) (A0 q.a)++[Sn s,Cell b 98 #[ae af 8,ae af 0,ae af 0,ae af 0,.string ⟨#[]⟩]]) (l₂:=[Cell y 98 #[ae af 8,ae af 0,ae af 0,ae af 0,.string ⟨#[]⟩]])) eC).drop1
   go_wp2_with fail
   go_roundw
   case rel=>exact .inr ⟨rfl,gB,J6⟩
   case measure=>simp[intOf]
  ·go_wp2_with fail
   go_ret
   obtain⟨r1,r2⟩:=Solo.done hSr Jr hV
   exact⟨rfl,r1,r2⟩
theorem Ej (w:World) (W:Nat) (q:o5) (s b:Nat) (V:Nat→Prop) (hM:Many (cS W q [] (R1 q.r) (A0 q.a)++[Sn s,Cell b 98 #[ae af 9,ae af 1,ae af 0,ae af 7,.string ei,ae af 10,ae af 1,ae af 0,ae af 0,.string ⟨#[]⟩,ae af 1,ae af 1,ae af 0,ae af 1,.string ⟨#[]⟩]]) w V) (hV:∀ b,V b→b<w.heap.size):Calls au 43 #[((W:Nat):Value),((s:Nat):Value),.slice (some ⟨b,0,none⟩) 3 3] w fun e w'=>e=.returned (.bool true)∧Many (cS W q [(1,0,frame (dV dK))] (R1 q.r) (A3 q.a)++[Sn s,Cell b 98 #[ae af 9,ae af 1,ae af 0,ae af 7,.string ei,ae af 10,ae af 1,ae af 0,ae af 0,.string ⟨#[]⟩,ae af 1,ae af 1,ae af 0,ae af 1,.string ⟨#[]⟩]]) w' (Ext V w w')∧Just V w w':=by
 have hS0:=Solo.begin_ hM hV
 go_enter Tryz.func43,Tryz.ntmps43
 go_wp2_with fail
 go_loopw [12] (fun i wr=>(i=ae af 0∧w=wr)∨(i=ae af 1∧Solo (cB V w) (Many (cS W q [] (R1 q.r) (A1 q.a)++[Sn s,Cell b 98 #[ae af 9,ae af 1,ae af 0,ae af 7,.string ei,ae af 10,ae af 1,ae af 0,ae af 0,.string ⟨#[]⟩,ae af 1,ae af 1,ae af 0,ae af 1,.string ⟨#[]⟩]])) wr∧Just (cB V w) w wr)∨(i=ae af 2∧Solo (cB V w) (Many (cS W q [] (R1 q.r) (A2 q.a)++[Sn s,Cell b 98 #[ae af 9,ae af 1,ae af 0,ae af 7,.string ei,ae af 10,ae af 1,ae af 0,ae af 0,.string ⟨#[]⟩,ae af 1,ae af 1,ae af 0,ae af 1,.string ⟨#[]⟩]])) wr∧Just (cB V w) w wr)∨(i=ae af 3∧Solo (cB V w) (Many (cS W q [(1,0,frame (dV dK))] (R1 q.r) (A3 q.a)++[Sn s,Cell b 98 #[ae af 9,ae af 1,ae af 0,ae af 7,.string ei,ae af 10,ae af 1,ae af 0,ae af 0,.string ⟨#[]⟩,ae af 1,ae af 1,ae af 0,ae af 1,.string ⟨#[]⟩]])) wr∧Just (cB V w) w wr)) (fun i _=>3-(intOf i).toNat)
 case atStart=>exact .inl ⟨rfl,rfl⟩
 case round=>
  rcases hrel with ⟨rfl,rfl⟩|⟨rfl,hSr,Jr⟩|⟨rfl,hSr,Jr⟩|⟨rfl,hSr,Jr⟩
  ·have hSr:=hS0
   have Jr:Just (cB V w) w w:=Just.bJ (Grow.refl w)
   have mw:bM (cS W q [] (R1 q.r) (A0 q.a)++[Sn s,Cell b 98 #[ae af 9,ae af 1,ae af 0,ae af 7,.string ei,ae af 10,ae af 1,ae af 0,ae af 0,.string ⟨#[]⟩,ae af 1,ae af 1,ae af 0,ae af 1,.string ⟨#[]⟩]]):=bW (ci W q [] (R1 q.r) (A0 q.a) (R1.framed q.r) (A0.framed q.a)) ((bM.nil.cons (Cell.framed b 98 #[ae af 9,ae af 1,ae af 0,ae af 7,.string ei,ae af 10,ae af 1,ae af 0,ae af 0,.string ⟨#[]⟩,ae af 1,ae af 1,ae af 0,ae af 1,.string ⟨#[]⟩])).cons (Sn.framed s))
   have hrec:=(hSr.blk 8 rfl).sL 0 [ae af 9,ae af 1,ae af 0,ae af 7,.string ei] rfl
   go_wp2_with (refine eL rfl 98 _ rfl b 0 rfl [ae af 9,ae af 1,ae af 0,ae af 7,.string ei] hrec Tryz.underlying98 am ?_;refine stay ?_)
   refine bV ?_
   go_wp2_with (refine cK rfl (jB _ _ _ rfl) ?_;intro y w1 hB1 hg1 hz1 hs1;refine stay ?_)
   refine bV ?_
   go_wp2_with (refine ch rfl 98 _ _ rfl _ rfl [ae af 9,ae af 1,ae af 0,ae af 7,.string ei] rfl hB1 rfl rfl am ?_;intro w2 hY2 hj2 hs2;refine stay ?_)
   refine bV ?_
   have hg2:Grow w w2:=Below.trans hg1 (hj2.below (B:=w.heap.size) (fun b hb=>by have e2:b=y:=hb;omega) al)
   have hS2:=hSr.join mw hg2 (R:=Cell y 98 #[ae af 9,ae af 1,ae af 0,ae af 7,.string ei]) (U:=fun b=>b=y) ⟨rfl,hY2⟩ (fun b hb=>by have e2:b=y:=hb;omega)
   have hS2:Solo (cB V w) (Many (cS W q [] (R1 q.r) (A0 q.a)++[Sn s,Cell b 98 #[ae af 9,ae af 1,ae af 0,ae af 7,.string ei,ae af 10,ae af 1,ae af 0,ae af 0,.string ⟨#[]⟩,ae af 1,ae af 1,ae af 0,ae af 1,.string ⟨#[]⟩],Cell y 98 #[ae af 9,ae af 1,ae af 0,ae af 7,.string ei]])) w2:=hS2.perm (aG (l₁:=[Cell y 98 #[ae af 9,ae af 1,ae af 0,ae af 7,.string ei]]))
   have J2:=Jr.trans (Just.bJ hg2)
   have uX:bM [Sn s,Cell b 98 #[ae af 9,ae af 1,ae af 0,ae af 7,.string ei,ae af 10,ae af 1,ae af 0,ae af 0,.string ⟨#[]⟩,ae af 1,ae af 1,ae af 0,ae af 1,.string ⟨#[]⟩],Cell y 98 #[ae af 9,ae af 1,ae af 0,ae af 7,.string ei]]:=((bM.nil.cons (Cell.framed y 98 #[ae af 9,ae af 1,ae af 0,ae af 7,.string ei])).cons (Cell.framed b 98 #[ae af 9,ae af 1,ae af 0,ae af 7,.string ei,ae af 10,ae af 1,ae af 0,ae af 0,.string ⟨#[]⟩,ae af 1,ae af 1,ae af 0,ae af 1,.string ⟨#[]⟩])).cons (Sn.framed s)
   have Eh:=Solo.at_ 0 rfl (uX.cons (Many.framed _ (ci W q [] (R1 q.r) (A0 q.a) (R1.framed q.r) (A0.framed q.a)))) (Solo.eG (l:=cS W q [] (R1 q.r) (A0 q.a)) hS2) (fun U hU ey=>jA w2 W q [] [] (R1 q.r) (A0 q.a) (R1 q.r) (A1 q.a) (R1.framed q.r) (A0.framed q.a) (R1.framed q.r) (A1.framed q.a) 9 1 0 7 ei 0 0 0 0 0 0 0 0 (fun w9 V9 yB Ec=>B1 w9 W q (R1 q.r) (R1.framed q.r) V9 yB Ec) U hU ey)
   have hy2:=hS2.blk 9 rfl
   go_wp2_with (refine bY rfl 98 _ rfl _ rfl (hy2) Tryz.underlying98 am ?_)
   refine Eh.mono ?_
   rintro e w3 ⟨rfl,hj3,dO⟩
   have dO:Solo (cB V w) (Many (cS W q [] (R1 q.r) (A1 q.a)++[Sn s,Cell b 98 #[ae af 9,ae af 1,ae af 0,ae af 7,.string ei,ae af 10,ae af 1,ae af 0,ae af 0,.string ⟨#[]⟩,ae af 1,ae af 1,ae af 0,ae af 1,.string ⟨#[]⟩],Cell y 98 #[ae af 9,ae af 1,ae af 0,ae af 7,.string ei]])) w3:=Solo.flat (l:=cS W q [] (R1 q.r) (A1 q.a)) dO
   have J3:=J2.trans hj3
   go_wp2_with (refine cK rfl (gF _ _ _ rfl) ?_;intro ze w4 hB4 hg4 EA hs4;refine stay ?_)
   refine bV ?_
   go_wp2_with (refine ch rfl 100 _ _ rfl _ rfl [ae af 0,ae af 0,ae af 0,ae af 0,ae af 0,ae af 0,ae ah 0,ae af 0] rfl hB4 rfl rfl am ?_;intro w5 o8 dY hs5;refine stay ?_)
   refine bV ?_
   have hg5:Grow w3 w5:=Below.trans hg4 (dY.below (B:=w3.heap.size) (fun b hb=>by have e2:b=ze:=hb;omega) al)
   have i9:bM (cS W q [] (R1 q.r) (A1 q.a)++[Sn s,Cell b 98 #[ae af 9,ae af 1,ae af 0,ae af 7,.string ei,ae af 10,ae af 1,ae af 0,ae af 0,.string ⟨#[]⟩,ae af 1,ae af 1,ae af 0,ae af 1,.string ⟨#[]⟩],Cell y 98 #[ae af 9,ae af 1,ae af 0,ae af 7,.string ei]]):=bW (ci W q [] (R1 q.r) (A1 q.a) (R1.framed q.r) (A1.framed q.a)) uX
   have hS5:=dO.grows i9 hg5
   have J5:=J3.trans (Just.bJ hg5)
   have xB:=hS5.blk 9 rfl
   have hAdd:=fun x o9=>ka w5 (((s:Nat):Value)) 9 1 0 7 ei ak 0 0 0 0 0 0 x o9
   go_wp2_with (first|(refine bY rfl 98 _ rfl _ rfl (xB) Tryz.underlying98 am ?_)|(refine bY rfl 100 _ rfl _ rfl (o8) Tryz.underlying100 am ?_))
   refine (hAdd _ _).mono ?_
   rintro e w6 ⟨rfl,dT⟩
   have eC:=hS5.grows i9 dT
   have J6:=J5.trans (Just.bJ dT)
   have e0:=(o8.grow dT).cell 0
   have gB:Solo (cB V w) (Many (cS W q [] (R1 q.r) (A1 q.a)++[Sn s,Cell b 98 #[ae af 9,ae af 1,ae af 0,ae af 7,.string ei,ae af 10,ae af 1,ae af 0,ae af 0,.string ⟨#[]⟩,ae af 1,ae af 1,ae af 0,ae af 1,.string ⟨#[]⟩]])) w6:=(Solo.perm (aG (l₁:=cS W q [] (R1 q.r) (A1 q.a)++[Sn s,Cell b 98 #[ae af 9,ae af 1,ae af 0,ae af 7,.string ei,ae af 10,ae af 1,ae af 0,ae af 0,.string ⟨#[]⟩,ae af 1,ae af 1,ae af 0,ae af 1,.string ⟨#[]⟩]]) (l₂:=[Cell y 98 #[ae af 9,ae af 1,ae af 0,ae af 7,.string ei]])) eC).drop1
   go_wp2_with fail
   go_roundw
   case rel=>exact .inr (.inl ⟨rfl,gB,J6⟩)
   case measure=>simp[intOf]
  ·skip
   have mw:bM (cS W q [] (R1 q.r) (A1 q.a)++[Sn s,Cell b 98 #[ae af 9,ae af 1,ae af 0,ae af 7,.string ei,ae af 10,ae af 1,ae af 0,ae af 0,.string ⟨#[]⟩,ae af 1,ae af 1,ae af 0,ae af 1,.string ⟨#[]⟩]]):=bW (ci W q [] (R1 q.r) (A1 q.a) (R1.framed q.r) (A1.framed q.a)) ((bM.nil.cons (Cell.framed b 98 #[ae af 9,ae af 1,ae af 0,ae af 7,.string ei,ae af 10,ae af 1,ae af 0,ae af 0,.string ⟨#[]⟩,ae af 1,ae af 1,ae af 0,ae af 1,.string ⟨#[]⟩])).cons (Sn.framed s))
   have hrec:=(hSr.blk 8 rfl).sL 5 [ae af 10,ae af 1,ae af 0,ae af 0,.string ⟨#[]⟩] rfl
   go_wp2_with (refine eL rfl 98 _ rfl b 5 rfl [ae af 10,ae af 1,ae af 0,ae af 0,.string ⟨#[]⟩] hrec Tryz.underlying98 am ?_;refine stay ?_)
   refine bV ?_
   go_wp2_with (refine cK rfl (jB _ _ _ rfl) ?_;intro y w1 hB1 hg1 hz1 hs1;refine stay ?_)
   refine bV ?_
   go_wp2_with (refine ch rfl 98 _ _ rfl _ rfl [ae af 10,ae af 1,ae af 0,ae af 0,.string ⟨#[]⟩] rfl hB1 rfl rfl am ?_;intro w2 hY2 hj2 hs2;refine stay ?_)
   refine bV ?_
   have hg2:Grow wr w2:=Below.trans hg1 (hj2.below (B:=wr.heap.size) (fun b hb=>by have e2:b=y:=hb;omega) al)
   have hS2:=hSr.join mw hg2 (R:=Cell y 98 #[ae af 10,ae af 1,ae af 0,ae af 0,.string ⟨#[]⟩]) (U:=fun b=>b=y) ⟨rfl,hY2⟩ (fun b hb=>by have e2:b=y:=hb;omega)
   have hS2:Solo (cB V w) (Many (cS W q [] (R1 q.r) (A1 q.a)++[Sn s,Cell b 98 #[ae af 9,ae af 1,ae af 0,ae af 7,.string ei,ae af 10,ae af 1,ae af 0,ae af 0,.string ⟨#[]⟩,ae af 1,ae af 1,ae af 0,ae af 1,.string ⟨#[]⟩],Cell y 98 #[ae af 10,ae af 1,ae af 0,ae af 0,.string ⟨#[]⟩]])) w2:=hS2.perm (aG (l₁:=[Cell y 98 #[ae af 10,ae af 1,ae af 0,ae af 0,.string ⟨#[]⟩]]))
   have J2:=Jr.trans (Just.bJ hg2)
   have uX:bM [Sn s,Cell b 98 #[ae af 9,ae af 1,ae af 0,ae af 7,.string ei,ae af 10,ae af 1,ae af 0,ae af 0,.string ⟨#[]⟩,ae af 1,ae af 1,ae af 0,ae af 1,.string ⟨#[]⟩],Cell y 98 #[ae af 10,ae af 1,ae af 0,ae af 0,.string ⟨#[]⟩]]:=((bM.nil.cons (Cell.framed y 98 #[ae af 10,ae af 1,ae af 0,ae af 0,.string ⟨#[]⟩])).cons (Cell.framed b 98 #[ae af 9,ae af 1,ae af 0,ae af 7,.string ei,ae af 10,ae af 1,ae af 0,ae af 0,.string ⟨#[]⟩,ae af 1,ae af 1,ae af 0,ae af 1,.string ⟨#[]⟩])).cons (Sn.framed s)
   have Eh:=Solo.at_ 0 rfl (uX.cons (Many.framed _ (ci W q [] (R1 q.r) (A1 q.a) (R1.framed q.r) (A1.framed q.a)))) (Solo.eG (l:=cS W q [] (R1 q.r) (A1 q.a)) hS2) (fun U hU ey=>jA w2 W q [] [] (R1 q.r) (A1 q.a) (R1 q.r) (A2 q.a) (R1.framed q.r) (A1.framed q.a) (R1.framed q.r) (A2.framed q.a) 10 1 0 0 ⟨#[]⟩ 0 0 1 0 0 0 0 0 (fun w9 V9 yB Ec=>Ef w9 W q (R1 q.r) (R1.framed q.r) V9 yB Ec) U hU ey)
   have hy2:=hS2.blk 9 rfl
   go_wp2_with (refine bY rfl 98 _ rfl _ rfl (hy2) Tryz.underlying98 am ?_)
   refine Eh.mono ?_
   rintro e w3 ⟨rfl,hj3,dO⟩
   have dO:Solo (cB V w) (Many (cS W q [] (R1 q.r) (A2 q.a)++[Sn s,Cell b 98 #[ae af 9,ae af 1,ae af 0,ae af 7,.string ei,ae af 10,ae af 1,ae af 0,ae af 0,.string ⟨#[]⟩,ae af 1,ae af 1,ae af 0,ae af 1,.string ⟨#[]⟩],Cell y 98 #[ae af 10,ae af 1,ae af 0,ae af 0,.string ⟨#[]⟩]])) w3:=Solo.flat (l:=cS W q [] (R1 q.r) (A2 q.a)) dO
   have J3:=J2.trans hj3
   go_wp2_with (refine cK rfl (gF _ _ _ rfl) ?_;intro ze w4 hB4 hg4 EA hs4;refine stay ?_)
   refine bV ?_
   go_wp2_with (refine ch rfl 100 _ _ rfl _ rfl [ae af 0,ae af 0,ae af 1,ae af 0,ae af 0,ae af 0,ae ah 0,ae af 0] rfl hB4 rfl rfl am ?_;intro w5 o8 dY hs5;refine stay ?_)
   refine bV ?_
   have hg5:Grow w3 w5:=Below.trans hg4 (dY.below (B:=w3.heap.size) (fun b hb=>by have e2:b=ze:=hb;omega) al)
   have i9:bM (cS W q [] (R1 q.r) (A2 q.a)++[Sn s,Cell b 98 #[ae af 9,ae af 1,ae af 0,ae af 7,.string ei,ae af 10,ae af 1,ae af 0,ae af 0,.string ⟨#[]⟩,ae af 1,ae af 1,ae af 0,ae af 1,.string ⟨#[]⟩],Cell y 98 #[ae af 10,ae af 1,ae af 0,ae af 0,.string ⟨#[]⟩]]):=bW (ci W q [] (R1 q.r) (A2 q.a) (R1.framed q.r) (A2.framed q.a)) uX
   have hS5:=dO.grows i9 hg5
   have J5:=J3.trans (Just.bJ hg5)
   have xB:=hS5.blk 9 rfl
   have hAdd:=fun x o9=>ka w5 (((s:Nat):Value)) 10 1 0 0 ⟨#[]⟩ ak 0 0 1 0 0 0 x o9
   go_wp2_with (first|(refine bY rfl 98 _ rfl _ rfl (xB) Tryz.underlying98 am ?_)|(refine bY rfl 100 _ rfl _ rfl (o8) Tryz.underlying100 am ?_))
   refine (hAdd _ _).mono ?_
   rintro e w6 ⟨rfl,dT⟩
   have eC:=hS5.grows i9 dT
   have J6:=J5.trans (Just.bJ dT)
   have e0:=(o8.grow dT).cell 0
   have gB:Solo (cB V w) (Many (cS W q [] (R1 q.r) (A2 q.a)++[Sn s,Cell b 98 #[ae af 9,ae af 1,ae af 0,ae af 7,.string ei,ae af 10,ae af 1,ae af 0,ae af 0,.string ⟨#[]⟩,ae af 1,ae af 1,ae af 0,ae af 1,.string ⟨#[]⟩]])) w6:=(Solo.perm (aG (l₁:=cS W q [] (R1 q.r) (A2 q.a)++[Sn s,Cell b 98 #[ae af 9,ae af 1,ae af 0,ae af 7,.string ei,ae af 10,ae af 1,ae af 0,ae af 0,.string ⟨#[]⟩,ae af 1,ae af 1,ae af 0,ae af 1,.string ⟨#[]⟩]]) (l₂:=[Cell y 98 #[ae af 10,ae af 1,ae af 0,ae af 0,.string ⟨#[]⟩]])) eC).drop1
   go_wp2_with fail
   go_roundw
   case rel=>exact .inr (.inr (.inl ⟨rfl,gB,J6⟩))
   case measure=>simp[intOf]
  ·skip
   have mw:bM (cS W q [] (R1 q.r) (A2 q.a)++[Sn s,Cell b 98 #[ae af 9,ae af 1,ae af 0,ae af 7,.string ei,ae af 10,ae af 1,ae af 0,ae af 0,.string ⟨#[]⟩,ae af 1,ae af 1,ae af 0,ae af 1,.string ⟨#[]⟩]]):=bW (ci W q [] (R1 q.r) (A2 q.a) (R1.framed q.r) (A2.framed q.a)) ((bM.nil.cons (Cell.framed b 98 #[ae af 9,ae af 1,ae af 0,ae af 7,.string ei,ae af 10,ae af 1,ae af 0,ae af 0,.string ⟨#[]⟩,ae af 1,ae af 1,ae af 0,ae af 1,.string ⟨#[]⟩])).cons (Sn.framed s))
   have hrec:=(hSr.blk 8 rfl).sL 10 [ae af 1,ae af 1,ae af 0,ae af 1,.string ⟨#[]⟩] rfl
   go_wp2_with (refine eL rfl 98 _ rfl b 10 rfl [ae af 1,ae af 1,ae af 0,ae af 1,.string ⟨#[]⟩] hrec Tryz.underlying98 am ?_;refine stay ?_)
   refine bV ?_
   go_wp2_with (refine cK rfl (jB _ _ _ rfl) ?_;intro y w1 hB1 hg1 hz1 hs1;refine stay ?_)
   refine bV ?_
   go_wp2_with (refine ch rfl 98 _ _ rfl _ rfl [ae af 1,ae af 1,ae af 0,ae af 1,.string ⟨#[]⟩] rfl hB1 rfl rfl am ?_;intro w2 hY2 hj2 hs2;refine stay ?_)
   refine bV ?_
   have hg2:Grow wr w2:=Below.trans hg1 (hj2.below (B:=wr.heap.size) (fun b hb=>by have e2:b=y:=hb;omega) al)
   have hS2:=hSr.join mw hg2 (R:=Cell y 98 #[ae af 1,ae af 1,ae af 0,ae af 1,.string ⟨#[]⟩]) (U:=fun b=>b=y) ⟨rfl,hY2⟩ (fun b hb=>by have e2:b=y:=hb;omega)
   have hS2:Solo (cB V w) (Many (cS W q [] (R1 q.r) (A2 q.a)++[Sn s,Cell b 98 #[ae af 9,ae af 1,ae af 0,ae af 7,.string ei,ae af 10,ae af 1,ae af 0,ae af 0,.string ⟨#[]⟩,ae af 1,ae af 1,ae af 0,ae af 1,.string ⟨#[]⟩],Cell y 98 #[ae af 1,ae af 1,ae af 0,ae af 1,.string ⟨#[]⟩]])) w2:=hS2.perm (aG (l₁:=[Cell y 98 #[ae af 1,ae af 1,ae af 0,ae af 1,.string ⟨#[]⟩]]))
   have J2:=Jr.trans (Just.bJ hg2)
   have uX:bM [Sn s,Cell b 98 #[ae af 9,ae af 1,ae af 0,ae af 7,.string ei,ae af 10,ae af 1,ae af 0,ae af 0,.string ⟨#[]⟩,ae af 1,ae af 1,ae af 0,ae af 1,.string ⟨#[]⟩],Cell y 98 #[ae af 1,ae af 1,ae af 0,ae af 1,.string ⟨#[]⟩]]:=((bM.nil.cons (Cell.framed y 98 #[ae af 1,ae af 1,ae af 0,ae af 1,.string ⟨#[]⟩])).cons (Cell.framed b 98 #[ae af 9,ae af 1,ae af 0,ae af 7,.string ei,ae af 10,ae af 1,ae af 0,ae af 0,.string ⟨#[]⟩,ae af 1,ae af 1,ae af 0,ae af 1,.string ⟨#[]⟩])).cons (Sn.framed s)
   have Eh:=Solo.at_ 0 rfl (uX.cons (Many.framed _ (ci W q [] (R1 q.r) (A2 q.a) (R1.framed q.r) (A2.framed q.a)))) (Solo.eG (l:=cS W q [] (R1 q.r) (A2 q.a)) hS2) (fun U hU ey=>jA w2 W q [] [(1,0,frame (dV dK))] (R1 q.r) (A2 q.a) (R1 q.r) (A3 q.a) (R1.framed q.r) (A2.framed q.a) (R1.framed q.r) (A3.framed q.a) 1 1 0 1 ⟨#[]⟩ 0 1 0 0 0 0 0 0 (fun w9 V9 yB Ec=>G1 w9 W q (R1 q.r) (R1.framed q.r) V9 yB Ec) U hU ey)
   have hy2:=hS2.blk 9 rfl
   go_wp2_with (refine bY rfl 98 _ rfl _ rfl (hy2) Tryz.underlying98 am ?_)
   refine Eh.mono ?_
   rintro e w3 ⟨rfl,hj3,dO⟩
   have dO:Solo (cB V w) (Many (cS W q [(1,0,frame (dV dK))] (R1 q.r) (A3 q.a)++[Sn s,Cell b 98 #[ae af 9,ae af 1,ae af 0,ae af 7,.string ei,ae af 10,ae af 1,ae af 0,ae af 0,.string ⟨#[]⟩,ae af 1,ae af 1,ae af 0,ae af 1,.string ⟨#[]⟩],Cell y 98 #[ae af 1,ae af 1,ae af 0,ae af 1,.string ⟨#[]⟩]])) w3:=Solo.flat (l:=cS W q [(1,0,frame (dV dK))] (R1 q.r) (A3 q.a)) dO
   have J3:=J2.trans hj3
   go_wp2_with (refine cK rfl (gF _ _ _ rfl) ?_;intro ze w4 hB4 hg4 EA hs4;refine stay ?_)
   refine bV ?_
   go_wp2_with (refine ch rfl 100 _ _ rfl _ rfl [ae af 0,ae af 1,ae af 0,ae af 0,ae af 0,ae af 0,ae ah 0,ae af 1] rfl hB4 rfl rfl am ?_;intro w5 o8 dY hs5;refine stay ?_)
   refine bV ?_
   have hg5:Grow w3 w5:=Below.trans hg4 (dY.below (B:=w3.heap.size) (fun b hb=>by have e2:b=ze:=hb;omega) al)
   have i9:bM (cS W q [(1,0,frame (dV dK))] (R1 q.r) (A3 q.a)++[Sn s,Cell b 98 #[ae af 9,ae af 1,ae af 0,ae af 7,.string ei,ae af 10,ae af 1,ae af 0,ae af 0,.string ⟨#[]⟩,ae af 1,ae af 1,ae af 0,ae af 1,.string ⟨#[]⟩],Cell y 98 #[ae af 1,ae af 1,ae af 0,ae af 1,.string ⟨#[]⟩]]):=bW (ci W q [(1,0,frame (dV dK))] (R1 q.r) (A3 q.a) (R1.framed q.r) (A3.framed q.a)) uX
   have hS5:=dO.grows i9 hg5
   have J5:=J3.trans (Just.bJ hg5)
   have xB:=hS5.blk 9 rfl
   have hAdd:=fun x o9=>ka w5 (((s:Nat):Value)) 1 1 0 1 ⟨#[]⟩ ak 0 1 0 0 0 0 x o9
   go_wp2_with (first|(refine bY rfl 98 _ rfl _ rfl (xB) Tryz.underlying98 am ?_)|(refine bY rfl 100 _ rfl _ rfl (o8) Tryz.underlying100 am ?_))
   refine (hAdd _ _).mono ?_
   rintro e w6 ⟨rfl,dT⟩
   have eC:=hS5.grows i9 dT
   have J6:=J5.trans (Just.bJ dT)
   have e0:=(o8.grow dT).cell 0
   have gB:Solo (cB V w) (Many (cS W q [(1,0,frame (dV dK))] (R1 q.r) (A3 q.a)++[Sn s,Cell b 98 #[ae af 9,ae af 1,ae af 0,ae af 7,.string ei,ae af 10,ae af 1,ae af 0,ae af 0,.string ⟨#[]⟩,ae af 1,ae af 1,ae af 0,ae af 1,.string ⟨#[]⟩]])) w6:=(Solo.perm (aG (l₁:=cS W q [(1,0,frame (dV dK))] (R1 q.r) (A3 q.a)++[Sn s,Cell b 98 #[ae af 9,ae af 1,ae af 0,ae af 7,.string ei,ae af 10,ae af 1,ae af 0,ae af 0,.string ⟨#[]⟩,ae af 1,ae af 1,ae af 0,ae af 1,.string ⟨#[]⟩]]) (l₂:=[Cell y 98 #[ae af 1,ae af 1,ae af 0,ae af 1,.string ⟨#[]⟩]])) eC).drop1
   go_wp2_with fail
   go_roundw
   case rel=>exact .inr (.inr (.inr ⟨rfl,gB,J6⟩))
   case measure=>simp[intOf]
  ·go_wp2_with fail
   go_ret
   obtain⟨r1,r2⟩:=Solo.done hSr Jr hV
   exact⟨rfl,r1,r2⟩
theorem Jo (w:World) (W:Nat) (q:o5) (s:Nat) (V:Nat→Prop) (hM:Many (cS W q [] (R1 q.r) (A0 q.a)++[Sn s]) w V) (hV:∀ b,V b→b<w.heap.size) :
 Calls au 39 #[((W:Nat):Value),((s:Nat):Value),ae af 1,.string ei,ae af 7] w fun e w'=>e=.returned (.bool true)∧Sk s w' (Ext V w w')∧Just V w w':=by
 have hS0:=Solo.begin_ hM hV
 have dX:bM (cS W q [] (R1 q.r) (A0 q.a)++[Sn s]):=bW (ci W q [] (R1 q.r) (A0 q.a) (R1.framed q.r) (A0.framed q.a)) (bM.nil.cons (Sn.framed s))
 have ga:=bN w (.cells #[ae af 9,ae af 1,ae af 0,ae af 7,.string ei,ae af 10,ae af 1,ae af 0,ae af 0,.string ⟨#[]⟩,ae af 1,ae af 1,ae af 0,ae af 1,.string ⟨#[]⟩] 98)
 have hB:=ct.made w 98 #[ae af 9,ae af 1,ae af 0,ae af 7,.string ei,ae af 10,ae af 1,ae af 0,ae af 0,.string ⟨#[]⟩,ae af 1,ae af 1,ae af 0,ae af 1,.string ⟨#[]⟩]
 obtain⟨b,HB⟩:∃ b:Nat,Hid (b=w.heap.size):=⟨_,rfl⟩
 obtain⟨wa,dq⟩:∃ wa:World,Hid (wa=w.alloc (.cells #[ae af 9,ae af 1,ae af 0,ae af 7,.string ei,ae af 10,ae af 1,ae af 0,ae af 0,.string ⟨#[]⟩,ae af 1,ae af 1,ae af 0,ae af 1,.string ⟨#[]⟩] 98)):=⟨_,rfl⟩
 rw[←dq.out] at ga hB
 rw[←HB.out] at hB
 have ez:=hS0.join dX ga (R:=Cell b 98 #[ae af 9,ae af 1,ae af 0,ae af 7,.string ei,ae af 10,ae af 1,ae af 0,ae af 0,.string ⟨#[]⟩,ae af 1,ae af 1,ae af 0,ae af 1,.string ⟨#[]⟩]) (U:=fun x=>x=b) ⟨rfl,hB⟩ (fun x hx=>by have e2:x=b:=hx;have:=HB.out;have:=hB.lt;omega)
 have ez:Solo (cB V w) (Many (cS W q [] (R1 q.r) (A0 q.a)++[Sn s,Cell b 98 #[ae af 9,ae af 1,ae af 0,ae af 7,.string ei,ae af 10,ae af 1,ae af 0,ae af 0,.string ⟨#[]⟩,ae af 1,ae af 1,ae af 0,ae af 1,.string ⟨#[]⟩]])) wa:=ez.perm (aG (l₁:=[Cell b 98 #[ae af 9,ae af 1,ae af 0,ae af 7,.string ei,ae af 10,ae af 1,ae af 0,ae af 0,.string ⟨#[]⟩,ae af 1,ae af 1,ae af 0,ae af 1,.string ⟨#[]⟩]]))
 have OG:=Solo.call ez fun U hU ey=>Ej wa W q s b U hU ey
 go_enter Tryz.func39,Tryz.ntmps39
 go_wp2_with fail
 rw[←dq.out,←HB.out]
 refine OG.mono ?_
 rintro e w1 ⟨rfl,hj1,hS1⟩
 have hS1:Solo (cB V w) (Many (cS W q [(1,0,frame (dV dK))] (R1 q.r) (A3 q.a)++[Sn s])) w1:=(Solo.perm (aG (l₁:=cS W q [(1,0,frame (dV dK))] (R1 q.r) (A3 q.a)++[Sn s]) (l₂:=[Cell b 98 #[ae af 9,ae af 1,ae af 0,ae af 7,.string ei,ae af 10,ae af 1,ae af 0,ae af 0,.string ⟨#[]⟩,ae af 1,ae af 1,ae af 0,ae af 1,.string ⟨#[]⟩]])) hS1).drop1
 have J1:=(Just.bJ (V:=cB V w) ga).trans hj1
 have KR:=Solo.call hS1 fun U hU ey=>Ga w1 W q s U hU ey
 go_wp2_with fail
 refine KR.mono ?_
 rintro e w2 ⟨rfl,hj2,hS2⟩
 go_wp2_with fail
 go_ret
 have dO:Solo (cB V w) (Many [Sk s]) w2:=(Solo.perm (aG (l₁:=cS W q [] cW cW) (l₂:=[Sk s])) hS2).turn fun U hU=>by
  obtain⟨U1,_,h1,_,h2,_⟩:=hU
  exact⟨U1,fun _=>False,h1,trivial,h2,fun _ h=>h.elim,fun _ _ h=>h⟩
 obtain⟨⟨U1,_,h1,_,h2,_⟩,r2⟩:=Solo.done dO (J1.trans hj2) hV
 obtain⟨A,xs,h0,hK⟩:=h1
 exact⟨rfl,⟨A,xs,h0,Many.wide _ w2 U1 _ h2 hK⟩,r2⟩
theorem Gb (w:World):Calls au 37 #[ae af 1,ae af 1] w fun e w'=>∃ (W s:Nat) (q:o5) (V:Nat→Prop),e=.returned (.tuple #[((W:Nat):Value),((s:Nat):Value)])∧Many (cS W q [] (R1 q.r) (A0 q.a)++[Sn s]) w' V∧(∀ b,V b→w.heap.size≤b∧b<w'.heap.size)∧Grow w w':=by
 have Fp:=FY w
 go_enter Tryz.func37,Tryz.ntmps37
 go_wp2_with fail
 refine Fp.mono ?_
 rintro e w1 ⟨W,rfl,⟨q,hM1⟩,hg1⟩
 have hSt:=G6 w1
 go_wp2_with fail
 refine hSt.mono ?_
 rintro e w2 ⟨s,rfl,OB,hg2⟩
 have hF1:=ci W q [] (R0 q.r) (A0 q.a) (R0.framed q.r) (A0.framed q.a)
 have hS1:Solo (fun b=>w.heap.size≤b) (Many (cS W q [] (R0 q.r) (A0 q.a))) w1:=Solo.pr (fun b hb=>aH hg1.size hb) hM1 fun b hb=>hb
 have hS2:=hS1.join hF1 hg2 (R:=Sn s) (U:=fun b=>w1.heap.size≤b∧b<w2.heap.size) OB (fun b hb=>hb)
 have hS2:Solo (fun b=>w.heap.size≤b) (Many (cS W q [] (R0 q.r) (A0 q.a)++[Sn s])) w2:=hS2.perm (aG (l₁:=[Sn s]))
 have hF2:bM (cS W q [] (R0 q.r) (A0 q.a)++[Sn s]):=bW hF1 (bM.nil.cons (Sn.framed s))
 have hW2:=hS2.blk 0 rfl
 obtain⟨U1,nN,_⟩:=hS2.see 1 rfl
 obtain⟨U2,oi,_⟩:=hS2.see 2 rfl
 obtain⟨U5,FI,_⟩:=hS2.see 5 rfl
 have RY:=ry w2 W q.g q.rs q.ij q.ds q.r q.a q.d0 q.d1 U2 hW2 oi
 have EB:=jb w2 W q.g q.rs q.ij q.ds q.r q.a q.d0 q.d1 U1 hW2 nN
 have Jw:=uF w2 q.r U5 FI
 have Eb:=jy w2 W q.g q.rs q.ij q.ds hW2
 go_wp2_with fail
 go_loopw [8] (fun i wr=>(i=ae af 0∨i=ae af 1)∧w2=wr) (fun i _=>1-(intOf i).toNat)
 case atStart=>exact⟨.inl rfl,rfl⟩
 case round=>
  obtain⟨hi,rfl⟩:=hrel
  rcases hi with rfl|rfl
  ·go_wp2_with fail
   refine RY.mono ?_
   rintro e w3 ⟨rfl,rfl⟩
   go_wp2_with fail
   go_roundw
   case rel=>first|exact⟨.inr rfl,rfl⟩|simp
   case measure=>simp[intOf]
  ·go_wp2_with fail
   go_loopw [9] (fun i wr=>(i=ae af 0∨i=ae af 1)∧w2=wr) (fun i _=>1-(intOf i).toNat)
   case atStart=>exact⟨.inl rfl,rfl⟩
   case round=>
    obtain⟨hi,rfl⟩:=hrel
    rcases hi with rfl|rfl
    ·go_wp2_with fail
     refine EB.mono ?_
     rintro e w3 ⟨rfl,rfl⟩
     go_wp2_with fail
     refine EB.mono ?_
     rintro e w3 ⟨rfl,rfl⟩
     go_wp2_with fail
     refine Jw.mono ?_
     rintro e w3 ⟨⟨m,rfl⟩,rfl⟩
     go_wp2_with fail
     go_roundw
     case rel=>first|exact⟨.inr rfl,rfl⟩|simp
     case measure=>simp[intOf]
    ·have ga:=bN w2 (.cells #[ae af 8,ae af 0,ae af 0,ae af 0,.string ⟨#[]⟩] 98)
     have hB:=ct.made w2 98 #[ae af 8,ae af 0,ae af 0,ae af 0,.string ⟨#[]⟩]
     obtain⟨b,HB⟩:∃ b:Nat,Hid (b=w2.heap.size):=⟨_,rfl⟩
     obtain⟨wa,dq⟩:∃ wa:World,Hid (wa=w2.alloc (.cells #[ae af 8,ae af 0,ae af 0,ae af 0,.string ⟨#[]⟩] 98)):=⟨_,rfl⟩
     rw[←dq.out] at ga hB
     rw[←HB.out] at hB
     have ez:=hS2.join hF2 ga (R:=Cell b 98 #[ae af 8,ae af 0,ae af 0,ae af 0,.string ⟨#[]⟩]) (U:=fun x=>x=b) ⟨rfl,hB⟩ (fun x hx=>by have e2:x=b:=hx;have:=HB.out;have:=hB.lt;omega)
     have ez:Solo (fun b=>w.heap.size≤b) (Many (cS W q [] (R0 q.r) (A0 q.a)++[Sn s,Cell b 98 #[ae af 8,ae af 0,ae af 0,ae af 0,.string ⟨#[]⟩]])) wa:=ez.perm (aG (l₁:=[Cell b 98 #[ae af 8,ae af 0,ae af 0,ae af 0,.string ⟨#[]⟩]]))
     have OG:=Solo.call ez fun U hU ey=>Ei wa W q s b U hU ey
     go_wp2_with fail
     refine Eb.mono ?_
     rintro e w3 ⟨rfl,rfl⟩
     go_wp2_with fail
     rw[←dq.out,←HB.out]
     refine OG.mono ?_
     rintro e w4 ⟨rfl,ko,ev⟩
     have ev:Solo (fun b=>w.heap.size≤b) (Many (cS W q [] (R1 q.r) (A0 q.a)++[Sn s])) w4:=(Solo.perm (aG (l₁:=cS W q [] (R1 q.r) (A0 q.a)++[Sn s]) (l₂:=[Cell b 98 #[ae af 8,ae af 0,ae af 0,ae af 0,.string ⟨#[]⟩]])) ev).drop1
     obtain⟨h04,V4,uZ,Lc⟩:=ev
     obtain⟨Vw,Vs,PV,_,hsw,_,_⟩:=Many.app (cS W q [] (R1 q.r) (A0 q.a)) uZ
     have KR:=G8 w4 W q (R1 q.r) (A0 q.a) s Vw PV (fun b hb=>(Lc b (hsw b hb)).2)
     have hSw:=Solo.begin_ PV (fun b hb=>(Lc b (hsw b hb)).2)
     obtain⟨U1,nN,_⟩:=hSw.see 1 rfl
     obtain⟨U5,FI,_⟩:=hSw.see 5 rfl
     have OH:=jb w4 W q.g q.rs q.ij q.ds q.r q.a q.d0 q.d1 U1 (hSw.blk 0 rfl) nN
     have RZ:=AL w4 q.r U5 FI
     go_wp2_with fail
     refine KR.mono ?_
     rintro e w5 ⟨rfl,rfl⟩
     go_wp2_with fail
     refine OH.mono ?_
     rintro e w5 ⟨rfl,rfl⟩
     go_wp2_with fail
     refine RZ.mono ?_
     rintro e w5 ⟨rfl,rfl⟩
     go_wp2_with fail
     go_ret2
     exact⟨W,s,q,V4,rfl,uZ,Lc,Below.trans (hg1.trans (hg2.trans ga)) (ko.below (B:=w.heap.size) (fun b hb=>hb) (hg1.trans (hg2.trans ga)).size)⟩
theorem Gc (w:World):Calls au 15 #[] w fun e w'=>e=.returned (.bool true)∧Grow w w':=by
 have hBg:=Gb w
 go_enter Tryz.func15,Tryz.ntmps15
 go_wp2_with fail
 refine hBg.mono ?_
 rintro e w1 ⟨W,s,q,V,rfl,hM,hV,hg1⟩
 have R_:=Jo w1 W q s V hM fun b hb=>(hV b hb).2
 go_wp2_with fail
 refine R_.mono ?_
 rintro e w2 ⟨rfl,hK,hj2⟩
 have KZ:=B5 w2 s _ hK
 go_wp2_with fail
 refine KZ.mono ?_
 rintro e w3 ⟨⟨A,c,rfl⟩,hg3⟩
 go_wp2_with fail
 go_ret
 exact⟨rfl,Grow.trans (show Grow w w2 from Below.trans hg1 (hj2.below (B:=w.heap.size) (fun b hb=>(hV b hb).1) hg1.size)) hg3⟩
end Go.Proofs.YtmijcbfgfkeodaaGreatDoor
end
section
namespace Go.Proofs.YtmijcbfgfkeodaaGreatDoor.Lu
theorem one_le {H:Type} (d:DataW H):1≤Rows.uptoBulk d:=by
 cases d with
 | lit l=>cases l<;>simp[Rows.uptoBulk]
 | nil=>simp[Rows.uptoBulk]
 | ptr d=>simp[Rows.uptoBulk]
 | slice elems spare=>simp[Rows.uptoBulk]
 | agg parts=>simp[Rows.uptoBulk]
 | iface t d=>simp[Rows.uptoBulk]
 | map entries=>simp[Rows.uptoBulk]
 | held h=>simp[Rows.uptoBulk]
theorem append {H:Type} (l r:List (DataW H)):Rows.uptoBulkAll (l++r)=Rows.uptoBulkAll l+Rows.uptoBulkAll r:=by
 induction l with
 | nil=>simp[Rows.uptoBulkAll]
 | cons x l ih=>simp only[bA,Rows.uptoBulkAll,ih];omega
theorem length_le {H:Type} (l:List (DataW H)):l.length≤Rows.uptoBulkAll l:=by
 induction l with
 | nil=>simp[Rows.uptoBulkAll]
 | cons x r ih=>have:=one_le x;simp only[Rows.uptoBulkAll,aL];omega
end Go.Proofs.YtmijcbfgfkeodaaGreatDoor.Lu
end
section
namespace Go.Proofs.YtmijcbfgfkeodaaGreatDoor
open Go.RowKit Go.Hop V
theorem xJ {l:List Int} (h:∀ z∈l,(Lit.int .i64 z).wf=true):∀ z∈l,-9223372036854775808≤z∧z≤9223372036854775807:=fun z hz=>by
 simpa [Lit.wf,IntKind.min,IntKind.max,IntKind.signed,IntKind.bits] using h z hz
end Go.Proofs.YtmijcbfgfkeodaaGreatDoor
end
