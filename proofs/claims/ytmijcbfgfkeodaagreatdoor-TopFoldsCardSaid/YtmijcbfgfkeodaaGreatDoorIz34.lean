/- Re6, Re7, Re8, Nelt. -/
import Derived.Test.YtmijcbfgfkeodaaGreatDoorIz33
set_option linter.all false
set_option maxRecDepth 100000
set_option maxHeartbeats 2000000
open Go.Value renaming int → ae,slice → ai
open Go.IntKind renaming i64 → af,u64 → ah
open Go.Proofs.Tryz renaming prog → au
open List renaming setIfInBounds_toArray → aw,drop_succ_cons → ax,set_cons_zero → ay,set_cons_succ → az,drop_zero → aB,length_append → aD,not_mem_nil → aE,mem_cons → aF,eq_nil_of_length_eq_zero → aJ,nil_append → aR,length_nil → bu
open Nat renaming lt_of_lt_of_le → aA,le_refl → aC,le_trans → aH,le_of_ble_eq_true → aQ,zero_le → aZ,zero_add → a_,eq_zero_or_pos → bj
section
namespace Go.Proofs.YtmijcbfgfkeodaaGreatDoor
open Go.RowKit Go.Hop V
theorem xr (w:World) (A:Option Addr) (c:Nat):Calls au 168 #[.slice A 0 c] w fun e w'=>e=.returned (ai none 0 0)∧w=w':=by
 have hC:=tI w none 0 0 (aC _)
 go_enter Tryz.func168,Tryz.ntmps168
 go_wp2_with fail
 go_loopw [3,8] (fun u i wr=>u=ai none 0 0∧i=ae af 0∧w=wr) (fun _ _ _=>0)
 case atStart=>exact⟨rfl,rfl,rfl⟩
 case round=>
  obtain⟨rfl,rfl,rfl⟩:=hrel
  go_wp2_with fail
  refine hC.mono ?_
  rintro e w1 ⟨rfl,rfl⟩
  go_wp2_with fail
  go_ret
  exact⟨rfl,rfl⟩
theorem DW (w:World) (s x d:Nat) (t h:Nat) (n:Int) (bs:List UInt8) (V:Nat→Prop) (hS:dJ s x d t h [] n bs w V):Calls au 89 #[((s:Nat):Value)] w fun e w'=>e=.returned (ai none 0 0)∧w=w':=by
 obtain⟨A,c,q,hq,_,_,⟨D,hE⟩,hB⟩:=hS.cells
 have hl:q.length=0:=by have:=congrArg List.length hq;simpa using this
 have hC:=xr w A c
 unfold si at hB
 rw[hl] at hB
 have c0:=hB.cell 2
 go_enter Tryz.func89,Tryz.ntmps89
 go_wp2_with fail
 refine hC.mono ?_
 rintro e w1 ⟨rfl,rfl⟩
 go_wp2_with fail
 go_ret
 exact⟨rfl,rfl⟩
theorem uC {Pr:Program} {f:FuncId} {args:Array Value} {P:Nat→Prop} {S S':cg} {C:Ending→World→Prop} {w:World} (h:Solo P S w) (hc:∀ V:Nat→Prop,S w V→(∀ b,V b→b<w.heap.size)→Calls Pr f args w fun e w'=>C e w'∧S' w' (Ext V w w')∧Just V w w'):Calls Pr f args w fun e w'=>C e w'∧Just P w w'∧Solo P S' w':=by
 obtain⟨h0,V,h1,h2⟩:=h
 exact (hc V h1 fun b hb=>(h2 b hb).2).mono fun e w' ⟨he,hs,hj⟩=>⟨he,hj.imp fun x hx=>(h2 x hx).1,fun b hb=>h0 b (aH hj.size hb),Ext V w w',hs,jd h2 h0 hj.size⟩
theorem uD (w:World) (p:sT) (v:Nat) (t:Nat) (had n:Int) (bs:List UInt8) (k ag sh sq ep:Int) (ds:List Dl) (se:ByteArray) (fr tg:Int) (hok:(⟨k,ag,sh,sq,ep,ds,se,fr,tg⟩:En).Ok) (hk:Hid (k=1)) (hse:W.seen 0 0 sq=false) (hfa:W.far 0 sq=false) (oj:0≤ep) (hmay:K.i3 [] ds=0) (V:Nat→Prop) (hL:Many (iX p 0 1 0 (((v:Nat):Value)) true 0 t t [⟨k,ag,sh,sq,ep,ds,se,fr,tg⟩] n bs (cX p.m [] [] none) (cI v t true 0 had 1)) w V) (hV:∀ b,V b→b<w.heap.size) :
 Calls au 98 #[.pointer (some ⟨p.r,0,none⟩),ae af 0,ae af 1] w fun e w'=>(∃ u,e=.returned u∧dA w.heap.size #[ae af fr,ae af 2,ae af 0,ae af 0,ae af 0,ae af 0,ae af 0,ai none 0 0,.string ⟨#[]⟩,ae af 0,ae af 0,ae af tg,ae af 1,ae ah 0,ae af 0,ae af 0,ai none 0 0,ae af 0,ae af 0].toList u w')∧Many (iX p 0 1 1 (((v:Nat):Value)) true 0 t t [⟨k,ag,sh,sq,ep,ds,se,fr,tg⟩] n bs (cX p.m (K.fP [] ds) (dQ [] ag (ae af ep)) (some ((ag,sh),(W.dm 0 0 sq).1,(W.dm 0 0 sq).2))) (cI v t true 1 had 1)) w' (Ext V w w')∧Just V w w':=by
 have hS0:=Solo.begin_ hL hV
 have dX:=dC p 0 1 0 (((v:Nat):Value)) true 0 t t [⟨k,ag,sh,sq,ep,ds,se,fr,tg⟩] n bs (cX p.m [] [] none) (cI v t true 0 had 1) (cX.framed _ _ _ _) (cI.framed _ _ _ _ _ _)
 have hB:=hS0.blk 0 rfl
 unfold kh at hB
 have c5:=hB.cell 5
 have hA:=hS0.at_ 3 rfl dX (ls w v t 0 had 1 al)
 go_enter Tryz.func98,Tryz.ntmps98
 go_wp2_with fail
 refine hA.mono ?_
 rintro e w1 ⟨rfl,hj1,hS1⟩
 have hS1:Solo (cB V w) (Many (iX p 0 1 0 (((v:Nat):Value)) true 0 t t [⟨k,ag,sh,sq,ep,ds,se,fr,tg⟩] n bs (cX p.m [] [] none) (cI v t true 1 had 1))) w1:=hS1
 have hw1:=hj1.size
 have hP:=uC (C:=fun e w'=>∃ u,e=.returned u∧dA w1.heap.size #[ae af fr,ae af 2,ae af 0,ae af 0,ae af 0,ae af 0,ae af 0,ai none 0 0,.string ⟨#[]⟩,ae af 0,ae af 0,ae af tg,ae af 1,ae ah 0,ae af 0,ae af 0,ai none 0 0,ae af 0,ae af 0].toList u w') hS1 fun U hU ey=>AH w1 p v t n bs k ag sh sq ep ds se fr tg hok hk hse hfa oj hmay (cI v t true 1 had 1) (cI.framed _ _ _ _ _ _) U hU ey
 clear c5
 go_wp2_with fail
 refine hP.mono ?_
 rintro e w2 ⟨⟨u,rfl,hO⟩,hj2,hS2⟩
 go_wp2_with fail
 go_ret
 obtain⟨r1,r2⟩:=Solo.done hS2 (hj1.trans hj2) hV
 exact⟨⟨u,rfl,hO.mono hw1⟩,r1,r2⟩
def iQ (B:Nat) (e:En) (u:Value) (w:World):Prop:=∃ (A:Option Addr) (c:Nat) (Ag:Option Addr) (cap:Nat),u=.slice Ag 1 cap∧1≤cap∧cap≤maxLen∧lh w (fun b=>B≤b∧b<w.heap.size) Ag [⟨e,A,c⟩]
theorem pI (B:Nat) (e:En):dv (iQ B e):=fun u w w' ⟨A,c,Ag,cap,h1,h2,h3,h4⟩ hg=>⟨A,c,Ag,cap,h1,h2,h3,(h4.grow hg).mono fun b hb=>⟨hb.1,aA hb.2 hg.size⟩⟩
theorem AJ {w:World} {B:Nat} {e:En} {u:Value} {o:Oper} {ρ:Operand→Value} {x:Operand} (h1:ρ x=u) (ho:o.op=.buildSlice 39 1 #[(0,x)]) (hB:B≤w.heap.size) (hu:jh B e u w):cz au (fun v w'=>Grow w w'∧iQ B e v w') ((execOp ρ o).run au w):=by
 obtain⟨A,c,rfl,h⟩:=hu
 have hg:=bN w (.cells (e.agg A c) 32)
 have hr:(execOp ρ o).run au w=.ok (.value (.slice (some ⟨w.heap.size,0,none⟩) 1 1)) (w.alloc (.cells (e.agg A c) 32)):=by
  obtain⟨dst,op,ty,pos,after,guard⟩:=o
  simp only at ho
  subst ho
  unfold En.agg at h1 ⊢
  go_simp
 have hI:=(ct.made w 32 (e.agg A c)).fw (size:=9) (n:=1) aj
 refine cF hr ⟨hg,A,c,some ⟨w.heap.size,0,none⟩,1,rfl,aC _,by decide,⟨?_,fun y hy=>?_⟩⟩
 ·have h2:[(⟨e,A,c⟩:El)].flatMap El.cells=(e.agg A c).toList:=by simp[El.cells]
  rw[h2]
  exact hI.mono fun b hb=>by have e2:b=w.heap.size:=hb;subst e2;exact⟨hB,by simp⟩
 ·obtain rfl:y=⟨e,A,c⟩:=by simpa using hy
  exact iw h hg
theorem FK {w:World} {B:Nat} {e:En} {u:Value} {o:Oper} {ρ:Operand→Value} {s x:Operand} (hs:ρ s=ai none 0 0) (hx:ρ x=u) (ho:o.op=.call { callee := .builtin .append,args:=#[s,x],argTypes:=#[39,39] }) (hB:B≤w.heap.size) (hu:iQ B e u w):cz au (fun v w'=>Grow w w'∧iQ B e v w') ((execOp ρ o).run au w):=by
 obtain⟨A,c,Ag,cap,rfl,_,_,hE⟩:=hu
 refine fm lM ho hs (Row.nil (V:=fun _=>False)) hx hE.1.reads (fun u hu=>by
  obtain⟨y,_,hy⟩:=List.mem_flatMap.1 hu
  exact lL y u hy) ak fun v' w' hR hj=>?_
 have hg:Grow w w':=hj.below (B:=w.heap.size) (fun b hb=>hb.elim) (aC _)
 rw[a_,aR] at hR
 obtain⟨A2,c2,e2,hI2,h3,h4⟩:=hR.fw
 subst e2
 refine⟨hg,A,c,A2,c2,rfl,h3,h4,⟨hI2.mono fun b hb=>?_,fun y hy=>?_⟩⟩
 ·rcases hb with hb|hb
  ·exact hb.elim
  ·exact⟨aH hB hb.1,hb.2⟩
 ·obtain rfl:y=⟨e,A,c⟩:=by simpa using hy
  exact iw (hE.2 _ (by simp)) hg
def Behind (φ:Value→World→Prop):Fact:=fun k u w=>match k with
 | 0=>False
 | _=>φ u w
theorem ja {φ:Value→World→Prop} {k:Nat} {u:Value} {w:World} (h:Behind φ k u w):φ u w:=by
 cases k with
 | zero=>exact h.elim
 | succ k=>exact h
theorem gE {P:Nat→Prop} {S0 S1:cg} {m1:Nat} {st:List (Nat×Nat)} {φ:Value→World→Prop} (h:dv φ):jl (iP P S0 S1 m1 st) (Behind φ):=fun k u w w' hu=>by
 rcases k with _|k
 ·exact hu.elim
 ·exact⟨fun hg=>h u w w' hu hg,fun hk=>by simp[iP] at hk⟩
theorem kO (B:Nat) (cs:List Value):dv (dA B cs):=fun _ _ _ h hg=>h.grow hg
theorem DX {w:World} {o:Oper} {ρ:Operand→Value} {s x:Operand} {A:Option Addr} {n c:Nat} (hc:n≤c) (hs:ρ s=.slice A n c) (hx:ρ x=ai none 0 0) (ho:o.op=.call { callee := .builtin .append,args:=#[s,x],argTypes:=#[68,68] }):(execOp ρ o).run au w=.ok (.value (.slice A n c)) w:=by
 obtain⟨dst,op,ty,pos,after,guard⟩:=o
 simp only at ho
 subst ho
 cases A<;>go_simp
theorem FL (w:World) (p:sT) (v:Nat) (t:Nat) (had n:Int) (bs:List UInt8) (k ag sh sq ep:Int) (ds:List Dl) (se:ByteArray) (fr tg:Int) (hok:(⟨k,ag,sh,sq,ep,ds,se,fr,tg⟩:En).Ok) (hk:Hid (k=1)) (hse:W.seen 0 0 sq=false) (hfa:W.far 0 sq=false) (oj:0≤ep) (hmay:K.i3 [] ds=0) (va:Int) (A:Option Addr) (c:Nat) (D V:Nat→Prop) (hD:fY w D ⟨⟨k,ag,sh,sq,ep,ds,se,va,tg⟩,A,c⟩) (j5:∀ b,D b→¬ cB V w b) (Ru:1≤t) (hte:t≤9223372036854775807) (hn0:0≤n∧n≤1000000000) (hroom:Room bs (ec t t [⟨k,ag,sh,sq,ep,ds,se,fr,tg⟩])) (hL:Many (iX p 0 1 0 (((v:Nat):Value)) true 0 t t [] n bs (cX p.m [] [] none) (cI v t true 0 had 1)) w V) (hV:∀ b,V b→b<w.heap.size) :
 Calls au 93 #[.pointer (some ⟨p.r,0,none⟩),ae af fr,.agg #[ae af k,ae af ag,ae af sh,ae af sq,ae af ep,.slice A ds.length c,.string se,ae af va,ae af tg]] w fun e w'=>(∃ u,e=.returned u∧dA w.heap.size #[ae af fr,ae af 2,ae af 0,ae af 0,ae af 0,ae af 0,ae af 0,ai none 0 0,.string ⟨#[]⟩,ae af 0,ae af 0,ae af tg,ae af 1,ae ah 0,ae af 0,ae af 0,ai none 0 0,ae af 0,ae af 0].toList u w')∧Many (iX p 0 1 1 (((v:Nat):Value)) true 0 t t [⟨k,ag,sh,sq,ep,ds,se,fr,tg⟩] (n+1) (bs++frame (ec t t [⟨k,ag,sh,sq,ep,ds,se,fr,tg⟩])) (cX p.m (K.fP [] ds) (dQ [] ag (ae af ep)) (some ((ag,sh),(W.dm 0 0 sq).1,(W.dm 0 0 sq).2))) (cI v t true 1 had 1)) w' (Ext V w w')∧Just V w w':=by
 have NW:∀ (vs:Array Value) (w:World),(callFunc 95 vs).run au w=.ok (.enter 95 vs) w:=fun vs w=>by go_simp
 have IG:∀ (vs:Array Value) (w:World),(callFunc 175 vs).run au w=.ok (.enter 175 vs) w:=fun vs w=>by go_simp
 have IW:∀ (vs:Array Value) (w:World),(callFunc 171 vs).run au w=.ok (.enter 171 vs) w:=fun vs w=>by go_simp
 have NY:∀ (vs:Array Value) (w:World),(callFunc 98 vs).run au w=.ok (.enter 98 vs) w:=fun vs w=>by go_simp
 have IX:∀ (vs:Array Value) (w:World),(callFunc 172 vs).run au w=.ok (.enter 172 vs) w:=fun vs w=>by go_simp
 have dX:=dC p 0 1 0 (((v:Nat):Value)) true 0 t t [] n bs (cX p.m [] [] none) (cI v t true 0 had 1) (cX.framed _ _ _ _) (cI.framed _ _ _ _ _ _)
 have hS0:=Solo.begin_ hL hV
 have g1:=bN w (.cells #[ae af k,ae af ag,ae af sh,ae af sq,ae af ep,.slice A ds.length c,.string se,ae af va,ae af tg] 32)
 have b1:=ct.made w 32 #[ae af k,ae af ag,ae af sh,ae af sq,ae af ep,.slice A ds.length c,.string se,ae af va,ae af tg]
 have hB:=hS0.blk 0 rfl
 unfold kh at hB
 have c2:=(hB.grow g1).cell 2
 obtain⟨y,HY⟩:∃ y:Nat,Hid (y=w.heap.size):=⟨_,rfl⟩
 obtain⟨wa,dq⟩:∃ wa:World,Hid (wa=w.alloc (.cells #[ae af k,ae af ag,ae af sh,ae af sq,ae af ep,.slice A ds.length c,.string se,ae af va,ae af tg] 32)):=⟨_,rfl⟩
 have c2':=c2
 rw[←dq.out] at g1 b1 c2'
 rw[←HY.out] at b1
 have ez:=hS0.join dX g1 (R:=Cell y 32 #[ae af k,ae af ag,ae af sh,ae af sq,ae af ep,.slice A ds.length c,.string se,ae af va,ae af tg]) (U:=fun b=>b=y) ⟨rfl,b1⟩ (fun b hb=>by have:=HY.out;have:=b1.lt;have e2:b=y:=hb;omega)
 have eP:=dX.cons (Cell.framed y 32 #[ae af k,ae af ag,ae af sh,ae af sq,ae af ep,.slice A ds.length c,.string se,ae af va,ae af tg])
 obtain⟨U2,oi,hUl2⟩:=ez.see 2 rfl
 have M6:=DW wa p.s p.x p.d t t n bs U2 oi
 go_enter Tryz.func93,Tryz.ntmps93
 go_wp2_with fail
 rw[←dq.out,←HY.out]
 refine M6.mono ?_
 rintro e w1 ⟨rfl,rfl⟩
 clear c2 c2'
 have y6:=(ez.blk 0 rfl).cell 8
 have y5:=(ez.blk 0 rfl).cell 7
 go_wp2_with (refine dp rfl _ _ _ rfl ez eP (Just.bJ (V:=cB V w) g1) 0 rfl rfl (ae af fr) rfl (aQ rfl) rfl am ?_;intro w2 hS2 J2;refine stay ?_)
 refine bV ?_
 clear y6 y5
 have hS2:Solo (cB V w) (Many (Cell y 32 #[ae af k,ae af ag,ae af sh,ae af sq,ae af ep,.slice A ds.length c,.string se,ae af fr,ae af tg] :: iX p 0 1 0 (((v:Nat):Value)) true 0 t t [] n bs (cX p.m [] [] none) (cI v t true 0 had 1))) w2:=hS2
 have hF2:=dX.cons (Cell.framed y 32 #[ae af k,ae af ag,ae af sh,ae af sq,ae af ep,.slice A ds.length c,.string se,ae af fr,ae af tg])
 have hy2:=hS2.blk 0 rfl
 have hB2:=hS2.blk 1 rfl
 unfold kh at hB2
 have c6:=hB2.cell 6
 obtain⟨U4,AF,IY⟩:=hS2.see 4 rfl
 have JY:∀ w3,Grow w2 w3→cI v t true 0 had 1 w3 U4:=fun w3 hg=>cI.framed _ _ _ _ _ _ w2 w3 U4 AF fun b hb=>hg.block b (IY b hb).2
 have B9:∀ b,D b→¬ cB V w b:=fun b hb h=>j5 b hb h
 have hD2:∀ w3,Grow w2 w3→fY w3 D ⟨⟨k,ag,sh,sq,ep,ds,se,fr,tg⟩,A,c⟩:=fun w3 hg=>⟨In.grow (In.just hD.1 J2 B9) hg,hD.2⟩
 clear hB
 go_wp2_with fail
 clear c6
 refine bL 18 69 [(12,.inl (ae af (t:Int))),(15,.inr (fun _=>jh w2.heap.size ⟨k,ag,sh,sq,ep,ds,se,fr,tg⟩)),(16,.inr (fun _=>iQ w2.heap.size ⟨k,ag,sh,sq,ep,ds,se,fr,tg⟩)),(17,.inr (fun _=>iQ w2.heap.size ⟨k,ag,sh,sq,ep,ds,se,fr,tg⟩))] rfl rfl am am am ?_ ?_
 ·intro x hx φ he
  simp only[aF,aE,or_false] at hx
  rcases hx with rfl|rfl|rfl|rfl<;>cases he
  all_goals first|exact ca (cn _)|first|exact ca (pI _ _)|exact ca (kM _ _)
 intro ops' A' K' T hops hA' hK hT
 refine bP 26 (ai none 0 0) ?_
 refine bI 27 (.tmp 26) (ai none 0 0) (ae af 0) (fun ρ h1 kk w3 (hg3:Grow _ w3) hb hf=>by go_simp) ?_
 refine cm 28 (.tmp 27) (.const (ae af 128)) (ae af 0) (ae af 128) (.bool false) (fun ρ h1 h2 kk w3 (hg3:Grow _ w3) hb hf=>by go_simp) ?_
 refine bP 29 (.bool false) ?_
 refine da 30 (cx hops 3 false 29 false) (.pointer (some ⟨p.r,0,none⟩)) ?_
 refine bX 31 (cx hops 3 false 29 false) (.tmp 30) (.pointer (some ⟨p.r,0,none⟩)) (.pointer (some ⟨p.r,0,none⟩)) (fun ρ h1 kk w3 (hg3:Grow _ w3) hb hf=>by go_simp) ?_
 refine bX 32 (cx hops 3 false 29 false) (.tmp 31) (.pointer (some ⟨p.r,0,none⟩)) (.pointer (some ⟨p.r,2,none⟩)) (fun ρ h1 kk w3 (hg3:Grow _ w3) hb hf=>by go_simp) ?_
 refine bX 33 (cx hops 3 false 29 false) (.tmp 32) (.pointer (some ⟨p.r,2,none⟩)) (.pointer (some ⟨p.s,0,none⟩)) (fun ρ h1 kk w3 (hg3:Grow _ w3) hb hf=>by have c:=(hB2.grow hg3).cell 2;go_simp) ?_
 refine da 34 (cx hops 3 false 29 false) (.pointer (some ⟨p.r,0,none⟩)) ?_
 refine bX 35 (cx hops 3 false 29 false) (.tmp 34) (.pointer (some ⟨p.r,0,none⟩)) (.pointer (some ⟨p.r,0,none⟩)) (fun ρ h1 kk w3 (hg3:Grow _ w3) hb hf=>by go_simp) ?_
 refine bX 36 (cx hops 3 false 29 false) (.tmp 35) (.pointer (some ⟨p.r,0,none⟩)) (.pointer (some ⟨p.r,5,none⟩)) (fun ρ h1 kk w3 (hg3:Grow _ w3) hb hf=>by go_simp) ?_
 refine bX 37 (cx hops 3 false 29 false) (.tmp 36) (.pointer (some ⟨p.r,5,none⟩)) (((v:Nat):Value)) (fun ρ h1 kk w3 (hg3:Grow _ w3) hb hf=>by have c:=(hB2.grow hg3).cell 5;go_simp) ?_
 refine cC 38 aj ak (dF hops 3 false aj 29 aj false aj) (ae af (t:Int)) (by rw[hK.out];rfl) 95 _ _ aj [((v:Nat):Value)] aj NW (fun kk w3 (hg3:Grow _ w3) hb hf=>b_ aj (by exact db (r6 w3 v t 0 had 1 true U4 (JY w3 hg3)))) ?_
 refine da 39 (cx hops 3 false 29 false) (ai none 0 0) ?_
 refine bX 40 (cx hops 3 false 29 false) (.tmp 5) (((y:Nat):Value)) (.agg #[ae af k,ae af ag,ae af sh,ae af sq,ae af ep,.slice A ds.length c,.string se,ae af fr,ae af tg]) (fun ρ h1 kk w3 (hg3:Grow _ w3) hb hf=>by have hB:=hy2.grow hg3;have c0:=hB.cell 0;have c1:=hB.cell 1;have c2:=hB.cell 2;have c3:=hB.cell 3;have c4:=hB.cell 4;have c5:=hB.cell 5;have c6:=hB.cell 6;have c7:=hB.cell 7;have c8:=hB.cell 8;go_simp) ?_
 refine cH 41 aj ak (dF hops 3 false aj 29 aj false aj) (fun _=>jh w2.heap.size ⟨k,ag,sh,sq,ep,ds,se,fr,tg⟩) (by rw[hK.out];rfl) 175 _ _ aj [.agg #[ae af k,ae af ag,ae af sh,ae af sq,ae af ep,.slice A ds.length c,.string se,ae af fr,ae af tg]] aj IG (fun kk w3 (hg3:Grow _ w3) hb hf=>cr (φ:=fun _=>jh w2.heap.size ⟨k,ag,sh,sq,ep,ds,se,fr,tg⟩) aj (by exact uv w2.heap.size w3 D ⟨⟨k,ag,sh,sq,ep,ds,se,fr,tg⟩,A,c⟩ (hD2 w3 hg3) hg3.size)) (fun v41=>?_)
 refine fE 42 aj ak (dF hops 3 false aj 29 aj false aj) (fun _=>iQ w2.heap.size ⟨k,ag,sh,sq,ep,ds,se,fr,tg⟩) (by rw[hK.out];rfl) (.tmp 41) (v41) aj (fun ρ h1 kk w3 (hg3:Grow _ w3) hb hf=>by refine cA (φ:=fun _=>iQ w2.heap.size ⟨k,ag,sh,sq,ep,ds,se,fr,tg⟩) aj ?_;exact AJ h1 rfl hg3.size (cy hf (by rw[hA'.out];kernel_rfl))) (fun v42=>?_)
 refine gv 43 aj ak (dF hops 3 false aj 29 aj false aj) (fun _=>iQ w2.heap.size ⟨k,ag,sh,sq,ep,ds,se,fr,tg⟩) (by rw[hK.out];rfl) (.tmp 39) (.tmp 42) (ai none 0 0) (v42) aj aj (fun ρ h1 h2 kk w3 (hg3:Grow _ w3) hb hf=>by refine cA (φ:=fun _=>iQ w2.heap.size ⟨k,ag,sh,sq,ep,ds,se,fr,tg⟩) aj ?_;exact FK h1 h2 rfl hg3.size (cy hf (by rw[hA'.out];kernel_rfl))) (fun v43=>?_)
 refine ce (fun _ _ w3 (hg3:Grow _ w3) _ bR=>hT _ _ ?_)
 clear hops hA' hK hT
 simp only[cj,Act.put,aw,ay,az,ax,aB]
 obtain⟨A3,c3,Ag,cap,rfl,hcap,hcapm,M5⟩:iQ w2.heap.size ⟨k,ag,sh,sq,ep,ds,se,fr,tg⟩ v43 w3:=bR.1
 clear bR
 have dO:=hS2.grows hF2 hg3
 have J3:=J2.trans (Just.bJ hg3)
 have KZ:=dO.at_ 2 rfl hF2 (zt w3 p.s p.x p.d t t [] [⟨k,ag,sh,sq,ep,ds,se,fr,tg⟩] n bs (fun b=>w2.heap.size≤b∧b<w3.heap.size) Ag cap [⟨⟨k,ag,sh,sq,ep,ds,se,fr,tg⟩,A3,c3⟩] M5 rfl (aC _) Ru (by simp) hte (by simpa using hok) (by simp) ⟨hn0.1,by omega⟩ hroom)
 go_wp2_with fail
 refine KZ.mono ?_
 rintro e w4 ⟨rfl,ko,ev⟩
 obtain⟨b2,HB2⟩:∃ b2:List UInt8,Hid (b2=bs++frame (ec t t [⟨k,ag,sh,sq,ep,ds,se,fr,tg⟩])):=⟨_,rfl⟩
 rw[←HB2.out] at ev
 have ev:Solo (cB V w) (Many (iX p 0 1 0 (((v:Nat):Value)) true 0 t t [⟨k,ag,sh,sq,ep,ds,se,fr,tg⟩] (n+1) b2 (cX p.m [] [] none) (cI v t true 0 had 1))) w4:=Solo.drop1 ev
 have M7:bM (iX p 0 1 0 (((v:Nat):Value)) true 0 t t [⟨k,ag,sh,sq,ep,ds,se,fr,tg⟩] (n+1) b2 (cX p.m [] [] none) (cI v t true 0 had 1)):=dC p 0 1 0 (((v:Nat):Value)) true 0 t t [⟨k,ag,sh,sq,ep,ds,se,fr,tg⟩] (n+1) b2 (cX p.m [] [] none) (cI v t true 0 had 1) (cX.framed _ _ _ _) (cI.framed _ _ _ _ _ _)
 have Rv:bM (iX p 0 1 1 (((v:Nat):Value)) true 0 t t [⟨k,ag,sh,sq,ep,ds,se,fr,tg⟩] (n+1) b2 (cX p.m (K.fP [] ds) (dQ [] ag (ae af ep)) (some ((ag,sh),(W.dm 0 0 sq).1,(W.dm 0 0 sq).2))) (cI v t true 1 had 1)):=dC p 0 1 1 (((v:Nat):Value)) true 0 t t [⟨k,ag,sh,sq,ep,ds,se,fr,tg⟩] (n+1) b2 (cX p.m (K.fP [] ds) (dQ [] ag (ae af ep)) (some ((ag,sh),(W.dm 0 0 sq).1,(W.dm 0 0 sq).2))) (cI v t true 1 had 1) (cX.framed _ _ _ _) (cI.framed _ _ _ _ _ _)
 have J4:=J3.trans ko
 go_wp2_with fail
 refine c_ rfl ?_
 refine er (iP (cB V w) (Many (iX p 0 1 0 (((v:Nat):Value)) true 0 t t [⟨k,ag,sh,sq,ep,ds,se,fr,tg⟩] (n+1) b2 (cX p.m [] [] none) (cI v t true 0 had 1))) (Many (iX p 0 1 1 (((v:Nat):Value)) true 0 t t [⟨k,ag,sh,sq,ep,ds,se,fr,tg⟩] (n+1) b2 (cX p.m (K.fP [] ds) (dQ [] ag (ae af ep)) (some ((ag,sh),(W.dm 0 0 sq).1,(W.dm 0 0 sq).2))) (cI v t true 1 had 1))) 10 [(4,0),(8,0),(9,0),(12,1)]) (iu (Many.framed _ M7) (Many.framed _ Rv)) 0 15 69 [(9,.inl (ae af 1)),(10,.inr (Behind (dA w4.heap.size #[ae af fr,ae af 2,ae af 0,ae af 0,ae af 0,ae af 0,ae af 0,ai none 0 0,.string ⟨#[]⟩,ae af 0,ae af 0,ae af tg,ae af 1,ae ah 0,ae af 0,ae af 0,ai none 0 0,ae af 0,ae af 0].toList))),(12,.inl (ai none 0 0)),(13,.inr (Behind (dA w4.heap.size #[ae af fr,ae af 2,ae af 0,ae af 0,ae af 0,ae af 0,ae af 0,ai none 0 0,.string ⟨#[]⟩,ae af 0,ae af 0,ae af tg,ae af 1,ae ah 0,ae af 0,ae af 0,ai none 0 0,ae af 0,ae af 0].toList)))] rfl am am am ?_ (Just.bJ (Grow.refl _).drew) (ev.grows M7 (Grow.refl _).drew) ?_
 ·intro x hx φ he
  simp only[aF,aE,or_false] at hx
  rcases hx with rfl|rfl|rfl|rfl<;>cases he
  all_goals first|exact ca (cn _)|exact gE (kO _ _)
 intro ops' A' K' T hops hA' hK hT
 refine bP 55 (.pointer (some ⟨p.r,0,none⟩)) ?_
 refine bP 56 (.pointer (some ⟨p.r,0,none⟩)) ?_
 refine bI 57 (.tmp 56) (.pointer (some ⟨p.r,0,none⟩)) (.pointer (some ⟨p.r,0,none⟩)) (fun ρ h1 kk w5 (hg5:Just (cB V w) _ w5) hb hf=>by go_simp) ?_
 refine bI 58 (.tmp 57) (.pointer (some ⟨p.r,0,none⟩)) (.pointer (some ⟨p.r,0,none⟩)) (fun ρ h1 kk w5 (hg5:Just (cB V w) _ w5) hb hf=>by go_simp) ?_
 refine bI 59 (.tmp 58) (.pointer (some ⟨p.r,0,none⟩)) (ae af 0) (fun ρ h1 kk w5 (hg5:Just (cB V w) _ w5) hb hf=>by obtain rfl:=cw 0 aj hb;have hI:=hb.1;have hB:=hI.blk 0 rfl;unfold kh at hB;have c:=hB.cell 0;go_simp) ?_
 refine bP 60 (.pointer (some ⟨p.r,0,none⟩)) ?_
 refine bI 61 (.tmp 60) (.pointer (some ⟨p.r,0,none⟩)) (.pointer (some ⟨p.r,0,none⟩)) (fun ρ h1 kk w5 (hg5:Just (cB V w) _ w5) hb hf=>by go_simp) ?_
 refine bI 62 (.tmp 61) (.pointer (some ⟨p.r,0,none⟩)) (.pointer (some ⟨p.r,2,none⟩)) (fun ρ h1 kk w5 (hg5:Just (cB V w) _ w5) hb hf=>by go_simp) ?_
 refine bI 63 (.tmp 62) (.pointer (some ⟨p.r,2,none⟩)) (.pointer (some ⟨p.s,0,none⟩)) (fun ρ h1 kk w5 (hg5:Just (cB V w) _ w5) hb hf=>by obtain rfl:=cw 0 aj hb;have hI:=hb.1;have hB:=hI.blk 0 rfl;unfold kh at hB;have c:=hB.cell 2;go_simp) ?_
 refine cC 64 aj ak (bO aj) (ae af 1) (by rw[hK.out];rfl) 171 _ _ aj [.pointer (some ⟨p.s,0,none⟩)] aj IW (fun kk w5 (hg5:Just (cB V w) _ w5) hb hf=>b_ aj (by obtain rfl:=cw 0 aj hb;have hI:=hb.1;exact (by obtain⟨U,hU,ey⟩:=hI.see 1 rfl;exact db (pm w5 p.s p.x p.d t t _ _ b2 U hU)))) ?_
 refine cH 65 aj ak (bO aj) (Behind (dA w4.heap.size #[ae af fr,ae af 2,ae af 0,ae af 0,ae af 0,ae af 0,ae af 0,ai none 0 0,.string ⟨#[]⟩,ae af 0,ae af 0,ae af tg,ae af 1,ae ah 0,ae af 0,ae af 0,ai none 0 0,ae af 0,ae af 0].toList)) (by rw[hK.out];rfl) 98 _ _ aj [.pointer (some ⟨p.r,0,none⟩),ae af 0,ae af 1] aj NY (fun kk w5 (hg5:Just (cB V w) _ w5) hb hf=>fN (φ:=Behind (dA w4.heap.size #[ae af fr,ae af 2,ae af 0,ae af 0,ae af 0,ae af 0,ae af 0,ai none 0 0,.string ⟨#[]⟩,ae af 0,ae af 0,ae af tg,ae af 1,ae ah 0,ae af 0,ae af 0,ai none 0 0,ae af 0,ae af 0].toList)) 0 aj (by obtain rfl:=cw 0 aj hb;have hI:=hb.1;exact (((uC (C:=fun e w'=>∃ u,e=.returned u∧dA w5.heap.size #[ae af fr,ae af 2,ae af 0,ae af 0,ae af 0,ae af 0,ae af 0,ai none 0 0,.string ⟨#[]⟩,ae af 0,ae af 0,ae af tg,ae af 1,ae ah 0,ae af 0,ae af 0,ai none 0 0,ae af 0,ae af 0].toList u w') hI fun U hU ey=>uD w5 p v t had (n+1) b2 k ag sh sq ep ds se fr tg hok hk hse hfa oj hmay U hU ey)).mono fun e w9 h9=>by obtain⟨⟨u,h1,h2⟩,h3,h4⟩:=h9;exact⟨u,h1,h3,h4,h2.mono hg5.size⟩))) (fun v65=>?_)
 refine bP 66 (.pointer (some ⟨p.r,0,none⟩)) ?_
 refine cC 67 aj ak (bO aj) (ai none 0 0) (by rw[hK.out];rfl) 172 _ _ aj [.pointer (some ⟨p.r,0,none⟩)] aj IX (fun kk w5 (hg5:Just (cB V w) _ w5) hb hf=>b_ aj (by obtain rfl:=cw 1 aj hb;have hI:=hb.1;exact (by obtain⟨U,hU,ey⟩:=hI.see 1 rfl;exact lu w5 p 1 (((v:Nat):Value)) true 0 (hI.blk 0 rfl) t t _ (n+1) b2 U hU (fun b hb=>(ey b hb).2) (by simp)))) ?_
 refine gv 68 aj ak (bO aj) (Behind (dA w4.heap.size #[ae af fr,ae af 2,ae af 0,ae af 0,ae af 0,ae af 0,ae af 0,ai none 0 0,.string ⟨#[]⟩,ae af 0,ae af 0,ae af tg,ae af 1,ae ah 0,ae af 0,ae af 0,ai none 0 0,ae af 0,ae af 0].toList)) (by rw[hK.out];rfl) (.tmp 65) (.tmp 67) (v65) (ai none 0 0) aj aj (fun ρ h1 h2 kk w5 (hg5:Just (cB V w) _ w5) hb hf=>by refine eN (R:=fun u w9=>Grow w5 w9∧Behind (dA w4.heap.size #[ae af fr,ae af 2,ae af 0,ae af 0,ae af 0,ae af 0,ae af 0,ai none 0 0,.string ⟨#[]⟩,ae af 0,ae af 0,ae af tg,ae af 1,ae ah 0,ae af 0,ae af 0,ai none 0 0,ae af 0,ae af 0].toList) kk u w9) ?_ (fun u w9 h=>⟨fc aj h.1,by rw[gI aj];exact h.2⟩);have hf1:Behind (dA w4.heap.size #[ae af fr,ae af 2,ae af 0,ae af 0,ae af 0,ae af 0,ae af 0,ai none 0 0,.string ⟨#[]⟩,ae af 0,ae af 0,ae af tg,ae af 1,ae ah 0,ae af 0,ae af 0,ai none 0 0,ae af 0,ae af 0].toList) kk v65 w5:=(cy hf (by rw[hA'.out];kernel_rfl));obtain⟨A6,c6,e6,hc6⟩:=(ja hf1).slc;subst e6;exact cF (DX hc6 h1 h2 rfl) ⟨Grow.refl _,hf1⟩) (fun v68=>?_)
 refine bP 6 (v68) ?_
 refine ce (fun _ _ w5 (hg5:Just (cB V w) _ w5) hend bR=>hT _ _ ?_)
 clear hops hA' hK hT
 simp only[cj,Act.put,aw,ay,az]
 have hO:dA w4.heap.size #[ae af fr,ae af 2,ae af 0,ae af 0,ae af 0,ae af 0,ae af 0,ai none 0 0,.string ⟨#[]⟩,ae af 0,ae af 0,ae af tg,ae af 1,ae ah 0,ae af 0,ae af 0,ai none 0 0,ae af 0,ae af 0].toList v68 w5:=ja bR.1
 have hS5:Solo (cB V w) (Many (iX p 0 1 1 (((v:Nat):Value)) true 0 t t [⟨k,ag,sh,sq,ep,ds,se,fr,tg⟩] (n+1) b2 (cX p.m (K.fP [] ds) (dQ [] ag (ae af ep)) (some ((ag,sh),(W.dm 0 0 sq).1,(W.dm 0 0 sq).2))) (cI v t true 1 had 1))) w5:=hend
 clear bR
 refine eY ?_
 have hw4:=J4.size
 go_wp2_with fail
 go_ret
 obtain⟨r1,r2⟩:=Solo.done hS5 (J4.trans hg5) hV
 rw[HB2.out] at r1
 exact⟨⟨_,rfl,hO.mono hw4⟩,r1,r2⟩
def R0 (r:Nat):cg:=fun w V=>∃ p:sT,p.r=r∧Many (iX p 0 1 0 (.pointer none) false 0 0 0 [] 0 [] (cX p.m [] [] none) cW) w V
def uE:List UInt8:=([]++frame (ec 1 0 []))++frame (ec 1 1 [])
def R1 (r:Nat):cg:=fun w V=>∃ (p:sT) (v:Nat),p.r=r∧Many (iX p 0 1 0 (((v:Nat):Value)) true 0 1 1 [] (0+1+1) uE (cX p.m [] [] none) (cI v ((1:Nat):Int) true 0 ((0:Nat):Int) 1)) w V
theorem R0.framed (r:Nat):Framed (R0 r):=fun w w' V ⟨p,h1,h2⟩ hk=>⟨p,h1,Many.framed _ (dC _ _ _ _ _ _ _ _ _ _ _ _ _ _ (cX.framed _ _ _ _) cW.framed) w w' V h2 hk⟩
theorem R1.framed (r:Nat):Framed (R1 r):=fun w w' V ⟨p,v,h1,h2⟩ hk=>⟨p,v,h1,Many.framed _ (dC _ _ _ _ _ _ _ _ _ _ _ _ _ _ (cX.framed _ _ _ _) (cI.framed _ _ _ _ _ _)) w w' V h2 hk⟩
theorem xt (t h:Nat) (l:List En) (h1:t<18446744073709551616) (h2:h<18446744073709551616) (hl:∀ e∈l,e.Ok) (hn:l.length≤1):(ec t h l).length≤9040:=by
 rcases ra h1 h2 hl with h3|h3<;>omega
theorem l9 (t h:Nat) (h1:t<18446744073709551616) (h2:h<18446744073709551616):(ec t h []).length≤30:=by
 rcases ra (l:=[]) h1 h2 (by simp) with h3|h3
 ·simpa using h3
 ·simp at h3
theorem AK:uE.length≤88:=by
 have h1:=l9 1 0 al al
 have h2:=l9 1 1 al al
 have h3:=eS (ec 1 0 []) al
 have h4:=eS (ec 1 1 []) al
 unfold uE
 rw[aR,aD]
 omega
theorem FM (w:World) (d:Nat) (V:Nat→Prop) (hD:cT 133 d [] 0 w V) (hV:∀ b,V b→b<w.heap.size) :
 Calls au 30 #[ae af 0,ae af 1,((d:Nat):Value)] w fun e w'=>∃ r,e=.returned (((r:Nat):Value))∧R0 r w' (Ext V w w')∧Just V w w':=
 (Fy w d 0 1 al al V hD hV).mono fun e w' ⟨p,_,h1,h2,h3⟩=>⟨p.r,h1,⟨p,rfl,h2⟩,h3⟩
theorem DY (w:World) (r:Nat):Turns au 32 #[((r:Nat):Value)] (fun e=>e=.returned (ai none 0 0)) (R0 r) (R1 r) w:=by
 rintro V ⟨p,rfl,hM⟩ hV
 have h1:=l9 1 0 al al
 have h2:=l9 1 1 al al
 have h3:=eS (ec 1 0 []) al
 have h4:=eS (ec 1 1 []) al
 exact (DU w p 0 0 0 [] al al al 1 rfl ⟨by omega,by rw[bu];omega⟩ ⟨by omega,by rw[aR];omega⟩ _ (cX.framed _ _ _ _) V hM hV).mono fun e w' ⟨h1,⟨v,h2⟩,h3⟩=>⟨h1,⟨p,v,rfl,h2⟩,h3⟩
theorem AL (w:World) (r:Nat) (V:Nat→Prop) (h:R1 r w V):Calls au 110 #[((r:Nat):Value)] w fun e w'=>e=.returned (.bool true)∧w=w':=by
 obtain⟨p,v,rfl,hM⟩:=h
 obtain⟨_,_,hC,_⟩:=hM
 exact us w p _ _ _ _ _ _ hC.2
theorem uF (w:World) (r:Nat) (V:Nat→Prop) (h:R0 r w V):Calls au 31 #[((r:Nat):Value)] w fun e w'=>(∃ m,e=.returned (((m:Nat):Value)))∧w=w':=by
 obtain⟨p,rfl,hM⟩:=h
 obtain⟨_,_,hC,_⟩:=hM
 exact (qh w p _ _ _ _ _ _ hC.2).mono fun e w' ⟨h1,h2⟩=>⟨⟨_,h1⟩,h2⟩
theorem uG (w:World) (r:Nat) (k ag sh sq ep:Int) (ds:List Dl) (se:ByteArray) (fr tg:Int) (hok:(⟨k,ag,sh,sq,ep,ds,se,fr,tg⟩:En).Ok) (hk:Hid (k=1)) (hse:W.seen 0 0 sq=false) (hfa:W.far 0 sq=false) (oj:0≤ep) (hmay:K.i3 [] ds=0) (va:Int) (hok0:(⟨k,ag,sh,sq,ep,ds,se,va,tg⟩:En).Ok) (A:Option Addr) (c:Nat) (D V:Nat→Prop) (hD:fY w D ⟨⟨k,ag,sh,sq,ep,ds,se,va,tg⟩,A,c⟩) (hDl:∀ b,D b→b<w.heap.size) (j5:∀ b,D b→¬ V b) (hR:R1 r w V) (hV:∀ b,V b→b<w.heap.size) :
 Calls au 33 #[((r:Nat):Value),ae af fr,.agg (i5 ⟨k,ag,sh,sq,ep,ds,se,va,tg⟩ A c)] w fun e w'=>(∃ u,e=.returned u∧dA w.heap.size #[ae af fr,ae af 2,ae af 0,ae af 0,ae af 0,ae af 0,ae af 0,ai none 0 0,.string ⟨#[]⟩,ae af 0,ae af 0,ae af tg,ae af 1,ae ah 0,ae af 0,ae af 0,ai none 0 0,ae af 0,ae af 0].toList u w')∧Just V w w':=by
 obtain⟨p,v,rfl,hM⟩:=hR
 have hF:=dC p 0 1 0 (((v:Nat):Value)) true 0 1 1 [] (0+1+1) uE _ _ (cX.framed p.m [] [] none) (cI.framed v ((1:Nat):Int) true 0 ((0:Nat):Int) 1)
 have gN:=fun w1 (hg:Grow w w1)=>lO w1 ⟨k,ag,sh,sq,ep,ds,se,va,tg⟩ D A c hok0 (In.grow hD.1 hg)
 unfold i5 at gN ⊢
 have g1:=bN w (.cells #[ae af 1,ae af k,ae af ag,ae af sh,ae af sq,ae af ep,.slice A ds.length c,.string se,ae af va,ae af tg,ae af 0,ae af 0,ae ah 0,ae af 0,ae af 0,ai none 0 0,ae af 0,ae af 0] 73)
 have b1:=ct.made w 73 #[ae af 1,ae af k,ae af ag,ae af sh,ae af sq,ae af ep,.slice A ds.length c,.string se,ae af va,ae af tg,ae af 0,ae af 0,ae ah 0,ae af 0,ae af 0,ai none 0 0,ae af 0,ae af 0]
 obtain⟨y,HY⟩:∃ y:Nat,Hid (y=w.heap.size):=⟨_,rfl⟩
 obtain⟨wa,dq⟩:∃ wa:World,Hid (wa=w.alloc (.cells #[ae af 1,ae af k,ae af ag,ae af sh,ae af sq,ae af ep,.slice A ds.length c,.string se,ae af va,ae af tg,ae af 0,ae af 0,ae ah 0,ae af 0,ae af 0,ai none 0 0,ae af 0,ae af 0] 73)):=⟨_,rfl⟩
 have b1':=b1
 rw[←dq.out] at g1 b1
 rw[←HY.out] at b1
 have L8:=gN wa g1
 rw[dq.out] at L8
 go_enter Tryz.func33,Tryz.ntmps33
 go_wp2_with (refine bY rfl 73 _ rfl _ rfl (b1') Tryz.underlying73 am ?_)
 refine L8.mono ?_
 rw[←dq.out,←HY.out]
 rintro en w2 ⟨rfl,hg2⟩
 have hB:=b1.grow hg2
 have c0:=hB.cell 0;have c1:=hB.cell 1;have c2:=hB.cell 2;have c3:=hB.cell 3;have c4:=hB.cell 4;have c5:=hB.cell 5;have c6:=hB.cell 6;have c7:=hB.cell 7;have c8:=hB.cell 8;have c9:=hB.cell 9
 have hgw:=g1.trans hg2
 have hM2:=Many.framed _ hF w w2 V hM fun b hb=>hgw.block b (hV b hb)
 have hs2:=hgw.size
 have hwl:=xt 1 1 [⟨k,ag,sh,sq,ep,ds,se,fr,tg⟩] al al (by simpa using hok) (by simp)
 have hfl:=eS (ec 1 1 [⟨k,ag,sh,sq,ep,ds,se,fr,tg⟩]) al
 have hbl:=AK
 have hAk:=FL w2 p v 1 ((0:Nat):Int) (0+1+1) uE k ag sh sq ep ds se fr tg hok hk hse hfa oj hmay va A c D V ⟨In.grow hD.1 hgw,hD.2⟩ (fun b hb h=>h.elim (j5 b hb) fun h=>by have:=hDl b hb;omega) al al al ⟨by omega,by omega⟩ hM2 (fun b hb=>aA (hV b hb) hs2)
 go_wp2_with fail
 refine hAk.mono ?_
 rintro e w3 ⟨⟨u,rfl,hO⟩,JJ,hj3⟩
 go_wp2_with fail
 go_ret
 exact⟨⟨u,rfl,hO.mono hs2⟩,(Just.bJ hgw).trans hj3⟩
end Go.Proofs.YtmijcbfgfkeodaaGreatDoor
end
section
namespace Go.Proofs.YtmijcbfgfkeodaaGreatDoor.Ne
open Go.RowKit Go.Hop
theorem info_parts {e size bytes:Nat} {z:Value} (h:(Tryz.prog.info? e).map (fun i=>(i.zero,i.size,i.bytes))=some (some z,size,bytes)):∃ i,Tryz.prog.info? e=some i∧i.zero=some z∧i.size=size∧i.bytes=bytes:=by
 cases hi:Tryz.prog.info? e with
 | none=>rw[hi] at h;cases h
 | some i=>rw[hi] at h;injection h with h;injection h with h1 h2;injection h2 with h2 h3;exact⟨i,rfl,h1,h2,h3⟩
theorem rV:(Tryz.prog.info? 5).map (fun i=>(i.zero,i.size,i.bytes))=some (some (.int .u8 0),1,1):=by kernel_rfl
theorem z8:Elem au 65 5 1 1 (.int .u8 0):=⟨Tryz.underlying65,info_parts rV,rfl,by decide,by decide⟩
def Bj (w:World) (V:Nat→Prop) (A:Option Addr) (n:Nat) (l:List UInt8):Prop:=In w V 1 A n (gn l)
theorem Bj.len {w:World} {V:Nat→Prop} {A:Option Addr} {n:Nat} {l:List UInt8} (h:Bj w V A n l):l.length=n:=by
 have:=h.1;simpa using this
theorem fF (w:World) (V:Nat→Prop) (A:Option Addr) (n c:Nat) (l:List UInt8) (h:Bj w V A n l) (hn:n≤1048576) :
 Calls au 180 #[.slice A n c] w fun e w'=>∃ A' c',e=.returned (.slice A' n c')∧Bj w' (New w w') A' n l∧n≤c'∧c'≤maxLen∧Grow w w':=by
 have hnil:=fun (w':World)=>Lib.run_eql_slice_nil (P:=au) w' 65 5 A n c 0 0 Tryz.underlying65
 cases A with
 | none=>
   have hn0:n=0:=by
    rcases bj n with h0|h0
    ·exact h0
    ·obtain⟨_,e,_⟩:=h.2 h0;cases e
   subst hn0
   obtain rfl:l=[]:=aJ h.len
   go_enter Tryz.func180,Tryz.ntmps180
   go_wp2_with fail
   go_ret
   exact⟨_,_,rfl,In.nil,aC _,aZ _,Grow.refl _⟩
 | some ad=>
   go_enter Tryz.func180,Tryz.ntmps180
   go_wp2_with (at_builtin;refine stay ?_)
   refine bV ?_
   refine cR (V:=fun b=>b=w.heap.size) z8 _ rfl (.tmp 5) (.tmp 6) rfl (.slice (some ⟨w.heap.size,0,none⟩) 0 0) 0 [] rfl (fO w _ _) w.heap.size (some ad) n c (gn l) rfl (Reads.alloc (In.reads h) (aC _) _) gR al ?_
   intro v1 w1 fW hj1
   simp only[a_,aR] at fW
   obtain⟨hO2,hg1⟩:=i_ fW hj1
   obtain⟨A2,c2,rfl,hI,hnc,hm⟩:=hO2.fw
   go_wp2_with fail
   go_ret
   exact⟨A2,c2,rfl,hI,hnc,hm,hg1⟩
abbrev Lb:=Int×Int×List UInt8
structure Lt where
 f:Int
 t:Int
 A:Option Addr
 m:Nat
 c:Nat
 bs:List UInt8
def Lt.cells (b:Lt):List Value:=[ae af b.f,ae af b.t,.slice b.A b.m b.c]
def Lt.abs (b:Lt):Lb:=(b.f,b.t,b.bs)
theorem nA (b:Lt):b.cells.length=3:=rfl
theorem xu (b:Lt):∀ u∈b.cells,u.oneCell'=true:=by
 intro u hu
 simp only[Lt.cells,aF,aE,or_false] at hu
 rcases hu with rfl|rfl|rfl<;>rfl
theorem FN (q:List Lt):∀ u∈q.flatMap Lt.cells,u.oneCell'=true:=by
 intro u hu
 obtain⟨b,_,hb⟩:=List.mem_flatMap.1 hu
 exact xu b u hb
structure fz (w:World) (V:Nat→Prop) (b:Lt):Prop where
 bs:Bj w V b.A b.m b.bs
 le:b.m≤b.c
 max:b.c≤maxLen
 small:b.m≤1048576
theorem fz.mono {w:World} {V V':Nat→Prop} {b:Lt} (h:fz w V b) (hV:∀ b,V b→V' b):fz w V' b:=⟨In.mono h.bs hV,h.le,h.max,h.small⟩
theorem fz.keep {w w':World} {V:Nat→Prop} {b:Lt} (h:fz w V b) (hk:∀ b,V b→b<w.heap.size→w'.heap[b]?=w.heap[b]?):fz w' V b:=⟨In.keep h.bs hk,h.le,h.max,h.small⟩
theorem fz.grow {w w':World} {V:Nat→Prop} {b:Lt} (h:fz w V b) (hg:Grow w w'):fz w' V b:=⟨In.grow h.bs hg,h.le,h.max,h.small⟩
theorem fz.just {w w':World} {V U:Nat→Prop} {b:Lt} (h:fz w V b) (hj:Just U w w') (hd:∀ b,V b→¬ U b):fz w' V b:=⟨In.just h.bs hj hd,h.le,h.max,h.small⟩
theorem uH:(Tryz.prog.info? 211).map (fun i=>(i.zero,i.size,i.bytes))=some (some (.agg #[ae af 0,ae af 0,ai none 0 0]),3,40):=by kernel_rfl
theorem mD:Elem au 107 211 3 40 (.agg #[ae af 0,ae af 0,ai none 0 0]):=⟨Tryz.underlying107,info_parts uH,rfl,by decide,by decide⟩
theorem mB (w:World) (V:Nat→Prop) (b:Lt) (h:fz w V b) :
 Calls au 124 #[.agg #[ae af b.f,ae af b.t,.slice b.A b.m b.c]] w fun e w'=>∃ A' c',e=.returned (.agg #[ae af b.f,ae af b.t,.slice A' b.m c'])∧fz w' (New w w') ⟨b.f,b.t,A',b.m,c',b.bs⟩∧Grow w w':=by
 obtain⟨f,t,A,m,c,bs⟩:=b
 obtain⟨hd,hle,hmx,hsm⟩:=h
 dsimp only at hd hle hmx hsm ⊢
 have hg0:Grow w ((w.alloc (.cells #[ae af f,ae af t,.slice A m c] 211)).alloc (.cells #[ae af 0,ae af 0,ai none 0 0] 211)):=((Below.refl _ _).alloc (aC _) _).alloc (by simp) _
 have hB0:=(ct.made w 211 #[ae af f,ae af t,.slice A m c]).alloc (.cells #[ae af 0,ae af 0,ai none 0 0] 211)
 have hB1:=ct.made (w.alloc (.cells #[ae af f,ae af t,.slice A m c] 211)) 211 #[ae af 0,ae af 0,ai none 0 0]
 obtain⟨x,HX⟩:∃ x:Nat,Hid (x=w.heap.size):=⟨_,rfl⟩
 have hx1:(w.alloc (.cells #[ae af f,ae af t,.slice A m c] 211)).heap.size=x+1:=by rw[HX.out];simp
 rw[hx1] at hB1
 rw[←HX.out] at hB0
 obtain⟨wa,HA⟩:∃ wa:World,Hid (wa=(w.alloc (.cells #[ae af f,ae af t,.slice A m c] 211)).alloc (.cells #[ae af 0,ae af 0,ai none 0 0] 211)):=⟨_,rfl⟩
 rw[←HA.out] at hB0 hB1 hg0
 have c1:=hB0.cell 2
 have hsz:wa.heap.size=x+2:=by rw[HA.out,HX.out];simp
 go_enter Tryz.func124,Tryz.ntmps124
 go_wp2_with fail
 rw[←HA.out,←HX.out]
 refine (fF wa V A m c bs (In.grow hd hg0) al).mono ?_
 rintro e w1 ⟨A1,c1',rfl,hd1,hn1,hm1,hg1⟩
 have hC0:=hB0.grow hg1
 have Es:=hB1.grow hg1
 have hxs:=Es.lt
 have hk0:=(hC0.put 2 (.slice A1 m c1')).cell 0
 have hk1:=(hC0.put 2 (.slice A1 m c1')).cell 1
 have hk2:=(hC0.put 2 (.slice A1 m c1')).cell 2
 have f2:=hC0.frozen 2
 have c12:=hC0.cell 2
 have hD:=(Es.far (p:=⟨x,2,none⟩) (show x+1≠x by omega) (.slice A1 m c1'))
 have d0:=hD.cell 0
 have d1:=hD.cell 1
 have d2:=hD.cell 2
 have g0:=hD.frozen 0
 have g1:=hD.frozen 1
 have g2:=hD.frozen 2
 go_wp2_with fail
 have hE:=((hD.put 0 (ae af f)).put 1 (ae af t)).put 2 (.slice A1 m c1')
 have e0:=hE.cell 0
 have e1:=hE.cell 1
 have e2:=hE.cell 2
 have hj:Just (fun b=>b=x∨b=x+1) w1 ((((w1.setCell ⟨x,2,none⟩ (.slice A1 m c1')).setCell ⟨x+1,0,none⟩ (ae af f)).setCell ⟨x+1,1,none⟩ (ae af t)).setCell ⟨x+1,2,none⟩ (.slice A1 m c1')):=
  ((((Just.bJ (Grow.refl w1)).put (V:=fun b=>b=x∨b=x+1) (.inl rfl) 2 _).put (.inr rfl) 0 _).put (.inr rfl) 1 _).put (.inr rfl) 2 _
 have hgw:Grow w ((((w1.setCell ⟨x,2,none⟩ (.slice A1 m c1')).setCell ⟨x+1,0,none⟩ (ae af f)).setCell ⟨x+1,1,none⟩ (ae af t)).setCell ⟨x+1,2,none⟩ (.slice A1 m c1')):=
  Below.trans (hg0.trans hg1) (hj.below (B:=w.heap.size) (fun b hb=>by have:=HX.out;omega) (hg0.trans hg1).size)
 refine bodyPost_ret (v := .agg #[ae af f,ae af t,.slice A1 m c1']) (by simp[results,Tryz.results124,go_sem,e0,e1,e2]) rfl ⟨A1,c1',rfl,⟨?_,hn1,hm1,hsm⟩,hgw⟩
 refine In.mono (V:=New wa w1) (In.just hd1 hj fun b hb=>by have:=hb.1;omega) fun b hb=>⟨by have:=hb.1;have:=hg0.size;omega,by have:=hb.2;simpa [World.setCell] using this⟩
end Go.Proofs.YtmijcbfgfkeodaaGreatDoor.Ne
end
