/- Agc, Lprint. -/
import Derived.Test.YtmijcbfgfkeodaaGreatDoorIz36
set_option linter.all false
set_option maxRecDepth 100000
set_option maxHeartbeats 2000000
open Go.Value renaming int → ae,slice → ai
open Go.IntKind renaming i64 → af,u64 → ah
open Go.Proofs.Tryz renaming prog → au
open List renaming setIfInBounds_toArray → aw,drop_succ_cons → ax,set_cons_zero → ay,set_cons_succ → az,drop_zero → aB,not_mem_nil → aE,mem_cons → aF,perm_append_comm → aG,take_succ_eq_append_getElem → aI,take_of_length_le → aN,take_succ_cons → aV,take_zero → bw
open Nat renaming le_refl → aC,le_of_ble_eq_true → aQ,zero_le → aZ,zero_add → a_
section
namespace Go.Proofs.YtmijcbfgfkeodaaGreatDoor
open Go.RowKit Go.Hop V
def nV (Z:Nat) (t:TypeId) (c0 c1:Array Value) (m1 m2:Nat):cQ where
 G:=Just (fun b=>b=Z)
 T:=fun _=>Just (fun b=>b=Z)
 I := fun k w=>match k with
   | 0=>w.heap.size=Z
   | 1=>w.heap.size=Z+1∧ct w Z t c0
   | _=>w.heap.size=Z+1∧ct w Z t c1
 muts:=[m1,m2]
 stage:=fun j=>if j=m1 then some 0 else if j=m2 then some 1 else none
 q:=pU.still
theorem E8 (Z:Nat) (t:TypeId) (c0 c1:Array Value) (m1 m2:Nat):(nV Z t c0 c1 m1 m2).Ok:=
 ⟨fun _ _ _=>Just.trans,fun a b (h:a=b)=>by cases h;exact Just.bJ (Grow.refl _),fun _ _ _ h=>h,fun k a b h (hg:a=b)=>by cases hg;exact h⟩
theorem uK {Z:Nat} {t:TypeId} {c0 c1:Array Value} {m1 m2:Nat} {ρ:Operand→Value} {o:Oper} {w:World} (hI:(nV Z t c0 c1 m1 m2).I 0 w) (hr:(execOp ρ o).run au w=.ok (.value (.pointer (some ⟨w.heap.size,0,none⟩))) (w.alloc (.cells c0 t))):cz au (fun u w'=>u=((Z:Nat):Value)∧(nV Z t c0 c1 m1 m2).T 0 w w'∧(nV Z t c0 c1 m1 m2).I 1 w') ((execOp ρ o).run au w):=by
 have hI:w.heap.size=Z:=hI
 subst hI
 exact cF hr ⟨rfl,Just.bJ (bN w _),by simp,ct.made w t c0⟩
theorem xy {Z:Nat} {t:TypeId} {c0 c1:Array Value} {m1 m2:Nat} {ρ:Operand→Value} {o:Oper} {x y:Operand} {w:World} (hI:(nV Z t c0 c1 m1 m2).I 1 w) (ho:o.op=.store t x y) (hx:ρ x=((Z:Nat):Value)) (hy:ρ y=.agg c1) (hl:c1.size=c0.size) (h1:c1.toList.all (fun v=>v.oneCell')=true) (hi:(Tryz.prog.info? t).map (·.size)=some c1.size):cz au (fun u w'=>u=undef∧(nV Z t c0 c1 m1 m2).T 1 w w'∧(nV Z t c0 c1 m1 m2).I 2 w') ((execOp ρ o).run au w):=by
 obtain⟨hs,hB⟩:w.heap.size=Z+1∧ct w Z t c0:=hI
 have hr:(execOp ρ o).run au w=.ok .skip (w.setCells Z 0 c1.toList):=by
  obtain⟨dst,op,ty,pos,after,guard⟩:=o
  simp only at ho
  subst ho
  have h2:=run_storeAt_mid (P:=au) w Z 0 t c1 (fun j hj=>⟨by rw[a_,hB.cell,Array.getElem?_eq_getElem al];rfl,hB.frozen _⟩) hi (by simpa using h1)
  simp[execOp,hx,hy,h2,Result.andThen]
 rw[hr]
 exact⟨rfl,Just.dj (dD Z c1.toList 0 w) rfl,(setCells_size Z c1.toList 0 w).trans hs,by simpa using hB.all c1.toList (by simpa using hl)⟩
def pJ (z:Nat) (t:TypeId) (c0 c1:Array Value) (m1:Nat):cQ where
 G:=Just (fun b=>b=z)
 T:=fun _=>Just (fun b=>b=z)
 I := fun k w=>match k with
   | 0=>ct w z t c0
   | _=>ct w z t c1
 muts:=[m1]
 stage:=fun j=>if j=m1 then some 0 else none
theorem AV (z:Nat) (t:TypeId) (c0 c1:Array Value) (m1:Nat):(pJ z t c0 c1 m1).Ok:=
 ⟨fun _ _ _=>Just.trans,fun _ _ h=>Just.bJ h,fun _ _ _ h=>h,fun k a b h hg=>by
  rcases k with _|k
  ·exact ct.grow h hg
  ·exact ct.grow h hg⟩
theorem uL {Z:Nat} {t:TypeId} {c0 c1:Array Value} {m1:Nat} {ρ:Operand→Value} {o:Oper} {x y:Operand} {w:World} (hI:(pJ Z t c0 c1 m1).I 0 w) (ho:o.op=.store t x y) (hx:ρ x=((Z:Nat):Value)) (hy:ρ y=.agg c1) (hl:c1.size=c0.size) (h1:c1.toList.all (fun v=>v.oneCell')=true) (hi:(Tryz.prog.info? t).map (·.size)=some c1.size):cz au (fun u w'=>u=undef∧(pJ Z t c0 c1 m1).T 0 w w'∧(pJ Z t c0 c1 m1).I 1 w') ((execOp ρ o).run au w):=by
 have hB:ct w Z t c0:=hI
 have hr:(execOp ρ o).run au w=.ok .skip (w.setCells Z 0 c1.toList):=by
  obtain⟨dst,op,ty,pos,after,guard⟩:=o
  simp only at ho
  subst ho
  have h2:=run_storeAt_mid (P:=au) w Z 0 t c1 (fun j hj=>⟨by rw[a_,hB.cell,Array.getElem?_eq_getElem al];rfl,hB.frozen _⟩) hi (by simpa using h1)
  simp[execOp,hx,hy,h2,Result.andThen]
 rw[hr]
 have h3:ct (w.setCells Z 0 c1.toList) Z t c1:=by simpa using hB.all c1.toList (by simpa using hl)
 exact⟨rfl,Just.dj (dD Z c1.toList 0 w) rfl,h3⟩
theorem xA (w:World) (p:uq) (node:Nat) (now tag last:Int) (n:Int) (bs:List UInt8) (k:Nat) (ep:Int) (sl:Value) (fJ:List Dl) (k0:Int) (cu:Value) (s:ByteArray) (x:Nat) (tv:Value) (tg:Int) (ht:0≤tg∧tg≤9223372036854775807) (hn:0≤n∧n≤1099511627776) (hbs:bs.length≤1000000) (V:Nat→Prop) (hM:Many (iW p (cP p.st p.z ep sl fJ [(1,[(s,x)])] k0 cu) node 1 now tag last [(tg,.agg #[ae af (node:Int),ae af 0,ae af 1])] [(((node:Int),0,1),tv)] n bs k) w V) (hV:∀ b,V b→b<w.heap.size) :
 Calls au 247 #[.pointer (some ⟨p.a,0,none⟩),ae af 0,.agg (eW tg 1 0)] w fun e w'=>e=.returned (.tuple #[.agg #[ae af (node:Int),ae af 0,ae af 1],ae af 1])∧Many (iW p (cP p.st p.z ep sl fJ [] k0 cu) node 1 now tag 0 [] [] (n+1) (bs++frame (eI 5 [0,1])) k) w' (Ext V w w')∧Just V w w':=by
 have k306:∀ (vs:Array Value) (w:World),(callFunc 306 vs).run au w=.ok (.enter 306 vs) w:=fun vs w=>by go_simp
 have gN:=fun w1=>lP w1 tg 1 0 ht.1 al
 unfold eW at gN ⊢
 have hS0:=Solo.begin_ hM hV
 have dX:=cE p (cP p.st p.z ep sl fJ [(1,[(s,x)])] k0 cu) (cP.framed _ _ _ _ _ _ _ _) node 1 now tag last [(tg,.agg #[ae af (node:Int),ae af 0,ae af 1])] [(((node:Int),0,1),tv)] n bs k
 have g1:=bN w (.cells #[ae af 2,ae af 0,ae af 0,ae af 0,ae af 0,ae af 0,ai none 0 0,.string ⟨#[]⟩,ae af 0,ae af 0,ae af tg,ae af 1,ae ah 0,ae af 0,ae af 0,ai none 0 0,ae af 0,ae af 0] 73)
 have b1:=ct.made w 73 #[ae af 2,ae af 0,ae af 0,ae af 0,ae af 0,ae af 0,ai none 0 0,.string ⟨#[]⟩,ae af 0,ae af 0,ae af tg,ae af 1,ae ah 0,ae af 0,ae af 0,ai none 0 0,ae af 0,ae af 0]
 obtain⟨y,HY⟩:∃ y:Nat,Hid (y=w.heap.size):=⟨_,rfl⟩
 obtain⟨wa,dq⟩:∃ wa:World,Hid (wa=w.alloc (.cells #[ae af 2,ae af 0,ae af 0,ae af 0,ae af 0,ae af 0,ai none 0 0,.string ⟨#[]⟩,ae af 0,ae af 0,ae af tg,ae af 1,ae ah 0,ae af 0,ae af 0,ai none 0 0,ae af 0,ae af 0] 73)):=⟨_,rfl⟩
 rw[←dq.out] at g1 b1
 rw[←HY.out] at b1
 have g2:=bN wa (.cells #[ae af 0,ae af 0,ae af 0] 26)
 have b2:=ct.made wa 26 #[ae af 0,ae af 0,ae af 0]
 obtain⟨z,HZ⟩:∃ z:Nat,Hid (z=y+1):=⟨_,rfl⟩
 obtain⟨wb,ia⟩:∃ wb:World,Hid (wb=wa.alloc (.cells #[ae af 0,ae af 0,ae af 0] 26)):=⟨_,rfl⟩
 have hz0:wa.heap.size=y+1:=by rw[dq.out,HY.out];simp
 rw[←ia.out] at g2 b2
 rw[hz0,←HZ.out] at b2
 have ez:=hS0.join dX g1 (R:=Cell y 73 #[ae af 2,ae af 0,ae af 0,ae af 0,ae af 0,ae af 0,ai none 0 0,.string ⟨#[]⟩,ae af 0,ae af 0,ae af tg,ae af 1,ae ah 0,ae af 0,ae af 0,ai none 0 0,ae af 0,ae af 0]) (U:=fun b=>b=y) ⟨rfl,b1⟩ (fun b hb=>by have:=HY.out;have:=b1.lt;omega)
 have eP:=dX.cons (Cell.framed y 73 #[ae af 2,ae af 0,ae af 0,ae af 0,ae af 0,ae af 0,ai none 0 0,.string ⟨#[]⟩,ae af 0,ae af 0,ae af tg,ae af 1,ae ah 0,ae af 0,ae af 0,ai none 0 0,ae af 0,ae af 0])
 have hSb:=ez.join eP g2 (R:=Cell z 26 #[ae af 0,ae af 0,ae af 0]) (U:=fun b=>b=z) ⟨rfl,b2⟩ (fun b hb=>by have h8:b=z:=hb;have:=HZ.out;have:=b2.lt;omega)
 clear hz0
 have iU:=eP.cons (Cell.framed z 26 #[ae af 0,ae af 0,ae af 0])
 have Jb:Just (cB V w) w wb:=(Just.bJ g1).trans (Just.bJ g2)
 have hyb:=hSb.blk 1 rfl
 have hab:=hSb.blk 3 rfl
 unfold ib at hab
 clear b1 b2 g1 g2
 obtain⟨zi,RD⟩:∃ zi:Nat,wb.heap.size=zi:=⟨_,rfl⟩
 have hzi:¬ (fun b=>b=z) zi:=fun e=>by have e2:zi=z:=e;have:=(hSb.ig 0 rfl).2;omega
 have hyz:¬ (fun b=>b=z) y:=fun e=>by have e2:y=z:=e;have:=HZ.out;omega
 have hLk:∀ w6,Just (fun b=>b=zi) wb w6→(Instr.lookup 141 (.map (some p.bK)) (ae af tg) true).run au w6=.ok (.tuple #[.agg #[ae af (node:Int),ae af 0,ae af 1],.bool true]) w6:=fun w6 hj=>by
  obtain⟨U,hU,ey⟩:=hSb.see 4 rfl
  have NQ:=cJ.just hU hj (fun e=>by have e2:p.bK=zi:=e;have:=(ey _ hU.1).2;omega)
  have h:=cJ.look Ix (t:=141) (et:=26) am (zD w6) NQ tg true
  have h1:pX [(tg,.agg #[ae af (node:Int),ae af 0,ae af 1])] tg=some (.agg #[ae af (node:Int),ae af 0,ae af 1]):=by simp[pX]
  rw[h1] at h
  exact h
 go_enter Tryz.func247,Tryz.ntmps247
 go_wp2_with fail
 rw[←dq.out,←HY.out,←ia.out,←HZ.out]
 refine c_ rfl ?_
 refine er (nV zi 26 #[ae af 0,ae af 0,ae af 0] #[ae af (node:Int),ae af 0,ae af 1] 10 11) (E8 _ _ _ _ _ _) 0 12 120 [(10,.inl (((zi:Nat):Value))),(11,.inl (undef))] rfl am am am ?_ (Just.bJ (Grow.refl _).drew) RD ?_
 ·intro x hx φ he
  simp only[aF,aE,or_false] at hx
  rcases hx with rfl|rfl<;>cases he
 intro ops' A' K' T hops hA' hK hT
 refine bP 12 (.pointer (some ⟨p.a,0,none⟩)) ?_
 refine bI 13 (.tmp 12) (.pointer (some ⟨p.a,0,none⟩)) (.pointer (some ⟨p.a,0,none⟩)) (fun ρ h1 kk w1 (hg:Just (fun b=>b=zi) _ w1) hb hf=>by go_simp) ?_
 refine bI 14 (.tmp 13) (.pointer (some ⟨p.a,0,none⟩)) (.pointer (some ⟨p.a,8,none⟩)) (fun ρ h1 kk w1 (hg:Just (fun b=>b=zi) _ w1) hb hf=>by go_simp) ?_
 refine bI 15 (.tmp 14) (.pointer (some ⟨p.a,8,none⟩)) (.map (some p.bK)) (fun ρ h1 kk w1 (hg:Just (fun b=>b=zi) _ w1) hb hf=>by have c:=(hg.blk hab (fun e=>by have:=hab.lt;have e2:p.a=zi:=e;omega)).cell 8;go_simp) ?_
 refine bI 16 (.tmp 5) (((y:Nat):Value)) (.pointer (some ⟨y,10,none⟩)) (fun ρ h1 kk w1 (hg:Just (fun b=>b=zi) _ w1) hb hf=>by go_simp) ?_
 refine bI 17 (.tmp 16) (.pointer (some ⟨y,10,none⟩)) (ae af tg) (fun ρ h1 kk w1 (hg:Just (fun b=>b=zi) _ w1) hb hf=>by have c:=(hg.blk hyb (fun e=>by have:=hyb.lt;have e2:y=zi:=e;omega)).cell 10;go_simp) ?_
 refine cm 18 (.tmp 15) (.tmp 17) (.map (some p.bK)) (ae af tg) (.tuple #[.agg #[ae af (node:Int),ae af 0,ae af 1],.bool true]) (fun ρ h1 h2 kk w1 (hg:Just (fun b=>b=zi) _ w1) hb hf=>by have hl:=hLk w1 hg;go_simp) ?_
 refine bP 11 (.tuple #[.agg #[ae af (node:Int),ae af 0,ae af 1],.bool true]) ?_
 refine bI 19 (.tmp 11) (.tuple #[.agg #[ae af (node:Int),ae af 0,ae af 1],.bool true]) (.agg #[ae af (node:Int),ae af 0,ae af 1]) (fun ρ h1 kk w1 (hg:Just (fun b=>b=zi) _ w1) hb hf=>by go_simp) ?_
 refine bI 20 (.tmp 11) (.tuple #[.agg #[ae af (node:Int),ae af 0,ae af 1],.bool true]) (.bool true) (fun ρ h1 kk w1 (hg:Just (fun b=>b=zi) _ w1) hb hf=>by go_simp) ?_
 refine Bs 8 aj ak (bO aj) (((zi:Nat):Value)) (by rw[hK.out];rfl) (fun kk w1 (hg:Just (fun b=>b=zi) _ w1) hb hf=>by obtain rfl:=cw 0 aj hb;have hI:=hb.1;refine gJ 0 aj ?_;exact uK hI (ux w1 _ _ rfl)) ?_
 refine mO aj (bO aj) (undef) (by rw[hK.out];rfl) (.tmp 8) (.tmp 19) (((zi:Nat):Value)) (.agg #[ae af (node:Int),ae af 0,ae af 1]) aj aj (fun ρ h1 h2 kk w1 (hg:Just (fun b=>b=zi) _ w1) hb hf=>by obtain rfl:=cw 1 aj hb;have hI:=hb.1;refine gJ 1 aj ?_;exact xy hI rfl h1 h2 rfl rfl am) ?_
 refine ce (fun _ _ w1 (hg:Just (fun b=>b=zi) _ w1) hend bR=>hT _ _ ?_)
 clear hops hA' hK hT
 simp only[cj,Act.put,aw,ay,az]
 obtain⟨hs1,JW⟩:w1.heap.size=zi+1∧ct w1 zi 26 #[ae af (node:Int),ae af 0,ae af 1]:=hend
 clear bR hLk
 refine fM 12 13 am am ?_
 simp only[aV,bw,ax,aB]
 go_wp2_with fail
 refine eY ?_
 have hg2:Grow wb w1:=hg.below (B:=wb.heap.size) (fun b hb=>by have e2:b=zi:=hb;omega) (aC _)
 have hS2:=hSb.join iU hg2 (R:=Cell zi 26 #[ae af (node:Int),ae af 0,ae af 1]) (U:=fun b=>b=zi) ⟨rfl,JW⟩ (fun b hb=>by have e2:b=zi:=hb;omega)
 have hF2:=iU.cons (Cell.framed zi 26 #[ae af (node:Int),ae af 0,ae af 1])
 have J2:=Jb.trans (Just.bJ hg2)
 clear hyb hab
 have hy2:=hS2.blk 2 rfl
 have ha2:=hS2.blk 4 rfl
 unfold ib at ha2
 have c0:=hy2.cell 0
 have c1:=ha2.cell 1
 have gN:=gN w1
 go_wp2_with (refine bY rfl 73 _ rfl _ rfl (hy2) Tryz.underlying73 am ?_)
 refine gN.mono ?_
 rintro en w3 ⟨rfl,hg3⟩
 have dO:=hS2.grows hF2 hg3
 have J3:=J2.trans (Just.bJ hg3)
 clear c0 c1 hy2 ha2 gN
 have hy3:=dO.blk 2 rfl
 have Am:=dO.blk 4 rfl
 unfold ib at Am
 have c1:=Am.cell 1
 go_wp2_with fail
 clear c1
 refine bL 6 120 [] rfl rfl am am am ?_ ?_
 ·intro x hx φ he
  cases hx
 intro ops' A' K' T hops hA' hK hT
 refine bP 46 (.pointer (some ⟨p.a,0,none⟩)) ?_
 refine bI 47 (.tmp 46) (.pointer (some ⟨p.a,0,none⟩)) (.pointer (some ⟨p.a,0,none⟩)) (fun ρ h1 kk w4 (hg4:Grow _ w4) hb hf=>by go_simp) ?_
 refine bI 48 (.tmp 47) (.pointer (some ⟨p.a,0,none⟩)) (.pointer (some ⟨p.a,8,none⟩)) (fun ρ h1 kk w4 (hg4:Grow _ w4) hb hf=>by go_simp) ?_
 refine bI 49 (.tmp 48) (.pointer (some ⟨p.a,8,none⟩)) (.map (some p.bK)) (fun ρ h1 kk w4 (hg4:Grow _ w4) hb hf=>by have c:=(Am.grow hg4).cell 8;go_simp) ?_
 refine bI 50 (.tmp 5) (((y:Nat):Value)) (.pointer (some ⟨y,10,none⟩)) (fun ρ h1 kk w4 (hg4:Grow _ w4) hb hf=>by go_simp) ?_
 refine bI 51 (.tmp 50) (.pointer (some ⟨y,10,none⟩)) (ae af tg) (fun ρ h1 kk w4 (hg4:Grow _ w4) hb hf=>by have c:=(hy3.grow hg4).cell 10;go_simp) ?_
 refine ce (fun _ _ w4 (hg4:Grow _ w4) _ bR=>hT _ _ ?_)
 clear hops hA' hK hT
 simp only[cj,Act.put,aw,ay,az,ax,aB]
 clear bR
 have ev:=dO.grows hF2 hg4
 have J4:=J3.trans (Just.bJ hg4)
 obtain⟨w5,hrun,hS5,dY⟩:=ev.qb (φ:=fun w'=>∀ ty,(Builtin.delete_ #[141,2] ty #[.map (some p.bK),ae af tg]).run au w4=.ok (.tuple #[]) w') 5 rfl hF2 (fun U hU ey=>by
  obtain⟨w',h1,h2,h3⟩:=cJ.del Ix (t:=141) (et:=26) am hU tg 0
  rw[tG] at h2
  exact⟨w',fun ty=>by rw[rz];exact h1,h2,h3.imp fun b hb=>hb▸hU.1⟩)
 have hS5:Solo (cB V w) (Many (Cell zi 26 #[ae af (node:Int),ae af 0,ae af 1] :: Cell z 26 #[ae af 0,ae af 0,ae af 0] :: Cell y 73 #[ae af 2,ae af 0,ae af 0,ae af 0,ae af 0,ae af 0,ai none 0 0,.string ⟨#[]⟩,ae af 0,ae af 0,ae af tg,ae af 1,ae ah 0,ae af 0,ae af 0,ai none 0 0,ae af 0,ae af 0] :: iW p (cP p.st p.z ep sl fJ [(1,[(s,x)])] k0 cu) node 1 now tag last [] [(((node:Int),0,1),tv)] n bs k)) w5:=hS5
 have sU:=(((cE p (cP p.st p.z ep sl fJ [(1,[(s,x)])] k0 cu) (cP.framed _ _ _ _ _ _ _ _) node 1 now tag last [] [(((node:Int),0,1),tv)] n bs k).cons (Cell.framed y 73 #[ae af 2,ae af 0,ae af 0,ae af 0,ae af 0,ae af 0,ai none 0 0,.string ⟨#[]⟩,ae af 0,ae af 0,ae af tg,ae af 1,ae ah 0,ae af 0,ae af 0,ai none 0 0,ae af 0,ae af 0])).cons (Cell.framed z 26 #[ae af 0,ae af 0,ae af 0])).cons (Cell.framed zi 26 #[ae af (node:Int),ae af 0,ae af 1])
 have J5:=J4.trans dY
 clear hy3 Am
 have xB:=hS5.blk 2 rfl
 have c3:=xB.cell 3
 have Fz:=hS5.blk 4 rfl
 unfold ib at Fz
 have k6:=Fz.cell 6
 have c11:=xB.cell 11
 go_wp2_with (refine dp rfl _ _ _ rfl hS5 sU J5 4 rfl rfl (ae af 0) rfl (aQ rfl) rfl am ?_;intro w6 eC J6;refine stay ?_)
 refine bV ?_
 clear c3 c11 k6 xB Fz hrun
 have eC:Solo (cB V w) (Many (Cell zi 26 #[ae af (node:Int),ae af 0,ae af 1] :: Cell z 26 #[ae af 0,ae af 0,ae af 0] :: Cell y 73 #[ae af 2,ae af 0,ae af 0,ae af 0,ae af 0,ae af 0,ai none 0 0,.string ⟨#[]⟩,ae af 0,ae af 0,ae af tg,ae af 1,ae ah 0,ae af 0,ae af 0,ai none 0 0,ae af 0,ae af 0] :: iW p (cP p.st p.z ep sl fJ [(1,[(s,x)])] k0 cu) node 1 now tag 0 [] [(((node:Int),0,1),tv)] n bs k)) w6:=eC
 have xm:=(((cE p (cP p.st p.z ep sl fJ [(1,[(s,x)])] k0 cu) (cP.framed _ _ _ _ _ _ _ _) node 1 now tag 0 [] [(((node:Int),0,1),tv)] n bs k).cons (Cell.framed y 73 #[ae af 2,ae af 0,ae af 0,ae af 0,ae af 0,ae af 0,ai none 0 0,.string ⟨#[]⟩,ae af 0,ae af 0,ae af tg,ae af 1,ae ah 0,ae af 0,ae af 0,ai none 0 0,ae af 0,ae af 0])).cons (Cell.framed z 26 #[ae af 0,ae af 0,ae af 0])).cons (Cell.framed zi 26 #[ae af (node:Int),ae af 0,ae af 1])
 have M9:=eC.blk 0 rfl
 have IJ:=eC.blk 2 rfl
 have c11:=IJ.cell 11
 have i0:=M9.cell 0
 have i1:=M9.cell 1
 have i2:=M9.cell 2
 have Oa:=Solo.eG (l:=iW p (cP p.st p.z ep sl fJ [(1,[(s,x)])] k0 cu) node 1 now tag 0 [] [(((node:Int),0,1),tv)] n bs k) (eC.perm (aG (l₁:=[Cell zi 26 #[ae af (node:Int),ae af 0,ae af 1],Cell z 26 #[ae af 0,ae af 0,ae af 0],Cell y 73 #[ae af 2,ae af 0,ae af 0,ae af 0,ae af 0,ae af 0,ai none 0 0,.string ⟨#[]⟩,ae af 0,ae af 0,ae af tg,ae af 1,ae ah 0,ae af 0,ae af 0,ai none 0 0,ae af 0,ae af 0]])))
 have JU:bM [Cell zi 26 #[ae af (node:Int),ae af 0,ae af 1],Cell z 26 #[ae af 0,ae af 0,ae af 0],Cell y 73 #[ae af 2,ae af 0,ae af 0,ae af 0,ae af 0,ae af 0,ai none 0 0,.string ⟨#[]⟩,ae af 0,ae af 0,ae af tg,ae af 1,ae ah 0,ae af 0,ae af 0,ai none 0 0,ae af 0,ae af 0]]:=((bM.nil.cons (Cell.framed y 73 #[ae af 2,ae af 0,ae af 0,ae af 0,ae af 0,ae af 0,ai none 0 0,.string ⟨#[]⟩,ae af 0,ae af 0,ae af tg,ae af 1,ae ah 0,ae af 0,ae af 0,ai none 0 0,ae af 0,ae af 0])).cons (Cell.framed z 26 #[ae af 0,ae af 0,ae af 0])).cons (Cell.framed zi 26 #[ae af (node:Int),ae af 0,ae af 1])
 have Ob:=JU.cons (Many.framed _ (cE p (cP p.st p.z ep sl fJ [(1,[(s,x)])] k0 cu) (cP.framed _ _ _ _ _ _ _ _) node 1 now tag 0 [] [(((node:Int),0,1),tv)] n bs k))
 have hD:=Oa.at_ 0 rfl Ob (fun U hU ey=>FR w6 p node now tag 0 n bs k ep sl fJ k0 cu s x tv hn hbs U hU ey)
 go_wp2_with fail
 refine hD.mono ?_
 rintro en w7 ⟨rfl,nn,gB⟩
 clear c11 i0 i1 i2 M9 IJ
 obtain⟨b2,HB2⟩:∃ b2:List UInt8,Hid (b2=bs++frame (eI 5 [0,1])):=⟨_,rfl⟩
 rw[←HB2.out] at gB
 have gB:Solo (cB V w) (Many (Many (iW p (cP p.st p.z ep sl fJ [] k0 cu) node 1 now tag 0 [] [] (n+1) b2 k) :: [Cell zi 26 #[ae af (node:Int),ae af 0,ae af 1],Cell z 26 #[ae af 0,ae af 0,ae af 0],Cell y 73 #[ae af 2,ae af 0,ae af 0,ae af 0,ae af 0,ae af 0,ai none 0 0,.string ⟨#[]⟩,ae af 0,ae af 0,ae af tg,ae af 1,ae ah 0,ae af 0,ae af 0,ai none 0 0,ae af 0,ae af 0]])) w7:=gB
 have wW:=JU.cons (Many.framed _ (cE p (cP p.st p.z ep sl fJ [] k0 cu) (cP.framed _ _ _ _ _ _ _ _) node 1 now tag 0 [] [] (n+1) b2 k))
 have J7:=J6.trans nn
 have Lf:=gB.blk 2 rfl
 have RE:=gB.blk 1 rfl
 have JV:=gB.blk 3 rfl
 go_wp2_with fail
 refine c_ rfl ?_
 refine er (pJ z 26 #[ae af 0,ae af 0,ae af 0] #[ae af (node:Int),ae af 0,ae af 1] 3) (AV _ _ _ _ _) 0 4 120 [(3,.inl (undef))] rfl am am am ?_ (Just.bJ (Grow.refl _).drew) (Lf.grow (Grow.refl _).drew) ?_
 ·intro x hx φ he
  simp only[aF,aE,or_false] at hx
  rcases hx with rfl<;>cases he
 intro ops' A' K' T hops hA' hK hT
 refine bI 117 (.tmp 8) (((zi:Nat):Value)) (.agg #[ae af (node:Int),ae af 0,ae af 1]) (fun ρ h1 kk w9 (fK:Just (fun b=>b=z) _ w9) hb hf=>by have hB:=fK.blk RE hzi;have c0:=hB.cell 0;have c1:=hB.cell 1;have c2:=hB.cell 2;go_simp) ?_
 refine bI 118 (.tmp 5) (((y:Nat):Value)) (.pointer (some ⟨y,11,none⟩)) (fun ρ h1 kk w9 (fK:Just (fun b=>b=z) _ w9) hb hf=>by go_simp) ?_
 refine bI 119 (.tmp 118) (.pointer (some ⟨y,11,none⟩)) (ae af 1) (fun ρ h1 kk w9 (fK:Just (fun b=>b=z) _ w9) hb hf=>by have c:=(fK.blk JV hyz).cell 11;go_simp) ?_
 refine mO aj (bO aj) (undef) (by rw[hK.out];rfl) (.tmp 6) (.tmp 117) (((z:Nat):Value)) (.agg #[ae af (node:Int),ae af 0,ae af 1]) aj aj (fun ρ h1 h2 kk w9 (fK:Just (fun b=>b=z) _ w9) hb hf=>by obtain rfl:=cw 0 aj hb;have hI:=hb.1;refine gJ 0 aj ?_;exact uL hI rfl h1 h2 rfl rfl am) ?_
 refine ce (fun _ _ w9 (fK:Just (fun b=>b=z) _ w9) hend bR=>hT _ _ ?_)
 clear hops hA' hK hT
 simp only[cj,Act.put,aw,ay,az]
 clear bR
 have mE:ct w9 z 26 #[ae af (node:Int),ae af 0,ae af 1]:=hend
 refine fM 4 5 am am ?_
 simp only[aV,bw,ax,aB]
 go_wp2_with fail
 refine eY ?_
 have iq:=gB.turned 2 rfl wW fK mE
 have J9:=J7.trans (fK.imp fun b hb=>hb▸(gB.ig 2 rfl).1)
 go_wp2_with fail
 refine bodyPost_ret (ft rfl _ z rfl mE Tryz.underlying26 am) rfl ?_
 have gZ:Solo (cB V w) (Many (iW p (cP p.st p.z ep sl fJ [] k0 cu) node 1 now tag 0 [] [] (n+1) b2 k)) w9:=((Solo.flat (l:=iW p (cP p.st p.z ep sl fJ [] k0 cu) node 1 now tag 0 [] [] (n+1) b2 k) iq).perm (aG (l₂:=[Cell zi 26 #[ae af (node:Int),ae af 0,ae af 1],Cell z 26 #[ae af (node:Int),ae af 0,ae af 1],Cell y 73 #[ae af 2,ae af 0,ae af 0,ae af 0,ae af 0,ae af 0,ai none 0 0,.string ⟨#[]⟩,ae af 0,ae af 0,ae af tg,ae af 1,ae ah 0,ae af 0,ae af 0,ai none 0 0,ae af 0,ae af 0]]))).drop1.drop1.drop1
 obtain⟨r1,r2⟩:=Solo.done gZ J9 hV
 rw[HB2.out] at r1
 exact⟨rfl,r1,r2⟩
end Go.Proofs.YtmijcbfgfkeodaaGreatDoor
end
section
namespace Go.Proofs.YtmijcbfgfkeodaaGreatDoor.L
open Go.RowKit Go.Hop
def uM (h:Int) (c:UInt8):Int:=IntKind.u64.wrap (bits .xor .u64 h (c.toNat:Int)*1099511628211)
def f_ (l:List UInt8):Int:=l.foldl uM 14695981039346656037
theorem rA (l:List UInt8):0≤f_ l∧f_ l≤18446744073709551615:=by
 unfold f_
 rcases List.eq_nil_or_concat l with rfl|⟨r,c,rfl⟩
 ·exact⟨by decide,by decide⟩
 ·rw[List.concat_eq_append,List.foldl_append]
  show 0≤uM _ c∧uM _ c≤_
  unfold uM
  rw[wrap_u64]
  omega
theorem uN {s:ByteArray} {k:Nat} (hk:k<s.size):f_ (s.data.toList.take (k+1))=uM (f_ (s.data.toList.take k)) s[k]:=by
 have hl:k<s.data.toList.length:=by simpa using hk
 unfold f_
 rw[aI hl,List.foldl_append]
 rfl
def pK (n:Int):Int:=max 1 (min n 4)
theorem E9 (n:Int):∃ m:Int,1≤m∧m≤4∧pK n=m:=⟨pK n,by unfold pK;omega,by unfold pK;omega,rfl⟩
def sK (s:ByteArray) (n:Int):Int:=f_ s.data.toList % pK n
theorem AW (w:World) (s:ByteArray) (hs:s.size≤maxLen):Calls au 155 #[.string s] w fun e w'=>e=.returned (ae ah (f_ s.data.toList))∧w=w':=by
 unfold maxLen at hs
 go_enter Tryz.func155,Tryz.ntmps155
 go_wp2
 go_loop [3,7] (fun h i=>∃ k:Nat,k≤s.size∧i=ae af (k:Int)∧h=ae ah (f_ (s.data.toList.take k))) (fun _ i=>s.size-(intOf i).toNat)
 case atStart=>exact⟨0,aZ _,rfl,rfl⟩
 case round=>
  obtain⟨k,hk,rfl,rfl⟩:=hrel
  have hp:=rA (s.data.toList.take k)
  by_cases hlt:k<s.size
  ·have hlt':decide ((k:Int)<(s.size:Int))=true:=decide_eq_true al
   have hb:=BM s[k]
   have HS:=Lib.hid (uN hlt)
   have hcw:IntKind.u64.wrap (s[k].toNat:Int)=(s[k].toNat:Int):=by rw[wrap_u64];omega
   go_wp2
   go_round
   case rel=>exact⟨k+1,by omega,by go_num,by rw[HS.out];rfl⟩
   case measure=>simp[intOf];omega
  ·obtain rfl:k=s.size:=by omega
   have hlt':decide ((s.size:Int)<(s.size:Int))=false:=decide_eq_false al
   go_wp2
   go_ret
   exact⟨by rw[aN (by simp)];rfl,rfl⟩
theorem AX (w:World) (s:ByteArray) (n:Int) (hs:s.size≤maxLen) (hn:-9223372036854775808≤n∧n≤9223372036854775807):Calls au 73 #[.string s,ae af n] w fun e w'=>e=.returned (ae af (sK s n))∧w=w':=by
 obtain⟨m,h1,h4,hm⟩:=E9 n
 have hp:=rA s.data.toList
 have hmn:∀ ts t w,(Builtin.min_ ts t #[ae af n,ae af 4]).run au w=.ok (ae af (min n 4)) w:=fun ts t w=>by rw[run_min_int2];congr 2;split<;>omega
 have hmx:∀ ts t w,(Builtin.max_ ts t #[ae af 1,ae af (min n 4)]).run au w=.ok (ae af m) w:=fun ts t w=>by rw[run_max_int2,←hm];congr 2;unfold pK;split<;>omega
 have hmw:IntKind.u64.wrap m=m:=by rw[wrap_u64];omega
 have hm0:¬ m=0:=by omega
 have HM:=Lib.hid hm
 clear hm
 have q0:=Int.emod_nonneg (f_ s.data.toList) (b:=m) al
 have q1:=Int.emod_lt_of_pos (f_ s.data.toList) (b:=m) al
 have hrem:(f_ s.data.toList).tmod m=f_ s.data.toList % m:=Int.tmod_eq_emod_of_nonneg hp.1
 have hwi:IntKind.i64.wrap (f_ s.data.toList % m)=f_ s.data.toList % m:=by rw[IntKind.wrap_i64];omega
 go_enter Tryz.func73,Tryz.ntmps73
 go_wp2_with (go_at_call 155;refine (AW _ _ hs).mono ?_;rintro e w' ⟨rfl,rfl⟩)
 go_ret
 exact⟨by unfold sK;rw[HM.out];rfl,rfl⟩
end Go.Proofs.YtmijcbfgfkeodaaGreatDoor.L
end
