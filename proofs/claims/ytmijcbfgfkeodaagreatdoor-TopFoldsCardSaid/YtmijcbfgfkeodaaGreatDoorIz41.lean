/- Wd8. -/
import Derived.Test.YtmijcbfgfkeodaaGreatDoorIz40
set_option linter.all false
set_option maxRecDepth 100000
set_option maxHeartbeats 2000000
open Go.Value renaming int → ae,slice → ai
open Go.IntKind renaming i64 → af,u64 → ah
open Go.Proofs.Tryz renaming prog → au
open List renaming setIfInBounds_toArray → aw,set_cons_zero → ay,set_cons_succ → az,not_mem_nil → aE,mem_cons → aF,perm_append_comm → aG
section
namespace Go.Proofs.YtmijcbfgfkeodaaGreatDoor
open Go.RowKit Go.Hop V
def GH (P:Nat→Prop) (Ss:Nat→cg) (ms:List Nat) (st:List (Nat×Nat)):cQ where
 G:=Just P
 T:=fun _=>Just P
 I:=fun k w=>Solo P (Ss k) w
 muts:=ms
 stage:=fun j=>st.lookup j
theorem Ee {P:Nat→Prop} {Ss:Nat→cg} {ms:List Nat} {st:List (Nat×Nat)} (hF:∀ k,Framed (Ss k)):(GH P Ss ms st).Ok:=
 ⟨fun _ _ _=>Just.trans,fun _ _ h=>Just.bJ h,fun _ _ _ h=>h,fun k _ _ h hg=>Solo.grow h (hF k) hg⟩
theorem pM {ρ:Operand→Value} {o:Oper} {x y:Operand} {ty:TypeId} {w:World} {g b:Nat} {t:TypeId} {cs:Array Value} {vs:List Value} (hx:ρ x=.pointer (some ⟨g,b,none⟩)) (hy:ρ y=.agg vs.toArray) (ho:o.op=.store ty x y) (hB:ct w g t cs) (hl:b+vs.length≤cs.size) (h1:vs.all (fun v=>v.oneCell')=true) (hi:(Tryz.prog.info? ty).map (·.size)=some vs.toArray.size):(execOp ρ o).run au w=.ok .skip (w.setCells g b vs):=by
 obtain⟨dst,op,ty',pos,after,guard⟩:=o
 simp only at ho
 subst ho
 have h2:=run_storeAt_mid (P:=au) w g b ty vs.toArray (fun j hj=>⟨by
  have hj':b+j<cs.size:=by simp at hj;omega
  rw[hB.cell,Array.getElem?_eq_getElem hj'];rfl,hB.frozen _⟩) hi (by simpa using h1)
 simp[execOp,hx,hy,h2,Result.andThen]
theorem pN {ρ:Operand→Value} {o:Oper} {x y:Operand} {ty:TypeId} {w:World} {g b:Nat} {t:TypeId} {cs:Array Value} {v:Value} (hx:ρ x=.pointer (some ⟨g,b,none⟩)) (hy:ρ y=v) (ho:o.op=.store ty x y) (hB:ct w g t cs) (hl:b<cs.size) (h1:v.oneCell'=true) (hi:(Tryz.prog.info? ty).map (·.size)=some 1):(execOp ρ o).run au w=.ok .skip (w.setCell ⟨g,b,none⟩ v):=by
 obtain⟨dst,op,ty',pos,after,guard⟩:=o
 simp only at ho
 subst ho
 have h2:=j8 (P:=au) w g b ty v (by rw[hB.cell,Array.getElem?_eq_getElem hl];rfl) (hB.frozen _) hi h1
 simp[execOp,hx,hy,Instr.storeAt,Instr.sureAddr,h2,Result.andThen]
def PT (W:Nat) (q:o5) (y8 ze x z:Nat) (A:Option Addr) (m c:Nat):Nat→cg:=fun k=>match k with
 | 0=>Many (Cell y8 73 (eW (4294967296+1) 1 0) :: (cS W q [] cW (A3 q.a)++[Cell ze 100 #[.int .i64 0,.int .i64 1,.int .i64 0,.int .i64 0,.int .i64 0,.int .i64 0,.int .u64 0,.int .i64 0],Cell x 211 #[.int .i64 0,.int .i64 1,.slice A m c],Cell z 100 #[.int .i64 0,.int .i64 0,.int .i64 0,.int .i64 0,.int .i64 0,.int .i64 0,.int .u64 0,.int .i64 0]]))
 | 1=>Many (Cell y8 73 (eW (4294967296+1) 1 0) :: (cS W q [] cW (cW)++[Cell ze 100 #[.int .i64 0,.int .i64 1,.int .i64 0,.int .i64 0,.int .i64 0,.int .i64 0,.int .u64 0,.int .i64 0],Cell x 211 #[.int .i64 0,.int .i64 1,.slice A m c],Cell z 100 #[.int .i64 0,.int .i64 0,.int .i64 0,.int .i64 0,.int .i64 0,.int .i64 0,.int .u64 0,.int .i64 0]]))
 | 2=>Many (Cell y8 73 (eW (4294967296+1) 1 0) :: (cS W q [] cW (cW)++[Cell ze 100 #[.int .i64 0,.int .i64 1,.int .i64 0,.int .i64 ((1:Nat):Int),.int .i64 0,.int .i64 1,.int .u64 0,.int .i64 0],Cell x 211 #[.int .i64 0,.int .i64 1,.slice A m c],Cell z 100 #[.int .i64 0,.int .i64 0,.int .i64 0,.int .i64 0,.int .i64 0,.int .i64 0,.int .u64 0,.int .i64 0]]))
 | _=>Many (Cell y8 73 (eW (4294967296+1) 1 0) :: (cS W q [] cW (cW)++[Cell ze 100 #[.int .i64 0,.int .i64 1,.int .i64 1,.int .i64 ((1:Nat):Int),.int .i64 0,.int .i64 1,.int .u64 0,.int .i64 0],Cell x 211 #[.int .i64 0,.int .i64 1,.slice A m c],Cell z 100 #[.int .i64 0,.int .i64 0,.int .i64 0,.int .i64 0,.int .i64 0,.int .i64 0,.int .u64 0,.int .i64 0]]))
theorem uW (w:World) (W:Nat) (q:o5) (V:Nat→Prop) (hM:Many (cS W q [(0,1,frame (dZ (4294967296+1) 1 0))] cW (A3 q.a)) w V) (hV:∀ b,V b→b<w.heap.size) :
 Calls au 196 #[((W:Nat):Value),ae af 0] w fun e w'=>e=.returned (.agg #[ae af 0,ae af 1,ae af 1,ae af ((1:Nat):Int),ae af 0,ae af 1,ae ah 0,ae af 0])∧Many (cS W q [] cW cW) w' (Ext V w w')∧Just V w w':=by
 have OA:∀ (vs:Array Value) (w:World),(callFunc 247 vs).run au w=.ok (.enter 247 vs) w:=fun vs w=>by go_simp
 have Ji:∀ (vs:Array Value) (w:World),(callFunc 244 vs).run au w=.ok (.enter 244 vs) w:=fun vs w=>by go_simp
 have iR:=cW.framed
 have kP:=A3.framed q.a
 have hS0:=Solo.begin_ hM hV
 have dX:=ci W q [(0,1,frame (dZ (4294967296+1) 1 0))] (cW) (A3 q.a) iR kP
 have g1:=bN w (.cells #[ae af 0,ae af 0,ae af 0,ae af 0,ae af 0,ae af 0,ae ah 0,ae af 0] 100)
 have b1:=ct.made w 100 #[ae af 0,ae af 0,ae af 0,ae af 0,ae af 0,ae af 0,ae ah 0,ae af 0]
 have rW:=(hS0.blk 0 rfl).grow g1
 unfold gG at rW
 have c3:=rW.cell 3
 obtain⟨z,HZ⟩:∃ z:Nat,Hid (z=w.heap.size):=⟨_,rfl⟩
 obtain⟨wb,ia⟩:∃ wb:World,Hid (wb=w.alloc (.cells #[ae af 0,ae af 0,ae af 0,ae af 0,ae af 0,ae af 0,ae ah 0,ae af 0] 100)):=⟨_,rfl⟩
 rw[←ia.out] at g1 b1
 rw[←HZ.out] at b1
 have hSb:=hS0.join dX g1 (R:=Cell z 100 #[ae af 0,ae af 0,ae af 0,ae af 0,ae af 0,ae af 0,ae ah 0,ae af 0]) (U:=fun b=>b=z) ⟨rfl,b1⟩ (fun b hb=>by have h8:b=z:=hb;have:=HZ.out;have:=b1.lt;omega)
 have iU:=dX.cons (Cell.framed z 100 #[ae af 0,ae af 0,ae af 0,ae af 0,ae af 0,ae af 0,ae ah 0,ae af 0])
 have hDl:=hSb.LY (ι:=Option Addr×Nat×Nat) (C:=fun j e _=>e=.returned (.tuple #[.agg #[ae af 0,ae af 1,.slice j.1 j.2.1 j.2.2],ae af 0])) (S':=fun j=>Ne.Taken q.g 2 [] (fun _=>false) (frame (dZ (4294967296+1) 1 0)) j) 5 rfl iU (fun U hU ey Gv=>Ne.nT wb q.g 2 [(0,1,frame (dZ (4294967296+1) 1 0))] (fun _=>false) 0 (by simp) rfl U hU ey)
 go_enter Tryz.func196,Tryz.ntmps196
 go_wp2_with fail
 rw[←ia.out,←HZ.out]
 refine hDl.mono ?_
 rintro e w1 ⟨⟨A,m,c⟩,he,hj1,hS1⟩
 dsimp only at he hS1
 subst he
 clear c3
 have hS1:Solo (cB V w) (Many [Cell z 100 #[ae af 0,ae af 0,ae af 0,ae af 0,ae af 0,ae af 0,ae ah 0,ae af 0],Cell W 196 (gG q.rs q.ij q.ds q.g),cD 66 q.rs [q.r],cD 55 q.ij [q.a],cD 53 q.ds [q.d0,q.d1],Ne.Taken q.g 2 [] (fun _=>false) (frame (dZ (4294967296+1) 1 0)) (A,m,c),cW,A3 q.a]) w1:=hS1
 have hF1:bM [Cell z 100 #[ae af 0,ae af 0,ae af 0,ae af 0,ae af 0,ae af 0,ae ah 0,ae af 0],Cell W 196 (gG q.rs q.ij q.ds q.g),cD 66 q.rs [q.r],cD 55 q.ij [q.a],cD 53 q.ds [q.d0,q.d1],Ne.Taken q.g 2 [] (fun _=>false) (frame (dZ (4294967296+1) 1 0)) (A,m,c),cW,A3 q.a]:=(((((((bM.nil.cons kP).cons iR).cons (Ne.Taken.framed _ _ _ _ _ _)).cons (cD.framed _ _ _)).cons (cD.framed _ _ _)).cons (cD.framed _ _ _)).cons (Cell.framed _ _ _)).cons (Cell.framed _ _ _)
 have J1:Just (cB V w) w w1:=(Just.bJ g1).trans hj1
 go_wp2_with (refine cK rfl (uT _ _ _ rfl) ?_;intro x w2 hB2 hg2 hz2 hs2;refine stay ?_)
 refine bV ?_
 go_wp2_with (refine ch rfl 211 _ _ rfl _ rfl [ae af 0,ae af 1,.slice A m c] rfl hB2 rfl rfl am ?_;intro w3 qW hj3 hs3;refine stay ?_)
 refine bV ?_
 have hg3:Grow w1 w3:=Below.trans hg2 (hj3.below (B:=w1.heap.size) (fun b hb=>by have e2:b=x:=hb;omega) al)
 have x1:=qW.cell 1
 go_wp2_with (refine cK rfl (gF _ _ _ rfl) ?_;intro ze w4 hB4 hg4 EA hs4;refine stay ?_)
 refine bV ?_
 go_wp2_with (refine ch rfl 100 _ _ rfl _ rfl [ae af 0,ae af 1,ae af 0,ae af 0,ae af 0,ae af 0,ae ah 0,ae af 0] rfl hB4 rfl rfl am ?_;intro w5 o8 dY hs5;refine stay ?_)
 refine bV ?_
 clear x1
 have hg5:Grow w3 w5:=Below.trans hg4 (dY.below (B:=w3.heap.size) (fun b hb=>by have e2:b=ze:=hb;omega) al)
 have zd:=qW.grow hg5
 have dO:=hS1.join hF1 hg3 (R:=Cell x 211 #[ae af 0,ae af 1,.slice A m c]) (U:=fun b=>b=x) ⟨rfl,qW⟩ (fun b hb=>by have e2:b=x:=hb;omega)
 have i9:=hF1.cons (Cell.framed x 211 #[ae af 0,ae af 1,.slice A m c])
 have hS5:=dO.join i9 hg5 (R:=Cell ze 100 #[ae af 0,ae af 1,ae af 0,ae af 0,ae af 0,ae af 0,ae ah 0,ae af 0]) (U:=fun b=>b=ze) ⟨rfl,o8⟩ (fun b hb=>by have e2:b=ze:=hb;omega)
 have sU:=i9.cons (Cell.framed ze 100 #[ae af 0,ae af 1,ae af 0,ae af 0,ae af 0,ae af 0,ae ah 0,ae af 0])
 have J5:=(J1.trans (Just.bJ hg3)).trans (Just.bJ hg5)
 obtain⟨U7,⟨RP,Oo,hmc,hcm⟩,Oq⟩:=hS5.see 7 rfl
 have du:Bytes w5 w5.heap.size A m (frame (dZ (4294967296+1) 1 0)):=In.reads (Oo.mono (V':=fun b=>b<w5.heap.size) fun b hb=>(Oq b hb).2)
 have hS5:=hS5.map 7 rfl (S':=Ne.dy q.g 2 [] (fun _=>false)) (fun U h=>h.1)
 have hS5:Solo (cB V w) (Many (cS W q [] (cW) (A3 q.a)++[Cell ze 100 #[ae af 0,ae af 1,ae af 0,ae af 0,ae af 0,ae af 0,ae ah 0,ae af 0],Cell x 211 #[ae af 0,ae af 1,.slice A m c],Cell z 100 #[ae af 0,ae af 0,ae af 0,ae af 0,ae af 0,ae af 0,ae ah 0,ae af 0]])) w5:=hS5.perm (aG (l₁:=[Cell ze 100 #[ae af 0,ae af 1,ae af 0,ae af 0,ae af 0,ae af 0,ae ah 0,ae af 0],Cell x 211 #[ae af 0,ae af 1,.slice A m c],Cell z 100 #[ae af 0,ae af 0,ae af 0,ae af 0,ae af 0,ae af 0,ae ah 0,ae af 0]]))
 have x2:=zd.cell 2
 clear hB2 hB4 qW o8 dO i9 hS1 sU
 have sc:=zl w5 4294967297 1 0 A m c al al al du hmc hcm
 have sc:Calls au 36 #[.slice A m c] w5 fun en w'=>en=.returned (.tuple #[.agg (eW (4294967296+1) 1 0),ae af 0])∧Grow w5 w':=sc
 go_wp2_with fail
 clear x2
 refine sc.mono ?_
 rintro e w6 ⟨rfl,dT⟩
 go_wp2_with (refine cK rfl (fQ _ _ _ rfl) ?_;intro y8 RQ Ot Jk Ou hs6;refine stay ?_)
 refine bV ?_
 go_wp2_with (refine ch rfl 73 _ _ rfl _ rfl (eW (4294967296+1) 1 0).toList rfl Ot rfl rfl am ?_;intro w7 JX nn hs7;refine stay ?_)
 refine bV ?_
 have B0:Grow w6 w7:=Below.trans Jk (nn.below (B:=w6.heap.size) (fun b hb=>by have e2:b=y8:=hb;omega) al)
 have dX:bM (cS W q [] cW (A3 q.a)++[Cell ze 100 #[ae af 0,ae af 1,ae af 0,ae af 0,ae af 0,ae af 0,ae ah 0,ae af 0],Cell x 211 #[ae af 0,ae af 1,.slice A m c],Cell z 100 #[ae af 0,ae af 0,ae af 0,ae af 0,ae af 0,ae af 0,ae ah 0,ae af 0]]):=bW (ci W q [] cW (A3 q.a) cW.framed kP) (((bM.nil.cons (Cell.framed z 100 #[ae af 0,ae af 0,ae af 0,ae af 0,ae af 0,ae af 0,ae ah 0,ae af 0])).cons (Cell.framed x 211 #[ae af 0,ae af 1,.slice A m c])).cons (Cell.framed ze 100 #[ae af 0,ae af 1,ae af 0,ae af 0,ae af 0,ae af 0,ae ah 0,ae af 0]))
 have eC:=hS5.grows dX dT
 have gB:Solo (cB V w) (Many (Cell y8 73 (eW (4294967296+1) 1 0) :: (cS W q [] cW (A3 q.a)++[Cell ze 100 #[ae af 0,ae af 1,ae af 0,ae af 0,ae af 0,ae af 0,ae ah 0,ae af 0],Cell x 211 #[ae af 0,ae af 1,.slice A m c],Cell z 100 #[ae af 0,ae af 0,ae af 0,ae af 0,ae af 0,ae af 0,ae ah 0,ae af 0]]))) w7:=eC.join dX B0 (R:=Cell y8 73 (eW (4294967296+1) 1 0)) (U:=fun b=>b=y8) ⟨rfl,JX⟩ (fun b hb=>by have e2:b=y8:=hb;omega)
 have hG0:bM (Cell y8 73 (eW (4294967296+1) 1 0) :: (cS W q [] cW (A3 q.a)++[Cell ze 100 #[ae af 0,ae af 1,ae af 0,ae af 0,ae af 0,ae af 0,ae ah 0,ae af 0],Cell x 211 #[ae af 0,ae af 1,.slice A m c],Cell z 100 #[ae af 0,ae af 0,ae af 0,ae af 0,ae af 0,ae af 0,ae ah 0,ae af 0]])):=((bW (ci W q [] cW (A3 q.a) cW.framed kP) (((bM.nil.cons (Cell.framed z 100 #[ae af 0,ae af 0,ae af 0,ae af 0,ae af 0,ae af 0,ae ah 0,ae af 0])).cons (Cell.framed x 211 #[ae af 0,ae af 1,.slice A m c])).cons (Cell.framed ze 100 #[ae af 0,ae af 1,ae af 0,ae af 0,ae af 0,ae af 0,ae ah 0,ae af 0]))).cons (Cell.framed y8 73 (eW (4294967296+1) 1 0)))
 have hG1:bM (Cell y8 73 (eW (4294967296+1) 1 0) :: (cS W q [] cW (cW)++[Cell ze 100 #[ae af 0,ae af 1,ae af 0,ae af 0,ae af 0,ae af 0,ae ah 0,ae af 0],Cell x 211 #[ae af 0,ae af 1,.slice A m c],Cell z 100 #[ae af 0,ae af 0,ae af 0,ae af 0,ae af 0,ae af 0,ae ah 0,ae af 0]])):=((bW (ci W q [] cW (cW) cW.framed cW.framed) (((bM.nil.cons (Cell.framed z 100 #[ae af 0,ae af 0,ae af 0,ae af 0,ae af 0,ae af 0,ae ah 0,ae af 0])).cons (Cell.framed x 211 #[ae af 0,ae af 1,.slice A m c])).cons (Cell.framed ze 100 #[ae af 0,ae af 1,ae af 0,ae af 0,ae af 0,ae af 0,ae ah 0,ae af 0]))).cons (Cell.framed y8 73 (eW (4294967296+1) 1 0)))
 have hG2:bM (Cell y8 73 (eW (4294967296+1) 1 0) :: (cS W q [] cW (cW)++[Cell ze 100 #[ae af 0,ae af 1,ae af 0,ae af ((1:Nat):Int),ae af 0,ae af 1,ae ah 0,ae af 0],Cell x 211 #[ae af 0,ae af 1,.slice A m c],Cell z 100 #[ae af 0,ae af 0,ae af 0,ae af 0,ae af 0,ae af 0,ae ah 0,ae af 0]])):=((bW (ci W q [] cW (cW) cW.framed cW.framed) (((bM.nil.cons (Cell.framed z 100 #[ae af 0,ae af 0,ae af 0,ae af 0,ae af 0,ae af 0,ae ah 0,ae af 0])).cons (Cell.framed x 211 #[ae af 0,ae af 1,.slice A m c])).cons (Cell.framed ze 100 #[ae af 0,ae af 1,ae af 0,ae af ((1:Nat):Int),ae af 0,ae af 1,ae ah 0,ae af 0]))).cons (Cell.framed y8 73 (eW (4294967296+1) 1 0)))
 have hG3:bM (Cell y8 73 (eW (4294967296+1) 1 0) :: (cS W q [] cW (cW)++[Cell ze 100 #[ae af 0,ae af 1,ae af 1,ae af ((1:Nat):Int),ae af 0,ae af 1,ae ah 0,ae af 0],Cell x 211 #[ae af 0,ae af 1,.slice A m c],Cell z 100 #[ae af 0,ae af 0,ae af 0,ae af 0,ae af 0,ae af 0,ae ah 0,ae af 0]])):=((bW (ci W q [] cW (cW) cW.framed cW.framed) (((bM.nil.cons (Cell.framed z 100 #[ae af 0,ae af 0,ae af 0,ae af 0,ae af 0,ae af 0,ae ah 0,ae af 0])).cons (Cell.framed x 211 #[ae af 0,ae af 1,.slice A m c])).cons (Cell.framed ze 100 #[ae af 0,ae af 1,ae af 1,ae af ((1:Nat):Int),ae af 0,ae af 1,ae ah 0,ae af 0]))).cons (Cell.framed y8 73 (eW (4294967296+1) 1 0)))
 have J7:=J5.trans (Just.bJ (dT.trans B0))
 have x1:=(gB.blk 9 rfl).cell 1
 obtain⟨U1,nN,_⟩:=gB.see 2 rfl
 have EB:=nU w7 W q.g q.rs q.ij q.ds q.r q.a q.d0 q.d1 U1 (gB.blk 1 rfl) nN
 go_wp2_with fail
 refine EB.mono ?_
 rintro e w8 ⟨rfl,rfl⟩
 clear x1
 have RU:∀ k,Framed (PT W q y8 ze x z A m c k):=fun k=>by
  rcases k with _|_|_|k
  ·exact Many.framed _ hG0
  ·exact Many.framed _ hG1
  ·exact Many.framed _ hG2
  ·exact Many.framed _ hG3
 go_wp2_with fail
 refine c_ rfl ?_
 refine er (GH (cB V w) (PT W q y8 ze x z A m c) [7,12,14] [(2,0),(3,0),(5,0),(6,0),(7,0),(12,1),(14,2)]) (Ee RU) 0 15 72 [(3,.inl (.pointer (some ⟨q.a,0,none⟩))),(7,.inl (.tuple #[.agg #[ae af ((1:Nat):Int),ae af 0,ae af 1],ae af 1])),(12,.inl (undef)),(14,.inl (undef))] rfl am am am ?_ (Just.bJ (Grow.refl _).drew) (Solo.grows (l:=Cell y8 73 (eW (4294967296+1) 1 0) :: (cS W q [] cW (A3 q.a)++[Cell ze 100 #[ae af 0,ae af 1,ae af 0,ae af 0,ae af 0,ae af 0,ae ah 0,ae af 0],Cell x 211 #[ae af 0,ae af 1,.slice A m c],Cell z 100 #[ae af 0,ae af 0,ae af 0,ae af 0,ae af 0,ae af 0,ae ah 0,ae af 0]])) gB hG0 (Grow.refl _).drew) ?_
 ·intro x hx φ he
  simp only[aF,aE,or_false] at hx
  rcases hx with rfl|rfl|rfl|rfl<;>cases he
 intro ops' A' K' T hops hA' hK hT
 refine bP 53 (((W:Nat):Value)) ?_
 refine bI 54 (.tmp 5) (((x:Nat):Value)) (.pointer (some ⟨x,1,none⟩)) (fun ρ h1 kk w9 (fK:Just (cB V w) _ w9) hb hf=>by go_simp) ?_
 refine bI 55 (.tmp 54) (.pointer (some ⟨x,1,none⟩)) (ae af 1) (fun ρ h1 kk w9 (fK:Just (cB V w) _ w9) hb hf=>by obtain rfl:=cw 0 aj hb;have hI:=hb.1;have hI:Solo (cB V w) (Many (Cell y8 73 (eW (4294967296+1) 1 0) :: (cS W q [] cW (A3 q.a)++[Cell ze 100 #[ae af 0,ae af 1,ae af 0,ae af 0,ae af 0,ae af 0,ae ah 0,ae af 0],Cell x 211 #[ae af 0,ae af 1,.slice A m c],Cell z 100 #[ae af 0,ae af 0,ae af 0,ae af 0,ae af 0,ae af 0,ae ah 0,ae af 0]]))) w9:=hI;have c:=(hI.blk 9 rfl).cell 1;go_simp) ?_
 refine cC 56 aj ak (bO aj) (.pointer (some ⟨q.a,0,none⟩)) (by rw[hK.out];rfl) 244 _ _ aj [((W:Nat):Value),ae af 1] aj Ji (fun kk w9 (fK:Just (cB V w) _ w9) hb hf=>b_ aj (by obtain rfl:=cw 0 aj hb;have hI:=hb.1;exact (by have hI:Solo (cB V w) (Many (Cell y8 73 (eW (4294967296+1) 1 0) :: (cS W q [] cW (A3 q.a)++[Cell ze 100 #[ae af 0,ae af 1,ae af 0,ae af 0,ae af 0,ae af 0,ae ah 0,ae af 0],Cell x 211 #[ae af 0,ae af 1,.slice A m c],Cell z 100 #[ae af 0,ae af 0,ae af 0,ae af 0,ae af 0,ae af 0,ae ah 0,ae af 0]]))) w9:=hI;obtain⟨U1,nN,_⟩:=hI.see 2 rfl;obtain⟨U2,oi,_⟩:=hI.see 3 rfl;exact db (sJ w9 W q.g q.rs q.ij q.ds q.r q.a q.d0 q.d1 U1 U2 (hI.blk 1 rfl) nN oi)))) ?_
 refine bI 57 (.tmp 5) (((x:Nat):Value)) (((x:Nat):Value)) (fun ρ h1 kk w9 (fK:Just (cB V w) _ w9) hb hf=>by go_simp) ?_
 refine bI 58 (.tmp 57) (((x:Nat):Value)) (ae af 0) (fun ρ h1 kk w9 (fK:Just (cB V w) _ w9) hb hf=>by obtain rfl:=cw 0 aj hb;have hI:=hb.1;have hI:Solo (cB V w) (Many (Cell y8 73 (eW (4294967296+1) 1 0) :: (cS W q [] cW (A3 q.a)++[Cell ze 100 #[ae af 0,ae af 1,ae af 0,ae af 0,ae af 0,ae af 0,ae ah 0,ae af 0],Cell x 211 #[ae af 0,ae af 1,.slice A m c],Cell z 100 #[ae af 0,ae af 0,ae af 0,ae af 0,ae af 0,ae af 0,ae ah 0,ae af 0]]))) w9:=hI;have c:=(hI.blk 9 rfl).cell 0;go_simp) ?_
 refine bI 59 (.tmp 8) (((y8:Nat):Value)) (.agg (eW (4294967296+1) 1 0)) (fun ρ h1 kk w9 (fK:Just (cB V w) _ w9) hb hf=>by obtain rfl:=cw 0 aj hb;have hI:=hb.1;have hI:Solo (cB V w) (Many (Cell y8 73 (eW (4294967296+1) 1 0) :: (cS W q [] cW (A3 q.a)++[Cell ze 100 #[ae af 0,ae af 1,ae af 0,ae af 0,ae af 0,ae af 0,ae ah 0,ae af 0],Cell x 211 #[ae af 0,ae af 1,.slice A m c],Cell z 100 #[ae af 0,ae af 0,ae af 0,ae af 0,ae af 0,ae af 0,ae ah 0,ae af 0]]))) w9:=hI;exact mI h1 rfl (hI.blk 0 rfl) Tryz.underlying73 am) ?_
 refine cC 60 aj ak (bO aj) (.tuple #[.agg #[ae af ((1:Nat):Int),ae af 0,ae af 1],ae af 1]) (by rw[hK.out];rfl) 247 _ _ aj [.pointer (some ⟨q.a,0,none⟩),ae af 0,.agg (eW (4294967296+1) 1 0)] aj OA (fun kk w9 (fK:Just (cB V w) _ w9) hb hf=>jD 0 aj (by obtain rfl:=cw 0 aj hb;have hI:=hb.1;exact (Solo.at_ 7 rfl hG0 hI (xD w9 q.a)))) ?_
 refine bP 52 (.tuple #[.agg #[ae af ((1:Nat):Int),ae af 0,ae af 1],ae af 1]) ?_
 refine bI 61 (.tmp 52) (.tuple #[.agg #[ae af ((1:Nat):Int),ae af 0,ae af 1],ae af 1]) (.agg #[ae af ((1:Nat):Int),ae af 0,ae af 1]) (fun ρ h1 kk w9 (fK:Just (cB V w) _ w9) hb hf=>by go_simp) ?_
 refine bI 62 (.tmp 52) (.tuple #[.agg #[ae af ((1:Nat):Int),ae af 0,ae af 1],ae af 1]) (ae af 1) (fun ρ h1 kk w9 (fK:Just (cB V w) _ w9) hb hf=>by go_simp) ?_
 refine bI 63 (.tmp 7) (((ze:Nat):Value)) (.pointer (some ⟨ze,3,none⟩)) (fun ρ h1 kk w9 (fK:Just (cB V w) _ w9) hb hf=>by go_simp) ?_
 refine mO aj (bO aj) (undef) (by rw[hK.out];rfl) (.tmp 63) (.tmp 61) (.pointer (some ⟨ze,3,none⟩)) (.agg #[ae af ((1:Nat):Int),ae af 0,ae af 1]) aj aj (fun ρ h1 h2 kk w9 (fK:Just (cB V w) _ w9) hb hf=>by obtain rfl:=cw 1 aj hb;have hI:=hb.1;refine gJ 1 aj ?_;have hI:Solo (cB V w) (Many (Cell y8 73 (eW (4294967296+1) 1 0) :: (cS W q [] cW (cW)++[Cell ze 100 #[ae af 0,ae af 1,ae af 0,ae af 0,ae af 0,ae af 0,ae ah 0,ae af 0],Cell x 211 #[ae af 0,ae af 1,.slice A m c],Cell z 100 #[ae af 0,ae af 0,ae af 0,ae af 0,ae af 0,ae af 0,ae ah 0,ae af 0]]))) w9:=hI;rw[pM (vs:=[ae af ((1:Nat):Int),ae af 0,ae af 1]) h1 h2 rfl (hI.blk 8 rfl) ak rfl am];exact⟨rfl,(kY ze 3 _ w9).imp (fun b hb=>hb▸(hI.ig 8 rfl).1),hI.turned 8 rfl hG1 (kY ze 3 _ w9) ((hI.blk 8 rfl).part 3 _ ak)⟩) ?_
 refine bI 64 (.tmp 7) (((ze:Nat):Value)) (.pointer (some ⟨ze,2,none⟩)) (fun ρ h1 kk w9 (fK:Just (cB V w) _ w9) hb hf=>by go_simp) ?_
 refine mO aj (bO aj) (undef) (by rw[hK.out];rfl) (.tmp 64) (.tmp 62) (.pointer (some ⟨ze,2,none⟩)) (ae af 1) aj aj (fun ρ h1 h2 kk w9 (fK:Just (cB V w) _ w9) hb hf=>by obtain rfl:=cw 2 aj hb;have hI:=hb.1;refine gJ 2 aj ?_;have hI:Solo (cB V w) (Many (Cell y8 73 (eW (4294967296+1) 1 0) :: (cS W q [] cW (cW)++[Cell ze 100 #[ae af 0,ae af 1,ae af 0,ae af ((1:Nat):Int),ae af 0,ae af 1,ae ah 0,ae af 0],Cell x 211 #[ae af 0,ae af 1,.slice A m c],Cell z 100 #[ae af 0,ae af 0,ae af 0,ae af 0,ae af 0,ae af 0,ae ah 0,ae af 0]]))) w9:=hI;rw[pN h1 h2 rfl (hI.blk 8 rfl) ak rfl am];exact⟨rfl,(fh w9 ze 2 _).imp (fun b hb=>hb▸(hI.ig 8 rfl).1),hI.turned 8 rfl hG2 (fh w9 ze 2 _) ((hI.blk 8 rfl).put 2 _)⟩) ?_
 refine ce (fun _ _ w9 (fK:Just (cB V w) _ w9) hend bR=>hT _ _ ?_)
 clear hops hA' hK hT
 simp only[cj,Act.put,aw,ay,az]
 have iq:Solo (cB V w) (Many (Cell y8 73 (eW (4294967296+1) 1 0) :: (cS W q [] cW (cW)++[Cell ze 100 #[ae af 0,ae af 1,ae af 1,ae af ((1:Nat):Int),ae af 0,ae af 1,ae ah 0,ae af 0],Cell x 211 #[ae af 0,ae af 1,.slice A m c],Cell z 100 #[ae af 0,ae af 0,ae af 0,ae af 0,ae af 0,ae af 0,ae ah 0,ae af 0]]))) w9:=hend
 clear bR
 refine eY ?_
 have J9:=J7.trans fK
 have e2:=(iq.blk 8 rfl).cell 2
 have Ow:=iq.blk 8 rfl
 have Ox:=iq.blk 10 rfl
 go_wp2_with (first|(refine bY rfl 100 _ rfl _ rfl (Ow) Tryz.underlying100 am ?_)|(refine ch rfl 100 _ _ rfl _ rfl [ae af 0,ae af 1,ae af 1,ae af ((1:Nat):Int),ae af 0,ae af 1,ae ah 0,ae af 0] rfl Ox rfl rfl am ?_;intro wB Lq Lr hsB;refine stay ?_))
 refine bV ?_
 have Oy:=iq.turned 10 rfl hG3 Lr Lq
 have JB:=J9.trans (Lr.imp fun b hb=>hb▸(iq.ig 10 rfl).1)
 go_wp2_with fail
 refine bodyPost_ret (dr rfl _ z rfl Lq Tryz.underlying100 am) rfl ?_
 have Oz:Solo (cB V w) (Many (cS W q [] cW cW)) wB:=(Solo.perm (aG (l₁:=cS W q [] cW cW) (l₂:=[Cell ze 100 #[ae af 0,ae af 1,ae af 1,ae af ((1:Nat):Int),ae af 0,ae af 1,ae ah 0,ae af 0],Cell x 211 #[ae af 0,ae af 1,.slice A m c],Cell z 100 #[ae af 0,ae af 1,ae af 1,ae af ((1:Nat):Int),ae af 0,ae af 1,ae ah 0,ae af 0]])) (Solo.drop1 Oy)).drop1.drop1.drop1
 obtain⟨s1,s2⟩:=Solo.done Oz JB hV
 exact⟨rfl,s1,s2⟩
end Go.Proofs.YtmijcbfgfkeodaaGreatDoor
end
