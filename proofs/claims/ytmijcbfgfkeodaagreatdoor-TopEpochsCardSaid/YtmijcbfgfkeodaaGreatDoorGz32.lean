/- Wd8. -/
import Derived.Test.YtmijcbfgfkeodaaGreatDoorGz31
set_option linter.all false
set_option maxRecDepth 100000
section
namespace Go.Proofs.YtmijcbfgfkeodaaGreatDoor
open Go.RowKit Go.Hop Go.Proofs.YtmijcbfgfkeodaaGreatDoor.V
def SoloN (P:Nat→Prop) (Ss:Nat→Thing) (ms:List Nat) (st:List (Nat×Nat)):Stages where
 G:=Just P
 T:=fun _=>Just P
 I:=fun k w=>Solo P (Ss k) w
 muts:=ms
 stage:=fun j=>st.lookup j
theorem soloN_ok {P:Nat→Prop} {Ss:Nat→Thing} {ms:List Nat} {st:List (Nat×Nat)} (hF:∀ k,Framed (Ss k)):(SoloN P Ss ms st).Ok:=
 ⟨fun _ _ _=>Just.trans,fun _ _ h=>Just.of_grow h,fun _ _ _ h=>h,fun k _ _ h hg=>Solo.grow h (hF k) hg⟩
theorem run_store_part {ρ:Operand→Value} {o:Oper} {x y:Operand} {ty:TypeId} {w:World} {g b:Nat} {t:TypeId} {cs:Array Value} {vs:List Value} (hx:ρ x=.pointer (some ⟨g,b,none⟩)) (hy:ρ y=.agg vs.toArray) (ho:o.op=.store ty x y) (hB:Blk w g t cs) (hl:b+vs.length≤cs.size) (h1:vs.all (fun v=>v.oneCell')=true) (hi:(Tryz.prog.info? ty).map (·.size)=some vs.toArray.size):(execOp ρ o).run Tryz.prog w=.ok .skip (w.setCells g b vs):=by
 obtain⟨dst,op,ty',pos,after,guard⟩:=o
 simp only at ho
 subst ho
 have h2:=run_storeAt_mid (P:=Tryz.prog) w g b ty vs.toArray (fun j hj=>⟨by
  have hj':b+j<cs.size:=by simp at hj;omega
  rw[hB.cell,Array.getElem?_eq_getElem hj'];rfl,hB.frozen _⟩) hi (by simpa using h1)
 simp[execOp,hx,hy,h2,Result.andThen]
theorem run_store_cell {ρ:Operand→Value} {o:Oper} {x y:Operand} {ty:TypeId} {w:World} {g b:Nat} {t:TypeId} {cs:Array Value} {v:Value} (hx:ρ x=.pointer (some ⟨g,b,none⟩)) (hy:ρ y=v) (ho:o.op=.store ty x y) (hB:Blk w g t cs) (hl:b<cs.size) (h1:v.oneCell'=true) (hi:(Tryz.prog.info? ty).map (·.size)=some 1):(execOp ρ o).run Tryz.prog w=.ok .skip (w.setCell ⟨g,b,none⟩ v):=by
 obtain⟨dst,op,ty',pos,after,guard⟩:=o
 simp only at ho
 subst ho
 have h2:=run_storeVar_cell (P:=Tryz.prog) w g b ty v (by rw[hB.cell,Array.getElem?_eq_getElem hl];rfl) (hB.frozen _) hi h1
 simp[execOp,hx,hy,Instr.storeAt,Instr.sureAddr,h2,Result.andThen]
def ssD (W:Nat) (q:WoP) (y8 ze x z:Nat) (A:Option Addr) (m c:Nat):Nat→Thing:=fun k=>match k with
 | 0=>Many (Cell y8 73 (ansM (4294967296+1) 1 0) :: (woL W q [] Emp (A3 q.a)++[Cell ze 100 #[.int .i64 0,.int .i64 1,.int .i64 0,.int .i64 0,.int .i64 0,.int .i64 0,.int .u64 0,.int .i64 0],Cell x 211 #[.int .i64 0,.int .i64 1,.slice A m c],Cell z 100 #[.int .i64 0,.int .i64 0,.int .i64 0,.int .i64 0,.int .i64 0,.int .i64 0,.int .u64 0,.int .i64 0]]))
 | 1=>Many (Cell y8 73 (ansM (4294967296+1) 1 0) :: (woL W q [] Emp (Emp)++[Cell ze 100 #[.int .i64 0,.int .i64 1,.int .i64 0,.int .i64 0,.int .i64 0,.int .i64 0,.int .u64 0,.int .i64 0],Cell x 211 #[.int .i64 0,.int .i64 1,.slice A m c],Cell z 100 #[.int .i64 0,.int .i64 0,.int .i64 0,.int .i64 0,.int .i64 0,.int .i64 0,.int .u64 0,.int .i64 0]]))
 | 2=>Many (Cell y8 73 (ansM (4294967296+1) 1 0) :: (woL W q [] Emp (Emp)++[Cell ze 100 #[.int .i64 0,.int .i64 1,.int .i64 0,.int .i64 ((1:Nat):Int),.int .i64 0,.int .i64 1,.int .u64 0,.int .i64 0],Cell x 211 #[.int .i64 0,.int .i64 1,.slice A m c],Cell z 100 #[.int .i64 0,.int .i64 0,.int .i64 0,.int .i64 0,.int .i64 0,.int .i64 0,.int .u64 0,.int .i64 0]]))
 | _=>Many (Cell y8 73 (ansM (4294967296+1) 1 0) :: (woL W q [] Emp (Emp)++[Cell ze 100 #[.int .i64 0,.int .i64 1,.int .i64 1,.int .i64 ((1:Nat):Int),.int .i64 0,.int .i64 1,.int .u64 0,.int .i64 0],Cell x 211 #[.int .i64 0,.int .i64 1,.slice A m c],Cell z 100 #[.int .i64 0,.int .i64 0,.int .i64 0,.int .i64 0,.int .i64 0,.int .i64 0,.int .u64 0,.int .i64 0]]))
set_option maxHeartbeats 1000000 in
theorem wodeliver_2 (w:World) (W:Nat) (q:WoP) (V:Nat→Prop) (hM:Many (woL W q [(0,1,frame (ansB (4294967296+1) 1 0))] Emp (A3 q.a)) w V) (hV:∀ b,V b→b<w.heap.size) :
 Calls Tryz.prog 196 #[.pointer (some ⟨W,0,none⟩),.int .i64 0] w fun e w'=>e=.returned (.agg #[.int .i64 0,.int .i64 1,.int .i64 1,.int .i64 ((1:Nat):Int),.int .i64 0,.int .i64 1,.int .u64 0,.int .i64 0])∧Many (woL W q [] Emp Emp) w' (Ext V w w')∧Just V w w':=by
 have k247:∀ (vs:Array Value) (w:World),(callFunc 247 vs).run Tryz.prog w=.ok (.enter 247 vs) w:=fun vs w=>by go_simp
 have k244:∀ (vs:Array Value) (w:World),(callFunc 244 vs).run Tryz.prog w=.ok (.enter 244 vs) w:=fun vs w=>by go_simp
 have hRT:=Emp.framed
 have hAT:=A3.framed q.a
 have hS0:=Solo.begin_ hM hV
 have hF0:=woL_framed W q [(0,1,frame (ansB (4294967296+1) 1 0))] (Emp) (A3 q.a) hRT hAT
 have g1:=grow_alloc w (.cells #[.int .i64 0,.int .i64 0,.int .i64 0,.int .i64 0,.int .i64 0,.int .i64 0,.int .u64 0,.int .i64 0] 100)
 have b1:=Blk.made w 100 #[.int .i64 0,.int .i64 0,.int .i64 0,.int .i64 0,.int .i64 0,.int .i64 0,.int .u64 0,.int .i64 0]
 have rW:=(hS0.blk 0 rfl).grow g1
 unfold wdC at rW
 have c3:=rW.cell 3
 obtain⟨z,HZ⟩:∃ z:Nat,Hid (z=w.heap.size):=⟨_,rfl⟩
 obtain⟨wb,HB_⟩:∃ wb:World,Hid (wb=w.alloc (.cells #[.int .i64 0,.int .i64 0,.int .i64 0,.int .i64 0,.int .i64 0,.int .i64 0,.int .u64 0,.int .i64 0] 100)):=⟨_,rfl⟩
 rw[←HB_.out] at g1 b1
 rw[←HZ.out] at b1
 have hSb:=hS0.join hF0 g1 (R:=Cell z 100 #[.int .i64 0,.int .i64 0,.int .i64 0,.int .i64 0,.int .i64 0,.int .i64 0,.int .u64 0,.int .i64 0]) (U:=fun b=>b=z) ⟨rfl,b1⟩ (fun b hb=>by have h8:b=z:=hb;have:=HZ.out;have:=b1.lt;omega)
 have hFb:=hF0.cons (Cell.framed z 100 #[.int .i64 0,.int .i64 0,.int .i64 0,.int .i64 0,.int .i64 0,.int .i64 0,.int .u64 0,.int .i64 0])
 have hDl:=hSb.atW (ι:=Option Addr×Nat×Nat) (C:=fun j e _=>e=.returned (.tuple #[.agg #[.int .i64 0,.int .i64 1,.slice j.1 j.2.1 j.2.2],.int .i64 0])) (S':=fun j=>Ne.Taken q.g 2 [] (fun _=>false) (frame (ansB (4294967296+1) 1 0)) j) 5 rfl hFb (fun U hU hUl hUP=>Ne.Deliver_yes wb q.g 2 [(0,1,frame (ansB (4294967296+1) 1 0))] (fun _=>false) 0 (by simp) rfl U hU hUl)
 go_enter Tryz.func196,Tryz.ntmps196
 go_wp2_with fail
 rw[←HB_.out,←HZ.out]
 refine hDl.mono ?_
 rintro e w1 ⟨⟨A,m,c⟩,he,hj1,hS1⟩
 dsimp only at he hS1
 subst he
 clear c3
 have hS1:Solo (Lic V w) (Many [Cell z 100 #[.int .i64 0,.int .i64 0,.int .i64 0,.int .i64 0,.int .i64 0,.int .i64 0,.int .u64 0,.int .i64 0],Cell W 196 (wdC q.rs q.ags q.ds q.g),PtrRow 66 q.rs [q.r],PtrRow 55 q.ags [q.a],PtrRow 53 q.ds [q.d0,q.d1],Ne.Taken q.g 2 [] (fun _=>false) (frame (ansB (4294967296+1) 1 0)) (A,m,c),Emp,A3 q.a]) w1:=hS1
 have hF1:AllFramed [Cell z 100 #[.int .i64 0,.int .i64 0,.int .i64 0,.int .i64 0,.int .i64 0,.int .i64 0,.int .u64 0,.int .i64 0],Cell W 196 (wdC q.rs q.ags q.ds q.g),PtrRow 66 q.rs [q.r],PtrRow 55 q.ags [q.a],PtrRow 53 q.ds [q.d0,q.d1],Ne.Taken q.g 2 [] (fun _=>false) (frame (ansB (4294967296+1) 1 0)) (A,m,c),Emp,A3 q.a]:=(((((((AllFramed.nil.cons hAT).cons hRT).cons (Ne.Taken.framed _ _ _ _ _ _)).cons (PtrRow.framed _ _ _)).cons (PtrRow.framed _ _ _)).cons (PtrRow.framed _ _ _)).cons (Cell.framed _ _ _)).cons (Cell.framed _ _ _)
 have J1:Just (Lic V w) w w1:=(Just.of_grow g1).trans hj1
 go_wp2_with (refine wpList_new rfl (run_alcL _ _ _ rfl) ?_;intro x w2 hB2 hg2 hz2 hs2;refine stay ?_)
 refine stay_out ?_
 go_wp2_with (refine wpList_fill rfl 211 _ _ rfl _ rfl [.int .i64 0,.int .i64 1,.slice A m c] rfl hB2 rfl rfl (by kernel_rfl) ?_;intro w3 hX3 hj3 hs3;refine stay ?_)
 refine stay_out ?_
 have hg3:Grow w1 w3:=Below.trans hg2 (hj3.below (B:=w1.heap.size) (fun b hb=>by have e2:b=x:=hb;omega) (by omega))
 have x1:=hX3.cell 1
 go_wp2_with (refine wpList_new rfl (run_alcV _ _ _ rfl) ?_;intro ze w4 hB4 hg4 hz4 hs4;refine stay ?_)
 refine stay_out ?_
 go_wp2_with (refine wpList_fill rfl 100 _ _ rfl _ rfl [.int .i64 0,.int .i64 1,.int .i64 0,.int .i64 0,.int .i64 0,.int .i64 0,.int .u64 0,.int .i64 0] rfl hB4 rfl rfl (by kernel_rfl) ?_;intro w5 hE5 hj5 hs5;refine stay ?_)
 refine stay_out ?_
 clear x1
 have hg5:Grow w3 w5:=Below.trans hg4 (hj5.below (B:=w3.heap.size) (fun b hb=>by have e2:b=ze:=hb;omega) (by omega))
 have hX5:=hX3.grow hg5
 have hS3:=hS1.join hF1 hg3 (R:=Cell x 211 #[.int .i64 0,.int .i64 1,.slice A m c]) (U:=fun b=>b=x) ⟨rfl,hX3⟩ (fun b hb=>by have e2:b=x:=hb;omega)
 have hF3:=hF1.cons (Cell.framed x 211 #[.int .i64 0,.int .i64 1,.slice A m c])
 have hS5:=hS3.join hF3 hg5 (R:=Cell ze 100 #[.int .i64 0,.int .i64 1,.int .i64 0,.int .i64 0,.int .i64 0,.int .i64 0,.int .u64 0,.int .i64 0]) (U:=fun b=>b=ze) ⟨rfl,hE5⟩ (fun b hb=>by have e2:b=ze:=hb;omega)
 have hF5:=hF3.cons (Cell.framed ze 100 #[.int .i64 0,.int .i64 1,.int .i64 0,.int .i64 0,.int .i64 0,.int .i64 0,.int .u64 0,.int .i64 0])
 have J5:=(J1.trans (Just.of_grow hg3)).trans (Just.of_grow hg5)
 obtain⟨U7,⟨hN7,hBi,hmc,hcm⟩,hU7⟩:=hS5.see 7 rfl
 have hBy:Bytes w5 w5.heap.size A m (frame (ansB (4294967296+1) 1 0)):=In.reads (hBi.mono (V':=fun b=>b<w5.heap.size) fun b hb=>(hU7 b hb).2)
 have hS5:=hS5.map 7 rfl (S':=Ne.NetAt q.g 2 [] (fun _=>false)) (fun U h=>h.1)
 have hS5:Solo (Lic V w) (Many (woL W q [] (Emp) (A3 q.a)++[Cell ze 100 #[.int .i64 0,.int .i64 1,.int .i64 0,.int .i64 0,.int .i64 0,.int .i64 0,.int .u64 0,.int .i64 0],Cell x 211 #[.int .i64 0,.int .i64 1,.slice A m c],Cell z 100 #[.int .i64 0,.int .i64 0,.int .i64 0,.int .i64 0,.int .i64 0,.int .i64 0,.int .u64 0,.int .i64 0]])) w5:=hS5.perm (List.perm_append_comm (l₁:=[Cell ze 100 #[.int .i64 0,.int .i64 1,.int .i64 0,.int .i64 0,.int .i64 0,.int .i64 0,.int .u64 0,.int .i64 0],Cell x 211 #[.int .i64 0,.int .i64 1,.slice A m c],Cell z 100 #[.int .i64 0,.int .i64 0,.int .i64 0,.int .i64 0,.int .i64 0,.int .i64 0,.int .u64 0,.int .i64 0]]))
 have x2:=hX5.cell 2
 clear hB2 hB4 hX3 hE5 hS3 hF3 hS1 hF5
 have hRd:=mRead_ans w5 4294967297 1 0 A m c (by omega) (by omega) (by omega) hBy hmc hcm
 have hRd:Calls Tryz.prog 36 #[.slice A m c] w5 fun en w'=>en=.returned (.tuple #[.agg (ansM (4294967296+1) 1 0),.int .i64 0])∧Grow w5 w':=hRd
 go_wp2_with fail
 clear x2
 refine hRd.mono ?_
 rintro e w6 ⟨rfl,hg6⟩
 go_wp2_with (refine wpList_new rfl (run_alcM _ _ _ rfl) ?_;intro y8 w6b hB6 hg6b hz6 hs6;refine stay ?_)
 refine stay_out ?_
 go_wp2_with (refine wpList_fill rfl 73 _ _ rfl _ rfl (ansM (4294967296+1) 1 0).toList rfl hB6 rfl rfl (by kernel_rfl) ?_;intro w7 hM8 hj7 hs7;refine stay ?_)
 refine stay_out ?_
 have hg67:Grow w6 w7:=Below.trans hg6b (hj7.below (B:=w6.heap.size) (fun b hb=>by have e2:b=y8:=hb;omega) (by omega))
 have hF0:AllFramed (woL W q [] Emp (A3 q.a)++[Cell ze 100 #[.int .i64 0,.int .i64 1,.int .i64 0,.int .i64 0,.int .i64 0,.int .i64 0,.int .u64 0,.int .i64 0],Cell x 211 #[.int .i64 0,.int .i64 1,.slice A m c],Cell z 100 #[.int .i64 0,.int .i64 0,.int .i64 0,.int .i64 0,.int .i64 0,.int .i64 0,.int .u64 0,.int .i64 0]]):=allFramed_app (woL_framed W q [] Emp (A3 q.a) Emp.framed hAT) (((AllFramed.nil.cons (Cell.framed z 100 #[.int .i64 0,.int .i64 0,.int .i64 0,.int .i64 0,.int .i64 0,.int .i64 0,.int .u64 0,.int .i64 0])).cons (Cell.framed x 211 #[.int .i64 0,.int .i64 1,.slice A m c])).cons (Cell.framed ze 100 #[.int .i64 0,.int .i64 1,.int .i64 0,.int .i64 0,.int .i64 0,.int .i64 0,.int .u64 0,.int .i64 0]))
 have hS6:=hS5.grows hF0 hg6
 have hS7:Solo (Lic V w) (Many (Cell y8 73 (ansM (4294967296+1) 1 0) :: (woL W q [] Emp (A3 q.a)++[Cell ze 100 #[.int .i64 0,.int .i64 1,.int .i64 0,.int .i64 0,.int .i64 0,.int .i64 0,.int .u64 0,.int .i64 0],Cell x 211 #[.int .i64 0,.int .i64 1,.slice A m c],Cell z 100 #[.int .i64 0,.int .i64 0,.int .i64 0,.int .i64 0,.int .i64 0,.int .i64 0,.int .u64 0,.int .i64 0]]))) w7:=hS6.join hF0 hg67 (R:=Cell y8 73 (ansM (4294967296+1) 1 0)) (U:=fun b=>b=y8) ⟨rfl,hM8⟩ (fun b hb=>by have e2:b=y8:=hb;omega)
 have hG0:AllFramed (Cell y8 73 (ansM (4294967296+1) 1 0) :: (woL W q [] Emp (A3 q.a)++[Cell ze 100 #[.int .i64 0,.int .i64 1,.int .i64 0,.int .i64 0,.int .i64 0,.int .i64 0,.int .u64 0,.int .i64 0],Cell x 211 #[.int .i64 0,.int .i64 1,.slice A m c],Cell z 100 #[.int .i64 0,.int .i64 0,.int .i64 0,.int .i64 0,.int .i64 0,.int .i64 0,.int .u64 0,.int .i64 0]])):=((allFramed_app (woL_framed W q [] Emp (A3 q.a) Emp.framed hAT) (((AllFramed.nil.cons (Cell.framed z 100 #[.int .i64 0,.int .i64 0,.int .i64 0,.int .i64 0,.int .i64 0,.int .i64 0,.int .u64 0,.int .i64 0])).cons (Cell.framed x 211 #[.int .i64 0,.int .i64 1,.slice A m c])).cons (Cell.framed ze 100 #[.int .i64 0,.int .i64 1,.int .i64 0,.int .i64 0,.int .i64 0,.int .i64 0,.int .u64 0,.int .i64 0]))).cons (Cell.framed y8 73 (ansM (4294967296+1) 1 0)))
 have hG1:AllFramed (Cell y8 73 (ansM (4294967296+1) 1 0) :: (woL W q [] Emp (Emp)++[Cell ze 100 #[.int .i64 0,.int .i64 1,.int .i64 0,.int .i64 0,.int .i64 0,.int .i64 0,.int .u64 0,.int .i64 0],Cell x 211 #[.int .i64 0,.int .i64 1,.slice A m c],Cell z 100 #[.int .i64 0,.int .i64 0,.int .i64 0,.int .i64 0,.int .i64 0,.int .i64 0,.int .u64 0,.int .i64 0]])):=((allFramed_app (woL_framed W q [] Emp (Emp) Emp.framed Emp.framed) (((AllFramed.nil.cons (Cell.framed z 100 #[.int .i64 0,.int .i64 0,.int .i64 0,.int .i64 0,.int .i64 0,.int .i64 0,.int .u64 0,.int .i64 0])).cons (Cell.framed x 211 #[.int .i64 0,.int .i64 1,.slice A m c])).cons (Cell.framed ze 100 #[.int .i64 0,.int .i64 1,.int .i64 0,.int .i64 0,.int .i64 0,.int .i64 0,.int .u64 0,.int .i64 0]))).cons (Cell.framed y8 73 (ansM (4294967296+1) 1 0)))
 have hG2:AllFramed (Cell y8 73 (ansM (4294967296+1) 1 0) :: (woL W q [] Emp (Emp)++[Cell ze 100 #[.int .i64 0,.int .i64 1,.int .i64 0,.int .i64 ((1:Nat):Int),.int .i64 0,.int .i64 1,.int .u64 0,.int .i64 0],Cell x 211 #[.int .i64 0,.int .i64 1,.slice A m c],Cell z 100 #[.int .i64 0,.int .i64 0,.int .i64 0,.int .i64 0,.int .i64 0,.int .i64 0,.int .u64 0,.int .i64 0]])):=((allFramed_app (woL_framed W q [] Emp (Emp) Emp.framed Emp.framed) (((AllFramed.nil.cons (Cell.framed z 100 #[.int .i64 0,.int .i64 0,.int .i64 0,.int .i64 0,.int .i64 0,.int .i64 0,.int .u64 0,.int .i64 0])).cons (Cell.framed x 211 #[.int .i64 0,.int .i64 1,.slice A m c])).cons (Cell.framed ze 100 #[.int .i64 0,.int .i64 1,.int .i64 0,.int .i64 ((1:Nat):Int),.int .i64 0,.int .i64 1,.int .u64 0,.int .i64 0]))).cons (Cell.framed y8 73 (ansM (4294967296+1) 1 0)))
 have hG3:AllFramed (Cell y8 73 (ansM (4294967296+1) 1 0) :: (woL W q [] Emp (Emp)++[Cell ze 100 #[.int .i64 0,.int .i64 1,.int .i64 1,.int .i64 ((1:Nat):Int),.int .i64 0,.int .i64 1,.int .u64 0,.int .i64 0],Cell x 211 #[.int .i64 0,.int .i64 1,.slice A m c],Cell z 100 #[.int .i64 0,.int .i64 0,.int .i64 0,.int .i64 0,.int .i64 0,.int .i64 0,.int .u64 0,.int .i64 0]])):=((allFramed_app (woL_framed W q [] Emp (Emp) Emp.framed Emp.framed) (((AllFramed.nil.cons (Cell.framed z 100 #[.int .i64 0,.int .i64 0,.int .i64 0,.int .i64 0,.int .i64 0,.int .i64 0,.int .u64 0,.int .i64 0])).cons (Cell.framed x 211 #[.int .i64 0,.int .i64 1,.slice A m c])).cons (Cell.framed ze 100 #[.int .i64 0,.int .i64 1,.int .i64 1,.int .i64 ((1:Nat):Int),.int .i64 0,.int .i64 1,.int .u64 0,.int .i64 0]))).cons (Cell.framed y8 73 (ansM (4294967296+1) 1 0)))
 have J7:=J5.trans (Just.of_grow (hg6.trans hg67))
 have x1:=(hS7.blk 9 rfl).cell 1
 obtain⟨U1,hU1,_⟩:=hS7.see 2 rfl
 have hRp:=woReplica_1 w7 W q.g q.rs q.ags q.ds q.r q.a q.d0 q.d1 U1 (hS7.blk 1 rfl) hU1
 go_wp2_with fail
 refine hRp.mono ?_
 rintro e w8 ⟨rfl,rfl⟩
 clear x1
 have hSs:∀ k,Framed (ssD W q y8 ze x z A m c k):=fun k=>by
  rcases k with _|_|_|k
  ·exact Many.framed _ hG0
  ·exact Many.framed _ hG1
  ·exact Many.framed _ hG2
  ·exact Many.framed _ hG3
 go_wp2_with fail
 refine wp_region_reg rfl ?_
 refine reg_flow (SoloN (Lic V w) (ssD W q y8 ze x z A m c) [7,12,14] [(2,0),(3,0),(5,0),(6,0),(7,0),(12,1),(14,2)]) (soloN_ok hSs) 0 15 72 [(3,.inl (.pointer (some ⟨q.a,0,none⟩))),(7,.inl (.tuple #[.agg #[.int .i64 ((1:Nat):Int),.int .i64 0,.int .i64 1],.int .i64 1])),(12,.inl (undef)),(14,.inl (undef))] rfl (by kernel_rfl) (by kernel_rfl) (by kernel_rfl) ?_ (Just.of_grow (Grow.refl _).drew) (Solo.grows (l:=Cell y8 73 (ansM (4294967296+1) 1 0) :: (woL W q [] Emp (A3 q.a)++[Cell ze 100 #[.int .i64 0,.int .i64 1,.int .i64 0,.int .i64 0,.int .i64 0,.int .i64 0,.int .u64 0,.int .i64 0],Cell x 211 #[.int .i64 0,.int .i64 1,.slice A m c],Cell z 100 #[.int .i64 0,.int .i64 0,.int .i64 0,.int .i64 0,.int .i64 0,.int .i64 0,.int .u64 0,.int .i64 0]])) hS7 hG0 (Grow.refl _).drew) ?_
 ·intro x hx φ he
  simp only[List.mem_cons,List.not_mem_nil,or_false] at hx
  rcases hx with rfl|rfl|rfl|rfl<;>cases he
 intro ops' A' K' T hops hA' hK hT
 refine fl_mvN 53 (.pointer (some ⟨W,0,none⟩)) ?_
 refine fl_op1N 54 (.tmp 5) (.pointer (some ⟨x,0,none⟩)) (.pointer (some ⟨x,1,none⟩)) (fun ρ h1 kk w9 (hj9:Just (Lic V w) _ w9) hb hf=>by go_simp) ?_
 refine fl_op1N 55 (.tmp 54) (.pointer (some ⟨x,1,none⟩)) (.int .i64 1) (fun ρ h1 kk w9 (hj9:Just (Lic V w) _ w9) hb hf=>by obtain rfl:=before_some 0 (by rfl) hb;have hI:=hb.1;have hI:Solo (Lic V w) (Many (Cell y8 73 (ansM (4294967296+1) 1 0) :: (woL W q [] Emp (A3 q.a)++[Cell ze 100 #[.int .i64 0,.int .i64 1,.int .i64 0,.int .i64 0,.int .i64 0,.int .i64 0,.int .u64 0,.int .i64 0],Cell x 211 #[.int .i64 0,.int .i64 1,.slice A m c],Cell z 100 #[.int .i64 0,.int .i64 0,.int .i64 0,.int .i64 0,.int .i64 0,.int .i64 0,.int .u64 0,.int .i64 0]]))) w9:=hI;have c:=(hI.blk 9 rfl).cell 1;go_simp) ?_
 refine fl_call 56 (by rfl) (by decide) (wanted_none (by rfl)) (.pointer (some ⟨q.a,0,none⟩)) (by rw[hK.out];rfl) 244 _ _ (by rfl) [.pointer (some ⟨W,0,none⟩),.int .i64 1] (by rfl) k244 (fun kk w9 (hj9:Just (Lic V w) _ w9) hb hf=>calls_behind (by rfl) (by obtain rfl:=before_some 0 (by rfl) hb;have hI:=hb.1;exact (by have hI:Solo (Lic V w) (Many (Cell y8 73 (ansM (4294967296+1) 1 0) :: (woL W q [] Emp (A3 q.a)++[Cell ze 100 #[.int .i64 0,.int .i64 1,.int .i64 0,.int .i64 0,.int .i64 0,.int .i64 0,.int .u64 0,.int .i64 0],Cell x 211 #[.int .i64 0,.int .i64 1,.slice A m c],Cell z 100 #[.int .i64 0,.int .i64 0,.int .i64 0,.int .i64 0,.int .i64 0,.int .i64 0,.int .u64 0,.int .i64 0]]))) w9:=hI;obtain⟨U1,hU1,_⟩:=hI.see 2 rfl;obtain⟨U2,hU2,_⟩:=hI.see 3 rfl;exact grew_same (woat_1 w9 W q.g q.rs q.ags q.ds q.r q.a q.d0 q.d1 U1 U2 (hI.blk 1 rfl) hU1 hU2)))) ?_
 refine fl_op1N 57 (.tmp 5) (.pointer (some ⟨x,0,none⟩)) (.pointer (some ⟨x,0,none⟩)) (fun ρ h1 kk w9 (hj9:Just (Lic V w) _ w9) hb hf=>by go_simp) ?_
 refine fl_op1N 58 (.tmp 57) (.pointer (some ⟨x,0,none⟩)) (.int .i64 0) (fun ρ h1 kk w9 (hj9:Just (Lic V w) _ w9) hb hf=>by obtain rfl:=before_some 0 (by rfl) hb;have hI:=hb.1;have hI:Solo (Lic V w) (Many (Cell y8 73 (ansM (4294967296+1) 1 0) :: (woL W q [] Emp (A3 q.a)++[Cell ze 100 #[.int .i64 0,.int .i64 1,.int .i64 0,.int .i64 0,.int .i64 0,.int .i64 0,.int .u64 0,.int .i64 0],Cell x 211 #[.int .i64 0,.int .i64 1,.slice A m c],Cell z 100 #[.int .i64 0,.int .i64 0,.int .i64 0,.int .i64 0,.int .i64 0,.int .i64 0,.int .u64 0,.int .i64 0]]))) w9:=hI;have c:=(hI.blk 9 rfl).cell 0;go_simp) ?_
 refine fl_op1N 59 (.tmp 8) (.pointer (some ⟨y8,0,none⟩)) (.agg (ansM (4294967296+1) 1 0)) (fun ρ h1 kk w9 (hj9:Just (Lic V w) _ w9) hb hf=>by obtain rfl:=before_some 0 (by rfl) hb;have hI:=hb.1;have hI:Solo (Lic V w) (Many (Cell y8 73 (ansM (4294967296+1) 1 0) :: (woL W q [] Emp (A3 q.a)++[Cell ze 100 #[.int .i64 0,.int .i64 1,.int .i64 0,.int .i64 0,.int .i64 0,.int .i64 0,.int .u64 0,.int .i64 0],Cell x 211 #[.int .i64 0,.int .i64 1,.slice A m c],Cell z 100 #[.int .i64 0,.int .i64 0,.int .i64 0,.int .i64 0,.int .i64 0,.int .i64 0,.int .u64 0,.int .i64 0]]))) w9:=hI;exact run_load_blk h1 rfl (hI.blk 0 rfl) Tryz.underlying73 (by kernel_rfl)) ?_
 refine fl_call 60 (by rfl) (by decide) (wanted_none (by rfl)) (.tuple #[.agg #[.int .i64 ((1:Nat):Int),.int .i64 0,.int .i64 1],.int .i64 1]) (by rw[hK.out];rfl) 247 _ _ (by rfl) [.pointer (some ⟨q.a,0,none⟩),.int .i64 0,.agg (ansM (4294967296+1) 1 0)] (by rfl) k247 (fun kk w9 (hj9:Just (Lic V w) _ w9) hb hf=>calls_turn 0 (by rfl) (by obtain rfl:=before_some 0 (by rfl) hb;have hI:=hb.1;exact (Solo.at_ 7 rfl hG0 hI (aReceive_A w9 q.a)))) ?_
 refine fl_mvN 52 (.tuple #[.agg #[.int .i64 ((1:Nat):Int),.int .i64 0,.int .i64 1],.int .i64 1]) ?_
 refine fl_op1N 61 (.tmp 52) (.tuple #[.agg #[.int .i64 ((1:Nat):Int),.int .i64 0,.int .i64 1],.int .i64 1]) (.agg #[.int .i64 ((1:Nat):Int),.int .i64 0,.int .i64 1]) (fun ρ h1 kk w9 (hj9:Just (Lic V w) _ w9) hb hf=>by go_simp) ?_
 refine fl_op1N 62 (.tmp 52) (.tuple #[.agg #[.int .i64 ((1:Nat):Int),.int .i64 0,.int .i64 1],.int .i64 1]) (.int .i64 1) (fun ρ h1 kk w9 (hj9:Just (Lic V w) _ w9) hb hf=>by go_simp) ?_
 refine fl_op1N 63 (.tmp 7) (.pointer (some ⟨ze,0,none⟩)) (.pointer (some ⟨ze,3,none⟩)) (fun ρ h1 kk w9 (hj9:Just (Lic V w) _ w9) hb hf=>by go_simp) ?_
 refine fl_do2 (by rfl) (wanted_none (by rfl)) (undef) (by rw[hK.out];rfl) (.tmp 63) (.tmp 61) (.pointer (some ⟨ze,3,none⟩)) (.agg #[.int .i64 ((1:Nat):Int),.int .i64 0,.int .i64 1]) (by rfl) (by rfl) (fun ρ h1 h2 kk w9 (hj9:Just (Lic V w) _ w9) hb hf=>by obtain rfl:=before_some 1 (by rfl) hb;have hI:=hb.1;refine upon_turn 1 (by rfl) ?_;have hI:Solo (Lic V w) (Many (Cell y8 73 (ansM (4294967296+1) 1 0) :: (woL W q [] Emp (Emp)++[Cell ze 100 #[.int .i64 0,.int .i64 1,.int .i64 0,.int .i64 0,.int .i64 0,.int .i64 0,.int .u64 0,.int .i64 0],Cell x 211 #[.int .i64 0,.int .i64 1,.slice A m c],Cell z 100 #[.int .i64 0,.int .i64 0,.int .i64 0,.int .i64 0,.int .i64 0,.int .i64 0,.int .u64 0,.int .i64 0]]))) w9:=hI;rw[run_store_part (vs:=[.int .i64 ((1:Nat):Int),.int .i64 0,.int .i64 1]) h1 h2 rfl (hI.blk 8 rfl) (by decide) rfl (by kernel_rfl)];exact⟨rfl,(just_part ze 3 _ w9).imp (fun b hb=>hb▸(hI.lics 8 rfl).1),hI.turned 8 rfl hG1 (just_part ze 3 _ w9) ((hI.blk 8 rfl).part 3 _ (by decide))⟩) ?_
 refine fl_op1N 64 (.tmp 7) (.pointer (some ⟨ze,0,none⟩)) (.pointer (some ⟨ze,2,none⟩)) (fun ρ h1 kk w9 (hj9:Just (Lic V w) _ w9) hb hf=>by go_simp) ?_
 refine fl_do2 (by rfl) (wanted_none (by rfl)) (undef) (by rw[hK.out];rfl) (.tmp 64) (.tmp 62) (.pointer (some ⟨ze,2,none⟩)) (.int .i64 1) (by rfl) (by rfl) (fun ρ h1 h2 kk w9 (hj9:Just (Lic V w) _ w9) hb hf=>by obtain rfl:=before_some 2 (by rfl) hb;have hI:=hb.1;refine upon_turn 2 (by rfl) ?_;have hI:Solo (Lic V w) (Many (Cell y8 73 (ansM (4294967296+1) 1 0) :: (woL W q [] Emp (Emp)++[Cell ze 100 #[.int .i64 0,.int .i64 1,.int .i64 0,.int .i64 ((1:Nat):Int),.int .i64 0,.int .i64 1,.int .u64 0,.int .i64 0],Cell x 211 #[.int .i64 0,.int .i64 1,.slice A m c],Cell z 100 #[.int .i64 0,.int .i64 0,.int .i64 0,.int .i64 0,.int .i64 0,.int .i64 0,.int .u64 0,.int .i64 0]]))) w9:=hI;rw[run_store_cell h1 h2 rfl (hI.blk 8 rfl) (by decide) rfl (by kernel_rfl)];exact⟨rfl,(just_at w9 ze 2 _).imp (fun b hb=>hb▸(hI.lics 8 rfl).1),hI.turned 8 rfl hG2 (just_at w9 ze 2 _) ((hI.blk 8 rfl).put 2 _)⟩) ?_
 refine fl_end (fun _ _ w9 (hj9:Just (Lic V w) _ w9) hend hfacts=>hT _ _ ?_)
 clear hops hA' hK hT
 simp only[putsL,Act.put,List.setIfInBounds_toArray,List.set_cons_zero,List.set_cons_succ]
 have hS9:Solo (Lic V w) (Many (Cell y8 73 (ansM (4294967296+1) 1 0) :: (woL W q [] Emp (Emp)++[Cell ze 100 #[.int .i64 0,.int .i64 1,.int .i64 1,.int .i64 ((1:Nat):Int),.int .i64 0,.int .i64 1,.int .u64 0,.int .i64 0],Cell x 211 #[.int .i64 0,.int .i64 1,.slice A m c],Cell z 100 #[.int .i64 0,.int .i64 0,.int .i64 0,.int .i64 0,.int .i64 0,.int .i64 0,.int .u64 0,.int .i64 0]]))) w9:=hend
 clear hfacts
 refine reg_end ?_
 have J9:=J7.trans hj9
 have e2:=(hS9.blk 8 rfl).cell 2
 have hze:=hS9.blk 8 rfl
 have hzA:=hS9.blk 10 rfl
 go_wp2_with (first|(refine wpList_load_blk rfl 100 _ rfl _ rfl (hze) Tryz.underlying100 (by kernel_rfl) ?_)|(refine wpList_fill rfl 100 _ _ rfl _ rfl [.int .i64 0,.int .i64 1,.int .i64 1,.int .i64 ((1:Nat):Int),.int .i64 0,.int .i64 1,.int .u64 0,.int .i64 0] rfl hzA rfl rfl (by kernel_rfl) ?_;intro wB hZB hjB hsB;refine stay ?_))
 refine stay_out ?_
 have hSB:=hS9.turned 10 rfl hG3 hjB hZB
 have JB:=J9.trans (hjB.imp fun b hb=>hb▸(hS9.lics 10 rfl).1)
 go_wp2_with fail
 refine bodyPost_ret (results_blk rfl _ z rfl hZB Tryz.underlying100 (by kernel_rfl)) rfl ?_
 have hSC:Solo (Lic V w) (Many (woL W q [] Emp Emp)) wB:=(Solo.perm (List.perm_append_comm (l₁:=woL W q [] Emp Emp) (l₂:=[Cell ze 100 #[.int .i64 0,.int .i64 1,.int .i64 1,.int .i64 ((1:Nat):Int),.int .i64 0,.int .i64 1,.int .u64 0,.int .i64 0],Cell x 211 #[.int .i64 0,.int .i64 1,.slice A m c],Cell z 100 #[.int .i64 0,.int .i64 1,.int .i64 1,.int .i64 ((1:Nat):Int),.int .i64 0,.int .i64 1,.int .u64 0,.int .i64 0]])) (Solo.drop1 hSB)).drop1.drop1.drop1
 obtain⟨s1,s2⟩:=Solo.done hSC JB hV
 exact⟨rfl,s1,s2⟩
end Go.Proofs.YtmijcbfgfkeodaaGreatDoor
end
