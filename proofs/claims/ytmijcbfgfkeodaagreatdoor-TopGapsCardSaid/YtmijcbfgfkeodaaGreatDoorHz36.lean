/- Wd4, Wd5. -/
import Derived.Test.YtmijcbfgfkeodaaGreatDoorHz35
set_option linter.all false
set_option maxRecDepth 100000
section
namespace Go.Proofs.YtmijcbfgfkeodaaGreatDoor
open Go.RowKit Go.Hop Go.Proofs.YtmijcbfgfkeodaaGreatDoor.V
theorem perm7 {α:Type _} (a b c d e f g:α):[a,b,c,d,e,f,g].Perm [f,c,a,e,g,d,b]:=
 List.Perm.map (fun k=>[a,b,c,d,e,f,g].getD k a) (by decide:[0,1,2,3,4,5,6].Perm [5,2,0,4,6,3,1])
theorem pr_info:(Tryz.prog.info? 66).map (fun i=>(i.zero,i.size,i.bytes))=some (some (.pointer none),1,8):=by kernel_rfl
theorem prE:Elem Tryz.prog 192 66 1 8 (.pointer none):=⟨Tryz.underlying192,info_parts pr_info,rfl,by decide,by decide⟩
theorem pa_info:(Tryz.prog.info? 55).map (fun i=>(i.zero,i.size,i.bytes))=some (some (.pointer none),1,8):=by kernel_rfl
theorem paE:Elem Tryz.prog 193 55 1 8 (.pointer none):=⟨Tryz.underlying193,info_parts pa_info,rfl,by decide,by decide⟩
theorem pd_info:(Tryz.prog.info? 53).map (fun i=>(i.zero,i.size,i.bytes))=some (some (.pointer none),1,8):=by kernel_rfl
theorem pdE:Elem Tryz.prog 194 53 1 8 (.pointer none):=⟨Tryz.underlying194,info_parts pd_info,rfl,by decide,by decide⟩
theorem row_built0 {w:World} {u:Value} {r:Nat} {ρ:Operand→Value} {o:Oper} {x:Operand} (h1:ρ x=u) (hu:u=.pointer (some ⟨r,0,none⟩)) (ho:o.op=.buildSlice 192 1 #[(0,x)]) :
 (execOp ρ o).run Tryz.prog w=.ok (.value (.slice (some ⟨w.heap.size,0,none⟩) 1 1)) (w.alloc (.cells #[.pointer (some ⟨r,0,none⟩)] 66)):=by
 obtain⟨dst,op,ty,pos,after,guard⟩:=o
 simp only at ho
 subst ho hu
 go_simp
theorem row_built1 {w:World} {u:Value} {r:Nat} {ρ:Operand→Value} {o:Oper} {x:Operand} (h1:ρ x=u) (hu:u=.pointer (some ⟨r,0,none⟩)) (ho:o.op=.buildSlice 193 1 #[(0,x)]) :
 (execOp ρ o).run Tryz.prog w=.ok (.value (.slice (some ⟨w.heap.size,0,none⟩) 1 1)) (w.alloc (.cells #[.pointer (some ⟨r,0,none⟩)] 55)):=by
 obtain⟨dst,op,ty,pos,after,guard⟩:=o
 simp only at ho
 subst ho hu
 go_simp
set_option maxHeartbeats 2000000 in
theorem woNew_1 (w:World):Calls Tryz.prog 106 #[.int .i64 1,.int .i64 1] w fun e w'=>∃ W,e=.returned (.pointer (some ⟨W,0,none⟩))∧Wo W [] R0 A0 w' (New w w')∧Grow w w':=by
 have k30:∀ (vs:Array Value) (w:World),(callFunc 30 vs).run Tryz.prog w=.ok (.enter 30 vs) w:=fun vs w=>by go_simp
 have k23:∀ (vs:Array Value) (w:World),(callFunc 23 vs).run Tryz.prog w=.ok (.enter 23 vs) w:=fun vs w=>by go_simp
 have hNt:=Ne.New_any w 2 (by omega) (by omega)
 go_enter Tryz.func106,Tryz.ntmps106
 go_wp2_with fail
 refine hNt.mono ?_
 rintro e w1 ⟨rfl,hN1,hg1⟩
 obtain⟨g,HG⟩:∃ g:Nat,Hid (g=w.heap.size):=⟨_,rfl⟩
 rw[←HG.out] at hN1 ⊢
 have hS1:Solo (fun b=>w.heap.size≤b) (Many [Ne.NetAt g 2 [] (fun _=>false)]) w1:=Solo.cons_ (l:=[]) (V:=fun _=>False) (U:=New w w1) (fun b hb=>Nat.le_trans hg1.size hb) trivial (fun b hb=>hb.elim) hN1 fun b hb=>⟨hb.1,hb.2,fun h=>h⟩
 have g2:=grow_alloc w1 (.cells (wdC (.slice none 0 0) (.slice none 0 0) (.slice none 0 0) g) 196)
 have hB2:=Blk.made w1 196 (wdC (.slice none 0 0) (.slice none 0 0) (.slice none 0 0) g)
 obtain⟨W,HW_⟩:∃ W:Nat,Hid (W=w1.heap.size):=⟨_,rfl⟩
 obtain⟨w2,HW2⟩:∃ w2:World,Hid (w2=w1.alloc (.cells (wdC (.slice none 0 0) (.slice none 0 0) (.slice none 0 0) g) 196)):=⟨_,rfl⟩
 rw[←HW2.out] at g2 hB2
 rw[←HW_.out] at hB2
 have hS2:=hS1.join (AllFramed.nil.cons (Ne.NetAt.framed _ _ _ _)) g2 (R:=Cell W 196 (wdC (.slice none 0 0) (.slice none 0 0) (.slice none 0 0) g)) (U:=fun b=>b=W) ⟨rfl,hB2⟩ (fun b hb=>by have e2:b=W:=hb;have:=HW_.out;have:=hB2.lt;omega)
 have J2:Just (fun b=>w.heap.size≤b) w w2:=Just.of_grow (hg1.trans g2)
 unfold wdC at HW2
 go_wp2_with fail
 rw[←HW2.out,←HW_.out]
 go_loopw [33] (fun i wr=>(i=.int .i64 0∧w2=wr)∨(i=.int .i64 1∧∃ (r d0:Nat) (rs ds:Value),Solo (fun b=>w.heap.size≤b) (Many [PtrRow 66 rs [r],R0 r,PtrRow 53 ds [d0],Cell W 196 (wdC rs (.slice none 0 0) ds g),Ne.NetAt g 2 [] (fun _=>false)]) wr∧Just (fun b=>w.heap.size≤b) w wr)∨(i=.int .i64 2∧∃ (a r d0 d1:Nat) (rs ags ds:Value),Solo (fun b=>w.heap.size≤b) (Many [PtrRow 55 ags [a],A0 a,PtrRow 66 rs [r],R0 r,PtrRow 53 ds [d0,d1],Cell W 196 (wdC rs ags ds g),Ne.NetAt g 2 [] (fun _=>false)]) wr∧Just (fun b=>w.heap.size≤b) w wr)) (fun i _=>2-(intOf i).toNat)
 case atStart=>exact .inl ⟨rfl,rfl⟩
 case round=>
  rcases hrel with ⟨rfl,rfl⟩|⟨rfl,r,d0,rs,ds,hSr,Jr⟩|⟨rfl,a,r,d0,d1,rs,ags,ds,hSr,Jr⟩
  ·have hSr:=hS2
   have Jr:=J2
   have hFr:AllFramed [Cell W 196 (wdC (.slice none 0 0) (.slice none 0 0) (.slice none 0 0) g),Ne.NetAt g 2 [] (fun _=>false)]:=((AllFramed.nil.cons (Ne.NetAt.framed _ _ _ _)).cons (Cell.framed _ _ _))
   have hDk:=New_any w2
   go_wp2_with fail
   refine hDk.mono ?_
   rintro e w3 ⟨rfl,hD3,hg3⟩
   obtain⟨d0,HD⟩:∃ d0:Nat,Hid (d0=w2.heap.size):=⟨_,rfl⟩
   rw[←HD.out] at hD3 ⊢
   have hS3:=hSr.join hFr hg3 hD3 (fun b hb=>hb)
   have hF3:=hFr.cons (DiskAt.framed 133 d0 [] 0)
   have J3:Just (fun b=>w.heap.size≤b) w w3:=Jr.trans (Just.of_grow hg3)
   have hgb:=grow_alloc w3 (.cells #[.pointer (some ⟨d0,0,none⟩)] 53)
   have hBb:=Blk.made w3 53 #[.pointer (some ⟨d0,0,none⟩)]
   have hIb:=hBb.in_ (size:=1) (n:=1) (by rfl)
   have hW3:=hS3.blk 1 rfl
   unfold wdC at hW3
   have c2:=hW3.cell 2
   go_wp2_with (at_builtin;refine stay ?_)
   refine stay_out ?_
   refine wpList_row pdE _ rfl (.tmp 41) (.tmp 43) rfl (.slice none 0 0) 0 [] rfl (Row.nil (V:=fun _=>False)) _ _ 1 1 [.pointer (some ⟨d0,0,none⟩)] rfl hIb.reads (by simp[Value.oneCell']) (by decide) ?_
   intro v4 w4 hR4 hj4
   have hg4a:=hj4.below (B:=w3.heap.size) (fun b hb=>hb.elim) (by simp)
   have hg4:Grow w3 w4:=Below.trans hgb hg4a
   have hR4':PtrRow 53 v4 [d0] w4 (fun b=>w3.heap.size≤b∧b<w4.heap.size):=by
    have h:Row w4 _ 53 1 v4 1 [.pointer (some ⟨d0,0,none⟩)]:=hR4
    exact h.mono fun b hb=>hb.elim (fun h=>h.elim) fun h=>⟨by have:=h.1;simp at this;omega,h.2⟩
   have hS4:=hS3.join hF3 hg4 hR4' (fun b hb=>hb)
   have hF4:=hF3.cons (PtrRow.framed 53 v4 [d0])
   have J4:=J3.trans (Just.of_grow hg4)
   obtain⟨A4,cp4,e4,_⟩:=Row.in_ hR4'
   subst e4
   have hW4:=hS4.blk 2 rfl
   unfold wdC at hW4
   have k2:=hW4.cell 2
   go_wp2_with (refine wpList_putS rfl _ _ _ rfl hS4 hF4 J4 2 rfl rfl (.slice A4 1 cp4) rfl (Nat.le_of_ble_eq_true rfl) rfl (by kernel_rfl) ?_;intro w5 hS5 J5;refine stay ?_)
   refine stay_out ?_
   clear c2 k2
   have hS5:Solo (fun b=>w.heap.size≤b) (Many [PtrRow 53 (.slice A4 1 cp4) [d0],DiskAt 133 d0 [] 0,Cell W 196 (wdC (.slice none 0 0) (.slice none 0 0) (.slice A4 1 cp4) g),Ne.NetAt g 2 [] (fun _=>false)]) w5:=hS5
   have hS5:=hS5.perm (List.Perm.swap _ _ _)
   have hFR:AllFramed [PtrRow 53 (.slice A4 1 cp4) [d0],Cell W 196 (wdC (.slice none 0 0) (.slice none 0 0) (.slice A4 1 cp4) g),Ne.NetAt g 2 [] (fun _=>false)]:=(((AllFramed.nil.cons (Ne.NetAt.framed _ _ _ _)).cons (Cell.framed _ _ _)).cons (PtrRow.framed _ _ _))
   have hW5:=hS5.blk 2 rfl
   unfold wdC at hW5
   obtain⟨U,hD5,hUl,hUW,hk⟩:=Solo.swapHead hFR hS5
   have hWU:=hUW 1 W _ _ rfl
   go_wp2_with fail
   refine wp_region_reg rfl ?_
   refine reg_flow (CallSt U (fun a=>DiskAt 133 d0 [] 0 a U∧∀ b,U b→b<a.heap.size) 8 []) (callSt_ok fun a b h hj6=>⟨DiskAt.framed 133 d0 [] 0 a b U h.1 (fun x hx=>hj6.block x (h.2 x hx)),fun x hx=>Nat.lt_of_lt_of_le (h.2 x hx) hj6.size⟩) 0 13 78 [(8,.inr (Since (NewX R0 (fun b=>U b∨w5.heap.size≤b)))),(9,.inr (Since (NewXs 66 R0 (fun b=>U b∨w5.heap.size≤b)))),(10,.inr (Since (NewXs 66 R0 (fun b=>U b∨w5.heap.size≤b))))] rfl (by kernel_rfl) (by kernel_rfl) (by kernel_rfl) ?_ (Just.of_grow (Grow.refl _).drew) ⟨DiskAt.framed 133 d0 [] 0 w5 _ U hD5 (fun x hx=>(Grow.refl w5).drew.block x (hUl x hx).2),fun x hx=>(hUl x hx).2⟩ ?_
   ·intro x hx φ he
    simp only[List.mem_cons,List.not_mem_nil,or_false] at hx
    rcases hx with rfl|rfl|rfl<;>cases he
    all_goals first|exact lasts_quiet (lasting_bytes _)|first|exact lasts_call_since (newX_lasting R0.framed)|exact lasts_call_since (newXs_lasting R0.framed)
   intro ops' A' K' T hops hA' hK hT
   refine fl_mvN 50 (.pointer (some ⟨W,0,none⟩)) ?_
   refine fl_mvN 51 (.pointer (some ⟨W,0,none⟩)) ?_
   refine fl_op1N 52 (.tmp 51) (.pointer (some ⟨W,0,none⟩)) (.pointer (some ⟨W,0,none⟩)) (fun ρ h1 kk w6 (hj6:Just U _ w6) hb hf=>by go_simp) ?_
   refine fl_op1N 53 (.tmp 52) (.pointer (some ⟨W,0,none⟩)) (.pointer (some ⟨W,0,none⟩)) (fun ρ h1 kk w6 (hj6:Just U _ w6) hb hf=>by go_simp) ?_
   refine fl_op1N 54 (.tmp 53) (.pointer (some ⟨W,0,none⟩)) (.slice none 0 0) (fun ρ h1 kk w6 (hj6:Just U _ w6) hb hf=>by have c:=(hj6.blk hW5 hWU).cell 0;go_simp) ?_
   refine fl_mvN 55 (.int .i64 0) ?_
   refine fl_mvN 56 (.int .i64 1) ?_
   refine fl_mvN 57 (.pointer (some ⟨d0,0,none⟩)) ?_
   refine fl_callAny 58 (by rfl) (by decide) (wanted_none (by rfl)) (Since (NewX R0 (fun b=>U b∨w5.heap.size≤b))) (by rw[hK.out];rfl) 30 _ _ (by rfl) [.int .i64 0,.int .i64 1,.pointer (some ⟨d0,0,none⟩)] (by rfl) k30 (fun kk w6 (hj6:Just U _ w6) hb hf=>calls_turnAny (φ:=Since (NewX R0 (fun b=>U b∨w5.heap.size≤b))) 0 (by rfl) (by obtain rfl:=before_some 0 (by rfl) hb;have hI:=hb.1;exact ((rpNew_R w6 d0 U hI.1 hI.2).mono fun e w9 h9=>by obtain⟨r9,h1,h2,h3⟩:=h9;exact⟨_,h1,h3,trivial,r9,Ext U w6 w9,rfl,h2,fun b hb=>hb.elim (fun h=>⟨.inl h,Nat.lt_of_lt_of_le (hI.2 b h) h3.size⟩) fun h=>⟨.inr (Nat.le_trans hj6.size h.1),h.2⟩⟩))) (fun v58=>?_)
   refine fl_any1 59 (by rfl) (by decide) (wanted_none (by rfl)) (Since (NewXs 66 R0 (fun b=>U b∨w5.heap.size≤b))) (by rw[hK.out];rfl) (.tmp 58) (v58) (by rfl) (fun ρ h1 kk w6 (hj6:Just U _ w6) hb hf=>by refine upon_imp (R:=fun u w9=>Grow w6 w9∧Since (NewXs 66 R0 (fun b=>U b∨w5.heap.size≤b)) kk u w9) ?_ (fun u w9 h=>⟨behind_none (by rfl) h.1,by rw[next_none (by rfl)];exact h.2⟩);have hf1:=since_take (show Since (NewX R0 (fun b=>U b∨w5.heap.size≤b)) kk _ w6 from (facts_take hf (by rw[hA'.out];kernel_rfl)));have hf0:Since (NewX R0 (fun b=>U b∨w5.heap.size≤b)) kk _ w6:=(facts_take hf (by rw[hA'.out];kernel_rfl));exact upon_imp (newXs_built (t:=0) R0.framed (fun b hb => .inr (Nat.le_trans hj6.size hb)) hf1 (fun r9 e9=>row_built0 h1 e9 rfl)) fun u w9 h=>⟨h.1,since_of hf0 h.2⟩) (fun v59=>?_)
   refine fl_any2 60 (by rfl) (by decide) (wanted_none (by rfl)) (Since (NewXs 66 R0 (fun b=>U b∨w5.heap.size≤b))) (by rw[hK.out];rfl) (.tmp 54) (.tmp 59) (.slice none 0 0) (v59) (by rfl) (by rfl) (fun ρ h1 h2 kk w6 (hj6:Just U _ w6) hb hf=>by refine upon_imp (R:=fun u w9=>Grow w6 w9∧Since (NewXs 66 R0 (fun b=>U b∨w5.heap.size≤b)) kk u w9) ?_ (fun u w9 h=>⟨behind_none (by rfl) h.1,by rw[next_none (by rfl)];exact h.2⟩);have hf1:=since_take (show Since (NewXs 66 R0 (fun b=>U b∨w5.heap.size≤b)) kk _ w6 from (facts_take hf (by rw[hA'.out];kernel_rfl)));have hf0:Since (NewXs 66 R0 (fun b=>U b∨w5.heap.size≤b)) kk _ w6:=(facts_take hf (by rw[hA'.out];kernel_rfl));exact upon_imp (newXs_app prE (by decide) R0.framed (fun b hb => .inr (Nat.le_trans hj6.size hb)) h1 h2 rfl hf1) fun u w9 h=>⟨h.1,since_of hf0 h.2⟩) (fun v60=>?_)
   refine fl_op1N 61 (.tmp 50) (.pointer (some ⟨W,0,none⟩)) (.pointer (some ⟨W,0,none⟩)) (fun ρ h1 kk w6 (hj6:Just U _ w6) hb hf=>by go_simp) ?_
   refine fl_op1N 62 (.tmp 61) (.pointer (some ⟨W,0,none⟩)) (.pointer (some ⟨W,0,none⟩)) (fun ρ h1 kk w6 (hj6:Just U _ w6) hb hf=>by go_simp) ?_
   refine fl_end (fun _ _ w6 (hj6:Just U _ w6) hend hfacts=>hT _ _ ?_)
   clear hops hA' hK hT
   simp only[putsL,Act.put,List.setIfInBounds_toArray,List.set_cons_zero,List.set_cons_succ]
   obtain⟨rr,V6,hM6,hV6⟩:NewXs 66 R0 (fun b=>U b∨w5.heap.size≤b) v60 w6:=since_take hfacts.1
   obtain⟨V7,V8,hRw6,hX6⟩:=id hM6
   obtain⟨A6,cp6,e6,_⟩:=Row.in_ hRw6
   subst e6
   clear hfacts hend
   obtain⟨hS6,Jx⟩:=hk w6 [PtrRow 66 (.slice A6 1 cp6) [rr],R0 rr] V6 hj6 hM6 hV6
   have hS6:Solo (fun b=>w.heap.size≤b) (Many (PtrRow 66 (.slice A6 1 cp6) [rr] :: R0 rr :: [PtrRow 53 (.slice A4 1 cp4) [d0],Cell W 196 (wdC (.slice none 0 0) (.slice none 0 0) (.slice A4 1 cp4) g),Ne.NetAt g 2 [] (fun _=>false)])) w6:=hS6
   have hF6:=(hFR.cons (R0.framed rr)).cons (PtrRow.framed 66 (.slice A6 1 cp6) [rr])
   have J6:=J5.trans Jx
   have hW6:=hS6.blk 3 rfl
   unfold wdC at hW6
   have k0:=hW6.cell 0
   refine reg_line 13 14 (by kernel_rfl) (by kernel_rfl) ?_
   simp only[List.take_succ_cons,List.take_zero,List.drop_succ_cons,List.drop_zero]
   go_wp2_with (refine wpList_putS rfl _ _ _ rfl hS6 hF6 J6 3 rfl rfl (.slice A6 1 cp6) rfl (Nat.le_of_ble_eq_true rfl) rfl (by kernel_rfl) ?_;intro w7 hS7 J7;refine stay ?_)
   refine stay_out ?_
   clear k0
   go_wp2_with fail
   refine reg_end ?_
   go_wp2_with fail
   go_roundw
   case rel=>exact .inr (.inl ⟨rfl,rr,d0,_,_,hS7,J7⟩)
   case measure=>simp[intOf]
  ·have hFr:AllFramed [PtrRow 66 rs [r],R0 r,PtrRow 53 ds [d0],Cell W 196 (wdC rs (.slice none 0 0) ds g),Ne.NetAt g 2 [] (fun _=>false)]:=(((((AllFramed.nil.cons (Ne.NetAt.framed _ _ _ _)).cons (Cell.framed _ _ _)).cons (PtrRow.framed _ _ _)).cons (R0.framed _)).cons (PtrRow.framed _ _ _))
   have hDk:=New_any wr
   go_wp2_with fail
   refine hDk.mono ?_
   rintro e w3 ⟨rfl,hD3,hg3⟩
   obtain⟨d1,HD⟩:∃ d1:Nat,Hid (d1=wr.heap.size):=⟨_,rfl⟩
   rw[←HD.out] at hD3 ⊢
   have hS3:=hSr.join hFr hg3 hD3 (fun b hb=>hb)
   have hF3:=hFr.cons (DiskAt.framed 133 d1 [] 0)
   have J3:Just (fun b=>w.heap.size≤b) w w3:=Jr.trans (Just.of_grow hg3)
   have hgb:=grow_alloc w3 (.cells #[.pointer (some ⟨d1,0,none⟩)] 53)
   have hBb:=Blk.made w3 53 #[.pointer (some ⟨d1,0,none⟩)]
   have hIb:=hBb.in_ (size:=1) (n:=1) (by rfl)
   have hS4:=hS3.grows hF3 hgb
   have hW3:=hS3.blk 4 rfl
   unfold wdC at hW3
   have c2:=hW3.cell 2
   obtain⟨Ur,hRw,hUrl,hkr⟩:=hS4.turnedB 3 rfl hF3
   go_wp2_with (at_builtin;refine stay ?_)
   refine stay_out ?_
   refine wpList_row pdE _ rfl (.tmp 41) (.tmp 43) rfl ds 1 [.pointer (some ⟨d0,0,none⟩)] rfl hRw _ _ 1 1 [.pointer (some ⟨d1,0,none⟩)] rfl hIb.reads (by simp[Value.oneCell']) (by decide) ?_
   intro v4 w4 hR4 hj4
   obtain⟨hS4,Jr4⟩:=hkr w4 (PtrRow 53 v4 [d0,d1]) hj4 hR4
   have J4:=(J3.trans (Just.of_grow hgb)).trans Jr4
   obtain⟨A4,cp4,e4,_⟩:=Row.in_ hR4
   subst e4
   have hS4:Solo (fun b=>w.heap.size≤b) (Many [DiskAt 133 d1 [] 0,PtrRow 66 rs [r],R0 r,PtrRow 53 (.slice A4 2 cp4) [d0,d1],Cell W 196 (wdC rs (.slice none 0 0) ds g),Ne.NetAt g 2 [] (fun _=>false)]) w4:=hS4
   have hF4:AllFramed [DiskAt 133 d1 [] 0,PtrRow 66 rs [r],R0 r,PtrRow 53 (.slice A4 2 cp4) [d0,d1],Cell W 196 (wdC rs (.slice none 0 0) ds g),Ne.NetAt g 2 [] (fun _=>false)]:=((((((AllFramed.nil.cons (Ne.NetAt.framed _ _ _ _)).cons (Cell.framed _ _ _)).cons (PtrRow.framed _ _ _)).cons (R0.framed _)).cons (PtrRow.framed _ _ _)).cons (DiskAt.framed _ _ _ _))
   have hW4:=hS4.blk 4 rfl
   unfold wdC at hW4
   have k2:=hW4.cell 2
   go_wp2_with (refine wpList_putS rfl _ _ _ rfl hS4 hF4 J4 4 rfl rfl (.slice A4 2 cp4) rfl (Nat.le_of_ble_eq_true rfl) rfl (by kernel_rfl) ?_;intro w5 hS5 J5;refine stay ?_)
   refine stay_out ?_
   clear c2 k2
   have hS5:Solo (fun b=>w.heap.size≤b) (Many (DiskAt 133 d1 [] 0 :: [PtrRow 66 rs [r],R0 r,PtrRow 53 (.slice A4 2 cp4) [d0,d1],Cell W 196 (wdC rs (.slice none 0 0) (.slice A4 2 cp4) g),Ne.NetAt g 2 [] (fun _=>false)])) w5:=hS5
   have hFR:AllFramed [PtrRow 66 rs [r],R0 r,PtrRow 53 (.slice A4 2 cp4) [d0,d1],Cell W 196 (wdC rs (.slice none 0 0) (.slice A4 2 cp4) g),Ne.NetAt g 2 [] (fun _=>false)]:=(((((AllFramed.nil.cons (Ne.NetAt.framed _ _ _ _)).cons (Cell.framed _ _ _)).cons (PtrRow.framed _ _ _)).cons (R0.framed _)).cons (PtrRow.framed _ _ _))
   have hW5:=hS5.blk 4 rfl
   unfold wdC at hW5
   obtain⟨U,hD5,hUl,hUW,hk⟩:=Solo.swapHead hFR hS5
   have hWU:=hUW 3 W _ _ rfl
   go_wp2_with fail
   refine wp_region_reg rfl ?_
   refine reg_flow (CallSt U (fun a=>DiskAt 133 d1 [] 0 a U∧∀ b,U b→b<a.heap.size) 8 []) (callSt_ok fun a b h hj6=>⟨DiskAt.framed 133 d1 [] 0 a b U h.1 (fun x hx=>hj6.block x (h.2 x hx)),fun x hx=>Nat.lt_of_lt_of_le (h.2 x hx) hj6.size⟩) 0 13 78 [(8,.inr (Since (NewX A0 (fun b=>U b∨w5.heap.size≤b)))),(9,.inr (Since (NewXs 55 A0 (fun b=>U b∨w5.heap.size≤b)))),(10,.inr (Since (NewXs 55 A0 (fun b=>U b∨w5.heap.size≤b))))] rfl (by kernel_rfl) (by kernel_rfl) (by kernel_rfl) ?_ (Just.of_grow (Grow.refl _).drew) ⟨DiskAt.framed 133 d1 [] 0 w5 _ U hD5 (fun x hx=>(Grow.refl w5).drew.block x (hUl x hx).2),fun x hx=>(hUl x hx).2⟩ ?_
   ·intro x hx φ he
    simp only[List.mem_cons,List.not_mem_nil,or_false] at hx
    rcases hx with rfl|rfl|rfl<;>cases he
    all_goals first|exact lasts_quiet (lasting_bytes _)|first|exact lasts_call_since (newX_lasting A0.framed)|exact lasts_call_since (newXs_lasting A0.framed)
   intro ops' A' K' T hops hA' hK hT
   refine fl_mvN 63 (.pointer (some ⟨W,0,none⟩)) ?_
   refine fl_mvN 64 (.pointer (some ⟨W,0,none⟩)) ?_
   refine fl_op1N 65 (.tmp 64) (.pointer (some ⟨W,0,none⟩)) (.pointer (some ⟨W,0,none⟩)) (fun ρ h1 kk w6 (hj6:Just U _ w6) hb hf=>by go_simp) ?_
   refine fl_op1N 66 (.tmp 65) (.pointer (some ⟨W,0,none⟩)) (.pointer (some ⟨W,1,none⟩)) (fun ρ h1 kk w6 (hj6:Just U _ w6) hb hf=>by go_simp) ?_
   refine fl_op1N 67 (.tmp 66) (.pointer (some ⟨W,1,none⟩)) (.slice none 0 0) (fun ρ h1 kk w6 (hj6:Just U _ w6) hb hf=>by have c:=(hj6.blk hW5 hWU).cell 1;go_simp) ?_
   refine fl_mvN 68 (.int .i64 1) ?_
   refine fl_mvN 69 (.int .i64 1) ?_
   refine fl_mvN 70 (.pointer (some ⟨d1,0,none⟩)) ?_
   refine fl_callAny 71 (by rfl) (by decide) (wanted_none (by rfl)) (Since (NewX A0 (fun b=>U b∨w5.heap.size≤b))) (by rw[hK.out];rfl) 23 _ _ (by rfl) [.int .i64 1,.int .i64 1,.pointer (some ⟨d1,0,none⟩)] (by rfl) k23 (fun kk w6 (hj6:Just U _ w6) hb hf=>calls_turnAny (φ:=Since (NewX A0 (fun b=>U b∨w5.heap.size≤b))) 0 (by rfl) (by obtain rfl:=before_some 0 (by rfl) hb;have hI:=hb.1;exact ((aNew_A w6 d1 U hI.1 hI.2).mono fun e w9 h9=>by obtain⟨r9,h1,h2,h3⟩:=h9;exact⟨_,h1,h3,trivial,r9,Ext U w6 w9,rfl,h2,fun b hb=>hb.elim (fun h=>⟨.inl h,Nat.lt_of_lt_of_le (hI.2 b h) h3.size⟩) fun h=>⟨.inr (Nat.le_trans hj6.size h.1),h.2⟩⟩))) (fun v71=>?_)
   refine fl_any1 72 (by rfl) (by decide) (wanted_none (by rfl)) (Since (NewXs 55 A0 (fun b=>U b∨w5.heap.size≤b))) (by rw[hK.out];rfl) (.tmp 71) (v71) (by rfl) (fun ρ h1 kk w6 (hj6:Just U _ w6) hb hf=>by refine upon_imp (R:=fun u w9=>Grow w6 w9∧Since (NewXs 55 A0 (fun b=>U b∨w5.heap.size≤b)) kk u w9) ?_ (fun u w9 h=>⟨behind_none (by rfl) h.1,by rw[next_none (by rfl)];exact h.2⟩);have hf1:=since_take (show Since (NewX A0 (fun b=>U b∨w5.heap.size≤b)) kk _ w6 from (facts_take hf (by rw[hA'.out];kernel_rfl)));have hf0:Since (NewX A0 (fun b=>U b∨w5.heap.size≤b)) kk _ w6:=(facts_take hf (by rw[hA'.out];kernel_rfl));exact upon_imp (newXs_built (t:=0) A0.framed (fun b hb => .inr (Nat.le_trans hj6.size hb)) hf1 (fun r9 e9=>row_built1 h1 e9 rfl)) fun u w9 h=>⟨h.1,since_of hf0 h.2⟩) (fun v72=>?_)
   refine fl_any2 73 (by rfl) (by decide) (wanted_none (by rfl)) (Since (NewXs 55 A0 (fun b=>U b∨w5.heap.size≤b))) (by rw[hK.out];rfl) (.tmp 67) (.tmp 72) (.slice none 0 0) (v72) (by rfl) (by rfl) (fun ρ h1 h2 kk w6 (hj6:Just U _ w6) hb hf=>by refine upon_imp (R:=fun u w9=>Grow w6 w9∧Since (NewXs 55 A0 (fun b=>U b∨w5.heap.size≤b)) kk u w9) ?_ (fun u w9 h=>⟨behind_none (by rfl) h.1,by rw[next_none (by rfl)];exact h.2⟩);have hf1:=since_take (show Since (NewXs 55 A0 (fun b=>U b∨w5.heap.size≤b)) kk _ w6 from (facts_take hf (by rw[hA'.out];kernel_rfl)));have hf0:Since (NewXs 55 A0 (fun b=>U b∨w5.heap.size≤b)) kk _ w6:=(facts_take hf (by rw[hA'.out];kernel_rfl));exact upon_imp (newXs_app paE (by decide) A0.framed (fun b hb => .inr (Nat.le_trans hj6.size hb)) h1 h2 rfl hf1) fun u w9 h=>⟨h.1,since_of hf0 h.2⟩) (fun v73=>?_)
   refine fl_op1N 74 (.tmp 63) (.pointer (some ⟨W,0,none⟩)) (.pointer (some ⟨W,0,none⟩)) (fun ρ h1 kk w6 (hj6:Just U _ w6) hb hf=>by go_simp) ?_
   refine fl_op1N 75 (.tmp 74) (.pointer (some ⟨W,0,none⟩)) (.pointer (some ⟨W,1,none⟩)) (fun ρ h1 kk w6 (hj6:Just U _ w6) hb hf=>by go_simp) ?_
   refine fl_end (fun _ _ w6 (hj6:Just U _ w6) hend hfacts=>hT _ _ ?_)
   clear hops hA' hK hT
   simp only[putsL,Act.put,List.setIfInBounds_toArray,List.set_cons_zero,List.set_cons_succ]
   obtain⟨rr,V6,hM6,hV6⟩:NewXs 55 A0 (fun b=>U b∨w5.heap.size≤b) v73 w6:=since_take hfacts.1
   obtain⟨V7,V8,hRw6,hX6⟩:=id hM6
   obtain⟨A6,cp6,e6,_⟩:=Row.in_ hRw6
   subst e6
   clear hfacts hend
   obtain⟨hS6,Jx⟩:=hk w6 [PtrRow 55 (.slice A6 1 cp6) [rr],A0 rr] V6 hj6 hM6 hV6
   have hS6:Solo (fun b=>w.heap.size≤b) (Many (PtrRow 55 (.slice A6 1 cp6) [rr] :: A0 rr :: [PtrRow 66 rs [r],R0 r,PtrRow 53 (.slice A4 2 cp4) [d0,d1],Cell W 196 (wdC rs (.slice none 0 0) (.slice A4 2 cp4) g),Ne.NetAt g 2 [] (fun _=>false)])) w6:=hS6
   have hF6:=(hFR.cons (A0.framed rr)).cons (PtrRow.framed 55 (.slice A6 1 cp6) [rr])
   have J6:=J5.trans Jx
   have hW6:=hS6.blk 5 rfl
   unfold wdC at hW6
   have k0:=hW6.cell 1
   refine reg_line 13 14 (by kernel_rfl) (by kernel_rfl) ?_
   simp only[List.take_succ_cons,List.take_zero,List.drop_succ_cons,List.drop_zero]
   go_wp2_with (refine wpList_putS rfl _ _ _ rfl hS6 hF6 J6 5 rfl rfl (.slice A6 1 cp6) rfl (Nat.le_of_ble_eq_true rfl) rfl (by kernel_rfl) ?_;intro w7 hS7 J7;refine stay ?_)
   refine stay_out ?_
   clear k0
   go_wp2_with fail
   refine reg_end ?_
   go_wp2_with fail
   go_roundw
   case rel=>exact .inr (.inr ⟨rfl,rr,r,d0,d1,_,_,_,hS7,J7⟩)
   case measure=>simp[intOf]
  ·go_wp2_with fail
   go_ret
   obtain⟨_,V9,hM9,hV9⟩:=hSr.perm (perm7 _ _ _ _ _ _ _)
   exact⟨W,rfl,⟨⟨g,r,a,d0,d1,rs,ags,ds⟩,Many.wide _ wr V9 _ (fun b hb=>hV9 b hb) hM9⟩,Jr.below (B:=w.heap.size) (fun b hb=>hb) (Nat.le_refl _)⟩
theorem neLen_any (w:World) (g:Nat) (nodes:Int) (l:List Ne.Lb) (P:Nat→Bool) (V:Nat→Prop) (h:Ne.NetAt g nodes l P w V):Calls Tryz.prog 117 #[.pointer (some ⟨g,0,none⟩)] w fun e w'=>e=.returned (.int .i64 (l.length:Int))∧w=w':=by
 obtain⟨_,v,q,R,D,hql,_,_,_,hB,hRow,_⟩:=h
 have hl:l.length=q.length:=by rw[←hql,List.length_map]
 rw[hl]
 clear hl hql
 obtain⟨A0,c0,rfl,_⟩:=hRow.in_
 have c1:w.cell? ⟨g,1,none⟩=some (.slice A0 q.length c0):=hB.cell 1
 go_enter Tryz.func117,Tryz.ntmps117
 go_wp2_with fail
 go_ret
 exact⟨rfl,rfl⟩
theorem soloSt_or {P:Nat→Prop} {S0 S1:Thing} {m1:Nat} {st:List (Nat×Nat)} {j k:Nat} {w:World} (h:(SoloSt P S0 S1 m1 st).before j k w):Solo P S0 w∨Solo P S1 w:=by
 have h1:=h.1
 cases k with
 | zero=>exact .inl h1
 | succ k=>exact .inr h1
theorem run_load_blk {ρ:Operand→Value} {o:Oper} {x:Operand} {ty:TypeId} {w:World} {g:Nat} {t:TypeId} {cs:Array Value} {fs:Array Field} (hx:ρ x=.pointer (some ⟨g,0,none⟩)) (ho:o.op=.load ty x) (hB:Blk w g t cs) (hu:Tryz.prog.underlying ty=some (.struct fs)) (hi:(Tryz.prog.info? ty).map (·.size)=some cs.size):(execOp ρ o).run Tryz.prog w=.ok (.value (.agg cs)) w:=by
 obtain⟨dst,op,ty',pos,after,guard⟩:=o
 simp only at ho
 subst ho
 have h:=run_loadAt_mid (P:=Tryz.prog) w g 0 ty cs.toList _ (fun j u hu=>by rw[Nat.zero_add,hB.cell,←Array.getElem?_toList];exact hu) hu rfl (by simpa using hi)
 simp[execOp,hx,h,Result.andThen]
theorem call_ingest (w:World) (W:Nat) (q:WoP) (RT:Thing) (hRT:Framed RT) (V:Nat→Prop) (hM:Many (woL W q [] RT (A0 q.a)) w V) (hV:∀ b,V b→b<w.heap.size) :
 Calls Tryz.prog 203 #[.pointer (some ⟨W,0,none⟩),.agg #[.int .i64 9,.int .i64 1,.int .i64 0,.int .i64 7,.string tA1]] w fun e w'=>e=.returned (.agg #[.int .i64 0,.int .i64 0,.int .i64 0,.int .i64 0,.int .i64 0,.int .i64 0,.int .u64 0,.int .i64 0])∧Many (woL W q [] RT (A1 q.a)) w' (Ext V w w')∧Just V w w':=by
 have hAT:=A0.framed q.a
 have hS0:=Solo.begin_ hM hV
 have hF0:=woL_framed W q [] (RT) (A0 q.a) hRT hAT
 have g1:=grow_alloc w (.cells #[.int .i64 9,.int .i64 1,.int .i64 0,.int .i64 7,.string tA1] 98)
 have b1:=Blk.made w 98 #[.int .i64 9,.int .i64 1,.int .i64 0,.int .i64 7,.string tA1]
 have g2r:=grow_alloc (w.alloc (.cells #[.int .i64 9,.int .i64 1,.int .i64 0,.int .i64 7,.string tA1] 98)) (.cells #[.int .i64 0,.int .i64 0,.int .i64 0,.int .i64 0,.int .i64 0,.int .i64 0,.int .u64 0,.int .i64 0] 100)
 have rY:=b1.grow g2r
 have rW:=(hS0.blk 0 rfl).grow (g1.trans g2r)
 unfold wdC at rW
 have c1:=rY.cell 1
 obtain⟨y,HY⟩:∃ y:Nat,Hid (y=w.heap.size):=⟨_,rfl⟩
 obtain⟨wa,HA_⟩:∃ wa:World,Hid (wa=w.alloc (.cells #[.int .i64 9,.int .i64 1,.int .i64 0,.int .i64 7,.string tA1] 98)):=⟨_,rfl⟩
 have hz0:wa.heap.size=y+1:=by rw[HA_.out,HY.out];simp
 rw[←HA_.out] at g1 b1
 rw[←HY.out] at b1
 have g2:=grow_alloc wa (.cells #[.int .i64 0,.int .i64 0,.int .i64 0,.int .i64 0,.int .i64 0,.int .i64 0,.int .u64 0,.int .i64 0] 100)
 have b2:=Blk.made wa 100 #[.int .i64 0,.int .i64 0,.int .i64 0,.int .i64 0,.int .i64 0,.int .i64 0,.int .u64 0,.int .i64 0]
 obtain⟨z,HZ⟩:∃ z:Nat,Hid (z=y+1):=⟨_,rfl⟩
 obtain⟨wb,HB_⟩:∃ wb:World,Hid (wb=wa.alloc (.cells #[.int .i64 0,.int .i64 0,.int .i64 0,.int .i64 0,.int .i64 0,.int .i64 0,.int .u64 0,.int .i64 0] 100)):=⟨_,rfl⟩
 rw[←HB_.out] at g2 b2
 rw[hz0,←HZ.out] at b2
 have hSa:=hS0.join hF0 g1 (R:=Cell y 98 #[.int .i64 9,.int .i64 1,.int .i64 0,.int .i64 7,.string tA1]) (U:=fun b=>b=y) ⟨rfl,b1⟩ (fun b hb=>by have h8:b=y:=hb;have:=HY.out;have:=b1.lt;omega)
 have hFa:=hF0.cons (Cell.framed y 98 #[.int .i64 9,.int .i64 1,.int .i64 0,.int .i64 7,.string tA1])
 have hSb:=hSa.join hFa g2 (R:=Cell z 100 #[.int .i64 0,.int .i64 0,.int .i64 0,.int .i64 0,.int .i64 0,.int .i64 0,.int .u64 0,.int .i64 0]) (U:=fun b=>b=z) ⟨rfl,b2⟩ (fun b hb=>by have h8:b=z:=hb;have:=HZ.out;have:=b2.lt;omega)
 have hSb:Solo (Lic V w) (Many (woL W q [] (RT) (A0 q.a)++[Cell z 100 #[.int .i64 0,.int .i64 0,.int .i64 0,.int .i64 0,.int .i64 0,.int .i64 0,.int .u64 0,.int .i64 0],Cell y 98 #[.int .i64 9,.int .i64 1,.int .i64 0,.int .i64 7,.string tA1]])) wb:=hSb.perm (List.perm_append_comm (l₁:=[Cell z 100 #[.int .i64 0,.int .i64 0,.int .i64 0,.int .i64 0,.int .i64 0,.int .i64 0,.int .u64 0,.int .i64 0],Cell y 98 #[.int .i64 9,.int .i64 1,.int .i64 0,.int .i64 7,.string tA1]]))
 have hFb:=allFramed_app hF0 ((AllFramed.nil.cons (Cell.framed y 98 #[.int .i64 9,.int .i64 1,.int .i64 0,.int .i64 7,.string tA1])).cons (Cell.framed z 100 #[.int .i64 0,.int .i64 0,.int .i64 0,.int .i64 0,.int .i64 0,.int .i64 0,.int .u64 0,.int .i64 0]))
 have Jb:Just (Lic V w) w wb:=(Just.of_grow g1).trans (Just.of_grow g2)
 have hyz:¬ (fun b=>b=z) y:=fun e=>by have e2:y=z:=e;have:=HZ.out;omega
 clear b1 b2 g1 g2 hz0 hSa g2r
 obtain⟨U1,hU1,_⟩:=hSb.see 1 rfl
 obtain⟨U2,hU2,_⟩:=hSb.see 2 rfl
 have hat:=woat_1 wb W q.g q.rs q.ags q.ds q.r q.a q.d0 q.d1 U1 U2 (hSb.blk 0 rfl) hU1 hU2
 go_enter Tryz.func203,Tryz.ntmps203
 go_wp2_with fail
 rw[←HA_.out,←HY.out,←HB_.out,←HZ.out]
 refine hat.mono ?_
 rintro e w1 ⟨rfl,rfl⟩
 clear c1
 have hyb:=hSb.blk 8 rfl
 have c0:=hyb.cell 0
 have c3:=hyb.cell 3
 have c4:=hyb.cell 4
 have hIn:=hSb.at_ 6 rfl hFb (aIngest_A wb q.a)
 go_wp2_with fail
 clear c0 c3 c4
 refine hIn.mono ?_
 rintro e w2 ⟨rfl,hj2,hS2⟩
 have hS2:Solo (Lic V w) (Many (woL W q [] RT (A1 q.a)++[Cell z 100 #[.int .i64 0,.int .i64 0,.int .i64 0,.int .i64 0,.int .i64 0,.int .i64 0,.int .u64 0,.int .i64 0],Cell y 98 #[.int .i64 9,.int .i64 1,.int .i64 0,.int .i64 7,.string tA1]])) w2:=hS2
 have hF2:=allFramed_app (woL_framed W q [] RT (A1 q.a) hRT (A1.framed q.a)) ((AllFramed.nil.cons (Cell.framed y 98 #[.int .i64 9,.int .i64 1,.int .i64 0,.int .i64 7,.string tA1])).cons (Cell.framed z 100 #[.int .i64 0,.int .i64 0,.int .i64 0,.int .i64 0,.int .i64 0,.int .i64 0,.int .u64 0,.int .i64 0]))
 have J2:=Jb.trans hj2
 have hz_:=hS2.blk 7 rfl
 go_wp2_with (refine wpList_fill rfl 100 _ _ rfl _ rfl [.int .i64 0,.int .i64 0,.int .i64 0,.int .i64 0,.int .i64 0,.int .i64 0,.int .u64 0,.int .i64 0] rfl hz_ rfl rfl (by kernel_rfl) ?_;intro w9 hZ9 hj9 hs9;refine stay ?_)
 refine stay_out ?_
 have hS9:=hS2.turned 7 rfl hF2 hj9 hZ9
 have J9:=J2.trans (hj9.imp fun b hb=>hb▸(hS2.lics 7 rfl).1)
 go_wp2_with fail
 refine bodyPost_ret (results_blk rfl _ z rfl hZ9 Tryz.underlying100 (by kernel_rfl)) rfl ?_
 have hS10:Solo (Lic V w) (Many (woL W q [] (RT) (A1 q.a))) w9:=(Solo.perm (List.perm_append_comm (l₁:=woL W q [] (RT) (A1 q.a)) (l₂:=[Cell z 100 #[.int .i64 0,.int .i64 0,.int .i64 0,.int .i64 0,.int .i64 0,.int .i64 0,.int .u64 0,.int .i64 0],Cell y 98 #[.int .i64 9,.int .i64 1,.int .i64 0,.int .i64 7,.string tA1]])) hS9).drop1.drop1
 obtain⟨r1,r2⟩:=Solo.done hS10 J9 hV
 exact⟨rfl,r1,r2⟩
theorem call_batch (w:World) (W:Nat) (q:WoP) (RT:Thing) (hRT:Framed RT) (V:Nat→Prop) (hM:Many (woL W q [] RT (A1 q.a)) w V) (hV:∀ b,V b→b<w.heap.size) :
 Calls Tryz.prog 203 #[.pointer (some ⟨W,0,none⟩),.agg #[.int .i64 10,.int .i64 1,.int .i64 0,.int .i64 0,.string ⟨#[]⟩]] w fun e w'=>e=.returned (.agg #[.int .i64 0,.int .i64 0,.int .i64 1,.int .i64 0,.int .i64 0,.int .i64 0,.int .u64 0,.int .i64 0])∧Many (woL W q [] RT (A2 q.a)) w' (Ext V w w')∧Just V w w':=by
 have hAT:=A1.framed q.a
 have hS0:=Solo.begin_ hM hV
 have hF0:=woL_framed W q [] (RT) (A1 q.a) hRT hAT
 have g1:=grow_alloc w (.cells #[.int .i64 10,.int .i64 1,.int .i64 0,.int .i64 0,.string ⟨#[]⟩] 98)
 have b1:=Blk.made w 98 #[.int .i64 10,.int .i64 1,.int .i64 0,.int .i64 0,.string ⟨#[]⟩]
 have g2r:=grow_alloc (w.alloc (.cells #[.int .i64 10,.int .i64 1,.int .i64 0,.int .i64 0,.string ⟨#[]⟩] 98)) (.cells #[.int .i64 0,.int .i64 0,.int .i64 0,.int .i64 0,.int .i64 0,.int .i64 0,.int .u64 0,.int .i64 0] 100)
 have rY:=b1.grow g2r
 have rW:=(hS0.blk 0 rfl).grow (g1.trans g2r)
 unfold wdC at rW
 have c1:=rY.cell 1
 obtain⟨y,HY⟩:∃ y:Nat,Hid (y=w.heap.size):=⟨_,rfl⟩
 obtain⟨wa,HA_⟩:∃ wa:World,Hid (wa=w.alloc (.cells #[.int .i64 10,.int .i64 1,.int .i64 0,.int .i64 0,.string ⟨#[]⟩] 98)):=⟨_,rfl⟩
 have hz0:wa.heap.size=y+1:=by rw[HA_.out,HY.out];simp
 rw[←HA_.out] at g1 b1
 rw[←HY.out] at b1
 have g2:=grow_alloc wa (.cells #[.int .i64 0,.int .i64 0,.int .i64 0,.int .i64 0,.int .i64 0,.int .i64 0,.int .u64 0,.int .i64 0] 100)
 have b2:=Blk.made wa 100 #[.int .i64 0,.int .i64 0,.int .i64 0,.int .i64 0,.int .i64 0,.int .i64 0,.int .u64 0,.int .i64 0]
 obtain⟨z,HZ⟩:∃ z:Nat,Hid (z=y+1):=⟨_,rfl⟩
 obtain⟨wb,HB_⟩:∃ wb:World,Hid (wb=wa.alloc (.cells #[.int .i64 0,.int .i64 0,.int .i64 0,.int .i64 0,.int .i64 0,.int .i64 0,.int .u64 0,.int .i64 0] 100)):=⟨_,rfl⟩
 rw[←HB_.out] at g2 b2
 rw[hz0,←HZ.out] at b2
 have hSa:=hS0.join hF0 g1 (R:=Cell y 98 #[.int .i64 10,.int .i64 1,.int .i64 0,.int .i64 0,.string ⟨#[]⟩]) (U:=fun b=>b=y) ⟨rfl,b1⟩ (fun b hb=>by have h8:b=y:=hb;have:=HY.out;have:=b1.lt;omega)
 have hFa:=hF0.cons (Cell.framed y 98 #[.int .i64 10,.int .i64 1,.int .i64 0,.int .i64 0,.string ⟨#[]⟩])
 have hSb:=hSa.join hFa g2 (R:=Cell z 100 #[.int .i64 0,.int .i64 0,.int .i64 0,.int .i64 0,.int .i64 0,.int .i64 0,.int .u64 0,.int .i64 0]) (U:=fun b=>b=z) ⟨rfl,b2⟩ (fun b hb=>by have h8:b=z:=hb;have:=HZ.out;have:=b2.lt;omega)
 have hSb:Solo (Lic V w) (Many (woL W q [] (RT) (A1 q.a)++[Cell z 100 #[.int .i64 0,.int .i64 0,.int .i64 0,.int .i64 0,.int .i64 0,.int .i64 0,.int .u64 0,.int .i64 0],Cell y 98 #[.int .i64 10,.int .i64 1,.int .i64 0,.int .i64 0,.string ⟨#[]⟩]])) wb:=hSb.perm (List.perm_append_comm (l₁:=[Cell z 100 #[.int .i64 0,.int .i64 0,.int .i64 0,.int .i64 0,.int .i64 0,.int .i64 0,.int .u64 0,.int .i64 0],Cell y 98 #[.int .i64 10,.int .i64 1,.int .i64 0,.int .i64 0,.string ⟨#[]⟩]]))
 have hFb:=allFramed_app hF0 ((AllFramed.nil.cons (Cell.framed y 98 #[.int .i64 10,.int .i64 1,.int .i64 0,.int .i64 0,.string ⟨#[]⟩])).cons (Cell.framed z 100 #[.int .i64 0,.int .i64 0,.int .i64 0,.int .i64 0,.int .i64 0,.int .i64 0,.int .u64 0,.int .i64 0]))
 have Jb:Just (Lic V w) w wb:=(Just.of_grow g1).trans (Just.of_grow g2)
 have hyz:¬ (fun b=>b=z) y:=fun e=>by have e2:y=z:=e;have:=HZ.out;omega
 clear b1 b2 g1 g2 hz0 hSa g2r
 obtain⟨U1,hU1,_⟩:=hSb.see 1 rfl
 obtain⟨U2,hU2,_⟩:=hSb.see 2 rfl
 have hat:=woat_1 wb W q.g q.rs q.ags q.ds q.r q.a q.d0 q.d1 U1 U2 (hSb.blk 0 rfl) hU1 hU2
 go_enter Tryz.func203,Tryz.ntmps203
 go_wp2_with fail
 rw[←HA_.out,←HY.out,←HB_.out,←HZ.out]
 refine hat.mono ?_
 rintro e w1 ⟨rfl,rfl⟩
 clear c1
 have hyb:=hSb.blk 8 rfl
 have c0:=hyb.cell 0
 have hIn:=hSb.at_ 6 rfl hFb (aCut_A wb q.a)
 go_wp2_with fail
 clear c0
 refine hIn.mono ?_
 rintro e w2 ⟨⟨A,c,rfl⟩,hj2,hS2⟩
 have hS2:Solo (Lic V w) (Many (woL W q [] RT (A2 q.a)++[Cell z 100 #[.int .i64 0,.int .i64 0,.int .i64 0,.int .i64 0,.int .i64 0,.int .i64 0,.int .u64 0,.int .i64 0],Cell y 98 #[.int .i64 10,.int .i64 1,.int .i64 0,.int .i64 0,.string ⟨#[]⟩]])) w2:=hS2
 have hF2:=allFramed_app (woL_framed W q [] RT (A2 q.a) hRT (A2.framed q.a)) ((AllFramed.nil.cons (Cell.framed y 98 #[.int .i64 10,.int .i64 1,.int .i64 0,.int .i64 0,.string ⟨#[]⟩])).cons (Cell.framed z 100 #[.int .i64 0,.int .i64 0,.int .i64 0,.int .i64 0,.int .i64 0,.int .i64 0,.int .u64 0,.int .i64 0]))
 have J2:=Jb.trans hj2
 have hz_:=hS2.blk 7 rfl
 go_wp2_with (refine wpList_fill rfl 100 _ _ rfl _ rfl [.int .i64 0,.int .i64 0,.int .i64 1,.int .i64 0,.int .i64 0,.int .i64 0,.int .u64 0,.int .i64 0] rfl hz_ rfl rfl (by kernel_rfl) ?_;intro w9 hZ9 hj9 hs9;refine stay ?_)
 refine stay_out ?_
 have hS9:=hS2.turned 7 rfl hF2 hj9 hZ9
 have J9:=J2.trans (hj9.imp fun b hb=>hb▸(hS2.lics 7 rfl).1)
 go_wp2_with fail
 refine bodyPost_ret (results_blk rfl _ z rfl hZ9 Tryz.underlying100 (by kernel_rfl)) rfl ?_
 have hS10:Solo (Lic V w) (Many (woL W q [] (RT) (A2 q.a))) w9:=(Solo.perm (List.perm_append_comm (l₁:=woL W q [] (RT) (A2 q.a)) (l₂:=[Cell z 100 #[.int .i64 0,.int .i64 0,.int .i64 1,.int .i64 0,.int .i64 0,.int .i64 0,.int .u64 0,.int .i64 0],Cell y 98 #[.int .i64 10,.int .i64 1,.int .i64 0,.int .i64 0,.string ⟨#[]⟩]])) hS9).drop1.drop1
 obtain⟨r1,r2⟩:=Solo.done hS10 J9 hV
 exact⟨rfl,r1,r2⟩
end Go.Proofs.YtmijcbfgfkeodaaGreatDoor
end
