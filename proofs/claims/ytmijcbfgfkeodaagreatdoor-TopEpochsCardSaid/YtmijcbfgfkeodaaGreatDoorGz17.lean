/- Vo4, Vo5, Cplain, Smap, Csum. -/
import Derived.Test.YtmijcbfgfkeodaaGreatDoorGz16
import Derived.Maps.RangeWalk
import Derived.StringKeys
set_option linter.all false
set_option maxRecDepth 100000
section
namespace Go.Proofs.YtmijcbfgfkeodaaGreatDoor
open Go.RowKit Go.Hop Go.Proofs.YtmijcbfgfkeodaaGreatDoor.V
def IsBlk (B:Nat) (t:TypeId) (cs:Array Value) (u:Value) (w:World):Prop:=∃ g,u=.pointer (some ⟨g,0,none⟩)∧Blk w g t cs∧B≤g
theorem isBlk_lasting (B:Nat) (t:TypeId) (cs:Array Value):Lasting (IsBlk B t cs):=fun u w w' ⟨g,e,h,hb⟩ hg=>⟨g,e,h.grow hg,hb⟩
theorem run_alcW (w:World) (ρ:Operand→Value) (o:Oper) (ho:o.op=.alloc 257):(execOp ρ o).run Tryz.prog w=.ok (.value (.pointer (some ⟨w.heap.size,0,none⟩))) (w.alloc (.cells #[.int .i64 0,.int .i64 0,.slice none 0 0] 257)):=by
 obtain⟨dst,op,ty,pos,after,guard⟩:=o
 simp only at ho
 subst ho
 go_simp
set_option maxHeartbeats 1000000 in
theorem sAccept_0 (w:World) (s x d:Nat) (t h TE:Nat) (es es':List En) (n:Int) (bs:List UInt8) (D:Nat→Prop) (A9:Option Addr) (c':Nat) (q':List El) (hq':Ens w D A9 q') (hqe:q'.map El.e=es') (htt:t≤TE) (h1:1≤TE) (hlong:h<TE) (hte:TE≤9223372036854775807) (hok':∀ e∈es',e.Ok) (hn':es'.length≤128) (hn0:0≤n∧n≤1099511627776) (hroom:Room bs (wordB TE TE es')) :
 Turns Tryz.prog 170 #[.pointer (some ⟨s,0,none⟩),.int .i64 (TE:Int),.slice A9 es'.length c'] (fun e=>e=.returned (.bool true)) (StateAt s x d t h es n bs) (StateAt s x d TE TE es' (n+1) (bs++frame (wordB TE TE es'))) w:=by
 rintro V ⟨A,c,q,hq,hqc,hcm,hM⟩ hV
 have hl':es'.length=q'.length:=by rw[←hqe,List.length_map]
 have hl0:es.length=q.length:=by rw[←hq,List.length_map]
 clear hq
 have hokq:∀ y∈q',y.e.Ok:=fun y hy=>hok' _ (by rw[←hqe];exact List.mem_map.2 ⟨y,hy,rfl⟩)
 rw[hl'] at hn' ⊢
 have hFr:=state_framed A q s x d (StC t h (.slice A q.length c) x) n bs bs.length
 obtain⟨_,_,_,⟨_,_,hBk0,_⟩,_⟩:=id hM
 have hBk:Blk w s 259 #[.int .i64 (t:Int),.int .i64 (h:Int),.slice A q.length c,.pointer (some ⟨x,0,none⟩)]:=hBk0.2
 clear hBk0
 have d1:decide (TE<t)=false:=decide_eq_false (by omega)
 have d2:decide ((TE:Int)<1)=false:=decide_eq_false (by omega)
 have d3:decide ((q'.length:Int) > 128)=false:=decide_eq_false (by omega)
 have d3':decide ((128:Int)<(q'.length:Int))=false:=decide_eq_false (by omega)
 have dh:decide (h<TE)=true:=decide_eq_true (by omega)
 have k0:=hBk.cell 0
 have k1:=hBk.cell 1
 have k2:=hBk.cell 2
 obtain⟨m,HM⟩:∃ m,Hid (m=q'.length):=⟨_,rfl⟩
 rw[←HM.out] at d3 d3' hn' ⊢
 go_enter Tryz.func170,Tryz.ntmps170
 go_wp2_with fail
 clear k0 k1 k2
 go_loopw [29] (fun i wr=>∃ k:Nat,k≤m∧i=.int .i64 (k:Int)∧Grow w wr) (fun i _=>m-(intOf i).toNat)
 case atStart=>exact⟨0,by omega,rfl,Grow.refl _⟩
 case round=>
  obtain⟨k,hkn,rfl,hgr⟩:=hrel
  by_cases hk:k<m
  ·have hk2:k<q'.length:=by have:=HM.out;omega
   have hqr:=hq'.grow hgr
   obtain⟨ad,hkq,rfl,hVk,hBk2,e0,e1⟩:=hqr.1.rec_ (by omega) el_len hk2
   have hbin:=hqr.2 _ (List.getElem_mem hkq)
   have hokb:=hokq _ (List.getElem_mem hkq)
   generalize q'[k]=b at hbin e0 e1 hokb
   have hRt:=fun w1 (hg1:Grow wr w1)=>Right_ok w1 b.e D b.A b.c hokb (In.grow hbin.1 hg1)
   obtain⟨⟨bk,ag,sh,sq,ep,ds,se,fr,tg⟩,Ab,cb⟩:=b
   dsimp only[El.cells,En.agg] at e0 e1 hRt
   have e2:=e1 1 _ rfl
   have e3:=e1 2 _ rfl
   have e4:=e1 3 _ rfl
   have e5:=e1 4 _ rfl
   have e6:=e1 5 _ rfl
   have e7:=e1 6 _ rfl
   have e8:=e1 7 _ rfl
   have e1:=e1 0 _ rfl
   have e0:=e0 _ rfl
   have hga:=grow_alloc wr (.cells #[.int .i64 bk,.int .i64 ag,.int .i64 sh,.int .i64 sq,.int .i64 ep,.slice Ab ds.length cb,.string se,.int .i64 fr,.int .i64 tg] 32)
   have hRt:=hRt _ hga
   clear hbin hokb hqr
   go_wp2_with fail
   refine hRt.mono ?_
   rintro e w2 ⟨rfl,hg2⟩
   go_wp2_with fail
   go_roundw
   case rel=>exact⟨k+1,by omega,by go_num,hgr.trans (hga.trans hg2)⟩
   case measure=>simp[intOf];omega
  ·obtain rfl:k=m:=by omega
   have hBr:=hBk.grow hgr
   go_wp2_with fail
   refine wp_region_flow 13 89 [(12,.inr (fun _=>IsBlk wr.heap.size 257 #[.int .i64 0,.int .i64 0,.slice none 0 0]))] rfl rfl (by kernel_rfl) (by kernel_rfl) (by kernel_rfl) ?_ ?_
   ·intro x hx φ he
    simp only[List.mem_cons,List.not_mem_nil,or_false] at hx
    rcases hx with rfl<;>cases he
    all_goals first|exact lasts_quiet (lasting_bytes _)|exact lasts_quiet (isBlk_lasting _ _ _)
   intro ops' A' K' T hops hA' hK hT
   refine fl_mvN 37 (.int .i64 (TE:Int)) ?_
   refine fl_mvN 38 (.pointer (some ⟨s,0,none⟩)) ?_
   refine fl_op1G 39 (.tmp 38) (.pointer (some ⟨s,0,none⟩)) (.pointer (some ⟨s,0,none⟩)) ?_
   refine fl_op1G 40 (.tmp 39) (.pointer (some ⟨s,0,none⟩)) (.pointer (some ⟨s,0,none⟩)) ?_
   refine fl_op1G 41 (.tmp 40) (.pointer (some ⟨s,0,none⟩)) (.pointer (some ⟨s,1,none⟩)) ?_
   refine fl_op1N 42 (.tmp 41) (.pointer (some ⟨s,1,none⟩)) (.int .i64 (h:Int)) (fun ρ h1 kk w1 (hg:Grow _ w1) hb hf=>by have c:=(hBr.grow hg).cell 1;go_simp) ?_
   refine fl_mvN 43 (.pointer (some ⟨s,0,none⟩)) ?_
   refine fl_op1G 44 (.tmp 43) (.pointer (some ⟨s,0,none⟩)) (.pointer (some ⟨s,0,none⟩)) ?_
   refine fl_op1G 45 (.tmp 44) (.pointer (some ⟨s,0,none⟩)) (.pointer (some ⟨s,0,none⟩)) ?_
   refine fl_op1G 46 (.tmp 45) (.pointer (some ⟨s,0,none⟩)) (.pointer (some ⟨s,2,none⟩)) ?_
   refine fl_op1N 47 (.tmp 46) (.pointer (some ⟨s,2,none⟩)) (.slice A q.length c) (fun ρ h1 kk w1 (hg:Grow _ w1) hb hf=>by have c:=(hBr.grow hg).cell 2;go_simp) ?_
   refine fl_op3 48 (by rfl) (by decide) (wanted_none (by rfl)) (by rw[hK.out];rfl) (by rfl) (.tmp 37) (.tmp 42) (.tmp 47) (.int .i64 (TE:Int)) (.int .i64 (h:Int)) (.slice A q.length c) (by rfl) (by rfl) (by rfl) (.agg #[.int .i64 (TE:Int),.int .i64 (h:Int),.slice A q.length c]) (fun ρ h1 h2 h3 kk w1 (hg:Grow _ w1) hb hf=>by go_simp) ?_
   refine fl_any 9 (by rfl) (by decide) (wanted_none (by rfl)) (fun _=>IsBlk wr.heap.size 257 #[.int .i64 0,.int .i64 0,.slice none 0 0]) (by rw[hK.out];rfl) (fun kk w1 (hg:Grow _ w1) hb hf=>by refine upon_behindAny (φ:=fun _=>IsBlk wr.heap.size 257 #[.int .i64 0,.int .i64 0,.slice none 0 0]) (by rfl) ?_;exact flowUpon_value (run_alcW w1 _ _ rfl) ⟨grow_alloc w1 _,_,rfl,Blk.made w1 _ _,hg.size⟩) (fun v9=>?_)
   refine fl_end (fun _ _ w1 (hg:Grow _ w1) _ hfacts=>hT _ _ ?_)
   clear hops hA' hK hT
   simp only[putsL,Act.put,List.setIfInBounds_toArray,List.set_cons_zero,List.set_cons_succ,List.drop_succ_cons,List.drop_zero]
   have hgx:=hgr.trans hg
   have hB1:=hBr.grow hg
   obtain⟨y,rfl,hY0,hy0⟩:IsBlk wr.heap.size 257 #[.int .i64 0,.int .i64 0,.slice none 0 0] v9 w1:=hfacts.1
   clear hfacts
   go_wp2_with (refine wpList_fill rfl 257 _ _ rfl _ rfl [.int .i64 (TE:Int),.int .i64 (h:Int),.slice A q.length c] rfl hY0 rfl rfl (by kernel_rfl) ?_;intro wb hY hjb hsb;refine stay ?_)
   refine stay_out ?_
   have hyw:w.heap.size≤y:=by have:=hgr.size;omega
   have hgy:Below w.heap.size w1 wb:=hjb.below (B:=w.heap.size) (fun b hb=>by rw[hb];exact hyw) hgx.size
   have hgb:Grow w wb:=Below.trans hgx hgy
   have hB2:=hBk.grow hgb
   have k1:=hB2.cell 1
   have k2:=hB2.cell 2
   have hqb:=hq'.grow hgb
   have hC:=Copies_any _ D A9 c' q' hqb (by have:=HM.out;omega)
   rw[←HM.out,hqe] at hC
   go_wp2_with fail
   clear k1 k2
   refine hC.mono ?_
   rintro e w2 ⟨u,rfl,hI,_,hg2⟩
   obtain⟨A2,c2,q2,rfl,hE2,hqe2,hqc2,hcm2⟩:=hI
   have hY2:=hY.grow hg2
   have hY3:Blk ((w2.setCell ⟨y,1,none⟩ (.int .i64 (TE:Int))).setCell ⟨y,2,none⟩ (.slice A2 q2.length c2)) y 257 #[.int .i64 (TE:Int),.int .i64 (TE:Int),.slice A2 q2.length c2]:=(hY2.put 1 _).put 2 _
   have jY:=((Just.of_grow (V:=fun b=>b=y) (Grow.refl w2)).put rfl 1 (.int .i64 (TE:Int))).put (V:=fun b=>b=y) rfl 2 (.slice A2 q2.length c2)
   have y1:=hY2.cell 1
   have yf1:=hY2.frozen 1
   have z2:=(hY2.put 1 (.int .i64 (TE:Int))).cell 2
   have zf2:=(hY2.put 1 (.int .i64 (TE:Int))).frozen 2
   have v0:=hY3.cell 0
   have v1:=hY3.cell 1
   have v2:=hY3.cell 2
   have hgs:Grow w w2:=hgb.trans hg2
   obtain⟨V1,V2,hE,hM1,hc1,hc2,hdis⟩:=Many.framed _ hFr w w2 V hM fun b hb=>hgs.block b (hV b hb)
   have hF2:AllFramed [Cell s 259 (StC t h (.slice A q.length c) x),LogAt x d n bs bs.length]:=(AllFramed.nil.cons (LogAt.framed _ _ _ _ _)).cons (Cell.framed _ _ _)
   have hs2:=hgs.size
   have hM3:=Many.framed _ hF2 w2 _ V2 hM1 fun b hb=>jY.block b (by have:=hV b (hc2 b hb);omega) (fun e=>by have:=hV b (hc2 b hb);omega)
   have hE3:=hE2.just jY (fun b hb e=>by have:=hb.1;have:=hY.lt;omega)
   have hb2:∀ b,V2 b→b<w.heap.size:=fun b hb=>hV b (hc2 b hb)
   have hNew:∀ b,New wb w2 b→w.heap.size≤b∧b<w2.heap.size:=fun b hb=>by
    have:=hgb.size;exact⟨by have:=hb.1;omega,hb.2⟩
   obtain⟨w3,HW3⟩:∃ w3:World,Hid (w3=(w2.setCell ⟨y,1,none⟩ (.int .i64 (TE:Int))).setCell ⟨y,2,none⟩ (.slice A2 q2.length c2)):=⟨_,rfl⟩
   have hs3:w3.heap.size=w2.heap.size:=by rw[HW3.out,setCell_size,setCell_size]
   have hk:=keep_ok w3 s x d t h (.slice A q.length c) n bs TE TE (New wb w2) A2 c2 q2 hte hte (by rw[HW3.out];exact hE3) (fun y hy=>hok' _ (by rw[←hqe2];exact List.mem_map.2 ⟨y,hy,rfl⟩)) (by have h5:q2.length=es'.length:=(by rw[←hqe2,List.length_map]);have:=HM.out;omega) hn0 (by rw[hqe2];exact hroom) V2 (by rw[HW3.out];exact hM3) (fun b hb=>by have:=hb2 b hb;omega)
   rw[hqe2] at hk
   go_wp2_with fail
   rw[←HW3.out]
   refine hk.mono ?_
   rintro e w4 ⟨rfl,hM4,hj4⟩
   go_wp2_with fail
   go_ret
   rw[←HW3.out] at hE3 jY
   have hjy:Just (fun b=>V b∨w.heap.size≤b) w2 w3:=jY.imp fun b hb => .inr (by rw[hb];exact hyw)
   have J:Just (fun b=>V b∨w.heap.size≤b) w w4:=((Just.of_grow hgs).trans hjy).trans (hj4.imp fun b hb => .inl (hc2 b hb))
   have hs4:=hj4.size
   refine⟨rfl,⟨A2,c2,q2,hqe2,hqc2,hcm2,New wb w2,Ext V2 w3 w4,hE3.just hj4 (fun b hb hv=>by have:=hb2 b hv;have:=hNew b hb;omega),hM4,fun b hb => .inr ⟨(hNew b hb).1,by have:=(hNew b hb).2;omega⟩,fun b hb=>?_,fun b hb hv=>?_⟩,⟨J.os,J.tape,J.output,J.size,fun b hb hne=>J.block b hb fun h=>h.elim hne (fun h=>by omega)⟩⟩
   ·rcases hb with hb|hb
    ·exact .inl (hc2 b hb)
    ·exact .inr ⟨by have:=hb.1;omega,hb.2⟩
   ·rcases hv with hv|hv
    ·have:=hb2 b hv;have:=hNew b hb;omega
    ·have:=(hNew b hb).2;have:=hv.1;omega
set_option maxHeartbeats 1000000 in
theorem sAccept_1 (w:World) (s x d:Nat) (t TE:Nat) (es es':List En) (n:Int) (bs:List UInt8) (D:Nat→Prop) (A9:Option Addr) (c':Nat) (q':List El) (hq':Ens w D A9 q') (hqe:q'.map El.e=es') (htt:t≤TE) (h1:1≤TE) (hlong:es.length<es'.length) (hte:TE≤9223372036854775807) (hok':∀ e∈es',e.Ok) (hn':es'.length≤128) (hn0:0≤n∧n≤1099511627776) (hroom:Room bs (wordB TE TE es')) :
 Turns Tryz.prog 170 #[.pointer (some ⟨s,0,none⟩),.int .i64 (TE:Int),.slice A9 es'.length c'] (fun e=>e=.returned (.bool true)) (StateAt s x d t TE es n bs) (StateAt s x d TE TE es' (n+1) (bs++frame (wordB TE TE es'))) w:=by
 rintro V ⟨A,c,q,hq,hqc,hcm,hM⟩ hV
 have hl':es'.length=q'.length:=by rw[←hqe,List.length_map]
 have hl0:es.length=q.length:=by rw[←hq,List.length_map]
 clear hq
 have hokq:∀ y∈q',y.e.Ok:=fun y hy=>hok' _ (by rw[←hqe];exact List.mem_map.2 ⟨y,hy,rfl⟩)
 rw[hl'] at hn' ⊢
 have hFr:=state_framed A q s x d (StC t TE (.slice A q.length c) x) n bs bs.length
 obtain⟨_,_,_,⟨_,_,hBk0,_⟩,_⟩:=id hM
 have hBk:Blk w s 259 #[.int .i64 (t:Int),.int .i64 (TE:Int),.slice A q.length c,.pointer (some ⟨x,0,none⟩)]:=hBk0.2
 clear hBk0
 have d1:decide (TE<t)=false:=decide_eq_false (by omega)
 have d2:decide ((TE:Int)<1)=false:=decide_eq_false (by omega)
 have d3:decide ((q'.length:Int) > 128)=false:=decide_eq_false (by omega)
 have d3':decide ((128:Int)<(q'.length:Int))=false:=decide_eq_false (by omega)
 have dl:decide (q.length<q'.length)=true:=decide_eq_true (by omega)
 have k0:=hBk.cell 0
 have k1:=hBk.cell 1
 have k2:=hBk.cell 2
 obtain⟨m,HM⟩:∃ m,Hid (m=q'.length):=⟨_,rfl⟩
 rw[←HM.out] at d3 d3' hn' dl ⊢
 go_enter Tryz.func170,Tryz.ntmps170
 go_wp2_with fail
 clear k0 k1 k2
 go_loopw [29] (fun i wr=>∃ k:Nat,k≤m∧i=.int .i64 (k:Int)∧Grow w wr) (fun i _=>m-(intOf i).toNat)
 case atStart=>exact⟨0,by omega,rfl,Grow.refl _⟩
 case round=>
  obtain⟨k,hkn,rfl,hgr⟩:=hrel
  by_cases hk:k<m
  ·have hk2:k<q'.length:=by have:=HM.out;omega
   have hqr:=hq'.grow hgr
   obtain⟨ad,hkq,rfl,hVk,hBk2,e0,e1⟩:=hqr.1.rec_ (by omega) el_len hk2
   have hbin:=hqr.2 _ (List.getElem_mem hkq)
   have hokb:=hokq _ (List.getElem_mem hkq)
   generalize q'[k]=b at hbin e0 e1 hokb
   have hRt:=fun w1 (hg1:Grow wr w1)=>Right_ok w1 b.e D b.A b.c hokb (In.grow hbin.1 hg1)
   obtain⟨⟨bk,ag,sh,sq,ep,ds,se,fr,tg⟩,Ab,cb⟩:=b
   dsimp only[El.cells,En.agg] at e0 e1 hRt
   have e2:=e1 1 _ rfl
   have e3:=e1 2 _ rfl
   have e4:=e1 3 _ rfl
   have e5:=e1 4 _ rfl
   have e6:=e1 5 _ rfl
   have e7:=e1 6 _ rfl
   have e8:=e1 7 _ rfl
   have e1:=e1 0 _ rfl
   have e0:=e0 _ rfl
   have hga:=grow_alloc wr (.cells #[.int .i64 bk,.int .i64 ag,.int .i64 sh,.int .i64 sq,.int .i64 ep,.slice Ab ds.length cb,.string se,.int .i64 fr,.int .i64 tg] 32)
   have hRt:=hRt _ hga
   clear hbin hokb hqr
   go_wp2_with fail
   refine hRt.mono ?_
   rintro e w2 ⟨rfl,hg2⟩
   go_wp2_with fail
   go_roundw
   case rel=>exact⟨k+1,by omega,by go_num,hgr.trans (hga.trans hg2)⟩
   case measure=>simp[intOf];omega
  ·obtain rfl:k=m:=by omega
   have hBr:=hBk.grow hgr
   go_wp2_with fail
   refine wp_region_flow 13 89 [(12,.inr (fun _=>IsBlk wr.heap.size 257 #[.int .i64 0,.int .i64 0,.slice none 0 0]))] rfl rfl (by kernel_rfl) (by kernel_rfl) (by kernel_rfl) ?_ ?_
   ·intro x hx φ he
    simp only[List.mem_cons,List.not_mem_nil,or_false] at hx
    rcases hx with rfl<;>cases he
    all_goals first|exact lasts_quiet (lasting_bytes _)|exact lasts_quiet (isBlk_lasting _ _ _)
   intro ops' A' K' T hops hA' hK hT
   refine fl_mvN 37 (.int .i64 (TE:Int)) ?_
   refine fl_mvN 38 (.pointer (some ⟨s,0,none⟩)) ?_
   refine fl_op1G 39 (.tmp 38) (.pointer (some ⟨s,0,none⟩)) (.pointer (some ⟨s,0,none⟩)) ?_
   refine fl_op1G 40 (.tmp 39) (.pointer (some ⟨s,0,none⟩)) (.pointer (some ⟨s,0,none⟩)) ?_
   refine fl_op1G 41 (.tmp 40) (.pointer (some ⟨s,0,none⟩)) (.pointer (some ⟨s,1,none⟩)) ?_
   refine fl_op1N 42 (.tmp 41) (.pointer (some ⟨s,1,none⟩)) (.int .i64 (TE:Int)) (fun ρ h1 kk w1 (hg:Grow _ w1) hb hf=>by have c:=(hBr.grow hg).cell 1;go_simp) ?_
   refine fl_mvN 43 (.pointer (some ⟨s,0,none⟩)) ?_
   refine fl_op1G 44 (.tmp 43) (.pointer (some ⟨s,0,none⟩)) (.pointer (some ⟨s,0,none⟩)) ?_
   refine fl_op1G 45 (.tmp 44) (.pointer (some ⟨s,0,none⟩)) (.pointer (some ⟨s,0,none⟩)) ?_
   refine fl_op1G 46 (.tmp 45) (.pointer (some ⟨s,0,none⟩)) (.pointer (some ⟨s,2,none⟩)) ?_
   refine fl_op1N 47 (.tmp 46) (.pointer (some ⟨s,2,none⟩)) (.slice A q.length c) (fun ρ h1 kk w1 (hg:Grow _ w1) hb hf=>by have c:=(hBr.grow hg).cell 2;go_simp) ?_
   refine fl_op3 48 (by rfl) (by decide) (wanted_none (by rfl)) (by rw[hK.out];rfl) (by rfl) (.tmp 37) (.tmp 42) (.tmp 47) (.int .i64 (TE:Int)) (.int .i64 (TE:Int)) (.slice A q.length c) (by rfl) (by rfl) (by rfl) (.agg #[.int .i64 (TE:Int),.int .i64 (TE:Int),.slice A q.length c]) (fun ρ h1 h2 h3 kk w1 (hg:Grow _ w1) hb hf=>by go_simp) ?_
   refine fl_any 9 (by rfl) (by decide) (wanted_none (by rfl)) (fun _=>IsBlk wr.heap.size 257 #[.int .i64 0,.int .i64 0,.slice none 0 0]) (by rw[hK.out];rfl) (fun kk w1 (hg:Grow _ w1) hb hf=>by refine upon_behindAny (φ:=fun _=>IsBlk wr.heap.size 257 #[.int .i64 0,.int .i64 0,.slice none 0 0]) (by rfl) ?_;exact flowUpon_value (run_alcW w1 _ _ rfl) ⟨grow_alloc w1 _,_,rfl,Blk.made w1 _ _,hg.size⟩) (fun v9=>?_)
   refine fl_end (fun _ _ w1 (hg:Grow _ w1) _ hfacts=>hT _ _ ?_)
   clear hops hA' hK hT
   simp only[putsL,Act.put,List.setIfInBounds_toArray,List.set_cons_zero,List.set_cons_succ,List.drop_succ_cons,List.drop_zero]
   have hgx:=hgr.trans hg
   have hB1:=hBr.grow hg
   obtain⟨y,rfl,hY0,hy0⟩:IsBlk wr.heap.size 257 #[.int .i64 0,.int .i64 0,.slice none 0 0] v9 w1:=hfacts.1
   clear hfacts
   go_wp2_with (refine wpList_fill rfl 257 _ _ rfl _ rfl [.int .i64 (TE:Int),.int .i64 (TE:Int),.slice A q.length c] rfl hY0 rfl rfl (by kernel_rfl) ?_;intro wb hY hjb hsb;refine stay ?_)
   refine stay_out ?_
   have hyw:w.heap.size≤y:=by have:=hgr.size;omega
   have hgy:Below w.heap.size w1 wb:=hjb.below (B:=w.heap.size) (fun b hb=>by rw[hb];exact hyw) hgx.size
   have hgb:Grow w wb:=Below.trans hgx hgy
   have hB2:=hBk.grow hgb
   have k1:=hB2.cell 1
   have k2:=hB2.cell 2
   have hqb:=hq'.grow hgb
   have hC:=Copies_any _ D A9 c' q' hqb (by have:=HM.out;omega)
   rw[←HM.out,hqe] at hC
   go_wp2_with fail
   clear k1 k2
   refine hC.mono ?_
   rintro e w2 ⟨u,rfl,hI,_,hg2⟩
   obtain⟨A2,c2,q2,rfl,hE2,hqe2,hqc2,hcm2⟩:=hI
   have hY2:=hY.grow hg2
   have hY3:Blk ((w2.setCell ⟨y,1,none⟩ (.int .i64 (TE:Int))).setCell ⟨y,2,none⟩ (.slice A2 q2.length c2)) y 257 #[.int .i64 (TE:Int),.int .i64 (TE:Int),.slice A2 q2.length c2]:=(hY2.put 1 _).put 2 _
   have jY:=((Just.of_grow (V:=fun b=>b=y) (Grow.refl w2)).put rfl 1 (.int .i64 (TE:Int))).put (V:=fun b=>b=y) rfl 2 (.slice A2 q2.length c2)
   have y1:=hY2.cell 1
   have yf1:=hY2.frozen 1
   have z2:=(hY2.put 1 (.int .i64 (TE:Int))).cell 2
   have zf2:=(hY2.put 1 (.int .i64 (TE:Int))).frozen 2
   have v0:=hY3.cell 0
   have v1:=hY3.cell 1
   have v2:=hY3.cell 2
   have hgs:Grow w w2:=hgb.trans hg2
   obtain⟨V1,V2,hE,hM1,hc1,hc2,hdis⟩:=Many.framed _ hFr w w2 V hM fun b hb=>hgs.block b (hV b hb)
   have hF2:AllFramed [Cell s 259 (StC t TE (.slice A q.length c) x),LogAt x d n bs bs.length]:=(AllFramed.nil.cons (LogAt.framed _ _ _ _ _)).cons (Cell.framed _ _ _)
   have hs2:=hgs.size
   have hM3:=Many.framed _ hF2 w2 _ V2 hM1 fun b hb=>jY.block b (by have:=hV b (hc2 b hb);omega) (fun e=>by have:=hV b (hc2 b hb);omega)
   have hE3:=hE2.just jY (fun b hb e=>by have:=hb.1;have:=hY.lt;omega)
   have hb2:∀ b,V2 b→b<w.heap.size:=fun b hb=>hV b (hc2 b hb)
   have hNew:∀ b,New wb w2 b→w.heap.size≤b∧b<w2.heap.size:=fun b hb=>by
    have:=hgb.size;exact⟨by have:=hb.1;omega,hb.2⟩
   obtain⟨w3,HW3⟩:∃ w3:World,Hid (w3=(w2.setCell ⟨y,1,none⟩ (.int .i64 (TE:Int))).setCell ⟨y,2,none⟩ (.slice A2 q2.length c2)):=⟨_,rfl⟩
   have hs3:w3.heap.size=w2.heap.size:=by rw[HW3.out,setCell_size,setCell_size]
   have hk:=keep_ok w3 s x d t TE (.slice A q.length c) n bs TE TE (New wb w2) A2 c2 q2 hte hte (by rw[HW3.out];exact hE3) (fun y hy=>hok' _ (by rw[←hqe2];exact List.mem_map.2 ⟨y,hy,rfl⟩)) (by have h5:q2.length=es'.length:=(by rw[←hqe2,List.length_map]);have:=HM.out;omega) hn0 (by rw[hqe2];exact hroom) V2 (by rw[HW3.out];exact hM3) (fun b hb=>by have:=hb2 b hb;omega)
   rw[hqe2] at hk
   go_wp2_with fail
   rw[←HW3.out]
   refine hk.mono ?_
   rintro e w4 ⟨rfl,hM4,hj4⟩
   go_wp2_with fail
   go_ret
   rw[←HW3.out] at hE3 jY
   have hjy:Just (fun b=>V b∨w.heap.size≤b) w2 w3:=jY.imp fun b hb => .inr (by rw[hb];exact hyw)
   have J:Just (fun b=>V b∨w.heap.size≤b) w w4:=((Just.of_grow hgs).trans hjy).trans (hj4.imp fun b hb => .inl (hc2 b hb))
   have hs4:=hj4.size
   refine⟨rfl,⟨A2,c2,q2,hqe2,hqc2,hcm2,New wb w2,Ext V2 w3 w4,hE3.just hj4 (fun b hb hv=>by have:=hb2 b hv;have:=hNew b hb;omega),hM4,fun b hb => .inr ⟨(hNew b hb).1,by have:=(hNew b hb).2;omega⟩,fun b hb=>?_,fun b hb hv=>?_⟩,⟨J.os,J.tape,J.output,J.size,fun b hb hne=>J.block b hb fun h=>h.elim hne (fun h=>by omega)⟩⟩
   ·rcases hb with hb|hb
    ·exact .inl (hc2 b hb)
    ·exact .inr ⟨by have:=hb.1;omega,hb.2⟩
   ·rcases hv with hv|hv
    ·have:=hb2 b hv;have:=hNew b hb;omega
    ·have:=(hNew b hb).2;have:=hv.1;omega
theorem scan_empty:ScanIs [] [] 0:=⟨rfl,rfl,by simp,fun y _ hp=>by
 have h1:(frame y).length≤0:=hp.length_le
 have:=frame_five y
 omega⟩
theorem sOpen_new (w:World) (d:Nat) (V:Nat→Prop) (hD:DiskAt 133 d [] 0 w V) (hV:∀ b,V b→b<w.heap.size) :
 Calls Tryz.prog 81 #[.pointer (some ⟨d,0,none⟩)] w fun e w'=>∃ s x,e=.returned (.pointer (some ⟨s,0,none⟩))∧StateAt s x d 0 0 [] 0 [] w' (Ext V w w')∧Just V w w':=by
 have hO:=Open_any w d [] 0 V hD hV
 go_enter Tryz.func81,Tryz.ntmps81
 go_wp2_with fail
 refine hO.mono ?_
 rintro e w1 ⟨xs,j,x,u,hs,rfl,hX,hL,hj⟩
 obtain⟨rfl,rfl⟩:=hs.one scan_empty
 obtain⟨A1,c1,q1,rfl,hB1,hq1,hqc1,hcm1⟩:=hX
 have hql:q1.length=0:=by have:=congrArg List.length hq1;simpa using this
 rw[hql]
 have hL:LogAt x d 0 [] 0 w1 (Ext V w w1):=hL
 have hlt:∀ b,Ext V w w1 b→b<w1.heap.size:=fun b hb=>by
  rcases hb with hb|hb
  ·have:=hV b hb;have:=hj.size;omega
  ·exact hb.2
 have hga:=grow_alloc w1 (.cells #[.int .i64 0,.int .i64 0,.slice none 0 0,.pointer (some ⟨x,0,none⟩)] 259)
 have hSb:=Blk.made w1 259 #[.int .i64 0,.int .i64 0,.slice none 0 0,.pointer (some ⟨x,0,none⟩)]
 have hL2:=LogAt.framed x d 0 [] 0 w1 _ _ hL fun b hb=>hga.block b (hlt b hb)
 obtain⟨s,HS⟩:∃ s:Nat,Hid (s=w1.heap.size):=⟨_,rfl⟩
 obtain⟨wa,HA⟩:∃ wa:World,Hid (wa=w1.alloc (.cells #[.int .i64 0,.int .i64 0,.slice none 0 0,.pointer (some ⟨x,0,none⟩)] 259)):=⟨_,rfl⟩
 rw[←HA.out] at hga hSb hL2
 rw[←HS.out] at hSb
 have hsa:wa.heap.size=s+1:=by rw[HA.out,HS.out];simp
 go_wp2_with fail
 rw[←HA.out,←HS.out]
 go_loopw [22] (fun i wr=>i=.int .i64 0∧wa=wr) (fun _ _=>0)
 case atStart=>exact⟨rfl,rfl⟩
 case round=>
  obtain⟨rfl,rfl⟩:=hrel
  go_wp2_with fail
  go_ret
  have hws:w.heap.size≤s:=by have:=HS.out;have:=hj.size;omega
  refine⟨s,x,rfl,⟨none,0,[],rfl,Nat.le_refl _,Nat.zero_le _,fun _=>False,Ext V w wa,Ens.nil,⟨fun b=>b=s,Ext V w w1,⟨rfl,hSb⟩,?_,fun b hb=>?_,fun b hb=>?_,fun b hb hv=>?_⟩,fun _ h=>h.elim,fun b hb=>hb,fun _ h=>h.elim⟩,hj.trans (Just.of_grow hga)⟩
  ·exact⟨Ext V w w1,fun _=>False,hL2,trivial,fun b hb=>hb,fun _ h=>h.elim,fun _ _ h=>h⟩
  ·exact .inr ⟨by rw[hb];exact hws,by rw[hb];omega⟩
  ·rcases hb with hb|hb
   ·exact .inl hb
   ·exact .inr ⟨hb.1,by have:=hb.2;have:=HS.out;omega⟩
  ·have:=hlt b hv;have:=HS.out;omega
end Go.Proofs.YtmijcbfgfkeodaaGreatDoor
end
section
namespace Go.Proofs.YtmijcbfgfkeodaaGreatDoor.K
open Go.RowKit Go.Hop
def slt (a b:ByteArray):Bool:=Op.bytesLess a.toList b.toList
theorem slt_is (a b:ByteArray):slt a b=decide (a.data.toList<b.data.toList):=by
 unfold slt
 rw[bytesLess_eq,Lib.toList_data,Lib.toList_data]
theorem slt_irr (a:ByteArray):slt a a=false:=by
 rw[slt_is];exact decide_eq_false (List.lt_irrefl _)
theorem slt_tr {a b c:ByteArray} (h:slt a b=true) (k:slt b c=true):slt a c=true:=by
 rw[slt_is] at *
 exact decide_eq_true (List.lt_trans (of_decide_eq_true h) (of_decide_eq_true k))
theorem slt_tri {a b:ByteArray} (h:slt a b=false) (k:slt b a=false):a=b:=by
 rw[slt_is] at *
 have h1:=of_decide_eq_false h
 have h2:=of_decide_eq_false k
 have e:a.data.toList=b.data.toList:=List.le_antisymm (List.not_lt.1 h2) (List.not_lt.1 h1)
 exact ByteArray.ext (Array.toList_inj.1 e)
theorem slt_no {a b:ByteArray} (h:slt a b=true):slt b a=false:=by
 cases hb:slt b a with
 | false=>rfl
 | true=>have:=slt_tr h hb;rw[slt_irr] at this;cases this
theorem txt_eq {a b:ByteArray}:a.toList=b.toList↔a=b:=by
 rw[Lib.toList_data,Lib.toList_data]
 exact⟨fun e=>ByteArray.ext (Array.toList_inj.1 e),fun e=>by rw[e]⟩
abbrev Sm:=List Dl
def lk (q:Sm) (x:ByteArray):Option Nat:=(q.find? fun d=>decide (d.1=x)).map (·.2)
def gt (q:Sm) (x:ByteArray):Nat:=(lk q x).getD 0
def Srt (q:Sm):Prop:=q.Pairwise fun a b=>slt a.1 b.1=true
def cutA (q:Sm) (x:ByteArray):Sm:=q.takeWhile fun d=>slt d.1 x
def cutB (q:Sm) (x:ByteArray):Sm:=q.dropWhile fun d=>slt d.1 x
def put (q:Sm) (x:ByteArray) (v:Nat):Sm:=if (lk q x).isSome then q.map fun d=>if d.1=x then (x,v) else d else cutA q x++(x,v) :: cutB q x
theorem lk_nil (x:ByteArray):lk [] x=none:=rfl
theorem lk_cons (d:Dl) (q:Sm) (x:ByteArray):lk (d :: q) x=if d.1=x then some d.2 else lk q x:=by
 unfold lk
 rw[List.find?_cons]
 by_cases h:d.1=x<;>simp[h]
theorem lk_append (a b:Sm) (x:ByteArray):lk (a++b) x=(lk a x).or (lk b x):=by
 unfold lk
 rw[List.find?_append]
 cases a.find? (fun d=>decide (d.1=x))<;>simp
theorem lk_none {q:Sm} {x:ByteArray}:lk q x=none↔∀ d∈q,d.1≠x:=by
 unfold lk
 simp
theorem lk_mem {q:Sm} {x:ByteArray} {v:Nat} (h:lk q x=some v):(x,v)∈q:=by
 unfold lk at h
 simp only[Option.map_eq_some_iff] at h
 obtain⟨d,hd,rfl⟩:=h
 have h1:=List.mem_of_find?_eq_some hd
 have h2:=List.find?_some hd
 simp only[decide_eq_true_eq] at h2
 rw[←h2];exact h1
theorem cut_all (q:Sm) (x:ByteArray):cutA q x++cutB q x=q:=List.takeWhile_append_dropWhile
theorem cutA_lt {q:Sm} {x:ByteArray}:∀ d∈cutA q x,slt d.1 x=true:=fun d hd=>by
 unfold cutA at hd
 exact List.all_eq_true.1 List.all_takeWhile d hd
theorem cutB_ge {q:Sm} (hs:Srt q) {x:ByteArray}:∀ d∈cutB q x,slt d.1 x=false:=by
 induction q with
 | nil=>intro d hd;simp[cutB] at hd
 | cons a q ih=>
   intro d hd
   unfold cutB at hd
   rw[List.dropWhile_cons] at hd
   have hs':=List.pairwise_cons.1 hs
   split at hd
   ·exact ih hs'.2 d hd
   ·rename_i h
    have ha:slt a.1 x=false:=by simpa using h
    rcases List.mem_cons.1 hd with rfl|hd
    ·exact ha
    ·cases hdx:slt d.1 x with
     | false=>rfl
     | true=>rw[slt_tr (hs'.1 d hd) hdx] at ha;cases ha
theorem lk_put (q:Sm) (x:ByteArray) (v:Nat) (y:ByteArray):lk (put q x v) y=if y=x then some v else lk q y:=by
 unfold put
 split
 ·rename_i h
  have key:∀ q:Sm,(lk q x).isSome=true→lk (q.map fun d=>if d.1=x then (x,v) else d) y=if y=x then some v else lk q y:=by
   intro q
   induction q with
   | nil=>intro h;simp[lk] at h
   | cons a q ih=>
     intro h
     rw[List.map_cons,lk_cons,lk_cons]
     rw[lk_cons] at h
     by_cases ha:a.1=x
     ·rw[if_pos ha]
      by_cases hy:y=x
      ·rw[if_pos hy,if_pos hy.symm]
      ·rw[if_neg hy,if_neg (fun e=>hy e.symm),if_neg (fun e=>hy (by rw[←e,ha]))]
       by_cases hq:(lk q x).isSome=true
       ·rw[ih hq,if_neg hy]
       ·have hn:lk q x=none:=by simpa using hq
        have:(q.map fun d=>if d.1=x then (x,v) else d)=q:=by
         conv=>rhs;rw[←List.map_id q]
         exact List.map_congr_left fun d hd=>by rw[if_neg (lk_none.1 hn d hd)];rfl
        rw[this]
     ·rw[if_neg ha] at h
      rw[if_neg ha,ih h]
      by_cases hy:y=x
      ·rw[if_pos hy,if_neg (fun e=>ha (e.trans hy)),if_pos hy]
      ·rw[if_neg hy,if_neg hy]
  exact key q h
 ·rename_i h
  have hn:lk q x=none:=by simpa using h
  rw[lk_append,lk_cons]
  by_cases hy:y=x
  ·rw[if_pos hy,if_pos hy.symm]
   have:lk (cutA q x) y=none:=lk_none.2 fun d hd e=>by
    have:=cutA_lt d hd
    rw[e,hy,slt_irr] at this;cases this
   rw[this];rfl
  ·rw[if_neg hy,if_neg (fun e=>hy e.symm),←lk_append,cut_all]
theorem put_length (q:Sm) (x:ByteArray) (v:Nat):(put q x v).length=if (lk q x).isSome then q.length else q.length+1:=by
 unfold put
 split
 ·rw[List.length_map]
 ·rw[List.length_append,List.length_cons]
  have:=congrArg List.length (cut_all q x)
  rw[List.length_append] at this
  omega
theorem put_srt {q:Sm} (hs:Srt q) (x:ByteArray) (v:Nat):Srt (put q x v):=by
 unfold put
 split
 ·unfold Srt
  rw[List.pairwise_map]
  refine List.Pairwise.imp (fun {a b} h=>?_) hs
  have ea:(if a.1=x then ((x,v):Dl) else a).1=a.1:=by split<;>simp_all
  have eb:(if b.1=x then ((x,v):Dl) else b).1=b.1:=by split<;>simp_all
  rw[ea,eb];exact h
 ·rename_i h
  have hn:lk q x=none:=by simpa using h
  have hs2:=hs
  rw[←cut_all q x] at hs2
  obtain⟨h1,h2,h3⟩:=List.pairwise_append.1 hs2
  refine List.pairwise_append.2 ⟨h1,List.pairwise_cons.2 ⟨fun d hd=>?_,h2⟩,fun a ha d hd=>?_⟩
  ·cases hx:slt x d.1 with
   | true=>rfl
   | false=>
     have:=slt_tri hx (cutB_ge hs d hd)
     exact absurd this.symm (lk_none.1 hn d (by rw[←cut_all q x];exact List.mem_append.2 (.inr hd)))
  ·rcases List.mem_cons.1 hd with rfl|hd
   ·exact cutA_lt a ha
   ·exact h3 a ha d hd
theorem srt_lk {q:Sm} (hs:Srt q) {d:Dl} (hd:d∈q):lk q d.1=some d.2:=by
 induction q with
 | nil=>cases hd
 | cons a q ih=>
   have hs':=List.pairwise_cons.1 hs
   rw[lk_cons]
   rcases List.mem_cons.1 hd with rfl|hd
   ·rw[if_pos rfl]
   ·rw[if_neg (fun e=>by have:=hs'.1 d hd;rw[e,slt_irr] at this;cases this)]
    exact ih hs'.2 hd
theorem srt_ext {p q:Sm} (hp:Srt p) (hq:Srt q) (h:∀ x,lk p x=lk q x):p=q:=by
 induction p generalizing q with
 | nil=>
   cases q with
   | nil=>rfl
   | cons a q=>have:=h a.1;rw[lk_nil,lk_cons,if_pos rfl] at this;cases this
 | cons a p ih=>
   cases q with
   | nil=>have:=h a.1;rw[lk_nil,lk_cons,if_pos rfl] at this;cases this
   | cons b q=>
     have hp':=List.pairwise_cons.1 hp
     have hq':=List.pairwise_cons.1 hq
     have e1:a.1=b.1:=by
      have ha:=h a.1
      have hb:=h b.1
      rw[lk_cons,if_pos rfl] at ha
      rw[lk_cons b q b.1,if_pos rfl] at hb
      have ma:=lk_mem ha.symm
      have mb:=lk_mem hb
      refine slt_tri ?_ ?_
      ·cases hx:slt a.1 b.1 with
       | false=>rfl
       | true=>
         rcases List.mem_cons.1 ma with e|hm
         ·rw[←e,slt_irr] at hx;cases hx
         ·have:=hq'.1 _ hm
          rw[slt_no hx] at this;cases this
      ·cases hx:slt b.1 a.1 with
       | false=>rfl
       | true=>
         rcases List.mem_cons.1 mb with e|hm
         ·rw[←e,slt_irr] at hx;cases hx
         ·have:=hp'.1 _ hm
          rw[slt_no hx] at this;cases this
     have e2:a.2=b.2:=by
      have ha:=h a.1
      rw[lk_cons,if_pos rfl,lk_cons,if_pos e1.symm] at ha
      injection ha
     have:a=b:=Prod.ext e1 e2
     subst this
     rw[ih hp'.2 hq'.2 fun x=>?_]
     have hx:=h x
     rw[lk_cons,lk_cons] at hx
     by_cases he:a.1=x
     ·have n1:lk p x=none:=lk_none.2 fun d hd e=>by have:=hp'.1 d hd;rw[e,←he,slt_irr] at this;cases this
      have n2:lk q x=none:=lk_none.2 fun d hd e=>by have:=hq'.1 d hd;rw[e,←he,slt_irr] at this;cases this
      rw[n1,n2]
     ·rw[if_neg he,if_neg he] at hx;exact hx
end Go.Proofs.YtmijcbfgfkeodaaGreatDoor.K
end
section
namespace Go.Hop
open Go.RowKit Go.Maps Go.WideMaps
structure SMapTy (P:Program) (t k e:TypeId) (qe:IntKind):Prop where
 und:P.underlying t=some (.map k e)
 key:P.underlying k=some .string
 elem:P.underlying e=some (.int qe)
 zero:∀ w,(zeroValue e).run P w=.ok (.int qe 0) w
abbrev lt_ (l:ByteArray):Lit := .string l.data.toList
theorem lt_inj {a b:ByteArray} (h:lt_ a=lt_ b):a=b:=by
 injection h with h
 exact ByteArray.ext (Array.toList_inj.1 h)
def Holds (qe:IntKind) (D:DataW Unit) (f:ByteArray→Option Int):Prop:=∀ l:ByteArray,l.size≤maxLen→has D (lt_ l)=(f l).isSome∧D.atKey (lt_ l) (.lit (.int qe 0))=.lit (.int qe ((f l).getD 0))
def SMap (P:Program) (k e:TypeId) (qe:IntKind) (w:World) (b n:Nat) (f:ByteArray→Option Int):Prop:=
 ∃ D:DataW Unit,w.ownsMap P k (plainElem P e) b n D∧Maps.size D=n∧Holds qe D f
section
variable {P:Program} {t k e:TypeId} {qe:IntKind} {w w':World} {b n:Nat} {f:ByteArray→Option Int}
theorem SMap.made (w:World):SMap P k e qe (w.alloc (.map #[] 0)) w.heap.size 0 (fun _=>none):=
 ⟨.map [],World.ownsMap_made w P k _,rfl,fun _ _=>⟨rfl,rfl⟩⟩
theorem SMap.lt (h:SMap P k e qe w b n f):b<w.heap.size:=by
 obtain⟨D,h,_⟩:=h
 exact h.lt
theorem SMap.keep (h:SMap P k e qe w b n f) (hk:w'.heap[b]?=w.heap[b]?):SMap P k e qe w' b n f:=by
 obtain⟨D,⟨es,clock,hb,r⟩,hf⟩:=h
 exact⟨D,⟨es,clock,hk.trans hb,r⟩,hf⟩
theorem SMap.grow (h:SMap P k e qe w b n f) (hg:Grow w w'):SMap P k e qe w' b n f:=h.keep (hg.block b h.lt)
theorem SMap.imp {f':ByteArray→Option Int} (h:SMap P k e qe w b n f) (hf:∀ x:ByteArray,x.size≤maxLen→f' x=f x):SMap P k e qe w b n f':=by
 obtain⟨D,h1,h2,h3⟩:=h
 exact⟨D,h1,h2,fun x hx=>by rw[hf x hx];exact h3 x hx⟩
theorem sowns_sized {D:DataW Unit} {R:Value→Option (DataW Unit×List MemPlace)} (h:w.ownsMap P k R b n D):w.ownsMap P k R b (Maps.size D) D:=by
 obtain⟨es,clock,hb,F,hs,rfl⟩:=h
 exact⟨es,clock,hb,F,by simp[Maps.size,length_sorted],rfl⟩
theorem tx_key (T:SMapTy P t k e qe) {l:ByteArray} (hl:l.size≤maxLen):keyOf P k (.string l)=some (lt_ l):=keyOf_string_mk T.key hl
theorem SMap.look (T:SMapTy P t k e qe) (h:SMap P k e qe w b n f) (l:ByteArray) (hl:l.size≤maxLen):(Instr.lookup t (.map (some b)) (.string l) true).run P w=.ok (.tuple #[.int qe ((f l).getD 0),.bool (f l).isSome]) w:=by
 obtain⟨D,ho,_,hf⟩:=h
 have hw0:(Lit.int qe 0).wf=true:=by cases qe<;>decide
 obtain⟨v,ps,hrun,hR⟩:=ho.look_ok (string_keyed T.key) T.und (T.zero w) (plainElem_int T.elem hw0) (tx_key T hl)
 rw[(hf l hl).1,(hf l hl).2] at *
 obtain⟨a,rfl,hz,_⟩:=plainElem_int_inv T.elem hR
 injection hz with hz
 injection hz with hz
 injection hz with _ hz
 rw[hrun,←hz]
theorem SMap.look1 (T:SMapTy P t k e qe) (h:SMap P k e qe w b n f) (l:ByteArray) (hl:l.size≤maxLen):(Instr.lookup t (.map (some b)) (.string l) false).run P w=.ok (.int qe ((f l).getD 0)) w:=by
 obtain⟨D,ho,_,hf⟩:=h
 obtain⟨c,hrun,hat,_⟩:=ho.lookup_int (string_keyed T.key) T.und T.elem (T.zero w) (tx_key T hl)
 rw[(hf l hl).2] at hat
 injection hat with hz
 injection hz with _ hz
 rw[hrun,hz]
theorem SMap.put (T:SMapTy P t k e qe) (h:SMap P k e qe w b n f) (l:ByteArray) (v:Int) (hl:l.size≤maxLen) (hv:(Lit.int qe v).wf=true) (hn:n<maxLen) :
 ∃ w',(Instr.mapUpdate t (.map (some b)) (.string l) (.int qe v)).run P w=.ok () w'∧SMap P k e qe w' b (if (f l).isSome then n else n+1) (fun y=>if y=l then some v else f y)∧Just (fun c=>c=b) w w':=by
 obtain⟨D,ho,hs,hf⟩:=h
 obtain⟨w',hrun,h2,h3⟩:=ho.update (string_keyed T.key) T.und hn (tx_key T hl) (plainElem_int T.elem hv)
 have hsz:=size_put (ho.tidy (string_keyed T.key)) (k:=lt_ l) (.lit (.int qe v))
 rw[(hf l hl).1,hs] at hsz
 have h2:=sowns_sized h2
 rw[hsz] at h2
 refine⟨w',hrun,⟨_,h2,hsz,fun y hy=>?_⟩,⟨h3.os,h3.tape,h3.output,h3.size,fun i hi hb=>h3.block i hi (fun e=>hb (by injection e))⟩⟩
 dsimp only
 by_cases hyx:y=l
 ·subst hyx
  rw[if_pos rfl]
  exact⟨has_put_same ho.isMap (by exact trivial) _,atKey_put_same ho.isMap (by exact trivial) _ _⟩
 ·rw[if_neg hyx,has_put_other (fun e=>hyx (lt_inj e)),atKey_put_other (fun e=>hyx (lt_inj e))]
  exact hf y hy
theorem SMap.len (h:SMap P k e qe w b n f) (T:SMapTy P t k e qe) (ty:TypeId):(Builtin.len_ #[t] ty #[.map (some b)]).run P w=.ok (.int .i64 (n:Int)) w:=by
 obtain⟨D,ho,hs,_⟩:=h
 rw[ho.len T.und ty,hs]
def SRange (P:Program) (k e:TypeId) (qe:IntKind) (w:World) (b r n:Nat) (f:ByteArray→Option Int) (left:ByteArray→Bool) (cnt:Nat):Prop:=
 ∃ (D:DataW Unit) (lf:Lit→Bool),w.ranges P k (plainElem P e) b r n D lf cnt∧Maps.size D=n∧Holds qe D f∧∀ l:ByteArray,lf (lt_ l)=left l
theorem SRange.lt {r cnt:Nat} {left:ByteArray→Bool} (h:SRange P k e qe w b r n f left cnt):r<w.heap.size:=by
 obtain⟨D,lf,h1,_⟩:=h
 exact h1.lt
theorem SRange.ne {r cnt:Nat} {left:ByteArray→Bool} (h:SRange P k e qe w b r n f left cnt):r≠b:=by
 obtain⟨D,lf,h1,_⟩:=h
 exact h1.ne
theorem SRange.left_eq {r cnt:Nat} {left:ByteArray→Bool} (h:SRange P k e qe w b r n f left cnt):w.rangeLeft b r=cnt:=by
 obtain⟨D,lf,h1,_⟩:=h
 exact h1.left_eq
theorem SRange.just {V:Nat→Prop} {r cnt:Nat} {left:ByteArray→Bool} (h:SRange P k e qe w b r n f left cnt) (hj:Just V w w') (hb:¬ V b) (hr:¬ V r):SRange P k e qe w' b r n f left cnt:=by
 obtain⟨D,lf,h1,h2,h3,h4⟩:=h
 have hbl:=h1.owns.lt
 have hrl:=h1.lt
 refine⟨D,lf,?_,h2,h3,h4⟩
 have eb:=hj.block b hbl hb
 have er:=hj.block r hrl hr
 obtain⟨es,clock,since,seen,c0,g1,g2,g3,g4,g5,g6⟩:=h1
 exact⟨es,clock,since,seen,c0,eb.trans g1,g2,g3,g4,er.trans g5,g6⟩
theorem SRange.grow {r cnt:Nat} {left:ByteArray→Bool} (h:SRange P k e qe w b r n f left cnt) (hg:Grow w w'):SRange P k e qe w' b r n f left cnt:=h.just (V:=fun _=>False) (Just.of_grow hg) (fun h=>h) (fun h=>h)
theorem SMap.range (T:SMapTy P t k e qe) (h:SMap P k e qe w b n f) :
 ∃ w',(Instr.range t (.map (some b))).run P w=.ok (.pointer (some ⟨w.heap.size,0,none⟩)) w'∧(∃ left,SRange P k e qe w' b w.heap.size n f left n∧∀ l:ByteArray,l.size≤maxLen→left l=(f l).isSome)∧Grow w w'∧w'.heap.size=w.heap.size+1:=by
 obtain⟨D,ho,hs,hf⟩:=h
 obtain⟨w',hrun,hr,hg,hsz⟩:=ho.range (string_keyed T.key) T.und
 rw[hs] at hr
 exact⟨w',hrun,⟨fun l=>has D (lt_ l),⟨D,_,hr,hs,hf,fun _=>rfl⟩,fun l hl=>(hf l hl).1⟩,⟨hg.os,hg.tape,hg.output,hg.size,fun i hi=>hg.block i hi (by simp)⟩,hsz⟩
theorem SRange.next (T:SMapTy P t k e qe) {r cnt:Nat} {left:ByteArray→Bool} (h:SRange P k e qe w b r n f left cnt) (ty:TypeId) :
 (cnt=0∧(∀ l,left l=false)∧(Instr.next (.pointer (some ⟨r,0,none⟩)) false ty).run P w=.ok (.tuple #[.bool false]) w)∨
 ∃ (l:ByteArray) (v:Int) (w':World) (cnt':Nat),l.size≤maxLen∧left l=true∧f l=some v∧(Lit.int qe v).wf=true∧(Instr.next (.pointer (some ⟨r,0,none⟩)) false ty).run P w=.ok (.tuple #[.bool true,Value.string l,.int qe v]) w'∧
   SRange P k e qe w' b r n f (fun z=>left z && decide (z≠l)) cnt'∧cnt'<cnt∧Just (fun c=>c=r) w w'∧(Instr.entry (.pointer (some ⟨r,0,none⟩))).run P w'=.ok (.tuple #[Value.string l,.int qe v]) w':=by
 obtain⟨D,lf,h1,h2,h3,h4⟩:=h
 rcases h1.next (string_keyed T.key) ty with ⟨h0,hl,hrun⟩|⟨key,v,kl,y,w',cnt',hkey,hlk,hv,hat,hrun,hrg,hlt,hgr,hsz,hen⟩
 ·exact .inl ⟨h0,fun l=>by rw[←h4];exact hl _,hrun⟩
 ·obtain⟨s,rfl,rfl,hsl⟩:=string_of_keyOf T.key hkey
  obtain⟨c,rfl,hz,hw⟩:=plainElem_int_inv T.elem hv
  have hb:=(h3 _ hsl).1
  rw[has_true_of_atKey hat] at hb
  have hget:=(h3 _ hsl).2
  rw[hat] at hget
  obtain⟨v0,hv0⟩:=Option.isSome_iff_exists.1 hb.symm
  rw[hv0,hz] at hget
  injection hget with hget
  injection hget with _ hget
  simp only[Option.getD_some] at hget
  refine .inr ⟨s,c,w',cnt',hsl,by rw[←h4];exact hlk,by rw[hv0,hget],hw,hrun,⟨D,_,hrg,h2,h3,fun z=>?_⟩,hlt,⟨hgr.os,hgr.tape,hgr.output,hgr.size,fun i hi hn=>hgr.block i hi (fun e=>hn (by injection e))⟩,hen⟩
  show (lf (lt_ z) && !(lt_ z).sameKey (lt_ s))=(left z && decide (z≠s))
  rw[h4]
  congr 1
  by_cases hz:z=s
  ·subst hz
   rw[WideAt.sameKey_self (by exact trivial)]
   simp
  ·have:(lt_ z).sameKey (lt_ s)=false:=sameKey_ne (fun e=>hz (lt_inj e))
   rw[this]
   simp[hz]
end
end Go.Hop
end
section
namespace Go.Proofs.YtmijcbfgfkeodaaGreatDoor.K
open Go.RowKit Go.Hop
theorem smT:SMapTy Tryz.prog 213 9 27 .u64:=⟨Tryz.underlying213,Tryz.underlying9,Tryz.underlying27,fun w=>by kernel_rfl⟩
def M64:Nat:=18446744073709551615
def fq (q:Sm) (x:ByteArray):Option Int:=(lk q x).map fun v=>(v:Int)
theorem fq_get (q:Sm) (x:ByteArray):(fq q x).getD 0=((gt q x:Nat):Int):=by
 unfold fq gt
 cases lk q x<;>rfl
theorem fq_some (q:Sm) (x:ByteArray):(fq q x).isSome=(lk q x).isSome:=by
 unfold fq
 cases lk q x<;>rfl
theorem fq_put (q:Sm) (x:ByteArray) (v:Nat):(fun y=>if y=x then some (v:Int) else fq q y)=fq (put q x v):=by
 funext y
 unfold fq
 rw[lk_put q]
 split<;>rfl
structure Right (q:Sm):Prop where
 srt:Srt q
 num:∀ d∈q,d.2≤M64
 txt:∀ d∈q,d.1.size≤maxLen
theorem Right.gt {q:Sm} (h:Right q) (x:ByteArray):gt q x≤M64:=by
 unfold Proofs.YtmijcbfgfkeodaaGreatDoor.K.gt
 cases hx:lk q x with
 | none=>exact Nat.zero_le _
 | some v=>exact h.num _ (lk_mem hx)
theorem Right.put {q:Sm} (h:Right q) {x:ByteArray} {v:Nat} (hx:x.size≤maxLen) (hv:v≤M64):Right (put q x v):=by
 refine⟨put_srt h.srt x v,fun d hd=>?_,fun d hd=>?_⟩
 ·have:=srt_lk (put_srt h.srt x v) hd
  rw[lk_put q] at this
  split at this
  ·injection this with this;rw[←this];exact hv
  ·exact h.num _ (lk_mem this)
 ·have:=srt_lk (put_srt h.srt x v) hd
  rw[lk_put q] at this
  split at this
  ·rename_i e;rw[e];exact hx
  ·exact h.txt _ (lk_mem this)
theorem right_nil:Right []:=⟨List.Pairwise.nil,by simp,by simp⟩
def MapQ (w:World) (b:Nat) (q:Sm):Prop:=SMap Tryz.prog 9 27 .u64 w b q.length (fq q)
def SumsAt (s:Nat) (q:Sm):Thing:=fun w V=>V s∧Right q∧∃ b,V b∧b≠s∧Blk w s 215 #[.map (some b)]∧MapQ w b q
theorem SumsAt.framed (s:Nat) (q:Sm):Framed (SumsAt s q):=fun w w' V h hk=>by
 obtain⟨h1,h2,b,h3,h4,h5,h6⟩:=h
 exact⟨h1,h2,b,h3,h4,(hk s h1).trans h5,h6.keep (hk b h3)⟩
theorem SumsAt.wide {s:Nat} {q:Sm} {w:World} {V V':Nat→Prop} (h:SumsAt s q w V) (hV:∀ b,V b→V' b):SumsAt s q w V':=by
 obtain⟨h1,h2,b,h3,h4⟩:=h
 exact⟨hV s h1,h2,b,hV b h3,h4⟩
theorem New_any (w:World):Calls Tryz.prog 50 #[] w fun e w'=>∃ s,e=.returned (.pointer (some ⟨s,0,none⟩))∧SumsAt s [] w' (New w w')∧Grow w w':=by
 have hmm:=@run_makeMap Tryz.prog
 go_enter Tryz.func50,Tryz.ntmps50
 go_wp2_with fail
 go_ret
 have hg1:Grow w (w.alloc (.map #[] 0)):=(Below.refl _ w).alloc (Nat.le_refl _) _
 have hg2:Grow (w.alloc (.map #[] 0)) ((w.alloc (.map #[] 0)).alloc (.cells #[.map (some w.heap.size)] 215)):=(Below.refl _ _).alloc (Nat.le_refl _) _
 refine⟨_,rfl,⟨⟨by simp,by simp⟩,right_nil,w.heap.size,⟨Nat.le_refl _,by simp;omega⟩,by simp,?_,?_⟩,hg1.trans hg2⟩
 ·have:=Blk.made (w.alloc (.map #[] 0)) 215 #[.map (some w.heap.size)]
  rwa [alloc_size] at this
 ·have:=(SMap.made (P:=Tryz.prog) (k:=9) (e:=27) (qe := .u64) w).grow hg2
  exact this.imp fun _ _=>rfl
theorem Get_any (w:World) (s:Nat) (q:Sm) (V:Nat→Prop) (h:SumsAt s q w V) (x:ByteArray) (hx:x.size≤maxLen) :
 Calls Tryz.prog 52 #[.pointer (some ⟨s,0,none⟩),.string x] w fun e w'=>e=.returned (.int .u64 ((gt q x:Nat):Int))∧w=w':=by
 obtain⟨h1,h2,b,h3,h4,hB,hM⟩:=h
 have c0:=hB.cell 0
 have hl:=SMap.look1 smT hM x hx
 rw[fq_get] at hl
 go_enter Tryz.func52,Tryz.ntmps52
 go_wp2_with fail
 go_ret
 exact⟨rfl,rfl⟩
theorem eAdd_any (w:World) (a b:Nat) (ha:a≤M64) (hb:b≤M64) :
 Calls Tryz.prog 158 #[.int .u64 (a:Int),.int .u64 (b:Int)] w fun e w'=>e=.returned (.int .u64 ((if a+b≤M64 then a+b else M64:Nat):Int))∧w=w':=by
 unfold M64 at *
 have hs:IntKind.u64.wrap ((18446744073709551615:Int)-(b:Int))=((18446744073709551615-b:Nat):Int):=by rw[IntKind.wrap_u64];omega
 by_cases h:a+b≤18446744073709551615
 ·rw[if_pos h]
  have ha':IntKind.u64.wrap ((a:Int)+(b:Int))=((a+b:Nat):Int):=by rw[IntKind.wrap_u64];omega
  have hd:decide (18446744073709551615-b<a)=false:=decide_eq_false (by omega)
  go_enter Tryz.func158,Tryz.ntmps158
  go_wp2_with fail
  go_ret
  exact⟨rfl,rfl⟩
 ·rw[if_neg h]
  have hd:decide (18446744073709551615-b<a)=true:=decide_eq_true (by omega)
  go_enter Tryz.func158,Tryz.ntmps158
  go_wp2_with fail
  go_ret
  exact⟨rfl,rfl⟩
end Go.Proofs.YtmijcbfgfkeodaaGreatDoor.K
end
