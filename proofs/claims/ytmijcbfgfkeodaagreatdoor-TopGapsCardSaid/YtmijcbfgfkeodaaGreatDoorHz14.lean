/- Vo2, Vo3, Vo4, Vo5. -/
import Derived.Test.YtmijcbfgfkeodaaGreatDoorHz13
set_option linter.all false
set_option maxRecDepth 100000
section
namespace Go.Proofs.YtmijcbfgfkeodaaGreatDoor
open Go.RowKit Go.Hop Go.Proofs.YtmijcbfgfkeodaaGreatDoor.V
def EnsT (A:Option Addr) (q:List El):Thing:=fun w V=>Ens w V A q
theorem EnsT.framed (A:Option Addr) (q:List El):Framed (EnsT A q):=fun w w' V h hk=>⟨h.1.keep fun b hb _=>hk b hb,fun x hx=>⟨In.keep (h.2 x hx).1 fun b hb _=>hk b hb,(h.2 x hx).2⟩⟩
def wordB (t h:Nat) (l:List En):List UInt8:=enc t++enc h++enc l.length++esB l
theorem wordB_len {t h:Nat} {l:List En} (h1:t<18446744073709551616) (h2:h<18446744073709551616) (hl:∀ e∈l,e.Ok):(wordB t h l).length≤30+l.length*9010∨18446744073709551616≤l.length:=by
 rcases Nat.lt_or_ge l.length 18446744073709551616 with h3|h3
 ·have:=enc_ten h1
  have:=enc_ten h2
  have:=enc_ten h3
  have:=esB_len l hl
  refine .inl ?_
  unfold wordB
  simp only[List.length_append]
  omega
 ·exact .inr h3
def StC (t h:Int) (sl:Value) (x:Nat):Array Value:=#[.int .i64 t,.int .i64 h,sl,.pointer (some ⟨x,0,none⟩)]
def Room (bs b:List UInt8):Prop:=b.length≤65536∧bs.length+(frame b).length≤1048576
theorem keep_ok (w:World) (s x d:Nat) (t0 h0:Int) (sl0:Value) (n:Int) (bs:List UInt8) (TE HA:Nat) (D:Nat→Prop) (A:Option Addr) (c:Nat) (q:List El) (hte:TE≤9223372036854775807) (hha:HA≤9223372036854775807)
 (hq:Ens w D A q) (hok:∀ x∈q,x.e.Ok) (hn:q.length≤1024) (hn0:0≤n∧n≤1099511627776) (hroom:Room bs (wordB TE HA (q.map El.e))) (V:Nat→Prop) (hM:Many [Cell s 259 (StC t0 h0 sl0 x),LogAt x d n bs bs.length] w V) (hV:∀ b,V b→b<w.heap.size) :
 Calls Tryz.prog 166 #[.pointer (some ⟨s,0,none⟩),.agg #[.int .i64 (TE:Int),.int .i64 (HA:Int),.slice A q.length c]] w fun e w'=>e=.returned (.bool true)∧Many [Cell s 259 (StC TE HA (.slice A q.length c) x),LogAt x d (n+1) (bs++frame (wordB TE HA (q.map El.e))) (bs++frame (wordB TE HA (q.map El.e))).length] w' (Ext V w w')∧Just V w w':=by
 have hF:AllFramed [LogAt x d n bs bs.length]:=AllFramed.nil.cons (LogAt.framed _ _ _ _ _)
 have hS:=Solo.begin_ hM hV
 have hwd:wordB TE HA (q.map El.e)=enc TE++enc HA++enc q.length++esB (q.map El.e):=by unfold wordB;rw[List.length_map]
 obtain⟨WB,HWB⟩:∃ WB:List UInt8,Hid (WB=wordB TE HA (q.map El.e)):=⟨_,Lib.hid rfl⟩
 rw[←HWB.out] at hroom hwd ⊢
 have HWD:=Lib.hid hwd
 clear hwd
 have k219:∀ (vs:Array Value) (w:World),(callFunc 219 vs).run Tryz.prog w=.ok (.enter 219 vs) w:=fun vs w=>by go_simp
 have k228:∀ (vs:Array Value) (w:World),(callFunc 228 vs).run Tryz.prog w=.ok (.enter 228 vs) w:=fun vs w=>by go_simp
 have hg0:=grow_alloc w (.cells #[.int .i64 (TE:Int),.int .i64 (HA:Int),.slice A q.length c] 257)
 have hBw:=Blk.made w 257 #[.int .i64 (TE:Int),.int .i64 (HA:Int),.slice A q.length c]
 obtain⟨y,HY⟩:∃ y:Nat,Hid (y=w.heap.size):=⟨_,rfl⟩
 obtain⟨wa,HA_⟩:∃ wa:World,Hid (wa=w.alloc (.cells #[.int .i64 (TE:Int),.int .i64 (HA:Int),.slice A q.length c] 257)):=⟨_,rfl⟩
 rw[←HA_.out] at hg0 hBw
 rw[←HY.out] at hBw
 have hF2:AllFramed [Cell s 259 (StC t0 h0 sl0 x),LogAt x d n bs bs.length]:=hF.cons (Cell.framed _ _ _)
 have hSa:=hS.join hF2 hg0 (R:=Cell y 257 #[.int .i64 (TE:Int),.int .i64 (HA:Int),.slice A q.length c]) (U:=fun b=>b=y) ⟨rfl,hBw⟩ (fun b hb=>by have:=HY.out;have:=hBw.lt;omega)
 have hqa:=hq.grow hg0
 have wT:IntKind.u64.wrap (TE:Int)=(TE:Int):=by rw[wrap_u64];omega
 have wH:IntKind.u64.wrap (HA:Int)=(HA:Int):=by rw[wrap_u64];omega
 have eT:=enc_ten (n:=TE) (by omega)
 have eH:=enc_ten (n:=HA) (by omega)
 go_enter Tryz.func166,Tryz.ntmps166
 go_wp2_with fail
 rw[←HA_.out,←HY.out]
 refine wp_region_flow 12 28 [(3,.inr (fun _=>IsBytes (enc TE))),(7,.inr (fun _=>IsBytes (enc TE++enc HA))),(10,.inr (fun _=>IsBytes (enc TE++enc HA++enc q.length++esB (q.map El.e))))] rfl rfl (by kernel_rfl) (by kernel_rfl) (by kernel_rfl) ?_ ?_
 ·intro x hx φ he
  simp only[List.mem_cons,List.not_mem_nil,or_false] at hx
  rcases hx with rfl|rfl|rfl<;>cases he
  all_goals first|exact lasts_quiet (lasting_bytes _)|fail
 intro ops' A' K' T hops hA' hK hT
 refine fl_op1G 6 (.tmp 3) (.pointer (some ⟨y,0,none⟩)) (.pointer (some ⟨y,0,none⟩)) ?_
 refine fl_op1N 7 (.tmp 6) (.pointer (some ⟨y,0,none⟩)) (.int .i64 (TE:Int)) (fun ρ h1 kk w1 (hg:Grow _ w1) hb hf=>by have c:=(hBw.grow hg).cell 0;go_simp) ?_
 refine fl_op1N 8 (.tmp 7) (.int .i64 (TE:Int)) (.int .u64 (TE:Int)) (fun ρ h1 kk w1 (hg:Grow _ w1) hb hf=>by go_simp;try rfl) ?_
 refine fl_callAny 9 (by rfl) (by decide) (wanted_none (by rfl)) (fun _=>IsBytes (enc TE)) (by rw[hK.out];rfl) 219 _ _ (by rfl) [.slice none 0 0,.int .u64 (TE:Int)] (by rfl) k219 (fun kk w1 (hg:Grow _ w1) hb hf=>calls_behindAny (φ:=fun _=>IsBytes (enc TE)) (by rfl) (by exact vPut_is w1 _ [] TE (isBytes_nil w1) (by simp) (by omega))) (fun v9=>?_)
 refine fl_op1G 10 (.tmp 3) (.pointer (some ⟨y,0,none⟩)) (.pointer (some ⟨y,1,none⟩)) ?_
 refine fl_op1N 11 (.tmp 10) (.pointer (some ⟨y,1,none⟩)) (.int .i64 (HA:Int)) (fun ρ h1 kk w1 (hg:Grow _ w1) hb hf=>by have c:=(hBw.grow hg).cell 1;go_simp) ?_
 refine fl_op1N 12 (.tmp 11) (.int .i64 (HA:Int)) (.int .u64 (HA:Int)) (fun ρ h1 kk w1 (hg:Grow _ w1) hb hf=>by go_simp;try rfl) ?_
 refine fl_callAny 13 (by rfl) (by decide) (wanted_none (by rfl)) (fun _=>IsBytes (enc TE++enc HA)) (by rw[hK.out];rfl) 219 _ _ (by rfl) [v9,.int .u64 (HA:Int)] (by rfl) k219 (fun kk w1 (hg:Grow _ w1) hb hf=>calls_behindAny (φ:=fun _=>IsBytes (enc TE++enc HA)) (by rfl) (by exact vPut_is w1 v9 _ HA (facts_take hf (by rw[hA'.out];kernel_rfl)) (by omega) (by omega))) (fun v13=>?_)
 refine fl_op1G 14 (.tmp 3) (.pointer (some ⟨y,0,none⟩)) (.pointer (some ⟨y,2,none⟩)) ?_
 refine fl_op1N 15 (.tmp 14) (.pointer (some ⟨y,2,none⟩)) (.slice A q.length c) (fun ρ h1 kk w1 (hg:Grow _ w1) hb hf=>by have c:=(hBw.grow hg).cell 2;go_simp) ?_
 refine fl_callAny 16 (by rfl) (by decide) (wanted_none (by rfl)) (fun _=>IsBytes (enc TE++enc HA++enc q.length++esB (q.map El.e))) (by rw[hK.out];rfl) 228 _ _ (by rfl) [v13,.slice A q.length c] (by rfl) k228 (fun kk w1 (hg:Grow _ w1) hb hf=>calls_behindAny (φ:=fun _=>IsBytes (enc TE++enc HA++enc q.length++esB (q.map El.e))) (by rfl) (by exact mPut_any w1 v13 _ D A c q (facts_take hf (by rw[hA'.out];kernel_rfl)) (by rw[List.length_append];omega) (hqa.grow hg) hok hn)) (fun v16=>?_)
 refine fl_mvN 5 (v16) ?_
 refine fl_end (fun _ _ w1 (hg:Grow _ w1) _ hfacts=>hT _ _ ?_)
 clear hops hA' hK hT
 simp only[putsL,Act.put,List.setIfInBounds_toArray,List.set_cons_zero,List.set_cons_succ,List.drop_succ_cons,List.drop_zero]
 have hE:=hfacts.1
 clear hfacts
 rw[←HWD.out] at hE
 have hF3:=hF2.cons (Cell.framed y 257 #[.int .i64 (TE:Int),.int .i64 (HA:Int),.slice A q.length c])
 have hS1:=hSa.grows hF3 hg
 have J1:=Just.of_grow (V:=Lic V w) (hg0.trans hg)
 have s3:w1.cell? ⟨s,3,none⟩=some (.pointer (some ⟨x,0,none⟩)):=(hS1.blk 1 rfl).cell 3
 have hW:=lWrite_ok w1 x d n bs WB v16 hE hn0 hroom.1 hroom.2
 have hC:=hS1.at_ 2 rfl hF3 hW
 go_wp2_with fail
 refine hC.mono ?_
 rintro e w2 ⟨rfl,hj2,hS2⟩
 have hS2:Solo (Lic V w) (Many [Cell y 257 #[.int .i64 (TE:Int),.int .i64 (HA:Int),.slice A q.length c],Cell s 259 (StC t0 h0 sl0 x),LogAt x d (n+1) (bs++frame WB) (bs++frame WB).length]) w2:=hS2
 have hG:AllFramed [Cell y 257 #[.int .i64 (TE:Int),.int .i64 (HA:Int),.slice A q.length c],Cell s 259 (StC t0 h0 sl0 x),LogAt x d (n+1) (bs++frame WB) (bs++frame WB).length]:=((AllFramed.nil.cons (LogAt.framed _ _ _ _ _)).cons (Cell.framed _ _ _)).cons (Cell.framed _ _ _)
 have hB2:=hS2.blk 1 rfl
 have hY2:=hS2.blk 0 rfl
 have y0:=hY2.cell 0
 have y1:=hY2.cell 1
 have y2:=hY2.cell 2
 have hP:=(hS2.lics 1 rfl).1
 go_wp2_with (refine wpList_part rfl 257 _ _ rfl s 0 rfl [.int .i64 (TE:Int),.int .i64 (HA:Int),.slice A q.length c] rfl hB2 (Nat.le_of_ble_eq_true rfl) rfl (by kernel_rfl) (cs':=StC TE HA (.slice A q.length c) x) rfl ?_;intro w3 hB3 hj3 hs3;refine stay ?_)
 refine stay_out ?_
 have hS3:=hS2.turned 1 rfl hG hj3 hB3
 go_wp2_with fail
 go_ret
 obtain⟨r1,r2⟩:=Solo.done (l:=[Cell s 259 (StC TE HA (.slice A q.length c) x),LogAt x d (n+1) (bs++frame WB) (bs++frame WB).length]) hS3.drop1 ((J1.trans hj2).trans (hj3.imp fun b hb=>by rw[hb];exact hP)) hV
 exact⟨rfl,r1,r2⟩
def StateAt (s x d:Nat) (t h:Nat) (es:List En) (n:Int) (bs:List UInt8):Thing:=fun w V=>∃ (A:Option Addr) (c:Nat) (q:List El),q.map El.e=es∧q.length≤c∧c≤maxLen∧Many [EnsT A q,Cell s 259 (StC t h (.slice A q.length c) x),LogAt x d n bs bs.length] w V
theorem state_framed (A:Option Addr) (q:List El) (s x d:Nat) (cs:Array Value) (n:Int) (bs:List UInt8) (k:Nat):AllFramed [EnsT A q,Cell s 259 cs,LogAt x d n bs k]:=((AllFramed.nil.cons (LogAt.framed _ _ _ _ _)).cons (Cell.framed _ _ _)).cons (EnsT.framed _ _)
theorem StateAt.framed (s x d:Nat) (t h:Nat) (es:List En) (n:Int) (bs:List UInt8):Framed (StateAt s x d t h es n bs):=fun w w' V ⟨A,c,q,h1,h2,h3,h4⟩ hk=>⟨A,c,q,h1,h2,h3,Many.framed _ (state_framed _ _ _ _ _ _ _ _ _) w w' V h4 hk⟩
theorem StateAt.cells {s x d:Nat} {t h:Nat} {es:List En} {n:Int} {bs:List UInt8} {w:World} {V:Nat→Prop} (hS:StateAt s x d t h es n bs w V):∃ (A:Option Addr) (c:Nat) (q:List El),q.map El.e=es∧q.length≤c∧c≤maxLen∧(∃ D,Ens w D A q)∧Blk w s 259 (StC t h (.slice A q.length c) x):=by
 obtain⟨A,c,q,h1,h2,h3,V1,V2,hE,⟨V3,V4,hB,_⟩,_⟩:=hS
 exact⟨A,c,q,h1,h2,h3,⟨V1,hE⟩,hB.2⟩
theorem sTerm_any (w:World) (s x d:Nat) (t h:Nat) (es:List En) (n:Int) (bs:List UInt8) (V:Nat→Prop) (hS:StateAt s x d t h es n bs w V):Calls Tryz.prog 83 #[.pointer (some ⟨s,0,none⟩)] w fun e w'=>e=.returned (.int .i64 (t:Int))∧w=w':=by
 obtain⟨A,c,q,_,_,_,_,hB⟩:=hS.cells
 unfold StC at hB
 have c0:=hB.cell 0
 go_enter Tryz.func83,Tryz.ntmps83
 go_wp2_with fail
 go_ret
 exact⟨rfl,rfl⟩
theorem sHad_any (w:World) (s x d:Nat) (t h:Nat) (es:List En) (n:Int) (bs:List UInt8) (V:Nat→Prop) (hS:StateAt s x d t h es n bs w V):Calls Tryz.prog 88 #[.pointer (some ⟨s,0,none⟩)] w fun e w'=>e=.returned (.int .i64 (h:Int))∧w=w':=by
 obtain⟨A,c,q,_,_,_,_,hB⟩:=hS.cells
 unfold StC at hB
 have c0:=hB.cell 1
 go_enter Tryz.func88,Tryz.ntmps88
 go_wp2_with fail
 go_ret
 exact⟨rfl,rfl⟩
theorem sLen_any (w:World) (s x d:Nat) (t h:Nat) (es:List En) (n:Int) (bs:List UInt8) (V:Nat→Prop) (hS:StateAt s x d t h es n bs w V):Calls Tryz.prog 171 #[.pointer (some ⟨s,0,none⟩)] w fun e w'=>e=.returned (.int .i64 (es.length:Int))∧w=w':=by
 obtain⟨A,c,q,hq,_,_,_,hB⟩:=hS.cells
 have hl:es.length=q.length:=by rw[←hq,List.length_map]
 unfold StC at hB
 have c0:=hB.cell 2
 rw[hl]
 clear hl
 go_enter Tryz.func171,Tryz.ntmps171
 go_wp2_with fail
 go_ret
 exact⟨rfl,rfl⟩
theorem sLog_any (w:World) (s x d:Nat) (t h:Nat) (es:List En) (n:Int) (bs:List UInt8) (V:Nat→Prop) (hS:StateAt s x d t h es n bs w V) (hn:es.length≤1048576):Calls Tryz.prog 89 #[.pointer (some ⟨s,0,none⟩)] w fun e w'=>∃ u,e=.returned u∧IsEns es w u w'∧(∃ A',u=.slice A' es.length es.length)∧Grow w w':=by
 obtain⟨A,c,q,hq,_,_,⟨D,hE⟩,hB⟩:=hS.cells
 have hl:es.length=q.length:=by rw[←hq,List.length_map]
 have hC:=Copies_any w D A c q hE (by omega)
 rw[hq,←hl] at hC
 unfold StC at hB
 rw[←hl] at hB
 have c0:=hB.cell 2
 clear hl
 go_enter Tryz.func89,Tryz.ntmps89
 go_wp2_with fail
 refine hC.mono ?_
 rintro e w1 ⟨u,rfl,hI,hu,hg⟩
 go_wp2_with fail
 go_ret
 exact⟨u,rfl,hI,hu,hg⟩
theorem sPromise_ok (w:World) (s x d:Nat) (t h TE:Nat) (es:List En) (n:Int) (bs:List UInt8) (htt:t<TE) (hte:TE≤9223372036854775807) (hha:h≤9223372036854775807) (hok:∀ e∈es,e.Ok) (hn:es.length≤1024) (hn0:0≤n∧n≤1099511627776) (hroom:Room bs (wordB TE h es)) :
 Turns Tryz.prog 84 #[.pointer (some ⟨s,0,none⟩),.int .i64 (TE:Int)] (fun e=>e=.returned (.bool true)) (StateAt s x d t h es n bs) (StateAt s x d TE h es (n+1) (bs++frame (wordB TE h es))) w:=by
 rintro V ⟨A,c,q,hq,hqc,hcm,hM⟩ hV
 subst hq
 rw[List.length_map] at hn
 have hFr:=state_framed A q s x d (StC t h (.slice A q.length c) x) n bs bs.length
 obtain⟨_,_,_,⟨_,_,hBk0,_⟩,_⟩:=id hM
 have hBk:Blk w s 259 #[.int .i64 (t:Int),.int .i64 (h:Int),.slice A q.length c,.pointer (some ⟨x,0,none⟩)]:=hBk0.2
 clear hBk0
 have dt:decide ((TE:Int) > (t:Int))=true:=decide_eq_true (by omega)
 have ht':(t:Int)<(TE:Int):=by omega
 have k166:∀ (vs:Array Value) (w:World),(callFunc 166 vs).run Tryz.prog w=.ok (.enter 166 vs) w:=fun vs w=>by go_simp
 go_enter Tryz.func84,Tryz.ntmps84
 go_wp2_with fail
 refine wp_region_flow 21 28 [] rfl rfl (by kernel_rfl) (by kernel_rfl) (by kernel_rfl) ?_ ?_
 ·intro x hx φ he
  cases hx
 intro ops' A' K' T hops hA' hK hT
 refine fl_mvN 5 (.int .i64 (TE:Int)) ?_
 refine fl_mvN 6 (.pointer (some ⟨s,0,none⟩)) ?_
 refine fl_op1G 7 (.tmp 6) (.pointer (some ⟨s,0,none⟩)) (.pointer (some ⟨s,0,none⟩)) ?_
 refine fl_op1G 8 (.tmp 7) (.pointer (some ⟨s,0,none⟩)) (.pointer (some ⟨s,0,none⟩)) ?_
 refine fl_op1G 9 (.tmp 8) (.pointer (some ⟨s,0,none⟩)) (.pointer (some ⟨s,0,none⟩)) ?_
 refine fl_op1N 10 (.tmp 9) (.pointer (some ⟨s,0,none⟩)) (.int .i64 (t:Int)) (fun ρ h1 kk w1 (hg:Grow _ w1) hb hf=>by have c:=(hBk.grow hg).cell 0;go_simp) ?_
 refine fl_op2N 11 (.tmp 5) (.tmp 10) (.int .i64 (TE:Int)) (.int .i64 (t:Int)) (.bool true) (fun ρ h1 h2 kk w1 (hg:Grow _ w1) hb hf=>by go_simp;try exact dt) ?_
 refine fl_mvN 12 (.bool true) ?_
 refine fl_mvW 13 (wif hops 7 true 12 true) (.pointer (some ⟨s,0,none⟩)) ?_
 refine fl_mvW 14 (wif hops 7 true 12 true) (.int .i64 (TE:Int)) ?_
 refine fl_mvW 15 (wif hops 7 true 12 true) (.pointer (some ⟨s,0,none⟩)) ?_
 refine fl_op1W 16 (wif hops 7 true 12 true) (.tmp 15) (.pointer (some ⟨s,0,none⟩)) (.pointer (some ⟨s,0,none⟩)) (fun ρ h1 kk w1 (hg:Grow _ w1) hb hf=>by go_simp) ?_
 refine fl_op1W 17 (wif hops 7 true 12 true) (.tmp 16) (.pointer (some ⟨s,0,none⟩)) (.pointer (some ⟨s,0,none⟩)) (fun ρ h1 kk w1 (hg:Grow _ w1) hb hf=>by go_simp) ?_
 refine fl_op1W 18 (wif hops 7 true 12 true) (.tmp 17) (.pointer (some ⟨s,0,none⟩)) (.pointer (some ⟨s,1,none⟩)) (fun ρ h1 kk w1 (hg:Grow _ w1) hb hf=>by go_simp) ?_
 refine fl_op1W 19 (wif hops 7 true 12 true) (.tmp 18) (.pointer (some ⟨s,1,none⟩)) (.int .i64 (h:Int)) (fun ρ h1 kk w1 (hg:Grow _ w1) hb hf=>by have c:=(hBk.grow hg).cell 1;go_simp) ?_
 refine fl_mvW 20 (wif hops 7 true 12 true) (.pointer (some ⟨s,0,none⟩)) ?_
 refine fl_op1W 21 (wif hops 7 true 12 true) (.tmp 20) (.pointer (some ⟨s,0,none⟩)) (.pointer (some ⟨s,0,none⟩)) (fun ρ h1 kk w1 (hg:Grow _ w1) hb hf=>by go_simp) ?_
 refine fl_op1W 22 (wif hops 7 true 12 true) (.tmp 21) (.pointer (some ⟨s,0,none⟩)) (.pointer (some ⟨s,0,none⟩)) (fun ρ h1 kk w1 (hg:Grow _ w1) hb hf=>by go_simp) ?_
 refine fl_op1W 23 (wif hops 7 true 12 true) (.tmp 22) (.pointer (some ⟨s,0,none⟩)) (.pointer (some ⟨s,2,none⟩)) (fun ρ h1 kk w1 (hg:Grow _ w1) hb hf=>by go_simp) ?_
 refine fl_op1W 24 (wif hops 7 true 12 true) (.tmp 23) (.pointer (some ⟨s,2,none⟩)) (.slice A q.length c) (fun ρ h1 kk w1 (hg:Grow _ w1) hb hf=>by have c:=(hBk.grow hg).cell 2;go_simp) ?_
 refine fl_op3 25 (by rfl) (by decide) (wanted_if hops 7 true (by rfl) 12 (by rfl) true (by rfl)) (by rw[hK.out];rfl) (by rfl) (.tmp 14) (.tmp 19) (.tmp 24) (.int .i64 (TE:Int)) (.int .i64 (h:Int)) (.slice A q.length c) (by rfl) (by rfl) (by rfl) (.agg #[.int .i64 (TE:Int),.int .i64 (h:Int),.slice A q.length c]) (fun ρ h1 h2 h3 kk w1 (hg:Grow _ w1) hb hf=>by go_simp) ?_
 refine fl_end (fun _ _ w1 (hg:Grow _ w1) _ hfacts=>hT _ _ ?_)
 clear hops hA' hK hT
 simp only[putsL,Act.put,List.setIfInBounds_toArray,List.set_cons_zero,List.set_cons_succ,List.drop_succ_cons,List.drop_zero]
 obtain⟨V1,V2,hE,hM1,hc1,hc2,hdis⟩:=Many.framed _ hFr w w1 V hM fun b hb=>hg.block b (hV b hb)
 have hs1:=hg.size
 have hk:=keep_ok w1 s x d t h (.slice A q.length c) n bs TE h V1 A c q hte hha hE (fun y hy=>hok _ (List.mem_map.2 ⟨y,hy,rfl⟩)) hn hn0 hroom V2 hM1 (fun b hb=>by have:=hV b (hc2 b hb);omega)
 go_wp2_with fail
 refine hk.mono ?_
 rintro e w2 ⟨rfl,hM2,hj2⟩
 go_wp2_with fail
 go_ret
 refine⟨rfl,⟨A,c,q,rfl,hqc,hcm,V1,Ext V2 w1 w2,hE.just hj2 (fun b hb hv=>hdis b hb hv),hM2,fun b hb => .inl (hc1 b hb),fun b hb=>?_,fun b hb hv=>?_⟩,(Just.of_grow hg).trans (hj2.imp hc2)⟩
 ·rcases hb with hb|hb
  ·exact .inl (hc2 b hb)
  ·exact .inr ⟨by have:=hb.1;omega,hb.2⟩
 ·rcases hv with hv|hv
  ·exact hdis b hb hv
  ·have:=hV b (hc1 b hb);have:=hv.1;omega
def IsBlk (B:Nat) (t:TypeId) (cs:Array Value) (u:Value) (w:World):Prop:=∃ g,u=.pointer (some ⟨g,0,none⟩)∧Blk w g t cs∧B≤g
theorem isBlk_lasting (B:Nat) (t:TypeId) (cs:Array Value):Lasting (IsBlk B t cs):=fun u w w' ⟨g,e,h,hb⟩ hg=>⟨g,e,h.grow hg,hb⟩
theorem run_alcW (w:World) (ρ:Operand→Value) (o:Oper) (ho:o.op=.alloc 257):(execOp ρ o).run Tryz.prog w=.ok (.value (.pointer (some ⟨w.heap.size,0,none⟩))) (w.alloc (.cells #[.int .i64 0,.int .i64 0,.slice none 0 0] 257)):=by
 obtain⟨dst,op,ty,pos,after,guard⟩:=o
 simp only at ho
 subst ho
 go_simp
set_option maxHeartbeats 1000000 in
theorem sAccept_0 (w:World) (s x d:Nat) (t h TE:Nat) (es es':List En) (n:Int) (bs:List UInt8) (D:Nat→Prop) (A9:Option Addr) (c':Nat) (q':List El) (hq':Ens w D A9 q') (hqe:q'.map El.e=es') (htt:t≤TE) (h1:1≤TE) (hlong:h<TE) (hte:TE≤9223372036854775807) (hok':∀ e∈es',e.Ok) (hn':es'.length≤128) (hn0:0≤n∧n≤1099511627776) (hroom:Room bs (wordB TE TE es')) :
 Turns Tryz.prog 170 #[.pointer (some ⟨s,0,none⟩),.int .i64 (TE:Int),.slice A9 es'.length c'] (fun e=>e=.returned (.bool true)) (StateAt s x d t h es n bs) (StateAt s x d TE TE es' (n+1) (bs++frame (wordB TE TE es'))) w:=by
 rintro V ⟨A,c,q,hq,hqc,hcm,hM⟩ hV
 have hl':es'.length=q'.length:=by rw[←hqe,List.length_map]
 have hl0:es.length=q.length:=by rw[←hq,List.length_map]
 clear hq
 have hokq:∀ y∈q',y.e.Ok:=fun y hy=>hok' _ (by rw[←hqe];exact List.mem_map.2 ⟨y,hy,rfl⟩)
 rw[hl'] at hn' ⊢
 have hFr:=state_framed A q s x d (StC t h (.slice A q.length c) x) n bs bs.length
 obtain⟨_,_,_,⟨_,_,hBk0,_⟩,_⟩:=id hM
 have hBk:Blk w s 259 #[.int .i64 (t:Int),.int .i64 (h:Int),.slice A q.length c,.pointer (some ⟨x,0,none⟩)]:=hBk0.2
 clear hBk0
 have d1:decide (TE<t)=false:=decide_eq_false (by omega)
 have d2:decide ((TE:Int)<1)=false:=decide_eq_false (by omega)
 have d3:decide ((q'.length:Int) > 128)=false:=decide_eq_false (by omega)
 have d3':decide ((128:Int)<(q'.length:Int))=false:=decide_eq_false (by omega)
 have dh:decide (h<TE)=true:=decide_eq_true (by omega)
 have k0:=hBk.cell 0
 have k1:=hBk.cell 1
 have k2:=hBk.cell 2
 obtain⟨m,HM⟩:∃ m,Hid (m=q'.length):=⟨_,rfl⟩
 rw[←HM.out] at d3 d3' hn' ⊢
 go_enter Tryz.func170,Tryz.ntmps170
 go_wp2_with fail
 clear k0 k1 k2
 go_loopw [29] (fun i wr=>∃ k:Nat,k≤m∧i=.int .i64 (k:Int)∧Grow w wr) (fun i _=>m-(intOf i).toNat)
 case atStart=>exact⟨0,by omega,rfl,Grow.refl _⟩
 case round=>
  obtain⟨k,hkn,rfl,hgr⟩:=hrel
  by_cases hk:k<m
  ·have hk2:k<q'.length:=by have:=HM.out;omega
   have hqr:=hq'.grow hgr
   obtain⟨ad,hkq,rfl,hVk,hBk2,e0,e1⟩:=hqr.1.rec_ (by omega) el_len hk2
   have hbin:=hqr.2 _ (List.getElem_mem hkq)
   have hokb:=hokq _ (List.getElem_mem hkq)
   generalize q'[k]=b at hbin e0 e1 hokb
   have hRt:=fun w1 (hg1:Grow wr w1)=>Right_ok w1 b.e D b.A b.c hokb (In.grow hbin.1 hg1)
   obtain⟨⟨bk,ag,sh,sq,ep,ds,se,fr,tg⟩,Ab,cb⟩:=b
   dsimp only[El.cells,En.agg] at e0 e1 hRt
   have e2:=e1 1 _ rfl
   have e3:=e1 2 _ rfl
   have e4:=e1 3 _ rfl
   have e5:=e1 4 _ rfl
   have e6:=e1 5 _ rfl
   have e7:=e1 6 _ rfl
   have e8:=e1 7 _ rfl
   have e1:=e1 0 _ rfl
   have e0:=e0 _ rfl
   have hga:=grow_alloc wr (.cells #[.int .i64 bk,.int .i64 ag,.int .i64 sh,.int .i64 sq,.int .i64 ep,.slice Ab ds.length cb,.string se,.int .i64 fr,.int .i64 tg] 32)
   have hRt:=hRt _ hga
   clear hbin hokb hqr
   go_wp2_with fail
   refine hRt.mono ?_
   rintro e w2 ⟨rfl,hg2⟩
   go_wp2_with fail
   go_roundw
   case rel=>exact⟨k+1,by omega,by go_num,hgr.trans (hga.trans hg2)⟩
   case measure=>simp[intOf];omega
  ·obtain rfl:k=m:=by omega
   have hBr:=hBk.grow hgr
   go_wp2_with fail
   refine wp_region_flow 13 89 [(12,.inr (fun _=>IsBlk wr.heap.size 257 #[.int .i64 0,.int .i64 0,.slice none 0 0]))] rfl rfl (by kernel_rfl) (by kernel_rfl) (by kernel_rfl) ?_ ?_
   ·intro x hx φ he
    simp only[List.mem_cons,List.not_mem_nil,or_false] at hx
    rcases hx with rfl<;>cases he
    all_goals first|exact lasts_quiet (lasting_bytes _)|exact lasts_quiet (isBlk_lasting _ _ _)
   intro ops' A' K' T hops hA' hK hT
   refine fl_mvN 37 (.int .i64 (TE:Int)) ?_
   refine fl_mvN 38 (.pointer (some ⟨s,0,none⟩)) ?_
   refine fl_op1G 39 (.tmp 38) (.pointer (some ⟨s,0,none⟩)) (.pointer (some ⟨s,0,none⟩)) ?_
   refine fl_op1G 40 (.tmp 39) (.pointer (some ⟨s,0,none⟩)) (.pointer (some ⟨s,0,none⟩)) ?_
   refine fl_op1G 41 (.tmp 40) (.pointer (some ⟨s,0,none⟩)) (.pointer (some ⟨s,1,none⟩)) ?_
   refine fl_op1N 42 (.tmp 41) (.pointer (some ⟨s,1,none⟩)) (.int .i64 (h:Int)) (fun ρ h1 kk w1 (hg:Grow _ w1) hb hf=>by have c:=(hBr.grow hg).cell 1;go_simp) ?_
   refine fl_mvN 43 (.pointer (some ⟨s,0,none⟩)) ?_
   refine fl_op1G 44 (.tmp 43) (.pointer (some ⟨s,0,none⟩)) (.pointer (some ⟨s,0,none⟩)) ?_
   refine fl_op1G 45 (.tmp 44) (.pointer (some ⟨s,0,none⟩)) (.pointer (some ⟨s,0,none⟩)) ?_
   refine fl_op1G 46 (.tmp 45) (.pointer (some ⟨s,0,none⟩)) (.pointer (some ⟨s,2,none⟩)) ?_
   refine fl_op1N 47 (.tmp 46) (.pointer (some ⟨s,2,none⟩)) (.slice A q.length c) (fun ρ h1 kk w1 (hg:Grow _ w1) hb hf=>by have c:=(hBr.grow hg).cell 2;go_simp) ?_
   refine fl_op3 48 (by rfl) (by decide) (wanted_none (by rfl)) (by rw[hK.out];rfl) (by rfl) (.tmp 37) (.tmp 42) (.tmp 47) (.int .i64 (TE:Int)) (.int .i64 (h:Int)) (.slice A q.length c) (by rfl) (by rfl) (by rfl) (.agg #[.int .i64 (TE:Int),.int .i64 (h:Int),.slice A q.length c]) (fun ρ h1 h2 h3 kk w1 (hg:Grow _ w1) hb hf=>by go_simp) ?_
   refine fl_any 9 (by rfl) (by decide) (wanted_none (by rfl)) (fun _=>IsBlk wr.heap.size 257 #[.int .i64 0,.int .i64 0,.slice none 0 0]) (by rw[hK.out];rfl) (fun kk w1 (hg:Grow _ w1) hb hf=>by refine upon_behindAny (φ:=fun _=>IsBlk wr.heap.size 257 #[.int .i64 0,.int .i64 0,.slice none 0 0]) (by rfl) ?_;exact flowUpon_value (run_alcW w1 _ _ rfl) ⟨grow_alloc w1 _,_,rfl,Blk.made w1 _ _,hg.size⟩) (fun v9=>?_)
   refine fl_end (fun _ _ w1 (hg:Grow _ w1) _ hfacts=>hT _ _ ?_)
   clear hops hA' hK hT
   simp only[putsL,Act.put,List.setIfInBounds_toArray,List.set_cons_zero,List.set_cons_succ,List.drop_succ_cons,List.drop_zero]
   have hgx:=hgr.trans hg
   have hB1:=hBr.grow hg
   obtain⟨y,rfl,hY0,hy0⟩:IsBlk wr.heap.size 257 #[.int .i64 0,.int .i64 0,.slice none 0 0] v9 w1:=hfacts.1
   clear hfacts
   go_wp2_with (refine wpList_fill rfl 257 _ _ rfl _ rfl [.int .i64 (TE:Int),.int .i64 (h:Int),.slice A q.length c] rfl hY0 rfl rfl (by kernel_rfl) ?_;intro wb hY hjb hsb;refine stay ?_)
   refine stay_out ?_
   have hyw:w.heap.size≤y:=by have:=hgr.size;omega
   have hgy:Below w.heap.size w1 wb:=hjb.below (B:=w.heap.size) (fun b hb=>by rw[hb];exact hyw) hgx.size
   have hgb:Grow w wb:=Below.trans hgx hgy
   have hB2:=hBk.grow hgb
   have k1:=hB2.cell 1
   have k2:=hB2.cell 2
   have hqb:=hq'.grow hgb
   have hC:=Copies_any _ D A9 c' q' hqb (by have:=HM.out;omega)
   rw[←HM.out,hqe] at hC
   go_wp2_with fail
   clear k1 k2
   refine hC.mono ?_
   rintro e w2 ⟨u,rfl,hI,_,hg2⟩
   obtain⟨A2,c2,q2,rfl,hE2,hqe2,hqc2,hcm2⟩:=hI
   have hY2:=hY.grow hg2
   have hY3:Blk ((w2.setCell ⟨y,1,none⟩ (.int .i64 (TE:Int))).setCell ⟨y,2,none⟩ (.slice A2 q2.length c2)) y 257 #[.int .i64 (TE:Int),.int .i64 (TE:Int),.slice A2 q2.length c2]:=(hY2.put 1 _).put 2 _
   have jY:=((Just.of_grow (V:=fun b=>b=y) (Grow.refl w2)).put rfl 1 (.int .i64 (TE:Int))).put (V:=fun b=>b=y) rfl 2 (.slice A2 q2.length c2)
   have y1:=hY2.cell 1
   have yf1:=hY2.frozen 1
   have z2:=(hY2.put 1 (.int .i64 (TE:Int))).cell 2
   have zf2:=(hY2.put 1 (.int .i64 (TE:Int))).frozen 2
   have v0:=hY3.cell 0
   have v1:=hY3.cell 1
   have v2:=hY3.cell 2
   have hgs:Grow w w2:=hgb.trans hg2
   obtain⟨V1,V2,hE,hM1,hc1,hc2,hdis⟩:=Many.framed _ hFr w w2 V hM fun b hb=>hgs.block b (hV b hb)
   have hF2:AllFramed [Cell s 259 (StC t h (.slice A q.length c) x),LogAt x d n bs bs.length]:=(AllFramed.nil.cons (LogAt.framed _ _ _ _ _)).cons (Cell.framed _ _ _)
   have hs2:=hgs.size
   have hM3:=Many.framed _ hF2 w2 _ V2 hM1 fun b hb=>jY.block b (by have:=hV b (hc2 b hb);omega) (fun e=>by have:=hV b (hc2 b hb);omega)
   have hE3:=hE2.just jY (fun b hb e=>by have:=hb.1;have:=hY.lt;omega)
   have hb2:∀ b,V2 b→b<w.heap.size:=fun b hb=>hV b (hc2 b hb)
   have hNew:∀ b,New wb w2 b→w.heap.size≤b∧b<w2.heap.size:=fun b hb=>by
    have:=hgb.size;exact⟨by have:=hb.1;omega,hb.2⟩
   obtain⟨w3,HW3⟩:∃ w3:World,Hid (w3=(w2.setCell ⟨y,1,none⟩ (.int .i64 (TE:Int))).setCell ⟨y,2,none⟩ (.slice A2 q2.length c2)):=⟨_,rfl⟩
   have hs3:w3.heap.size=w2.heap.size:=by rw[HW3.out,setCell_size,setCell_size]
   have hk:=keep_ok w3 s x d t h (.slice A q.length c) n bs TE TE (New wb w2) A2 c2 q2 hte hte (by rw[HW3.out];exact hE3) (fun y hy=>hok' _ (by rw[←hqe2];exact List.mem_map.2 ⟨y,hy,rfl⟩)) (by have h5:q2.length=es'.length:=(by rw[←hqe2,List.length_map]);have:=HM.out;omega) hn0 (by rw[hqe2];exact hroom) V2 (by rw[HW3.out];exact hM3) (fun b hb=>by have:=hb2 b hb;omega)
   rw[hqe2] at hk
   go_wp2_with fail
   rw[←HW3.out]
   refine hk.mono ?_
   rintro e w4 ⟨rfl,hM4,hj4⟩
   go_wp2_with fail
   go_ret
   rw[←HW3.out] at hE3 jY
   have hjy:Just (fun b=>V b∨w.heap.size≤b) w2 w3:=jY.imp fun b hb => .inr (by rw[hb];exact hyw)
   have J:Just (fun b=>V b∨w.heap.size≤b) w w4:=((Just.of_grow hgs).trans hjy).trans (hj4.imp fun b hb => .inl (hc2 b hb))
   have hs4:=hj4.size
   refine⟨rfl,⟨A2,c2,q2,hqe2,hqc2,hcm2,New wb w2,Ext V2 w3 w4,hE3.just hj4 (fun b hb hv=>by have:=hb2 b hv;have:=hNew b hb;omega),hM4,fun b hb => .inr ⟨(hNew b hb).1,by have:=(hNew b hb).2;omega⟩,fun b hb=>?_,fun b hb hv=>?_⟩,⟨J.os,J.tape,J.output,J.size,fun b hb hne=>J.block b hb fun h=>h.elim hne (fun h=>by omega)⟩⟩
   ·rcases hb with hb|hb
    ·exact .inl (hc2 b hb)
    ·exact .inr ⟨by have:=hb.1;omega,hb.2⟩
   ·rcases hv with hv|hv
    ·have:=hb2 b hv;have:=hNew b hb;omega
    ·have:=(hNew b hb).2;have:=hv.1;omega
set_option maxHeartbeats 1000000 in
theorem sAccept_1 (w:World) (s x d:Nat) (t TE:Nat) (es es':List En) (n:Int) (bs:List UInt8) (D:Nat→Prop) (A9:Option Addr) (c':Nat) (q':List El) (hq':Ens w D A9 q') (hqe:q'.map El.e=es') (htt:t≤TE) (h1:1≤TE) (hlong:es.length<es'.length) (hte:TE≤9223372036854775807) (hok':∀ e∈es',e.Ok) (hn':es'.length≤128) (hn0:0≤n∧n≤1099511627776) (hroom:Room bs (wordB TE TE es')) :
 Turns Tryz.prog 170 #[.pointer (some ⟨s,0,none⟩),.int .i64 (TE:Int),.slice A9 es'.length c'] (fun e=>e=.returned (.bool true)) (StateAt s x d t TE es n bs) (StateAt s x d TE TE es' (n+1) (bs++frame (wordB TE TE es'))) w:=by
 rintro V ⟨A,c,q,hq,hqc,hcm,hM⟩ hV
 have hl':es'.length=q'.length:=by rw[←hqe,List.length_map]
 have hl0:es.length=q.length:=by rw[←hq,List.length_map]
 clear hq
 have hokq:∀ y∈q',y.e.Ok:=fun y hy=>hok' _ (by rw[←hqe];exact List.mem_map.2 ⟨y,hy,rfl⟩)
 rw[hl'] at hn' ⊢
 have hFr:=state_framed A q s x d (StC t TE (.slice A q.length c) x) n bs bs.length
 obtain⟨_,_,_,⟨_,_,hBk0,_⟩,_⟩:=id hM
 have hBk:Blk w s 259 #[.int .i64 (t:Int),.int .i64 (TE:Int),.slice A q.length c,.pointer (some ⟨x,0,none⟩)]:=hBk0.2
 clear hBk0
 have d1:decide (TE<t)=false:=decide_eq_false (by omega)
 have d2:decide ((TE:Int)<1)=false:=decide_eq_false (by omega)
 have d3:decide ((q'.length:Int) > 128)=false:=decide_eq_false (by omega)
 have d3':decide ((128:Int)<(q'.length:Int))=false:=decide_eq_false (by omega)
 have dl:decide (q.length<q'.length)=true:=decide_eq_true (by omega)
 have k0:=hBk.cell 0
 have k1:=hBk.cell 1
 have k2:=hBk.cell 2
 obtain⟨m,HM⟩:∃ m,Hid (m=q'.length):=⟨_,rfl⟩
 rw[←HM.out] at d3 d3' hn' dl ⊢
 go_enter Tryz.func170,Tryz.ntmps170
 go_wp2_with fail
 clear k0 k1 k2
 go_loopw [29] (fun i wr=>∃ k:Nat,k≤m∧i=.int .i64 (k:Int)∧Grow w wr) (fun i _=>m-(intOf i).toNat)
 case atStart=>exact⟨0,by omega,rfl,Grow.refl _⟩
 case round=>
  obtain⟨k,hkn,rfl,hgr⟩:=hrel
  by_cases hk:k<m
  ·have hk2:k<q'.length:=by have:=HM.out;omega
   have hqr:=hq'.grow hgr
   obtain⟨ad,hkq,rfl,hVk,hBk2,e0,e1⟩:=hqr.1.rec_ (by omega) el_len hk2
   have hbin:=hqr.2 _ (List.getElem_mem hkq)
   have hokb:=hokq _ (List.getElem_mem hkq)
   generalize q'[k]=b at hbin e0 e1 hokb
   have hRt:=fun w1 (hg1:Grow wr w1)=>Right_ok w1 b.e D b.A b.c hokb (In.grow hbin.1 hg1)
   obtain⟨⟨bk,ag,sh,sq,ep,ds,se,fr,tg⟩,Ab,cb⟩:=b
   dsimp only[El.cells,En.agg] at e0 e1 hRt
   have e2:=e1 1 _ rfl
   have e3:=e1 2 _ rfl
   have e4:=e1 3 _ rfl
   have e5:=e1 4 _ rfl
   have e6:=e1 5 _ rfl
   have e7:=e1 6 _ rfl
   have e8:=e1 7 _ rfl
   have e1:=e1 0 _ rfl
   have e0:=e0 _ rfl
   have hga:=grow_alloc wr (.cells #[.int .i64 bk,.int .i64 ag,.int .i64 sh,.int .i64 sq,.int .i64 ep,.slice Ab ds.length cb,.string se,.int .i64 fr,.int .i64 tg] 32)
   have hRt:=hRt _ hga
   clear hbin hokb hqr
   go_wp2_with fail
   refine hRt.mono ?_
   rintro e w2 ⟨rfl,hg2⟩
   go_wp2_with fail
   go_roundw
   case rel=>exact⟨k+1,by omega,by go_num,hgr.trans (hga.trans hg2)⟩
   case measure=>simp[intOf];omega
  ·obtain rfl:k=m:=by omega
   have hBr:=hBk.grow hgr
   go_wp2_with fail
   refine wp_region_flow 13 89 [(12,.inr (fun _=>IsBlk wr.heap.size 257 #[.int .i64 0,.int .i64 0,.slice none 0 0]))] rfl rfl (by kernel_rfl) (by kernel_rfl) (by kernel_rfl) ?_ ?_
   ·intro x hx φ he
    simp only[List.mem_cons,List.not_mem_nil,or_false] at hx
    rcases hx with rfl<;>cases he
    all_goals first|exact lasts_quiet (lasting_bytes _)|exact lasts_quiet (isBlk_lasting _ _ _)
   intro ops' A' K' T hops hA' hK hT
   refine fl_mvN 37 (.int .i64 (TE:Int)) ?_
   refine fl_mvN 38 (.pointer (some ⟨s,0,none⟩)) ?_
   refine fl_op1G 39 (.tmp 38) (.pointer (some ⟨s,0,none⟩)) (.pointer (some ⟨s,0,none⟩)) ?_
   refine fl_op1G 40 (.tmp 39) (.pointer (some ⟨s,0,none⟩)) (.pointer (some ⟨s,0,none⟩)) ?_
   refine fl_op1G 41 (.tmp 40) (.pointer (some ⟨s,0,none⟩)) (.pointer (some ⟨s,1,none⟩)) ?_
   refine fl_op1N 42 (.tmp 41) (.pointer (some ⟨s,1,none⟩)) (.int .i64 (TE:Int)) (fun ρ h1 kk w1 (hg:Grow _ w1) hb hf=>by have c:=(hBr.grow hg).cell 1;go_simp) ?_
   refine fl_mvN 43 (.pointer (some ⟨s,0,none⟩)) ?_
   refine fl_op1G 44 (.tmp 43) (.pointer (some ⟨s,0,none⟩)) (.pointer (some ⟨s,0,none⟩)) ?_
   refine fl_op1G 45 (.tmp 44) (.pointer (some ⟨s,0,none⟩)) (.pointer (some ⟨s,0,none⟩)) ?_
   refine fl_op1G 46 (.tmp 45) (.pointer (some ⟨s,0,none⟩)) (.pointer (some ⟨s,2,none⟩)) ?_
   refine fl_op1N 47 (.tmp 46) (.pointer (some ⟨s,2,none⟩)) (.slice A q.length c) (fun ρ h1 kk w1 (hg:Grow _ w1) hb hf=>by have c:=(hBr.grow hg).cell 2;go_simp) ?_
   refine fl_op3 48 (by rfl) (by decide) (wanted_none (by rfl)) (by rw[hK.out];rfl) (by rfl) (.tmp 37) (.tmp 42) (.tmp 47) (.int .i64 (TE:Int)) (.int .i64 (TE:Int)) (.slice A q.length c) (by rfl) (by rfl) (by rfl) (.agg #[.int .i64 (TE:Int),.int .i64 (TE:Int),.slice A q.length c]) (fun ρ h1 h2 h3 kk w1 (hg:Grow _ w1) hb hf=>by go_simp) ?_
   refine fl_any 9 (by rfl) (by decide) (wanted_none (by rfl)) (fun _=>IsBlk wr.heap.size 257 #[.int .i64 0,.int .i64 0,.slice none 0 0]) (by rw[hK.out];rfl) (fun kk w1 (hg:Grow _ w1) hb hf=>by refine upon_behindAny (φ:=fun _=>IsBlk wr.heap.size 257 #[.int .i64 0,.int .i64 0,.slice none 0 0]) (by rfl) ?_;exact flowUpon_value (run_alcW w1 _ _ rfl) ⟨grow_alloc w1 _,_,rfl,Blk.made w1 _ _,hg.size⟩) (fun v9=>?_)
   refine fl_end (fun _ _ w1 (hg:Grow _ w1) _ hfacts=>hT _ _ ?_)
   clear hops hA' hK hT
   simp only[putsL,Act.put,List.setIfInBounds_toArray,List.set_cons_zero,List.set_cons_succ,List.drop_succ_cons,List.drop_zero]
   have hgx:=hgr.trans hg
   have hB1:=hBr.grow hg
   obtain⟨y,rfl,hY0,hy0⟩:IsBlk wr.heap.size 257 #[.int .i64 0,.int .i64 0,.slice none 0 0] v9 w1:=hfacts.1
   clear hfacts
   go_wp2_with (refine wpList_fill rfl 257 _ _ rfl _ rfl [.int .i64 (TE:Int),.int .i64 (TE:Int),.slice A q.length c] rfl hY0 rfl rfl (by kernel_rfl) ?_;intro wb hY hjb hsb;refine stay ?_)
   refine stay_out ?_
   have hyw:w.heap.size≤y:=by have:=hgr.size;omega
   have hgy:Below w.heap.size w1 wb:=hjb.below (B:=w.heap.size) (fun b hb=>by rw[hb];exact hyw) hgx.size
   have hgb:Grow w wb:=Below.trans hgx hgy
   have hB2:=hBk.grow hgb
   have k1:=hB2.cell 1
   have k2:=hB2.cell 2
   have hqb:=hq'.grow hgb
   have hC:=Copies_any _ D A9 c' q' hqb (by have:=HM.out;omega)
   rw[←HM.out,hqe] at hC
   go_wp2_with fail
   clear k1 k2
   refine hC.mono ?_
   rintro e w2 ⟨u,rfl,hI,_,hg2⟩
   obtain⟨A2,c2,q2,rfl,hE2,hqe2,hqc2,hcm2⟩:=hI
   have hY2:=hY.grow hg2
   have hY3:Blk ((w2.setCell ⟨y,1,none⟩ (.int .i64 (TE:Int))).setCell ⟨y,2,none⟩ (.slice A2 q2.length c2)) y 257 #[.int .i64 (TE:Int),.int .i64 (TE:Int),.slice A2 q2.length c2]:=(hY2.put 1 _).put 2 _
   have jY:=((Just.of_grow (V:=fun b=>b=y) (Grow.refl w2)).put rfl 1 (.int .i64 (TE:Int))).put (V:=fun b=>b=y) rfl 2 (.slice A2 q2.length c2)
   have y1:=hY2.cell 1
   have yf1:=hY2.frozen 1
   have z2:=(hY2.put 1 (.int .i64 (TE:Int))).cell 2
   have zf2:=(hY2.put 1 (.int .i64 (TE:Int))).frozen 2
   have v0:=hY3.cell 0
   have v1:=hY3.cell 1
   have v2:=hY3.cell 2
   have hgs:Grow w w2:=hgb.trans hg2
   obtain⟨V1,V2,hE,hM1,hc1,hc2,hdis⟩:=Many.framed _ hFr w w2 V hM fun b hb=>hgs.block b (hV b hb)
   have hF2:AllFramed [Cell s 259 (StC t TE (.slice A q.length c) x),LogAt x d n bs bs.length]:=(AllFramed.nil.cons (LogAt.framed _ _ _ _ _)).cons (Cell.framed _ _ _)
   have hs2:=hgs.size
   have hM3:=Many.framed _ hF2 w2 _ V2 hM1 fun b hb=>jY.block b (by have:=hV b (hc2 b hb);omega) (fun e=>by have:=hV b (hc2 b hb);omega)
   have hE3:=hE2.just jY (fun b hb e=>by have:=hb.1;have:=hY.lt;omega)
   have hb2:∀ b,V2 b→b<w.heap.size:=fun b hb=>hV b (hc2 b hb)
   have hNew:∀ b,New wb w2 b→w.heap.size≤b∧b<w2.heap.size:=fun b hb=>by
    have:=hgb.size;exact⟨by have:=hb.1;omega,hb.2⟩
   obtain⟨w3,HW3⟩:∃ w3:World,Hid (w3=(w2.setCell ⟨y,1,none⟩ (.int .i64 (TE:Int))).setCell ⟨y,2,none⟩ (.slice A2 q2.length c2)):=⟨_,rfl⟩
   have hs3:w3.heap.size=w2.heap.size:=by rw[HW3.out,setCell_size,setCell_size]
   have hk:=keep_ok w3 s x d t TE (.slice A q.length c) n bs TE TE (New wb w2) A2 c2 q2 hte hte (by rw[HW3.out];exact hE3) (fun y hy=>hok' _ (by rw[←hqe2];exact List.mem_map.2 ⟨y,hy,rfl⟩)) (by have h5:q2.length=es'.length:=(by rw[←hqe2,List.length_map]);have:=HM.out;omega) hn0 (by rw[hqe2];exact hroom) V2 (by rw[HW3.out];exact hM3) (fun b hb=>by have:=hb2 b hb;omega)
   rw[hqe2] at hk
   go_wp2_with fail
   rw[←HW3.out]
   refine hk.mono ?_
   rintro e w4 ⟨rfl,hM4,hj4⟩
   go_wp2_with fail
   go_ret
   rw[←HW3.out] at hE3 jY
   have hjy:Just (fun b=>V b∨w.heap.size≤b) w2 w3:=jY.imp fun b hb => .inr (by rw[hb];exact hyw)
   have J:Just (fun b=>V b∨w.heap.size≤b) w w4:=((Just.of_grow hgs).trans hjy).trans (hj4.imp fun b hb => .inl (hc2 b hb))
   have hs4:=hj4.size
   refine⟨rfl,⟨A2,c2,q2,hqe2,hqc2,hcm2,New wb w2,Ext V2 w3 w4,hE3.just hj4 (fun b hb hv=>by have:=hb2 b hv;have:=hNew b hb;omega),hM4,fun b hb => .inr ⟨(hNew b hb).1,by have:=(hNew b hb).2;omega⟩,fun b hb=>?_,fun b hb hv=>?_⟩,⟨J.os,J.tape,J.output,J.size,fun b hb hne=>J.block b hb fun h=>h.elim hne (fun h=>by omega)⟩⟩
   ·rcases hb with hb|hb
    ·exact .inl (hc2 b hb)
    ·exact .inr ⟨by have:=hb.1;omega,hb.2⟩
   ·rcases hv with hv|hv
    ·have:=hb2 b hv;have:=hNew b hb;omega
    ·have:=(hNew b hb).2;have:=hv.1;omega
theorem scan_empty:ScanIs [] [] 0:=⟨rfl,rfl,by simp,fun y _ hp=>by
 have h1:(frame y).length≤0:=hp.length_le
 have:=frame_five y
 omega⟩
theorem sOpen_new (w:World) (d:Nat) (V:Nat→Prop) (hD:DiskAt 133 d [] 0 w V) (hV:∀ b,V b→b<w.heap.size) :
 Calls Tryz.prog 81 #[.pointer (some ⟨d,0,none⟩)] w fun e w'=>∃ s x,e=.returned (.pointer (some ⟨s,0,none⟩))∧StateAt s x d 0 0 [] 0 [] w' (Ext V w w')∧Just V w w':=by
 have hO:=Open_any w d [] 0 V hD hV
 go_enter Tryz.func81,Tryz.ntmps81
 go_wp2_with fail
 refine hO.mono ?_
 rintro e w1 ⟨xs,j,x,u,hs,rfl,hX,hL,hj⟩
 obtain⟨rfl,rfl⟩:=hs.one scan_empty
 obtain⟨A1,c1,q1,rfl,hB1,hq1,hqc1,hcm1⟩:=hX
 have hql:q1.length=0:=by have:=congrArg List.length hq1;simpa using this
 rw[hql]
 have hL:LogAt x d 0 [] 0 w1 (Ext V w w1):=hL
 have hlt:∀ b,Ext V w w1 b→b<w1.heap.size:=fun b hb=>by
  rcases hb with hb|hb
  ·have:=hV b hb;have:=hj.size;omega
  ·exact hb.2
 have hga:=grow_alloc w1 (.cells #[.int .i64 0,.int .i64 0,.slice none 0 0,.pointer (some ⟨x,0,none⟩)] 259)
 have hSb:=Blk.made w1 259 #[.int .i64 0,.int .i64 0,.slice none 0 0,.pointer (some ⟨x,0,none⟩)]
 have hL2:=LogAt.framed x d 0 [] 0 w1 _ _ hL fun b hb=>hga.block b (hlt b hb)
 obtain⟨s,HS⟩:∃ s:Nat,Hid (s=w1.heap.size):=⟨_,rfl⟩
 obtain⟨wa,HA⟩:∃ wa:World,Hid (wa=w1.alloc (.cells #[.int .i64 0,.int .i64 0,.slice none 0 0,.pointer (some ⟨x,0,none⟩)] 259)):=⟨_,rfl⟩
 rw[←HA.out] at hga hSb hL2
 rw[←HS.out] at hSb
 have hsa:wa.heap.size=s+1:=by rw[HA.out,HS.out];simp
 go_wp2_with fail
 rw[←HA.out,←HS.out]
 go_loopw [22] (fun i wr=>i=.int .i64 0∧wa=wr) (fun _ _=>0)
 case atStart=>exact⟨rfl,rfl⟩
 case round=>
  obtain⟨rfl,rfl⟩:=hrel
  go_wp2_with fail
  go_ret
  have hws:w.heap.size≤s:=by have:=HS.out;have:=hj.size;omega
  refine⟨s,x,rfl,⟨none,0,[],rfl,Nat.le_refl _,Nat.zero_le _,fun _=>False,Ext V w wa,Ens.nil,⟨fun b=>b=s,Ext V w w1,⟨rfl,hSb⟩,?_,fun b hb=>?_,fun b hb=>?_,fun b hb hv=>?_⟩,fun _ h=>h.elim,fun b hb=>hb,fun _ h=>h.elim⟩,hj.trans (Just.of_grow hga)⟩
  ·exact⟨Ext V w w1,fun _=>False,hL2,trivial,fun b hb=>hb,fun _ h=>h.elim,fun _ _ h=>h⟩
  ·exact .inr ⟨by rw[hb];exact hws,by rw[hb];omega⟩
  ·rcases hb with hb|hb
   ·exact .inl hb
   ·exact .inr ⟨hb.1,by have:=hb.2;have:=HS.out;omega⟩
  ·have:=hlt b hv;have:=HS.out;omega
end Go.Proofs.YtmijcbfgfkeodaaGreatDoor
end
