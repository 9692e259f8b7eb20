/- Vo1, Vo2, Bk2, Qbat, Qsome, Qque. -/
import Derived.Test.YtmijcbfgfkeodaaGreatDoorGz12
set_option linter.all false
set_option maxRecDepth 100000
section
namespace Go.Proofs.YtmijcbfgfkeodaaGreatDoor
open Go.RowKit Go.Hop Go.Proofs.YtmijcbfgfkeodaaGreatDoor.V
def eB (e:En):List UInt8:=enc (enB e).length++enB e
def esB (l:List En):List UInt8:=l.flatMap eB
theorem eB_len {e:En} (h:e.Ok):(eB e).length≤9010:=by
 have:=enB_len h
 have:=enc_ten (n:=(enB e).length) (by omega)
 unfold eB
 rw[List.length_append]
 omega
theorem esB_len:∀ (l:List En),(∀ e∈l,e.Ok)→(esB l).length≤l.length*9010
 | [],_=>by simp[esB]
 | e :: l,h=>by
   have h1:=esB_len l fun x hx=>h x (by simp[hx])
   have h2:=eB_len (h e (by simp))
   rw[show esB (e :: l)=eB e++esB l from rfl,List.length_append,List.length_cons]
   omega
theorem esB_more (l:List En) (e:En):esB (l++[e])=esB l++eB e:=by simp[esB]
theorem mPut_any (w:World) (u:Value) (l:List UInt8) (D:Nat→Prop) (A:Option Addr) (c:Nat) (q:List El) (hu:IsBytes l u w) (hl:l.length≤1048576) (hq:Ens w D A q) (hok:∀ x∈q,x.e.Ok) (hn:q.length≤1024) :
 Calls Tryz.prog 228 #[u,.slice A q.length c] w fun e w'=>∃ v,e=.returned v∧Grow w w'∧IsBytes (l++enc q.length++esB (q.map El.e)) v w':=by
 have wq:IntKind.u64.wrap (q.length:Int)=(q.length:Int):=by rw[wrap_u64];omega
 have hP:=vPut_is w u l q.length hu (by omega) (by omega)
 have hel:=enc_ten (n:=q.length) (by omega)
 obtain⟨L0,HL0⟩:∃ L0:List UInt8,Hid (L0=l++enc q.length):=⟨_,Lib.hid rfl⟩
 rw[←HL0.out] at hP ⊢
 have hL0:L0.length≤1048600:=by rw[HL0.out,List.length_append];omega
 go_enter Tryz.func228,Tryz.ntmps228
 go_wp2_with fail
 refine hP.mono ?_
 rintro e w1 ⟨v1,rfl,hg1,hb1⟩
 have hq1:=hq.grow hg1
 go_wp2_with fail
 go_loopw [0,16] (fun v i wr=>∃ k:Nat,k≤q.length∧i=.int .i64 k∧IsBytes (L0++esB ((q.take k).map El.e)) v wr∧Grow w1 wr) (fun _ i _=>q.length-(intOf i).toNat)
 case atStart=>exact⟨0,by omega,rfl,by simpa [esB] using hb1,Grow.refl _⟩
 case round=>
  obtain⟨k,hkn,rfl,hI,hgr⟩:=hrel
  by_cases hk:k<q.length
  ·have hqr:=hq1.grow hgr
   obtain⟨ad,hkq,rfl,hV,hBk,e0,e1⟩:=hqr.1.rec_ (by omega) el_len hk
   have hbin:=hqr.2 q[k] (List.getElem_mem hkq)
   have hsn:q.take (k+1)=q.take k++[q[k]]:=List.take_succ_eq_append_getElem hkq
   have hqm:=List.getElem_mem hkq
   have HS:=Lib.hid hsn
   clear hsn
   have hokb:=hok _ hqm
   have hll:=esB_len ((q.take k).map El.e) fun e he=>by obtain⟨x,hx,rfl⟩:=List.mem_map.1 he;exact hok x (List.mem_of_mem_take hx)
   rw[List.length_map,List.length_take,Nat.min_eq_left (by omega)] at hll
   have HLL:=Lib.hid hll
   clear hll hqm
   generalize q[k]=b at hbin e0 e1 HS hokb
   have hEB:=fun w1 (hg1:Grow wr w1)=>Bytes_ok w1 b.e D b.A b.c hokb (In.grow hbin.1 hg1)
   have hlen:=enB_len hokb
   obtain⟨⟨bk,ag,sh,sq,ep,ds,se,fr,tg⟩,Ab,cb⟩:=b
   dsimp only[El.cells,En.agg] at e0 e1 hEB
   have e2:=e1 1 _ rfl
   have e3:=e1 2 _ rfl
   have e4:=e1 3 _ rfl
   have e5:=e1 4 _ rfl
   have e6:=e1 5 _ rfl
   have e7:=e1 6 _ rfl
   have e8:=e1 7 _ rfl
   have e1:=e1 0 _ rfl
   have e0:=e0 _ rfl
   have hga:=grow_alloc wr (.cells #[.int .i64 bk,.int .i64 ag,.int .i64 sh,.int .i64 sq,.int .i64 ep,.slice Ab ds.length cb,.string se,.int .i64 fr,.int .i64 tg] 32)
   have hEB:=hEB _ hga
   obtain⟨bs,HB⟩:∃ bs:List UInt8,Hid (bs=enB ⟨bk,ag,sh,sq,ep,ds,se,fr,tg⟩):=⟨_,Lib.hid rfl⟩
   rw[←HB.out] at hEB hlen
   clear hbin hokb
   go_wp2_with fail
   refine hEB.mono ?_
   rintro e w2 ⟨v2,rfl,hg2,hb2⟩
   have cv:=conv_is w2 hb2
   have hT:=vText_is w2 u0 _ ⟨bs.toArray⟩ (hI.below (hga.trans hg2)) (by rw[List.length_append];have:=HLL.out;have:=Nat.mul_le_mul_right 9010 (show k≤1024 by omega);omega) (by show bs.toArray.size≤_;simp;omega)
   rw[show (ByteArray.mk bs.toArray).size=bs.length by show bs.toArray.size=_;simp,show (ByteArray.mk bs.toArray).data.toList=bs from rfl] at hT
   go_wp2_with fail
   refine hT.mono ?_
   rintro e w3 ⟨v3,rfl,hg3,hb3⟩
   have hb4:IsBytes (L0++esB ((q.take (k+1)).map El.e)) v3 w3:=by
    rw[HS.out,List.map_append,List.map_cons,List.map_nil,esB_more,←List.append_assoc]
    show IsBytes (L0++esB ((q.take k).map El.e)++(enc (enB ⟨bk,ag,sh,sq,ep,ds,se,fr,tg⟩).length++enB ⟨bk,ag,sh,sq,ep,ds,se,fr,tg⟩)) v3 w3
    rw[←HB.out,←List.append_assoc]
    exact hb3
   go_wp2_with fail
   go_roundw
   case rel=>exact⟨k+1,by omega,by go_num,hb4,hgr.trans (hga.trans (hg2.trans hg3))⟩
   case measure=>simp[intOf];omega
  ·obtain rfl:k=q.length:=by omega
   rw[List.take_length] at hI
   go_wp2_with fail
   go_ret
   exact⟨_,rfl,hg1.trans hgr,hI⟩
theorem lWrite_ok (w:World) (x d:Nat) (n:Int) (l b:List UInt8) (u:Value) (hb:IsBytes b u w) (hn:0≤n∧n≤1099511627776) (h1:b.length≤65536) (h2:l.length+(frame b).length≤1048576) :
 Turns Tryz.prog 68 #[.pointer (some ⟨x,0,none⟩),u] (fun e=>e=.returned (.int .i64 0)) (LogAt x d n l l.length) (LogAt x d (n+1) (l++frame b) (l++frame b).length) w:=by
 intro V hL hV
 obtain⟨A,m,c,rfl,hbb,_⟩:=hb
 have hA:=lAppend_any w x d n l l.length A m c b hbb hn V hL hV
 have hf:fits l (frame b)=true:=fits_of h2
 have hz:recE l b=0:=by unfold recE;rw[if_pos h1];exact appE_zero.2 hf
 have hr:recL l b=l++frame b:=by unfold recL appL;rw[if_pos h1,if_pos hf]
 rw[hz,if_pos rfl,hr] at hA
 clear hz hr hf
 go_enter Tryz.func68,Tryz.ntmps68
 go_wp2_with fail
 refine hA.mono ?_
 rintro e w1 ⟨rfl,hL1,hj1⟩
 have hlt:∀ b,Ext V w w1 b→b<w1.heap.size:=fun b hb=>by
  rcases hb with hb|hb
  ·have:=hV b hb;have:=hj1.size;omega
  ·exact hb.2
 have hS:=lSync_any w1 x d (n+1) (l++frame b) l.length _ hL1 hlt
 go_wp2_with fail
 refine hS.mono ?_
 rintro e w2 ⟨rfl,hL2,hj2⟩
 go_wp2_with fail
 go_ret
 refine⟨rfl,hL2.wide fun b hb=>?_,⟨hj2.os.trans hj1.os,hj2.tape.trans hj1.tape,hj2.output.trans hj1.output,Nat.le_trans hj1.size hj2.size,fun b hb hne=>(hj2.block b (Nat.lt_of_lt_of_le hb hj1.size) fun h=>?_).trans (hj1.block b hb hne)⟩⟩
 ·rcases hb with (hb|hb)|hb
  ·exact .inl hb
  ·exact .inr ⟨hb.1,Nat.lt_of_lt_of_le hb.2 hj2.size⟩
  ·exact .inr ⟨Nat.le_trans hj1.size hb.1,hb.2⟩
 ·rcases h with h|h
  ·exact hne h
  ·have:=h.1;omega
def EnsT (A:Option Addr) (q:List El):Thing:=fun w V=>Ens w V A q
theorem EnsT.framed (A:Option Addr) (q:List El):Framed (EnsT A q):=fun w w' V h hk=>⟨h.1.keep fun b hb _=>hk b hb,fun x hx=>⟨In.keep (h.2 x hx).1 fun b hb _=>hk b hb,(h.2 x hx).2⟩⟩
def wordB (t h:Nat) (l:List En):List UInt8:=enc t++enc h++enc l.length++esB l
theorem wordB_len {t h:Nat} {l:List En} (h1:t<18446744073709551616) (h2:h<18446744073709551616) (hl:∀ e∈l,e.Ok):(wordB t h l).length≤30+l.length*9010∨18446744073709551616≤l.length:=by
 rcases Nat.lt_or_ge l.length 18446744073709551616 with h3|h3
 ·have:=enc_ten h1
  have:=enc_ten h2
  have:=enc_ten h3
  have:=esB_len l hl
  refine .inl ?_
  unfold wordB
  simp only[List.length_append]
  omega
 ·exact .inr h3
def StC (t h:Int) (sl:Value) (x:Nat):Array Value:=#[.int .i64 t,.int .i64 h,sl,.pointer (some ⟨x,0,none⟩)]
def Room (bs b:List UInt8):Prop:=b.length≤65536∧bs.length+(frame b).length≤1048576
theorem keep_ok (w:World) (s x d:Nat) (t0 h0:Int) (sl0:Value) (n:Int) (bs:List UInt8) (TE HA:Nat) (D:Nat→Prop) (A:Option Addr) (c:Nat) (q:List El) (hte:TE≤9223372036854775807) (hha:HA≤9223372036854775807)
 (hq:Ens w D A q) (hok:∀ x∈q,x.e.Ok) (hn:q.length≤1024) (hn0:0≤n∧n≤1099511627776) (hroom:Room bs (wordB TE HA (q.map El.e))) (V:Nat→Prop) (hM:Many [Cell s 259 (StC t0 h0 sl0 x),LogAt x d n bs bs.length] w V) (hV:∀ b,V b→b<w.heap.size) :
 Calls Tryz.prog 166 #[.pointer (some ⟨s,0,none⟩),.agg #[.int .i64 (TE:Int),.int .i64 (HA:Int),.slice A q.length c]] w fun e w'=>e=.returned (.bool true)∧Many [Cell s 259 (StC TE HA (.slice A q.length c) x),LogAt x d (n+1) (bs++frame (wordB TE HA (q.map El.e))) (bs++frame (wordB TE HA (q.map El.e))).length] w' (Ext V w w')∧Just V w w':=by
 have hF:AllFramed [LogAt x d n bs bs.length]:=AllFramed.nil.cons (LogAt.framed _ _ _ _ _)
 have hS:=Solo.begin_ hM hV
 have hwd:wordB TE HA (q.map El.e)=enc TE++enc HA++enc q.length++esB (q.map El.e):=by unfold wordB;rw[List.length_map]
 obtain⟨WB,HWB⟩:∃ WB:List UInt8,Hid (WB=wordB TE HA (q.map El.e)):=⟨_,Lib.hid rfl⟩
 rw[←HWB.out] at hroom hwd ⊢
 have HWD:=Lib.hid hwd
 clear hwd
 have k219:∀ (vs:Array Value) (w:World),(callFunc 219 vs).run Tryz.prog w=.ok (.enter 219 vs) w:=fun vs w=>by go_simp
 have k228:∀ (vs:Array Value) (w:World),(callFunc 228 vs).run Tryz.prog w=.ok (.enter 228 vs) w:=fun vs w=>by go_simp
 have hg0:=grow_alloc w (.cells #[.int .i64 (TE:Int),.int .i64 (HA:Int),.slice A q.length c] 257)
 have hBw:=Blk.made w 257 #[.int .i64 (TE:Int),.int .i64 (HA:Int),.slice A q.length c]
 obtain⟨y,HY⟩:∃ y:Nat,Hid (y=w.heap.size):=⟨_,rfl⟩
 obtain⟨wa,HA_⟩:∃ wa:World,Hid (wa=w.alloc (.cells #[.int .i64 (TE:Int),.int .i64 (HA:Int),.slice A q.length c] 257)):=⟨_,rfl⟩
 rw[←HA_.out] at hg0 hBw
 rw[←HY.out] at hBw
 have hF2:AllFramed [Cell s 259 (StC t0 h0 sl0 x),LogAt x d n bs bs.length]:=hF.cons (Cell.framed _ _ _)
 have hSa:=hS.join hF2 hg0 (R:=Cell y 257 #[.int .i64 (TE:Int),.int .i64 (HA:Int),.slice A q.length c]) (U:=fun b=>b=y) ⟨rfl,hBw⟩ (fun b hb=>by have:=HY.out;have:=hBw.lt;omega)
 have hqa:=hq.grow hg0
 have wT:IntKind.u64.wrap (TE:Int)=(TE:Int):=by rw[wrap_u64];omega
 have wH:IntKind.u64.wrap (HA:Int)=(HA:Int):=by rw[wrap_u64];omega
 have eT:=enc_ten (n:=TE) (by omega)
 have eH:=enc_ten (n:=HA) (by omega)
 go_enter Tryz.func166,Tryz.ntmps166
 go_wp2_with fail
 rw[←HA_.out,←HY.out]
 refine wp_region_flow 12 28 [(3,.inr (fun _=>IsBytes (enc TE))),(7,.inr (fun _=>IsBytes (enc TE++enc HA))),(10,.inr (fun _=>IsBytes (enc TE++enc HA++enc q.length++esB (q.map El.e))))] rfl rfl (by kernel_rfl) (by kernel_rfl) (by kernel_rfl) ?_ ?_
 ·intro x hx φ he
  simp only[List.mem_cons,List.not_mem_nil,or_false] at hx
  rcases hx with rfl|rfl|rfl<;>cases he
  all_goals first|exact lasts_quiet (lasting_bytes _)|fail
 intro ops' A' K' T hops hA' hK hT
 refine fl_op1G 6 (.tmp 3) (.pointer (some ⟨y,0,none⟩)) (.pointer (some ⟨y,0,none⟩)) ?_
 refine fl_op1N 7 (.tmp 6) (.pointer (some ⟨y,0,none⟩)) (.int .i64 (TE:Int)) (fun ρ h1 kk w1 (hg:Grow _ w1) hb hf=>by have c:=(hBw.grow hg).cell 0;go_simp) ?_
 refine fl_op1N 8 (.tmp 7) (.int .i64 (TE:Int)) (.int .u64 (TE:Int)) (fun ρ h1 kk w1 (hg:Grow _ w1) hb hf=>by go_simp;try rfl) ?_
 refine fl_callAny 9 (by rfl) (by decide) (wanted_none (by rfl)) (fun _=>IsBytes (enc TE)) (by rw[hK.out];rfl) 219 _ _ (by rfl) [.slice none 0 0,.int .u64 (TE:Int)] (by rfl) k219 (fun kk w1 (hg:Grow _ w1) hb hf=>calls_behindAny (φ:=fun _=>IsBytes (enc TE)) (by rfl) (by exact vPut_is w1 _ [] TE (isBytes_nil w1) (by simp) (by omega))) (fun v9=>?_)
 refine fl_op1G 10 (.tmp 3) (.pointer (some ⟨y,0,none⟩)) (.pointer (some ⟨y,1,none⟩)) ?_
 refine fl_op1N 11 (.tmp 10) (.pointer (some ⟨y,1,none⟩)) (.int .i64 (HA:Int)) (fun ρ h1 kk w1 (hg:Grow _ w1) hb hf=>by have c:=(hBw.grow hg).cell 1;go_simp) ?_
 refine fl_op1N 12 (.tmp 11) (.int .i64 (HA:Int)) (.int .u64 (HA:Int)) (fun ρ h1 kk w1 (hg:Grow _ w1) hb hf=>by go_simp;try rfl) ?_
 refine fl_callAny 13 (by rfl) (by decide) (wanted_none (by rfl)) (fun _=>IsBytes (enc TE++enc HA)) (by rw[hK.out];rfl) 219 _ _ (by rfl) [v9,.int .u64 (HA:Int)] (by rfl) k219 (fun kk w1 (hg:Grow _ w1) hb hf=>calls_behindAny (φ:=fun _=>IsBytes (enc TE++enc HA)) (by rfl) (by exact vPut_is w1 v9 _ HA (facts_take hf (by rw[hA'.out];kernel_rfl)) (by omega) (by omega))) (fun v13=>?_)
 refine fl_op1G 14 (.tmp 3) (.pointer (some ⟨y,0,none⟩)) (.pointer (some ⟨y,2,none⟩)) ?_
 refine fl_op1N 15 (.tmp 14) (.pointer (some ⟨y,2,none⟩)) (.slice A q.length c) (fun ρ h1 kk w1 (hg:Grow _ w1) hb hf=>by have c:=(hBw.grow hg).cell 2;go_simp) ?_
 refine fl_callAny 16 (by rfl) (by decide) (wanted_none (by rfl)) (fun _=>IsBytes (enc TE++enc HA++enc q.length++esB (q.map El.e))) (by rw[hK.out];rfl) 228 _ _ (by rfl) [v13,.slice A q.length c] (by rfl) k228 (fun kk w1 (hg:Grow _ w1) hb hf=>calls_behindAny (φ:=fun _=>IsBytes (enc TE++enc HA++enc q.length++esB (q.map El.e))) (by rfl) (by exact mPut_any w1 v13 _ D A c q (facts_take hf (by rw[hA'.out];kernel_rfl)) (by rw[List.length_append];omega) (hqa.grow hg) hok hn)) (fun v16=>?_)
 refine fl_mvN 5 (v16) ?_
 refine fl_end (fun _ _ w1 (hg:Grow _ w1) _ hfacts=>hT _ _ ?_)
 clear hops hA' hK hT
 simp only[putsL,Act.put,List.setIfInBounds_toArray,List.set_cons_zero,List.set_cons_succ,List.drop_succ_cons,List.drop_zero]
 have hE:=hfacts.1
 clear hfacts
 rw[←HWD.out] at hE
 have hF3:=hF2.cons (Cell.framed y 257 #[.int .i64 (TE:Int),.int .i64 (HA:Int),.slice A q.length c])
 have hS1:=hSa.grows hF3 hg
 have J1:=Just.of_grow (V:=Lic V w) (hg0.trans hg)
 have s3:w1.cell? ⟨s,3,none⟩=some (.pointer (some ⟨x,0,none⟩)):=(hS1.blk 1 rfl).cell 3
 have hW:=lWrite_ok w1 x d n bs WB v16 hE hn0 hroom.1 hroom.2
 have hC:=hS1.at_ 2 rfl hF3 hW
 go_wp2_with fail
 refine hC.mono ?_
 rintro e w2 ⟨rfl,hj2,hS2⟩
 have hS2:Solo (Lic V w) (Many [Cell y 257 #[.int .i64 (TE:Int),.int .i64 (HA:Int),.slice A q.length c],Cell s 259 (StC t0 h0 sl0 x),LogAt x d (n+1) (bs++frame WB) (bs++frame WB).length]) w2:=hS2
 have hG:AllFramed [Cell y 257 #[.int .i64 (TE:Int),.int .i64 (HA:Int),.slice A q.length c],Cell s 259 (StC t0 h0 sl0 x),LogAt x d (n+1) (bs++frame WB) (bs++frame WB).length]:=((AllFramed.nil.cons (LogAt.framed _ _ _ _ _)).cons (Cell.framed _ _ _)).cons (Cell.framed _ _ _)
 have hB2:=hS2.blk 1 rfl
 have hY2:=hS2.blk 0 rfl
 have y0:=hY2.cell 0
 have y1:=hY2.cell 1
 have y2:=hY2.cell 2
 have hP:=(hS2.lics 1 rfl).1
 go_wp2_with (refine wpList_part rfl 257 _ _ rfl s 0 rfl [.int .i64 (TE:Int),.int .i64 (HA:Int),.slice A q.length c] rfl hB2 (Nat.le_of_ble_eq_true rfl) rfl (by kernel_rfl) (cs':=StC TE HA (.slice A q.length c) x) rfl ?_;intro w3 hB3 hj3 hs3;refine stay ?_)
 refine stay_out ?_
 have hS3:=hS2.turned 1 rfl hG hj3 hB3
 go_wp2_with fail
 go_ret
 obtain⟨r1,r2⟩:=Solo.done (l:=[Cell s 259 (StC TE HA (.slice A q.length c) x),LogAt x d (n+1) (bs++frame WB) (bs++frame WB).length]) hS3.drop1 ((J1.trans hj2).trans (hj3.imp fun b hb=>by rw[hb];exact hP)) hV
 exact⟨rfl,r1,r2⟩
def IsIn (size n:Nat) (xs:List Value) (u:Value) (w:World):Prop:=∃ A,u=.slice A n n∧In w (fun _=>True) size A n xs
theorem isIn_lasting (size n:Nat) (xs:List Value):Lasting (IsIn size n xs):=fun u w w' ⟨A,e,h⟩ hg=>⟨A,e,h.grow hg⟩
theorem isIn_blk {w:World} {x:Nat} {t:TypeId} {cs:Array Value} (h:Blk w x t cs) {size n:Nat} (hn:cs.toList.length=n*size):IsIn size n cs.toList (.slice (some ⟨x,0,none⟩) n n) w:=⟨_,rfl,(h.in_ hn).mono fun _ _=>trivial⟩
theorem ints3_made {w:World} {o:Oper} {ρ:Operand→Value} {x y z:Operand} {a b c:Int} (ho:o.op=.buildSlice 52 3 #[(0,x),(1,y),(2,z)]) (hx:ρ x=.int .i64 a) (hy:ρ y=.int .i64 b) (hz:ρ z=.int .i64 c) :
 flowUpon Tryz.prog (fun u w'=>Grow w w'∧IsIn 1 3 [.int .i64 a,.int .i64 b,.int .i64 c] u w') ((execOp ρ o).run Tryz.prog w):=by
 obtain⟨dst,op,ty,pos,after,guard⟩:=o
 simp only at ho
 subst ho
 exact flowUpon_value (u := .slice (some ⟨w.heap.size,0,none⟩) 3 3) (w:=w.alloc (.cells #[.int .i64 a,.int .i64 b,.int .i64 c] 2)) (by go_simp) ⟨(Below.refl _ w).alloc (Nat.le_refl _) _,isIn_blk (Blk.made w _ _) rfl⟩
theorem delta_made {w:World} {o:Oper} {ρ:Operand→Value} {x:Operand} {s:ByteArray} {n:Int} (ho:o.op=.buildSlice 30 1 #[(0,x)]) (hx:ρ x=.agg #[.string s,.int .u64 n]) :
 flowUpon Tryz.prog (fun u w'=>Grow w w'∧IsIn 2 1 [.string s,.int .u64 n] u w') ((execOp ρ o).run Tryz.prog w):=by
 obtain⟨dst,op,ty,pos,after,guard⟩:=o
 simp only at ho
 subst ho
 exact flowUpon_value (u := .slice (some ⟨w.heap.size,0,none⟩) 1 1) (w:=w.alloc (.cells #[.string s,.int .u64 n] 29)) (by go_simp) ⟨(Below.refl _ w).alloc (Nat.le_refl _) _,isIn_blk (Blk.made w _ _) rfl⟩
theorem record_is (w:World) (k n:Nat) (ns:List Nat) (u:Value) (h:IsIn 1 n (ns.map fun (x:Nat) => .int .i64 (x:Int)) u w) (hk:k<18446744073709551616) (hn:n≤8) (hs:∀ x∈ns,x≤9223372036854775807) :
 Calls Tryz.prog 150 #[.int .u64 (k:Int),u] w fun e w'=>∃ v,e=.returned v∧Grow w w'∧IsBytes (recB k ns) v w':=by
 obtain⟨A,rfl,h⟩:=h
 exact record_any w k A n n ns _ h hk hn hs
theorem ePut_is (w:World) (u v:Value) (l:List UInt8) (n:Nat) (ds:List Dl) (hu:IsBytes l u w) (hl:l.length≤1048576) (hd:IsIn 2 n (dcells ds) v w) (hn:n≤1048576) (hs:∀ d∈ds,Small d) :
 Calls Tryz.prog 154 #[u,v] w fun e w'=>∃ v,e=.returned v∧Grow w w'∧IsBytes (l++dsB ds) v w':=by
 obtain⟨A,rfl,h⟩:=hd
 exact eDput_any w u l _ A n n ds hu hl h hn hs
theorem recB_len (k:Nat) (ns:List Nat) (hk:k<18446744073709551616) (h:∀ x∈ns,x<18446744073709551616):(recB k ns).length≤10+ns.length*10:=by
 have:=enc_ten hk
 have:=recs_len ns h
 unfold recB
 rw[List.length_append]
 omega
theorem bSample_any (w:World) (s:ByteArray) (x:Nat) (hs:Small (s,x)):Calls Tryz.prog 72 #[.agg #[.string s,.int .u64 (x:Int)]] w fun e w'=>∃ v,e=.returned v∧Grow w w'∧IsBytes (recB 2 []++dsB [(s,x)]) v w':=by
 have k150:∀ (vs:Array Value) (w:World),(callFunc 150 vs).run Tryz.prog w=.ok (.enter 150 vs) w:=fun vs w=>by go_simp
 have k154:∀ (vs:Array Value) (w:World),(callFunc 154 vs).run Tryz.prog w=.ok (.enter 154 vs) w:=fun vs w=>by go_simp
 have hga:=grow_alloc w (.cells #[.string s,.int .u64 (x:Int)] 29)
 have hBy:=Blk.made w 29 #[.string s,.int .u64 (x:Int)]
 obtain⟨y,HY⟩:∃ y:Nat,Hid (y=w.heap.size):=⟨_,rfl⟩
 obtain⟨wa,HA_⟩:∃ wa:World,Hid (wa=w.alloc (.cells #[.string s,.int .u64 (x:Int)] 29)):=⟨_,rfl⟩
 rw[←HA_.out] at hga hBy
 rw[←HY.out] at hBy
 have hl:=recB_len 2 [] (by decide) (by simp)
 have hsm:∀ d∈[(s,x)],Small d:=fun d hd=>by rw[List.mem_singleton.1 hd];exact hs
 go_enter Tryz.func72,Tryz.ntmps72
 go_wp2_with fail
 rw[←HA_.out,←HY.out]
 refine wp_region_flow 5 7 [(0,.inr (fun _=>IsBytes (recB 2 []))),(2,.inr (fun _=>IsIn 2 1 [.string s,.int .u64 (x:Int)])),(3,.inr (fun _=>IsBytes (recB 2 []++dsB [(s,x)])))] rfl rfl (by kernel_rfl) (by kernel_rfl) (by kernel_rfl) ?_ ?_
 ·intro x hx φ he
  simp only[List.mem_cons,List.not_mem_nil,or_false] at hx
  rcases hx with rfl|rfl|rfl<;>cases he
  all_goals first|exact lasts_quiet (lasting_bytes _)|exact lasts_quiet (isIn_lasting _ _ _)
 intro ops' A' K' T hops hA' hK hT
 refine fl_callAny 3 (by rfl) (by decide) (wanted_none (by rfl)) (fun _=>IsBytes (recB 2 [])) (by rw[hK.out];rfl) 150 _ _ (by rfl) [.int .u64 2,.slice none 0 0] (by rfl) k150 (fun kk w1 (hg:Grow _ w1) hb hf=>calls_behindAny (φ:=fun _=>IsBytes (recB 2 [])) (by rfl) (by exact record_any w1 2 none 0 0 [] (fun _=>True) In.nil (by decide) (by decide) (by simp))) (fun v3=>?_)
 refine fl_op1N 4 (.tmp 1) (.pointer (some ⟨y,0,none⟩)) (.agg #[.string s,.int .u64 (x:Int)]) (fun ρ h1 kk w1 (hg:Grow _ w1) hb hf=>by have c0:=(hBy.grow hg).cell 0;have c1:=(hBy.grow hg).cell 1;go_simp) ?_
 refine fl_any1 5 (by rfl) (by decide) (wanted_none (by rfl)) (fun _=>IsIn 2 1 [.string s,.int .u64 (x:Int)]) (by rw[hK.out];rfl) (.tmp 4) (.agg #[.string s,.int .u64 (x:Int)]) (by rfl) (fun ρ h1 kk w1 (hg:Grow _ w1) hb hf=>by refine upon_behindAny (φ:=fun _=>IsIn 2 1 [.string s,.int .u64 (x:Int)]) (by rfl) ?_;exact delta_made rfl h1) (fun v5=>?_)
 refine fl_callAny 6 (by rfl) (by decide) (wanted_none (by rfl)) (fun _=>IsBytes (recB 2 []++dsB [(s,x)])) (by rw[hK.out];rfl) 154 _ _ (by rfl) [v3,v5] (by rfl) k154 (fun kk w1 (hg:Grow _ w1) hb hf=>calls_behindAny (φ:=fun _=>IsBytes (recB 2 []++dsB [(s,x)])) (by rfl) (by exact ePut_is w1 v3 v5 _ 1 [(s,x)] (facts_take (facts_pass hf) (by rw[hA'.out];kernel_rfl)) (by simp at hl;omega) (facts_take hf (by rw[hA'.out];kernel_rfl)) (by decide) hsm)) (fun v6=>?_)
 refine fl_mvN 2 (v6) ?_
 refine fl_end (fun _ _ w1 (hg:Grow _ w1) _ hfacts=>hT _ _ ?_)
 clear hops hA' hK hT
 simp only[putsL,Act.put,List.setIfInBounds_toArray,List.set_cons_zero,List.set_cons_succ,List.drop_succ_cons,List.drop_zero]
 have hE:=hfacts.1
 clear hfacts
 go_wp2_with fail
 go_ret
 exact⟨_,rfl,hga.trans hg,hE⟩
theorem bBatch_any (w:World) (k sq:Nat) (A:Option Addr) (n c:Nat) (ds:List Dl) (D:Nat→Prop) (hd:DIn w D A n ds) (hn:n≤8) (hk:k≤9223372036854775807) (hsq:sq≤9223372036854775807) (hs:∀ d∈ds,Small d):Calls Tryz.prog 160 #[.int .i64 (k:Int),.agg #[.int .i64 (sq:Int),.slice A n c]] w fun e w'=>∃ v,e=.returned v∧Grow w w'∧IsBytes (recB 3 [k,sq,n]++dsB ds) v w':=by
 have k150:∀ (vs:Array Value) (w:World),(callFunc 150 vs).run Tryz.prog w=.ok (.enter 150 vs) w:=fun vs w=>by go_simp
 have k154:∀ (vs:Array Value) (w:World),(callFunc 154 vs).run Tryz.prog w=.ok (.enter 154 vs) w:=fun vs w=>by go_simp
 have hga:=grow_alloc w (.cells #[.int .i64 (sq:Int),.slice A n c] 159)
 have hBy:=Blk.made w 159 #[.int .i64 (sq:Int),.slice A n c]
 obtain⟨y,HY⟩:∃ y:Nat,Hid (y=w.heap.size):=⟨_,rfl⟩
 obtain⟨wa,HA_⟩:∃ wa:World,Hid (wa=w.alloc (.cells #[.int .i64 (sq:Int),.slice A n c] 159)):=⟨_,rfl⟩
 rw[←HA_.out] at hga hBy
 rw[←HY.out] at hBy
 have hda:=In.grow hd hga
 have hl:=recB_len 3 [k,sq,n] (by decide) (by intro x hx;simp only[List.mem_cons,List.not_mem_nil,or_false] at hx;omega)
 have hl2:(recB 3 [k,sq,n]).length≤1048576:=by simp at hl;omega
 clear hl
 go_enter Tryz.func160,Tryz.ntmps160
 go_wp2_with fail
 rw[←HA_.out,←HY.out]
 refine wp_region_flow 12 16 [(6,.inr (fun _=>IsIn 1 3 ([k,sq,n].map fun (x:Nat) => .int .i64 (x:Int)))),(7,.inr (fun _=>IsBytes (recB 3 [k,sq,n]))),(10,.inr (fun _=>IsBytes (recB 3 [k,sq,n]++dsB ds)))] rfl rfl (by kernel_rfl) (by kernel_rfl) (by kernel_rfl) ?_ ?_
 ·intro x hx φ he
  simp only[List.mem_cons,List.not_mem_nil,or_false] at hx
  rcases hx with rfl|rfl|rfl<;>cases he
  all_goals first|exact lasts_quiet (lasting_bytes _)|exact lasts_quiet (isIn_lasting _ _ _)
 intro ops' A' K' T hops hA' hK hT
 refine fl_mvN 5 (.int .i64 (k:Int)) ?_
 refine fl_op1G 6 (.tmp 3) (.pointer (some ⟨y,0,none⟩)) (.pointer (some ⟨y,0,none⟩)) ?_
 refine fl_op1N 7 (.tmp 6) (.pointer (some ⟨y,0,none⟩)) (.int .i64 (sq:Int)) (fun ρ h1 kk w1 (hg:Grow _ w1) hb hf=>by have c0:=(hBy.grow hg).cell 0;go_simp) ?_
 refine fl_op1G 8 (.tmp 3) (.pointer (some ⟨y,0,none⟩)) (.pointer (some ⟨y,1,none⟩)) ?_
 refine fl_op1N 9 (.tmp 8) (.pointer (some ⟨y,1,none⟩)) (.slice A n c) (fun ρ h1 kk w1 (hg:Grow _ w1) hb hf=>by have c1:=(hBy.grow hg).cell 1;go_simp) ?_
 refine fl_op1G 10 (.tmp 9) (.slice A n c) (.int .i64 (n:Int)) ?_
 refine fl_any 11 (by rfl) (by decide) (wanted_none (by rfl)) (fun _=>IsIn 1 3 ([k,sq,n].map fun (x:Nat) => .int .i64 (x:Int))) (by rw[hK.out];rfl) (fun kk w1 (hg:Grow _ w1) hb hf=>by refine upon_behindAny (φ:=fun _=>IsIn 1 3 ([k,sq,n].map fun (x:Nat) => .int .i64 (x:Int))) (by rfl) ?_;exact ints3_made rfl rfl rfl rfl) (fun v11=>?_)
 refine fl_callAny 12 (by rfl) (by decide) (wanted_none (by rfl)) (fun _=>IsBytes (recB 3 [k,sq,n])) (by rw[hK.out];rfl) 150 _ _ (by rfl) [.int .u64 3,v11] (by rfl) k150 (fun kk w1 (hg:Grow _ w1) hb hf=>calls_behindAny (φ:=fun _=>IsBytes (recB 3 [k,sq,n])) (by rfl) (by exact record_is w1 3 3 [k,sq,n] v11 (facts_take hf (by rw[hA'.out];kernel_rfl)) (by decide) (by decide) (by intro x hx;simp only[List.mem_cons,List.not_mem_nil,or_false] at hx;omega))) (fun v12=>?_)
 refine fl_op1G 13 (.tmp 3) (.pointer (some ⟨y,0,none⟩)) (.pointer (some ⟨y,1,none⟩)) ?_
 refine fl_op1N 14 (.tmp 13) (.pointer (some ⟨y,1,none⟩)) (.slice A n c) (fun ρ h1 kk w1 (hg:Grow _ w1) hb hf=>by have c1:=(hBy.grow hg).cell 1;go_simp) ?_
 refine fl_callAny 15 (by rfl) (by decide) (wanted_none (by rfl)) (fun _=>IsBytes (recB 3 [k,sq,n]++dsB ds)) (by rw[hK.out];rfl) 154 _ _ (by rfl) [v12,.slice A n c] (by rfl) k154 (fun kk w1 (hg:Grow _ w1) hb hf=>calls_behindAny (φ:=fun _=>IsBytes (recB 3 [k,sq,n]++dsB ds)) (by rfl) (by exact eDput_any w1 v12 _ D A n c ds (facts_take hf (by rw[hA'.out];kernel_rfl)) hl2 (In.grow hda hg) (by omega) hs)) (fun v15=>?_)
 refine fl_mvN 4 (v15) ?_
 refine fl_end (fun _ _ w1 (hg:Grow _ w1) _ hfacts=>hT _ _ ?_)
 clear hops hA' hK hT
 simp only[putsL,Act.put,List.setIfInBounds_toArray,List.set_cons_zero,List.set_cons_succ,List.drop_succ_cons,List.drop_zero]
 have hE:=hfacts.1
 clear hfacts
 go_wp2_with fail
 go_ret
 exact⟨_,rfl,hga.trans hg,hE⟩
end Go.Proofs.YtmijcbfgfkeodaaGreatDoor
end
section
namespace Go.Proofs.YtmijcbfgfkeodaaGreatDoor.Q
open Go.RowKit Go.Hop
structure Bat where
 seq:Int
 A:Option Addr
 m:Nat
 c:Nat
 ds:List Dl
def Bat.cells (b:Bat):List Value:=[.int .i64 b.seq,.slice b.A b.m b.c]
def Bat.abs (b:Bat):Int×List Dl:=(b.seq,b.ds)
theorem bat_len (b:Bat):b.cells.length=2:=rfl
theorem bat_one (b:Bat):∀ u∈b.cells,u.oneCell'=true:=by
 intro u hu
 simp only[Bat.cells,List.mem_cons,List.not_mem_nil,or_false] at hu
 rcases hu with rfl|rfl<;>rfl
theorem bats_one (q:List Bat):∀ u∈q.flatMap Bat.cells,u.oneCell'=true:=by
 intro u hu
 obtain⟨b,_,hb⟩:=List.mem_flatMap.1 hu
 exact bat_one b u hb
theorem bats_len (q:List Bat):(q.flatMap Bat.cells).length=q.length*2:=flat_length Bat.cells 2 bat_len q
structure BatIn (w:World) (V:Nat→Prop) (b:Bat):Prop where
 ds:DIn w V b.A b.m b.ds
 le:b.m≤b.c
 max:b.c≤maxLen
 small:b.m≤8
theorem BatIn.mono {w:World} {V V':Nat→Prop} {b:Bat} (h:BatIn w V b) (hV:∀ b,V b→V' b):BatIn w V' b:=⟨In.mono h.ds hV,h.le,h.max,h.small⟩
theorem BatIn.grow {w w':World} {V:Nat→Prop} {b:Bat} (h:BatIn w V b) (hg:Grow w w'):BatIn w' V b:=⟨In.grow h.ds hg,h.le,h.max,h.small⟩
theorem BatIn.just {w w':World} {V U:Nat→Prop} {b:Bat} (h:BatIn w V b) (hj:Just U w w') (hd:∀ b,V b→¬ U b):BatIn w' V b:=⟨In.just h.ds hj hd,h.le,h.max,h.small⟩
theorem batch_info:(Tryz.prog.info? 159).map (fun i=>(i.zero,i.size,i.bytes))=some (some (.agg #[.int .i64 0,.slice none 0 0]),2,32):=by kernel_rfl
theorem batchE:Elem Tryz.prog 156 159 2 32 (.agg #[.int .i64 0,.slice none 0 0]):=⟨Tryz.underlying156,info_parts batch_info,rfl,by decide,by decide⟩
theorem own_any (w:World) (V:Nat→Prop) (b:Bat) (h:BatIn w V b) :
 Calls Tryz.prog 226 #[.agg #[.int .i64 b.seq,.slice b.A b.m b.c]] w fun e w'=>∃ A',e=.returned (.agg #[.int .i64 b.seq,.slice A' b.m b.m])∧BatIn w' (New w w') ⟨b.seq,A',b.m,b.m,b.ds⟩∧Grow w w':=by
 obtain⟨sq,A,m,c,ds⟩:=b
 obtain⟨hd,hle,hmx,hsm⟩:=h
 dsimp only at hd hle hmx hsm ⊢
 have hg0:Grow w ((w.alloc (.cells #[.int .i64 sq,.slice A m c] 159)).alloc (.cells #[.int .i64 0,.slice none 0 0] 159)):=((Below.refl _ _).alloc (Nat.le_refl _) _).alloc (by simp) _
 have hB0:=(Blk.made w 159 #[.int .i64 sq,.slice A m c]).alloc (.cells #[.int .i64 0,.slice none 0 0] 159)
 have hB1:=Blk.made (w.alloc (.cells #[.int .i64 sq,.slice A m c] 159)) 159 #[.int .i64 0,.slice none 0 0]
 obtain⟨x,HX⟩:∃ x:Nat,Hid (x=w.heap.size):=⟨_,rfl⟩
 have hx1:(w.alloc (.cells #[.int .i64 sq,.slice A m c] 159)).heap.size=x+1:=by rw[HX.out];simp
 rw[hx1] at hB1
 rw[←HX.out] at hB0
 obtain⟨wa,HA⟩:∃ wa:World,Hid (wa=(w.alloc (.cells #[.int .i64 sq,.slice A m c] 159)).alloc (.cells #[.int .i64 0,.slice none 0 0] 159)):=⟨_,rfl⟩
 rw[←HA.out] at hB0 hB1 hg0
 have c1:=hB0.cell 1
 have hsz:wa.heap.size=x+2:=by rw[HA.out,HX.out];simp
 go_enter Tryz.func226,Tryz.ntmps226
 go_wp2_with fail
 rw[←HA.out,←HX.out]
 refine (clone_any wa V A m c ds (In.grow hd hg0) (by omega)).mono ?_
 rintro e w1 ⟨A1,c1',rfl,hd1,hn1,hm1,hg1⟩
 have hC0:=hB0.grow hg1
 have hC1:=hB1.grow hg1
 have hxs:=hC1.lt
 have hk0:∀ u,(w1.setCell ⟨x,1,none⟩ u).cell? ⟨x,0,none⟩=some (.int .i64 sq):=fun u=>(hC0.put 1 u).cell 0
 have hk1:∀ u,(w1.setCell ⟨x,1,none⟩ u).cell? ⟨x,1,none⟩=some u:=fun u=>(hC0.put 1 u).cell 1
 have f1:=hC0.frozen 1
 have c10:=hC0.cell 1
 have hD:=(hC1.far (p:=⟨x,1,none⟩) (show x+1≠x by omega) (.slice A1 m m))
 have d0:=hD.cell 0
 have d1:=hD.cell 1
 have g0:=hD.frozen 0
 have g1:=hD.frozen 1
 go_wp2_with (go_at_call 137;refine (clip_any _ A1 m c1' hn1).mono ?_;rintro e w2 ⟨rfl,rfl⟩)
 have hE:=(hD.put 0 (.int .i64 sq)).put 1 (.slice A1 m m)
 have e0:=hE.cell 0
 have e1:=hE.cell 1
 have hj:Just (fun b=>b=x∨b=x+1) w1 (((w1.setCell ⟨x,1,none⟩ (.slice A1 m m)).setCell ⟨x+1,0,none⟩ (.int .i64 sq)).setCell ⟨x+1,1,none⟩ (.slice A1 m m)):=
  (((Just.of_grow (Grow.refl w1)).put (V:=fun b=>b=x∨b=x+1) (.inl rfl) 1 _).put (.inr rfl) 0 _).put (.inr rfl) 1 _
 have hgw:Grow w (((w1.setCell ⟨x,1,none⟩ (.slice A1 m m)).setCell ⟨x+1,0,none⟩ (.int .i64 sq)).setCell ⟨x+1,1,none⟩ (.slice A1 m m)):=
  Below.trans (hg0.trans hg1) (hj.below (B:=w.heap.size) (fun b hb=>by have:=HX.out;omega) (hg0.trans hg1).size)
 refine bodyPost_ret (v := .agg #[.int .i64 sq,.slice A1 m m]) (by simp[results,Tryz.results226,go_sem,e0,e1]) rfl ⟨A1,rfl,⟨?_,Nat.le_refl _,by dsimp only;omega,hsm⟩,hgw⟩
 refine In.mono (V:=New wa w1) (In.just hd1 hj fun b hb=>by have:=hb.1;omega) fun b hb=>⟨by have:=hb.1;have:=hg0.size;omega,by have:=hb.2;simpa [World.setCell] using this⟩
theorem clipb_any (w:World) (A:Option Addr) (n c:Nat) (hn:n≤c) :
 Calls Tryz.prog 227 #[.slice A n c] w fun e w'=>e=.returned (.slice A n n)∧w=w':=by
 go_enter Tryz.func227,Tryz.ntmps227
 go_wp2_with fail
 go_ret
 exact⟨rfl,rfl⟩
structure Bats (w:World) (V D:Nat→Prop) (A:Option Addr) (n:Nat) (q:List Bat):Prop where
 row:In w V 2 A n (q.flatMap Bat.cells)
 all:∀ b∈q,BatIn w D b
theorem Bats.len {w:World} {V D:Nat→Prop} {A:Option Addr} {n:Nat} {q:List Bat} (h:Bats w V D A n q):q.length=n:=by
 have:=h.row.1;rw[bats_len] at this;omega
theorem Bats.grow {w w':World} {V D:Nat→Prop} {A:Option Addr} {n:Nat} {q:List Bat} (h:Bats w V D A n q) (hg:Grow w w'):Bats w' V D A n q:=⟨h.row.grow hg,fun b hb=>(h.all b hb).grow hg⟩
theorem Bats.mono {w:World} {V D V' D':Nat→Prop} {A:Option Addr} {n:Nat} {q:List Bat} (h:Bats w V D A n q) (hV:∀ b,V b→V' b) (hD:∀ b,D b→D' b):Bats w V' D' A n q:=⟨h.row.mono hV,fun b hb=>(h.all b hb).mono hD⟩
theorem Bats.take {w:World} {V D:Nat→Prop} {A:Option Addr} {n k:Nat} {q:List Bat} (h:Bats w V D A n q) (hk:k≤n):Bats w V D A k (q.take k):=by
 refine⟨?_,fun b hb=>h.all b (List.mem_of_mem_take hb)⟩
 have:=h.row.take hk
 rwa [flat_take Bat.cells 2 bat_len q k] at this
theorem some_any (w:World) (V D:Nat→Prop) (A:Option Addr) (n c:Nat) (q:List Bat) (h:Bats w V D A n q) (hn:n≤1024) (hnc:n≤c) :
 Calls Tryz.prog 162 #[.slice A n c] w fun e w'=>∃ A' q',e=.returned (.slice A' n n)∧Bats w' (New w w') (New w w') A' n q'∧q'.map Bat.abs=q.map Bat.abs∧Grow w w':=by
 have hql:=h.len
 go_enter Tryz.func162,Tryz.ntmps162
 go_wp2_with fail
 go_loopw [3,8] (fun s i wr=>∃ (k:Nat) (q':List Bat) (R D':Nat→Prop),k≤n∧i=.int .i64 k∧Own wr R 159 2 s k (q'.flatMap Bat.cells)∧(∀ b∈q',BatIn wr D' b)∧q'.map Bat.abs=(q.take k).map Bat.abs∧(∀ b,R b→New w wr b∧¬ D' b)∧(∀ b,D' b→New w wr b)∧Grow w wr) (fun _ i _=>n-(intOf i).toNat)
 case atStart=>exact⟨0,[],fun _=>False,fun _=>False,by omega,rfl,Own.nil,by simp,by simp,fun _ h=>h.elim,fun _ h=>h.elim,Grow.refl _⟩
 case round=>
  obtain⟨k,q',R,D',hkn,rfl,hO,hin,habs,hR,hD,hg⟩:=hrel
  obtain⟨A1,c1,rfl,hI1,hnc1,hm1⟩:=hO.in_
  by_cases hk:k<n
  ·obtain⟨ad,hkq,rfl,hV,hB,e0,e1⟩:=(h.row.grow hg).rec_ (by omega) bat_len hk
   have hbin:=(h.all q[k] (List.getElem_mem hkq)).grow hg
   have hsn:q.take (k+1)=q.take k++[q[k]]:=List.take_succ_eq_append_getElem hkq
   have e0:=e0 _ rfl
   have e1:=e1 0 _ rfl
   have HS:=Lib.hid hsn
   clear hsn
   generalize q[k]=b at hbin e0 e1 HS
   obtain⟨sq,Ab,mb,cb,ds⟩:=b
   dsimp only[Bat.cells] at e0 e1
   have hga:Grow wr (wr.alloc (.cells #[.int .i64 sq,.slice Ab mb cb] 159)):=(Below.refl wr.heap.size wr).alloc (Nat.le_refl _) _
   go_wp2_with fail
   refine (own_any _ D ⟨sq,Ab,mb,cb,ds⟩ (hbin.grow hga)).mono ?_
   rintro e w1 ⟨A2,rfl,hb2,hg1⟩
   have hs1:=hg1.size
   simp only[alloc_size] at hs1
   have hgB:=(Below.refl w1.heap.size w1).alloc (Nat.le_refl _) (.cells #[.int .i64 sq,.slice A2 mb mb] 159)
   go_wp2_with (at_builtin;refine stay ?_)
   refine stay_out ?_
   have hsr:=hg.size
   have hRlt:∀ b,R b→b<wr.heap.size:=fun b hb=>(hR b hb).1.2
   refine wpList_own (V:=R) batchE _ rfl (.tmp 12) (.tmp 15) rfl (.slice A1 k c1) k (q'.flatMap Bat.cells) rfl (((hO.grow hRlt (hga.trans hg1)).grow (fun b hb=>by have:=hRlt b hb;omega) hgB)) (w1.heap.size+1) (some ⟨w1.heap.size,0,none⟩) 1 1 (Bat.cells ⟨sq,A2,mb,mb,ds⟩) rfl (reads_laid w1 _ 159 _ rfl _ rfl) (bat_one _) (by omega) ?_
   intro v2 w2 hO2 hj2
   have hs2:=hj2.size
   simp only[alloc_size] at hs2
   have hgj:Below w.heap.size w1 w2:=Below.trans (hgB.mono (by omega)) (hj2.below (B:=w.heap.size) (fun b hb=>(hR b hb).1.1) (by simp;omega))
   have hg2:Grow w w2:=Below.trans (hg.trans (hga.trans hg1)) hgj
   have hD2:∀ b:Bat,BatIn w1 D' b→BatIn w2 D' b:=fun b hb=>(hb.grow hgB).just hj2 fun x hx hr=>(hR x hr).2 hx
   have hN2:∀ b:Bat,BatIn w1 (New (wr.alloc (.cells #[.int .i64 sq,.slice Ab mb cb] 159)) w1) b→BatIn w2 (New (wr.alloc (.cells #[.int .i64 sq,.slice Ab mb cb] 159)) w1) b:=fun b hb=>(hb.grow hgB).just hj2 fun x hx hr=>by have:=hx.1;have:=hRlt x hr;simp at *;omega
   go_wp2_with fail
   go_roundw
   case rel=>
    refine⟨k+1,q'++[⟨sq,A2,mb,mb,ds⟩],Ext R (w1.alloc (.cells #[.int .i64 sq,.slice A2 mb mb] 159)) w2,fun b=>D' b∨New (wr.alloc (.cells #[.int .i64 sq,.slice Ab mb cb] 159)) w1 b,by omega,by go_num,?_,fun b hb=>?_,?_,fun b hb=>?_,fun b hb=>?_,hg2⟩
    ·rw[List.flatMap_append,List.flatMap_cons,List.flatMap_nil,List.append_nil];exact hO2
    ·rcases List.mem_append.1 hb with hb|hb
     ·exact (hD2 b ((hin b hb).grow (hga.trans hg1))).mono fun _ => .inl
     ·rw[List.mem_singleton.1 hb];exact (hN2 _ hb2).mono fun _ => .inr
    ·rw[List.map_append,habs,HS.out,List.map_append];rfl
    ·rcases hb with hb|⟨h1,h2⟩
     ·refine⟨⟨(hR b hb).1.1,by have:=hRlt b hb;omega⟩,fun hd=>?_⟩
      rcases hd with hd|hd
      ·exact (hR b hb).2 hd
      ·have:=hd.1;have:=hRlt b hb;simp at *;omega
     ·simp only[alloc_size] at h1
      refine⟨⟨by omega,h2⟩,fun hd=>?_⟩
      rcases hd with hd|hd
      ·have:=(hD b hd).2;omega
      ·have:=hd.2;omega
    ·rcases hb with hb|hb
     ·have:=hD b hb;exact⟨this.1,by have:=this.2;omega⟩
     ·have h1:=hb.1;have h2:=hb.2;simp only[alloc_size] at h1;exact⟨by omega,by omega⟩
   case measure=>simp[intOf];omega
  ·obtain rfl:k=n:=by omega
   go_wp2_with (go_at_call 227;refine (clipb_any _ A1 k c1 hnc1).mono ?_;rintro e w2 ⟨rfl,rfl⟩)
   go_ret
   refine⟨A1,q',rfl,⟨hI1.mono fun b hb=>(hR b hb).1,fun b hb=>(hin b hb).mono hD⟩,?_,hg⟩
   rw[habs,List.take_of_length_le (by omega)]
abbrev Ab:=Int×List Dl
def QueueAt (g:Nat) (l:List Ab) (last:Int):Thing:=fun w V=>
 V g∧∃ (v:Value) (q:List Bat) (R D:Nat→Prop),q.map Bat.abs=l∧q.length≤16∧Blk w g 253 #[v,.int .i64 last]∧Row w R 159 2 v q.length (q.flatMap Bat.cells)∧(∀ b∈q,BatIn w D b)∧(∀ b,R b→V b∧b≠g∧¬ D b)∧(∀ b,D b→V b∧b≠g)
theorem BatIn.keep {w w':World} {V:Nat→Prop} {b:Bat} (h:BatIn w V b) (hk:∀ b,V b→b<w.heap.size→w'.heap[b]?=w.heap[b]?):BatIn w' V b:=⟨In.keep h.ds hk,h.le,h.max,h.small⟩
theorem QueueAt.framed (g:Nat) (l:List Ab) (last:Int):Framed (QueueAt g l last):=fun w w' V h hk=>by
 obtain⟨h1,v,q,R,D,h2,h3,h4,h5,h6,h7,h8⟩:=h
 exact⟨h1,v,q,R,D,h2,h3,(hk g h1).trans h4,h5.keep fun b hb _=>hk b (h7 b hb).1,fun b hb=>(h6 b hb).keep fun x hx _=>hk x (h8 x hx).1,h7,h8⟩
theorem QueueAt.wide {g:Nat} {l:List Ab} {last:Int} {w:World} {V V':Nat→Prop} (h:QueueAt g l last w V) (hV:∀ b,V b→V' b):QueueAt g l last w V':=by
 obtain⟨h1,v,q,R,D,h2,h3,h4,h5,h6,h7,h8⟩:=h
 exact⟨hV g h1,v,q,R,D,h2,h3,h4,h5,h6,fun b hb=>⟨hV b (h7 b hb).1,(h7 b hb).2⟩,fun b hb=>⟨hV b (h8 b hb).1,(h8 b hb).2⟩⟩
theorem QueueAt.bats {g:Nat} {l:List Ab} {last:Int} {w:World} {V:Nat→Prop} (h:QueueAt g l last w V) :
 ∃ A c q,Hid (q.map Bat.abs=l)∧l.length≤16∧Blk w g 253 #[.slice A l.length c,.int .i64 last]∧Bats w V V A l.length q∧l.length≤c∧c≤maxLen:=by
 obtain⟨h1,v,q,R,D,rfl,h3,h4,h5,h6,h7,h8⟩:=h
 obtain⟨A,c,rfl,hI,hn,hm⟩:=h5.in_
 have e:(q.map Bat.abs).length=q.length:=List.length_map ..
 rw[e]
 exact⟨A,c,q,Lib.hid rfl,h3,h4,⟨hI.mono fun b hb=>(h7 b hb).1,fun b hb=>(h6 b hb).mono fun x hx=>(h8 x hx).1⟩,hn,hm⟩
theorem New_any (w:World) :
 Calls Tryz.prog 147 #[] w fun e w'=>e=.returned (.pointer (some ⟨w.heap.size,0,none⟩))∧QueueAt w.heap.size [] 0 w' (New w w')∧Grow w w':=by
 go_enter Tryz.func147,Tryz.ntmps147
 go_wp2_with fail
 go_ret
 exact⟨rfl,⟨⟨Nat.le_refl _,by simp⟩,_,[],fun _=>False,fun _=>False,rfl,by simp,Blk.made w _ _,Row.nil,by simp,fun _ h=>h.elim,fun _ h=>h.elim⟩,(Below.refl w.heap.size w).alloc (Nat.le_refl _) _⟩
theorem Len_any (w:World) (g:Nat) (l:List Ab) (last:Int) (V:Nat→Prop) (hQ:QueueAt g l last w V) :
 Calls Tryz.prog 159 #[.pointer (some ⟨g,0,none⟩)] w fun e w'=>e=.returned (.int .i64 (l.length:Int))∧w=w':=by
 obtain⟨A,c,q,HQ,h3,hB,hI,hn,hm⟩:=hQ.bats
 have c0:=hB.cell 0
 go_enter Tryz.func159,Tryz.ntmps159
 go_wp2_with fail
 go_ret
 exact⟨rfl,rfl⟩
theorem All_any (w:World) (g:Nat) (l:List Ab) (last:Int) (V:Nat→Prop) (hQ:QueueAt g l last w V) :
 Calls Tryz.prog 78 #[.pointer (some ⟨g,0,none⟩)] w fun e w'=>∃ A' q',e=.returned (.slice A' l.length l.length)∧Bats w' (New w w') (New w w') A' l.length q'∧q'.map Bat.abs=l∧Grow w w':=by
 obtain⟨A,c,q,HQ,h3,hB,hI,hn,hm⟩:=hQ.bats
 have c0:=hB.cell 0
 go_enter Tryz.func78,Tryz.ntmps78
 go_wp2_with (go_at_call 162;refine (some_any _ V V A _ c q hI (by omega) hn).mono ?_;rintro e w1 ⟨A1,q1,rfl,hI1,he1,hg1⟩)
 go_ret
 exact⟨A1,q1,rfl,hI1,he1.trans HQ.out,hg1⟩
theorem Flight_any (w:World) (g:Nat) (l:List Ab) (last:Int) (V:Nat→Prop) (hQ:QueueAt g l last w V) :
 Calls Tryz.prog 304 #[.pointer (some ⟨g,0,none⟩)] w fun e w'=>∃ A' q',e=.returned (.slice A' (min l.length 4) (min l.length 4))∧Bats w' (New w w') (New w w') A' (min l.length 4) q'∧q'.map Bat.abs=l.take 4∧Grow w w':=by
 obtain⟨A,c,q,HQ,h3,hB,hI,hn,hm⟩:=hQ.bats
 have e4:(q.take (min l.length 4)).map Bat.abs=l.take 4:=by
  rw[List.map_take,HQ.out]
  rcases Nat.lt_or_ge l.length 4 with h|h
  ·rw[List.take_of_length_le (i:=4) (by omega),List.take_of_length_le (by omega)]
  ·rw[show min l.length 4=4 by omega]
 obtain⟨M,HM⟩:∃ M:Nat,Hid (M=min l.length 4):=⟨_,rfl⟩
 rw[←HM.out] at e4 ⊢
 have HT:=Lib.hid e4
 clear e4
 have hM:M≤l.length:=by rw[HM.out];omega
 have hck:¬ c<M:=by omega
 have hc4:(l.length≤4∧M=l.length)∨(4<l.length∧M=4):=by have:=HM.out;omega
 go_enter Tryz.func304,Tryz.ntmps304
 go_wp2_with fail
 rcases hc4 with ⟨h4,hM4⟩|⟨h4,hM4⟩
 ·have HM4:=Lib.hid hM4
  clear hM4
  refine wp_region_flow 11 15 [] rfl rfl (by kernel_rfl) (by kernel_rfl) (by kernel_rfl) ?_ ?_
  ·intro x hx φ he
   cases hx
  intro ops' A' K' T hops hA' hK hT
  refine fl_mvN 3 (.pointer (some ⟨g,0,none⟩)) ?_
  refine fl_op1G 4 (.tmp 3) (.pointer (some ⟨g,0,none⟩)) (.pointer (some ⟨g,0,none⟩)) ?_
  refine fl_op1G 5 (.tmp 4) (.pointer (some ⟨g,0,none⟩)) (.pointer (some ⟨g,0,none⟩)) ?_
  refine fl_op1N 6 (.tmp 5) (.pointer (some ⟨g,0,none⟩)) (.slice A l.length c) (fun ρ h1 kk w1 (hg:Grow _ w1) hb hf=>by have c:=(hB.grow hg).cell 0;go_simp) ?_
  refine fl_mvN 7 (.pointer (some ⟨g,0,none⟩)) ?_
  refine fl_op1G 8 (.tmp 7) (.pointer (some ⟨g,0,none⟩)) (.pointer (some ⟨g,0,none⟩)) ?_
  refine fl_op1G 9 (.tmp 8) (.pointer (some ⟨g,0,none⟩)) (.pointer (some ⟨g,0,none⟩)) ?_
  refine fl_op1N 10 (.tmp 9) (.pointer (some ⟨g,0,none⟩)) (.slice A l.length c) (fun ρ h1 kk w1 (hg:Grow _ w1) hb hf=>by have c:=(hB.grow hg).cell 0;go_simp) ?_
  refine fl_op1G 11 (.tmp 10) (.slice A l.length c) (.int .i64 (l.length:Int)) ?_
  refine fl_op2N 12 (.tmp 11) (.const (.int .i64 4)) (.int .i64 (l.length:Int)) (.int .i64 4) (.int .i64 (M:Int)) (fun ρ h1 h2 kk w1 (hg:Grow _ w1) hb hf=>by have h5:=HM4.out;go_simp;omega) ?_
  refine fl_op2N 13 (.tmp 6) (.tmp 12) (.slice A l.length c) (.int .i64 (M:Int)) (.slice A M c) (fun ρ h1 h2 kk w1 (hg:Grow _ w1) hb hf=>by go_simp) ?_
  refine fl_end (fun _ _ w1 (hg:Grow _ w1) _ hfacts=>hT _ _ ?_)
  clear hops hA' hK hT
  simp only[putsL,Act.put,List.setIfInBounds_toArray,List.set_cons_zero,List.set_cons_succ,List.drop_succ_cons,List.drop_zero]
  go_wp2_with (go_at_call 162;refine (some_any _ V V A M c (q.take M) ((hI.grow hg).take hM) (by omega) (by omega)).mono ?_;rintro e w2 ⟨A1,q1,rfl,hI1,he1,hg1⟩)
  go_ret
  exact⟨A1,q1,rfl,hI1.mono (fun b hb=>⟨Nat.le_trans hg.size hb.1,hb.2⟩) (fun b hb=>⟨Nat.le_trans hg.size hb.1,hb.2⟩),he1.trans HT.out,hg.trans hg1⟩
 ·have HM4:=Lib.hid hM4
  clear hM4
  refine wp_region_flow 11 15 [] rfl rfl (by kernel_rfl) (by kernel_rfl) (by kernel_rfl) ?_ ?_
  ·intro x hx φ he
   cases hx
  intro ops' A' K' T hops hA' hK hT
  refine fl_mvN 3 (.pointer (some ⟨g,0,none⟩)) ?_
  refine fl_op1G 4 (.tmp 3) (.pointer (some ⟨g,0,none⟩)) (.pointer (some ⟨g,0,none⟩)) ?_
  refine fl_op1G 5 (.tmp 4) (.pointer (some ⟨g,0,none⟩)) (.pointer (some ⟨g,0,none⟩)) ?_
  refine fl_op1N 6 (.tmp 5) (.pointer (some ⟨g,0,none⟩)) (.slice A l.length c) (fun ρ h1 kk w1 (hg:Grow _ w1) hb hf=>by have c:=(hB.grow hg).cell 0;go_simp) ?_
  refine fl_mvN 7 (.pointer (some ⟨g,0,none⟩)) ?_
  refine fl_op1G 8 (.tmp 7) (.pointer (some ⟨g,0,none⟩)) (.pointer (some ⟨g,0,none⟩)) ?_
  refine fl_op1G 9 (.tmp 8) (.pointer (some ⟨g,0,none⟩)) (.pointer (some ⟨g,0,none⟩)) ?_
  refine fl_op1N 10 (.tmp 9) (.pointer (some ⟨g,0,none⟩)) (.slice A l.length c) (fun ρ h1 kk w1 (hg:Grow _ w1) hb hf=>by have c:=(hB.grow hg).cell 0;go_simp) ?_
  refine fl_op1G 11 (.tmp 10) (.slice A l.length c) (.int .i64 (l.length:Int)) ?_
  refine fl_op2N 12 (.tmp 11) (.const (.int .i64 4)) (.int .i64 (l.length:Int)) (.int .i64 4) (.int .i64 (M:Int)) (fun ρ h1 h2 kk w1 (hg:Grow _ w1) hb hf=>by have h5:=HM4.out;go_simp;omega) ?_
  refine fl_op2N 13 (.tmp 6) (.tmp 12) (.slice A l.length c) (.int .i64 (M:Int)) (.slice A M c) (fun ρ h1 h2 kk w1 (hg:Grow _ w1) hb hf=>by go_simp) ?_
  refine fl_end (fun _ _ w1 (hg:Grow _ w1) _ hfacts=>hT _ _ ?_)
  clear hops hA' hK hT
  simp only[putsL,Act.put,List.setIfInBounds_toArray,List.set_cons_zero,List.set_cons_succ,List.drop_succ_cons,List.drop_zero]
  go_wp2_with (go_at_call 162;refine (some_any _ V V A M c (q.take M) ((hI.grow hg).take hM) (by omega) (by omega)).mono ?_;rintro e w2 ⟨A1,q1,rfl,hI1,he1,hg1⟩)
  go_ret
  exact⟨A1,q1,rfl,hI1.mono (fun b hb=>⟨Nat.le_trans hg.size hb.1,hb.2⟩) (fun b hb=>⟨Nat.le_trans hg.size hb.1,hb.2⟩),he1.trans HT.out,hg.trans hg1⟩
end Go.Proofs.YtmijcbfgfkeodaaGreatDoor.Q
end
