/- Tk2, Tk3, Tk4, Tk5, Tk6, Bulk. -/
import Derived.Test.YtmijcbfgfkeodaaGreatDoorGz35
import Derived.BigQuiet
import Derived.Test.YtmijcbfgfkeodaaGreatDoorRows
set_option linter.all false
set_option maxRecDepth 100000
section
namespace Go.Proofs.YtmijcbfgfkeodaaGreatDoor
open Go.RowKit Go.Hop Go.Proofs.YtmijcbfgfkeodaaGreatDoor.V
theorem eGet_1 (w:World) (r B:Nat) (s:ByteArray) (x:Nat) (t:List UInt8) (h:RdAt r B (dsB [(s,x)]++t) w) (hs:Small (s,x)) :
 Calls Tryz.prog 216 #[.pointer (some ⟨r,0,none⟩),.int .i64 1] w fun e w'=>∃ A c,e=.returned (.slice A 1 c)∧RdAt r B t w'∧DIn w' (New w w') A 1 [(s,x)]∧1≤c∧c≤maxLen∧Only r w w':=
 eGet_any w r B [(s,x)] t h (fun d hd=>by rw[List.mem_singleton.1 hd];exact hs) (by simp)
theorem take_sample (w:World) (st:Nat) (z:Qs) (ep:Int) (l0:List Q.Ab) (k0:Int) (cu:Value) (s:ByteArray) (x:Nat) (hp:L.parseE s=0) (hs:Small (s,x)) (hx:1≤x) (V:Nat→Prop) (hBk:BookT st z ep (.slice none 0 0) [] l0 k0 cu w V) (hV:∀ b,V b→b<w.heap.size) (A:Option Addr) (m c:Nat) (hb:Bytes w w.heap.size A m (smpB s x)) (hmc:m≤c) (hcm:c≤maxLen) :
 Calls Tryz.prog 148 #[.pointer (some ⟨st,0,none⟩),.slice A m c] w fun e w'=>e=.returned (.tuple #[])∧(∃ sl,BookT st z ep sl [(s,x)] l0 k0 cu w' (Ext V w w'))∧Just V w w':=by
 have hl:smpB s x=enc 2++(dsB [(s,x)]++[]):=by simp[smpB,recB]
 rw[hl] at hb
 have hsz:=hs.1
 have hF:=bookL_framed st z ep (.slice none 0 0) [] l0 k0 cu
 have hS:=Solo.begin_ hBk hV
 have hN:=rNew_any w A m c _ hb hmc hcm
 go_enter Tryz.func148,Tryz.ntmps148
 go_wp2_with fail
 refine hN.mono ?_
 rintro e w1 ⟨r,rfl,hR1,hg1⟩
 have hU:=rNumber_any w1 r _ 2 _ (by omega) hR1
 go_wp2_with fail
 refine hU.mono ?_
 rintro e w2 ⟨rfl,hR2,ho2⟩
 have hg2:=grow_only (B:=0) hg1 hR1 ho2
 have hG:=eGet_1 w2 r _ s x _ hR2 hs
 go_wp2_with fail
 refine hG.mono ?_
 rintro e w3 ⟨A3,c3,rfl,hR3,hI3,hc3,hm3,ho3⟩
 have hg3:=grow_only (B:=0) hg2 hR2 ho3
 obtain⟨ad,hq,rfl,f0,f1⟩:=del_cells hI3 (k:=0) (by omega)
 have e0:w3.cell? ad=some (.string s):=f0 w3 (Grow.refl _)
 have e1:w3.cell? ⟨ad.block,ad.off+1,none⟩=some (.int .u64 (x:Int)):=f1 w3 (Grow.refl _)
 clear f0 f1
 have hga:=grow_alloc w3 (.cells #[.string s,.int .u64 (x:Int)] 29)
 have hBy:=Blk.made w3 29 #[.string s,.int .u64 (x:Int)]
 obtain⟨y,HY⟩:∃ y:Nat,Hid (y=w3.heap.size):=⟨_,rfl⟩
 obtain⟨wa,HA_⟩:∃ wa:World,Hid (wa=w3.alloc (.cells #[.string s,.int .u64 (x:Int)] 29)):=⟨_,rfl⟩
 rw[←HA_.out] at hga hBy
 rw[←HY.out] at hBy
 go_wp2_with fail
 rw[←HA_.out,←HY.out]
 clear e0 e1
 have hR4:=hR3.grow hga
 have hD:=rDone_any wa r _ hR4
 go_wp2_with fail
 refine hD.mono ?_
 rintro e w4 ⟨rfl,rfl⟩
 have hg4:=hg3.trans hga
 have hS4:=hS.grows hF hg4
 have hst4:=hS4.blk 0 rfl
 have c0:=hBy.cell 0
 have c1:=hBy.cell 1
 have hM:=bMay_0 wa st ep none 0 z cu hst4 s x hp (by omega) hx
 go_wp2_with fail
 refine hM.mono ?_
 rintro e w5 ⟨rfl,hg5⟩
 clear c0 c1
 have hY5:=hBy.grow hg5
 have hgw5:=hg4.trans hg5
 have hS5:=hS.grows hF hgw5
 have J5:=Lic.grow (V:=V) w hgw5
 have hst5:=hS5.blk 0 rfl
 unfold bkC at hst5
 go_wp2_with fail
 refine wp_region_flow 10 82 [(6,.inr (fun _=>IsIn 2 1 [.string s,.int .u64 (x:Int)])),(7,.inr (fun _=>NewRow w5.heap.size 29 2 1 [.string s,.int .u64 (x:Int)]))] rfl rfl (by kernel_rfl) (by kernel_rfl) (by kernel_rfl) ?_ ?_
 ·intro x hx φ he
  simp only[List.mem_cons,List.not_mem_nil,or_false] at hx
  rcases hx with rfl|rfl<;>cases he
  all_goals first|exact lasts_quiet (lasting_bytes _)|first|exact lasts_quiet (isIn_lasting _ _ _)|exact lasts_quiet (newRow_lasting _ _ _ _ _)
 intro ops' A' K' T hops hA' hK hT
 refine fl_mvN 46 (.pointer (some ⟨st,0,none⟩)) ?_
 refine fl_mvN 47 (.pointer (some ⟨st,0,none⟩)) ?_
 refine fl_op1N 48 (.tmp 47) (.pointer (some ⟨st,0,none⟩)) (.pointer (some ⟨st,0,none⟩)) (fun ρ h1 kk w6 (hg6:Grow _ w6) hb hf=>by go_simp) ?_
 refine fl_op1N 49 (.tmp 48) (.pointer (some ⟨st,0,none⟩)) (.pointer (some ⟨st,1,none⟩)) (fun ρ h1 kk w6 (hg6:Grow _ w6) hb hf=>by go_simp) ?_
 refine fl_op1N 50 (.tmp 49) (.pointer (some ⟨st,1,none⟩)) (.slice none 0 0) (fun ρ h1 kk w6 (hg6:Grow _ w6) hb hf=>by have c:=(hst5.grow hg6).cell 1;go_simp) ?_
 refine fl_op1N 51 (.tmp 7) (.pointer (some ⟨y,0,none⟩)) (.agg #[.string s,.int .u64 (x:Int)]) (fun ρ h1 kk w6 (hg6:Grow _ w6) hb hf=>by have c0:=(hY5.grow hg6).cell 0;have c1:=(hY5.grow hg6).cell 1;go_simp) ?_
 refine fl_any1 52 (by rfl) (by decide) (wanted_none (by rfl)) (fun _=>IsIn 2 1 [.string s,.int .u64 (x:Int)]) (by rw[hK.out];rfl) (.tmp 51) (.agg #[.string s,.int .u64 (x:Int)]) (by rfl) (fun ρ h1 kk w6 (hg6:Grow _ w6) hb hf=>by refine upon_behindAny (φ:=fun _=>IsIn 2 1 [.string s,.int .u64 (x:Int)]) (by rfl) ?_;exact delta_made rfl h1) (fun v52=>?_)
 refine fl_any2 53 (by rfl) (by decide) (wanted_none (by rfl)) (fun _=>NewRow w5.heap.size 29 2 1 [.string s,.int .u64 (x:Int)]) (by rw[hK.out];rfl) (.tmp 50) (.tmp 52) (.slice none 0 0) (v52) (by rfl) (by rfl) (fun ρ h1 h2 kk w6 (hg6:Grow _ w6) hb hf=>by refine upon_behindAny (φ:=fun _=>NewRow w5.heap.size 29 2 1 [.string s,.int .u64 (x:Int)]) (by rfl) ?_;exact app_nil dltE hg6.size (facts_take hf (by rw[hA'.out];kernel_rfl)) h1 h2 rfl (dlt_one _ _) (by decide)) (fun v53=>?_)
 refine fl_op1N 54 (.tmp 46) (.pointer (some ⟨st,0,none⟩)) (.pointer (some ⟨st,0,none⟩)) (fun ρ h1 kk w6 (hg6:Grow _ w6) hb hf=>by go_simp) ?_
 refine fl_op1N 55 (.tmp 54) (.pointer (some ⟨st,0,none⟩)) (.pointer (some ⟨st,1,none⟩)) (fun ρ h1 kk w6 (hg6:Grow _ w6) hb hf=>by go_simp) ?_
 refine fl_end (fun _ _ w6 (hg6:Grow _ w6) _ hfacts=>hT _ _ ?_)
 clear hops hA' hK hT
 simp only[putsL,Act.put,List.setIfInBounds_toArray,List.set_cons_zero,List.set_cons_succ,List.drop_succ_cons,List.drop_zero]
 obtain⟨A6,c6,e6⟩:=newRow_one hfacts.1
 obtain⟨U6,hR6,hU6⟩:NewRow w5.heap.size 29 2 1 [.string s,.int .u64 (x:Int)] v53 w6:=hfacts.1
 clear hfacts
 subst e6
 have hS6:=hS5.renew (R:=Smp (.slice A6 1 c6) [(s,x)]) 1 rfl hF hg6 hR6 hU6
 have hS6:Solo (Lic V w) (Many (Cell st 148 (bkC ep (.slice none 0 0) z cu) :: (bookL st z ep (.slice A6 1 c6) [(s,x)] l0 k0 cu).tail)) w6:=hS6
 have hF6:=(bookL_framed st z ep (.slice A6 1 c6) [(s,x)] l0 k0 cu).tail.cons (Cell.framed st 148 (bkC ep (.slice none 0 0) z cu))
 have J6:=J5.trans (Just.of_grow hg6)
 go_wp2_with (refine wpList_putS rfl _ _ _ rfl hS6 hF6 J6 0 rfl rfl (.slice A6 1 c6) rfl (Nat.le_of_ble_eq_true rfl) rfl (by kernel_rfl) ?_;intro w7 hS7 J7;refine stay ?_)
 refine stay_out ?_
 go_wp2_with fail
 go_end0
 have hS7:Solo (Lic V w) (Many (bookL st z ep (.slice A6 1 c6) [(s,x)] l0 k0 cu)) w7:=hS7
 obtain⟨r1,r2⟩:=Solo.done hS7 J7 hV
 exact⟨rfl,⟨_,r1⟩,r2⟩
theorem bb1_no (w:World) (s:ByteArray) (x:Nat) (hp:L.parseE s=0) (hs:s.size≤1000000) (hx:1≤x):Calls Tryz.prog 286 #[.agg #[.string s,.int .u64 (x:Int)]] w fun e w'=>e=.returned (.bool false)∧Grow w w':=by
 have hga:=grow_alloc w (.cells #[.string s,.int .u64 (x:Int)] 29)
 have hB:=Blk.made w 29 #[.string s,.int .u64 (x:Int)]
 have c0:=hB.cell 0
 have c1:=hB.cell 1
 have hR:=bright_ok (w.alloc (.cells #[.string s,.int .u64 (x:Int)] 29)) s x hp hs hx
 go_enter Tryz.func286,Tryz.ntmps286
 go_wp2_with fail
 refine hR.mono ?_
 rintro e w2 ⟨rfl,hg2⟩
 go_wp2_with fail
 go_ret
 exact⟨rfl,hga.trans hg2⟩
theorem IndexF_bb1 (w:World) (V:Nat→Prop) (A:Option Addr) (n c:Nat) (l:List Dl) (h:DIn w V A n l) (hn:n≤1048576) (hl:∀ d∈l,L.parseE d.1=0∧d.1.size≤1000000∧1≤d.2) :
 Calls Tryz.prog 156 #[.slice A n c,.func (.func 286) #[] #[]] w fun e w'=>e=.returned (.int .i64 (-1))∧Grow w w':=by
 go_enter Tryz.func156,Tryz.ntmps156
 go_wp2_with fail
 go_loopw [8] (fun i wr=>∃ k:Nat,k≤n∧i=.int .i64 (k:Int)∧Grow w wr) (fun i _=>n-(intOf i).toNat)
 case atStart=>exact⟨0,by omega,rfl,Grow.refl _⟩
 case round=>
  obtain⟨k,hkn,rfl,hgr⟩:=hrel
  by_cases hk:k<n
  ·obtain⟨ad,hq,rfl,f0,f1⟩:=del_cells (In.grow h hgr) hk
   have e0:=f0 wr (Grow.refl _)
   have e1:=f1 wr (Grow.refl _)
   have hmem:l[k]∈l:=List.getElem_mem hq
   generalize l[k]=y at e0 e1 hmem
   obtain⟨s,x⟩:=y
   dsimp only at e0 e1
   have hc:=bb1_no wr s x (hl _ hmem).1 (hl _ hmem).2.1 (hl _ hmem).2.2
   clear f0 f1
   go_wp2_with fail
   refine hc.mono ?_
   rintro e w2 ⟨rfl,hg2⟩
   go_wp2_with fail
   go_roundw
   case rel=>exact⟨k+1,by omega,by go_num,hgr.trans hg2⟩
   case measure=>simp[intOf];omega
  ·obtain rfl:k=n:=by omega
   go_wp2_with fail
   go_ret
   exact⟨rfl,hgr⟩
theorem ContainsF_bb1 (w:World) (V:Nat→Prop) (A:Option Addr) (n c:Nat) (l:List Dl) (h:DIn w V A n l) (hn:n≤1048576) (hl:∀ d∈l,L.parseE d.1=0∧d.1.size≤1000000∧1≤d.2) :
 Calls Tryz.prog 204 #[.slice A n c,.func (.func 286) #[] #[]] w fun e w'=>e=.returned (.bool false)∧Grow w w':=by
 have hI:=IndexF_bb1 w V A n c l h hn hl
 go_enter Tryz.func204,Tryz.ntmps204
 go_wp2_with fail
 refine hI.mono ?_
 rintro e w2 ⟨rfl,hg2⟩
 go_wp2_with fail
 go_ret
 exact⟨rfl,hg2⟩
theorem bbatch_1 (w w0:World) (hg0:Grow w0 w) (st r:Nat) (z:Qs) (ep:Int) (sl:Value) (s:ByteArray) (x:Nat) (hp:L.parseE s=0) (hs:Small (s,x)) (hx:1≤x) (V:Nat→Prop) (hBk:BookT st z ep sl [(s,x)] [] 0 (.slice none 0 0) w0 V) (hV:∀ b,V b→b<w0.heap.size) (hR:RdAt r w0.heap.size (enc 0++(enc 1++(enc 1++(dsB [(s,x)]++[])))) w) :
 Calls Tryz.prog 217 #[.pointer (some ⟨st,0,none⟩),.pointer (some ⟨r,0,none⟩),.bool false] w fun e w'=>e=.returned (.tuple #[])∧BookE st z ep [(1,[(s,x)])] 1 w' (Ext V w0 w')∧Just V w0 w':=by
 have hsz:=hs.1
 have hC1:Calls Tryz.prog 185 #[.pointer (some ⟨r,0,none⟩),.int .i64 3] w fun e w'=>e=.returned (.int .i64 0)∧RdAt r w0.heap.size _ w'∧Only r w w':=rCount_any w r _ 0 3 _ (by omega) (by omega) hR
 go_enter Tryz.func217,Tryz.ntmps217
 go_wp2_with fail
 refine hC1.mono ?_
 rintro e w1 ⟨rfl,hR1,ho1⟩
 have hg1:=grow_only (B:=0) hg0 hR ho1
 have hC2:Calls Tryz.prog 184 #[.pointer (some ⟨r,0,none⟩)] w1 fun e w'=>e=.returned (.int .i64 1)∧RdAt r w0.heap.size _ w'∧Only r w1 w':=rInt_any w1 r _ 1 _ (by omega) hR1
 go_wp2_with fail
 refine hC2.mono ?_
 rintro e w2 ⟨rfl,hR2,ho2⟩
 have hg2:=grow_only (B:=0) hg1 hR1 ho2
 have hC3:Calls Tryz.prog 185 #[.pointer (some ⟨r,0,none⟩),.int .i64 8] w2 fun e w'=>e=.returned (.int .i64 1)∧RdAt r w0.heap.size _ w'∧Only r w2 w':=rCount_any w2 r _ 1 8 _ (by omega) (by omega) hR2
 go_wp2_with fail
 refine hC3.mono ?_
 rintro e w3 ⟨rfl,hR3,ho3⟩
 have hg3:=grow_only (B:=0) hg2 hR2 ho3
 have hG:=eGet_1 w3 r _ s x _ hR3 hs
 go_wp2_with fail
 refine hG.mono ?_
 rintro e w4 ⟨A4,c4,rfl,hR4,hI4,hc4,hm4,ho4⟩
 have hg4:=grow_only (B:=0) hg3 hR3 ho4
 have hga:=grow_alloc w4 (.cells #[.int .i64 1,.slice A4 1 c4] 159)
 have hBy:=Blk.made w4 159 #[.int .i64 1,.slice A4 1 c4]
 obtain⟨y,HY⟩:∃ y:Nat,Hid (y=w4.heap.size):=⟨_,rfl⟩
 obtain⟨wa,HA_⟩:∃ wa:World,Hid (wa=w4.alloc (.cells #[.int .i64 1,.slice A4 1 c4] 159)):=⟨_,rfl⟩
 rw[←HA_.out] at hga hBy
 rw[←HY.out] at hBy
 go_wp2_with fail
 rw[←HA_.out,←HY.out]
 have hD:=rDone_any wa r _ (hR4.grow hga)
 go_wp2_with fail
 refine hD.mono ?_
 rintro e w5 ⟨rfl,rfl⟩
 have c0:=hBy.cell 0
 have c1:=hBy.cell 1
 have hCF:=ContainsF_bb1 wa _ A4 1 c4 [(s,x)] (In.grow hI4 hga) (by omega) (fun d hd=>by rw[List.mem_singleton.1 hd];exact⟨hp,by show s.size≤1000000;omega,hx⟩)
 go_wp2_with fail
 refine hCF.mono ?_
 rintro e w6 ⟨rfl,hg6⟩
 have hgw:=(hg4.trans hga).trans hg6
 have hB6:=BookT.framed _ _ _ _ _ _ _ _ w0 w6 V hBk fun b hb=>hgw.block b (hV b hb)
 have hV6:∀ b,V b→b<w6.heap.size:=fun b hb=>Nat.lt_of_lt_of_le (hV b hb) hgw.size
 have hY6:=hBy.grow hg6
 have hn4:∀ b,New w3 w4 b→w0.heap.size≤b:=fun b hb=>Nat.le_trans hg3.size hb.1
 have hA:Calls Tryz.prog 161 #[.pointer (some ⟨st,0,none⟩),.int .i64 0,.agg #[.int .i64 1,.slice A4 1 c4]] w6 _:=bAdd_one w6 st z ep sl s x x 1 c4 [] 0 A4 _ V hB6 hV6 (In.grow (In.grow hI4 hga) hg6) (fun b hb=>Nat.lt_of_lt_of_le hb.2 (hga.trans hg6).size) (fun b hb hv=>by have:=hn4 b hb;have:=hV b hv;omega) hc4 hm4 (by decide)
 clear c0 c1
 have c0:=hY6.cell 0
 have c1:=hY6.cell 1
 go_wp2_with fail
 refine hA.mono ?_
 rintro e w7 ⟨rfl,hBE,hj7⟩
 go_wp2_with fail
 go_end0
 refine⟨rfl,?_,(Just.of_grow hgw).trans hj7⟩
 obtain⟨A8,c8,cu8,hBE⟩:=hBE
 exact⟨A8,c8,cu8,Many.wide _ w7 _ _ (fun b hb=>hb.elim .inl fun h => .inr ⟨Nat.le_trans hgw.size h.1,h.2⟩) hBE⟩
theorem take_batch (w:World) (st:Nat) (z:Qs) (ep:Int) (sl:Value) (s:ByteArray) (x:Nat) (hp:L.parseE s=0) (hs:Small (s,x)) (hx:1≤x) (V:Nat→Prop) (hBk:BookT st z ep sl [(s,x)] [] 0 (.slice none 0 0) w V) (hV:∀ b,V b→b<w.heap.size) (A:Option Addr) (m c:Nat) (hb:Bytes w w.heap.size A m (batB s x)) (hmc:m≤c) (hcm:c≤maxLen) :
 Calls Tryz.prog 148 #[.pointer (some ⟨st,0,none⟩),.slice A m c] w fun e w'=>e=.returned (.tuple #[])∧BookE st z ep [(1,[(s,x)])] 1 w' (Ext V w w')∧Just V w w':=by
 have hl:batB s x=enc 3++(enc 0++(enc 1++(enc 1++(dsB [(s,x)]++[])))):=by simp[batB,recB]
 rw[hl] at hb
 have hN:=rNew_any w A m c _ hb hmc hcm
 go_enter Tryz.func148,Tryz.ntmps148
 go_wp2_with fail
 refine hN.mono ?_
 rintro e w1 ⟨r,rfl,hR1,hg1⟩
 have hU:=rNumber_any w1 r _ 3 _ (by omega) hR1
 go_wp2_with fail
 refine hU.mono ?_
 rintro e w2 ⟨rfl,hR2,ho2⟩
 have hg2:=grow_only (B:=0) hg1 hR1 ho2
 have hB:=bbatch_1 w2 w hg2 st r z ep sl s x hp hs hx V hBk hV hR2
 go_wp2_with fail
 refine hB.mono ?_
 rintro e w3 ⟨rfl,hB3,hj3⟩
 go_wp2_with fail
 go_end0
 exact⟨rfl,hB3,hj3⟩
def recOf (s:ByteArray) (x i:Nat):List UInt8:=match i with
 | 0=>recB 1 [1]
 | 1=>smpB s x
 | 2=>batB s x
 | i+3=>recB 1 [i+2]
def bkAt (st:Nat) (z:Qs) (s:ByteArray) (x i:Nat):Thing:=match i with
 | 0=>BookT st z 0 (.slice none 0 0) [] [] 0 (.slice none 0 0)
 | 1=>BookT st z 1 (.slice none 0 0) [] [] 0 (.slice none 0 0)
 | 2=>fun w V=>∃ sl,BookT st z 1 sl [(s,x)] [] 0 (.slice none 0 0) w V
 | i+3=>BookE st z ((i+1:Nat):Int) [(1,[(s,x)])] 1
theorem bkAt_framed (st:Nat) (z:Qs) (s:ByteArray) (x:Nat):∀ i,Framed (bkAt st z s x i)
 | 0=>BookT.framed _ _ _ _ _ _ _ _
 | 1=>BookT.framed _ _ _ _ _ _ _ _
 | 2=>fun w w' V ⟨sl,h⟩ hk=>⟨sl,BookT.framed _ _ _ _ _ _ _ _ w w' V h hk⟩
 | _+3=>BookE.framed _ _ _ _ _
theorem bkAt_wide (st:Nat) (z:Qs) (s:ByteArray) (x:Nat):∀ i,Wide (bkAt st z s x i)
 | 0=>Many.wide _
 | 1=>Many.wide _
 | 2=>fun w U U' hs ⟨sl,h⟩=>⟨sl,Many.wide _ w U U' hs h⟩
 | _+3=>fun w U U' hs ⟨A,c,cu,h⟩=>⟨A,c,cu,Many.wide _ w U U' hs h⟩
theorem take_step (w:World) (st:Nat) (z:Qs) (s:ByteArray) (x:Nat) (hp:L.parseE s=0) (hs:Small (s,x)) (hx:1≤x) (V:Nat→Prop) (hV:∀ b,V b→b<w.heap.size) (A:Option Addr) (m c:Nat) (hmc:m≤c) (hcm:c≤maxLen):∀ i,i≤1000000→bkAt st z s x i w V→Bytes w w.heap.size A m (recOf s x i)→
 Calls Tryz.prog 148 #[.pointer (some ⟨st,0,none⟩),.slice A m c] w fun e w'=>e=.returned (.tuple #[])∧bkAt st z s x (i+1) w' (Ext V w w')∧Just V w w'
 | 0,_,h,hb=>take_epoch w st z 0 (.slice none 0 0) [] [] 0 (.slice none 0 0) 1 (by decide) (by decide) V h hV A m c hb hmc hcm
 | 1,_,h,hb=>take_sample w st z 1 [] 0 (.slice none 0 0) s x hp hs hx V h hV A m c hb hmc hcm
 | 2,_,⟨sl,h⟩,hb=>take_batch w st z 1 sl s x hp hs hx V h hV A m c hb hmc hcm
 | i+3,hi,⟨A1,c1,cu,h⟩,hb=>(take_epoch w st z _ _ [] _ 1 cu (i+2) (by omega) (by omega) V h hV A m c hb hmc hcm).mono fun e w' ⟨h1,h2,h3⟩=>⟨h1,⟨A1,c1,cu,h2⟩,h3⟩
theorem bTake_own (w:World) (st:Nat) (z:Qs) (s:ByteArray) (x:Nat) (hp:L.parseE s=0) (hs:Small (s,x)) (hx:1≤x) (V:Nat→Prop) (hBk:bkAt st z s x 0 w V) (hV:∀ b,V b→b<w.heap.size) (A:Option Addr) (q:List Bx) (c:Nat) (R D:Nat→Prop) (hq:Bxs w R D A q.length q) (hRV:∀ b,R b→¬ V b) (hDV:∀ b,D b→¬ V b) (hRl:∀ b,R b→b<w.heap.size) (hDl:∀ b,D b→b<w.heap.size) (hrec:∀ (i:Nat) (b:Bx),q[i]?=some b→b.bs=recOf s x i) (hql:q.length≤1000000) :
 Calls Tryz.prog 67 #[.pointer (some ⟨st,0,none⟩),.slice A q.length c] w fun e w'=>e=.returned (.tuple #[])∧bkAt st z s x q.length w' (Ext V w w')∧Just V w w':=by
 go_enter Tryz.func67,Tryz.ntmps67
 go_wp2_with fail
 go_loopw [8] (fun i wr=>∃ k:Nat,k≤q.length∧i=.int .i64 (k:Int)∧bkAt st z s x k wr (Ext V w wr)∧Just V w wr) (fun i _=>q.length-(intOf i).toNat)
 case atStart=>exact⟨0,by omega,rfl,bkAt_wide st z s x 0 w _ _ (fun b hb => .inl hb) hBk,Just.of_grow (Grow.refl _)⟩
 case round=>
  obtain⟨k,hk,rfl,hB,hj⟩:=hrel
  have hEl:∀ b,Ext V w wr b→b<wr.heap.size:=fun b hb=>hb.elim (fun h=>Nat.lt_of_lt_of_le (hV b h) hj.size) fun h=>h.2
  by_cases hlt:k<q.length
  ·have hq1:Bxs wr R D A q.length q:=hq.just hj hRV hDV
   obtain⟨ad,hq2,rfl,_,hb,e0,_⟩:=In.rec_ (cells:=Bx.cells) hq1.row (by omega) bx_len hlt
   have hbk:=hq1.all q[k] (List.getElem_mem hlt)
   have e0:wr.cell? (ad.add (k*1))=some (.slice q[k].A q[k].m q[k].c):=e0 _ rfl
   rw[Nat.mul_one] at e0
   have hbs:Bytes wr wr.heap.size q[k].A q[k].m (recOf s x k):=by
    rw[←hrec k q[k] (List.getElem?_eq_getElem hlt)]
    exact hbk.bytes
   have hT:=take_step wr st z s x hp hs hx (Ext V w wr) hEl q[k].A q[k].m q[k].c hbk.le hbk.max k (by omega) hB hbs
   generalize q[k]=b0 at e0 hT
   clear hbs hbk
   go_wp2_with fail
   refine hT.mono ?_
   rintro e w1 ⟨rfl,hB1,hj1⟩
   have hj2:=Go.RowKit.Just.ext_ hj hj1
   go_wp2_with fail
   go_roundw
   case rel=>exact⟨k+1,by omega,by go_num,bkAt_wide st z s x (k+1) w1 _ _ (fun b hb=>hb.elim (fun h=>h.elim .inl fun h => .inr ⟨h.1,Nat.lt_of_lt_of_le h.2 hj1.size⟩) fun h => .inr ⟨Nat.le_trans hj.size h.1,h.2⟩) hB1,hj2⟩
   case measure=>simp[intOf];omega
  ·obtain rfl:k=q.length:=by omega
   go_wp2_with fail
   go_end0
   exact⟨rfl,hB,hj⟩
theorem _root_.Go.Hop.Solo.ex {ι:Type} {P:Nat→Prop} {S:ι→Thing} {l:List Thing} {w:World} (i:Nat) (hi:l[i]?=some (fun w V=>∃ a,S a w V)) (h:Solo P (Many l) w):∃ a,Solo P (Many (l.set i (S a))) w:=by
 obtain⟨h0,V,hM,hV⟩:=h
 obtain⟨V1,V2,⟨a,ha⟩,b,c,d,e⟩:=Many.pick l i _ hi hM
 exact⟨a,h0,V,Many.unpick l i _ (S a) hi ⟨V1,V2,ha,b,c,d,e⟩,hV⟩
def bsOf (s:ByteArray) (x n:Nat):List UInt8:=((List.range n).map (recOf s x)).flatMap frame
theorem bsOf_more (s:ByteArray) (x n:Nat):bsOf s x (n+1)=bsOf s x n++frame (recOf s x n):=by simp[bsOf,List.range_succ]
theorem recOf_len {s:ByteArray} {x:Nat} (hs:Small (s,x)):∀ i,i≤1000000→(recOf s x i).length≤1060
 | 0,_=>Nat.le_trans (recB_len 1 [1] (by decide) (by decide)) (by decide)
 | 1,_=>Nat.le_trans (smpB_len hs) (by decide)
 | 2,_=>batB_len hs
 | i+3,h=>Nat.le_trans (recB_len 1 [i+2] (by decide) (fun y hy=>by rw[List.mem_singleton.1 hy];omega)) (by simp)
theorem bsOf_len {s:ByteArray} {x:Nat} (hs:Small (s,x)):∀ n,n≤1000→(bsOf s x n).length≤n*1074
 | 0,_=>by simp[bsOf]
 | n+1,h=>by
   have h1:=bsOf_len hs n (by omega)
   have h2:=recOf_len hs n (by omega)
   have h3:=frame_le (recOf s x n) (by omega)
   rw[bsOf_more,List.length_append]
   omega
theorem scan_own {s:ByteArray} {x:Nat} (hs:Small (s,x)) (n:Nat) (hn:n≤1000):ScanIs (bsOf s x n) ((List.range n).map (recOf s x)) (bsOf s x n).length:=
 ⟨by rw[List.drop_length,List.append_nil];rfl,rfl,fun y hy=>by
  obtain⟨i,hi,rfl⟩:=List.mem_map.1 hy
  have:=recOf_len hs i (by have:=List.mem_range.1 hi;omega)
  omega,by rw[List.drop_length];exact scan_empty.2.2.2⟩
theorem aNew_own (w:World) (d node reps i k:Nat) (s:ByteArray) (x:Nat) (hp:L.parseE s=0) (hs:Small (s,x)) (hx:1≤x) (hnode:node<8) (hr1:1≤reps) (hr8:reps≤8) (hi:i≤100) (V:Nat→Prop) (hD:DiskAt 133 d (bsOf s x (i+3)) k w V) (hV:∀ b,V b→b<w.heap.size) :
 Calls Tryz.prog 23 #[.int .i64 (node:Int),.int .i64 (reps:Int),.pointer (some ⟨d,0,none⟩)] w fun e w'=>∃ (p:AgP) (tag:Int),p.d=d∧e=.returned (.pointer (some ⟨p.a,0,none⟩))∧Many (agL p (BookE p.st p.z ((i+2:Nat):Int) [(1,[(s,x)])] 1) node reps 0 tag 0 [] [] ((i+4:Nat):Int) (bsOf s x (i+4)) (bsOf s x (i+4)).length) w' (Ext V w w')∧Just V w w':=by
 have hmm:=@run_makeMap Tryz.prog
 have hO:=Open_any w d _ k V hD hV
 have d1:decide ((node:Int)<0)=false:=decide_eq_false (by omega)
 have d2:decide ((8:Int)≤(node:Int))=false:=decide_eq_false (by omega)
 have d3:decide ((reps:Int)<1)=false:=decide_eq_false (by omega)
 have d4:decide ((8:Int)<(reps:Int))=false:=decide_eq_false (by omega)
 have hbl:=bsOf_len hs (i+3) (by omega)
 have hso:=scan_own hs (i+3) (by omega)
 have hmore:=bsOf_more s x (i+3)
 have hrl:=recOf_len hs (i+3) (by omega)
 obtain⟨bs,HBS⟩:∃ bs,Hid (bs=bsOf s x (i+3)):=⟨_,rfl⟩
 rw[←HBS.out] at hO hbl hso hmore
 rw[show i+4=i+3+1 from rfl,hmore]
 clear hmore hD
 go_enter Tryz.func23,Tryz.ntmps23
 go_wp2_with fail
 refine hO.mono ?_
 rintro e w1 ⟨xs,j,xl,u,hsc,rfl,hX,hL,hj1⟩
 obtain⟨rfl,rfl⟩:=hsc.one hso
 obtain⟨A1,c1,q1,rfl,hB1,hq1,hqc1,hcm1⟩:=hX
 have hql:q1.length=i+3:=by have:=congrArg List.length hq1;simpa using this
 rw[List.take_length,List.length_map,List.length_range] at hL
 have hw1:=hj1.size
 have hrec:∀ (k:Nat) (b:Bx),q1[k]?=some b→b.bs=recOf s x k:=fun k b hk=>by
  have h1:(q1.map Bx.bs)[k]?=some b.bs:=by rw[List.getElem?_map,hk];rfl
  rw[hq1,List.getElem?_map] at h1
  have hlt:k<i+3:=by
   have:=(List.getElem?_eq_some_iff.1 hk).1
   omega
  rw[List.getElem?_range hlt] at h1
  exact (Option.some.inj h1).symm
 clear hq1 hsc hso
 have hS1:Solo (fun b=>w1.heap.size≤b) (Many []) w1:=⟨fun _ h=>h,fun _=>False,trivial,fun _ h=>h.elim⟩
 have hF1:AllFramed []:=AllFramed.nil
 have hN:=bNew_any w1
 go_wp2_with fail
 refine hN.mono ?_
 rintro e w2 ⟨st,z,rfl,hBk,hg2⟩
 have hS2:=hS1.join hF1 hg2 hBk (fun b hb=>hb)
 have hF2:=hF1.cons (BookT.framed st z 0 (.slice none 0 0) [] [] 0 (.slice none 0 0))
 have g3:Grow w2 (w2.alloc (.map #[] 0)):=(Below.refl _ w2).alloc (Nat.le_refl _) _
 have m3:GMap (κ:=Int×Int×Int) keD w2.heap.size [] (w2.alloc (.map #[] 0)) (fun b=>b=w2.heap.size):=GMap.made w2
 have z3:(w2.alloc (.map #[] 0)).heap.size=w2.heap.size+1:=by simp
 obtain⟨w3,HW3⟩:∃ w3:World,Hid (w3=w2.alloc (.map #[] 0)):=⟨_,rfl⟩
 rw[←HW3.out] at g3 m3 z3
 have hS3:=hS2.join hF2 g3 m3 (fun b hb=>by omega)
 have hF3:=hF2.cons (GMap.framed (ke:=keD) w2.heap.size [])
 have g4:Grow w3 (w3.alloc (.map #[] 0)):=(Below.refl _ w3).alloc (Nat.le_refl _) _
 have m4:GMap (κ:=Int) keI w3.heap.size [] (w3.alloc (.map #[] 0)) (fun b=>b=w3.heap.size):=GMap.made w3
 have z4:(w3.alloc (.map #[] 0)).heap.size=w3.heap.size+1:=by simp
 obtain⟨w4,HW4⟩:∃ w4:World,Hid (w4=w3.alloc (.map #[] 0)):=⟨_,rfl⟩
 rw[←HW4.out] at g4 m4 z4
 have hS4:=hS3.join hF3 g4 m4 (fun b hb=>by omega)
 have hF4:=hF3.cons (GMap.framed (ke:=keI) w3.heap.size [])
 obtain⟨bT,HbT⟩:∃ b:Nat,Hid (b=w2.heap.size):=⟨_,rfl⟩
 obtain⟨bK,HbK⟩:∃ b:Nat,Hid (b=w3.heap.size):=⟨_,rfl⟩
 obtain⟨a,Ha⟩:∃ b:Nat,Hid (b=w4.heap.size):=⟨_,rfl⟩
 have hK1:bK=bT+1:=by rw[HbK.out,HbT.out];omega
 have ha1:a=bT+1+1:=by rw[Ha.out,HbT.out];omega
 rw[←HbT.out,←HbK.out] at hS4 hF4
 have g5:=grow_alloc w4 (.cells #[.int .i64 (node:Int),.int .i64 (reps:Int),.pointer (some ⟨xl,0,none⟩),.pointer (some ⟨st,0,none⟩),.int .i64 0,.int .i64 0,.int .i64 0,.map (some bT),.map (some bK)] 143)
 have b5:=Blk.made w4 143 #[.int .i64 (node:Int),.int .i64 (reps:Int),.pointer (some ⟨xl,0,none⟩),.pointer (some ⟨st,0,none⟩),.int .i64 0,.int .i64 0,.int .i64 0,.map (some bT),.map (some bK)]
 obtain⟨w5,HW5⟩:∃ w5:World,Hid (w5=w4.alloc (.cells #[.int .i64 (node:Int),.int .i64 (reps:Int),.pointer (some ⟨xl,0,none⟩),.pointer (some ⟨st,0,none⟩),.int .i64 0,.int .i64 0,.int .i64 0,.map (some bT),.map (some bK)] 143)):=⟨_,rfl⟩
 rw[←HW5.out] at g5 b5
 rw[←Ha.out] at b5
 have hS5:=hS4.join hF4 g5 (R:=Cell a 143 (agC ⟨a,st,xl,d,bT,bK,z⟩ node reps 0 0 0)) (U:=fun b=>b=a) ⟨rfl,b5⟩ (fun b hb=>by have:=Ha.out;have:=b5.lt;omega)
 have hF5:=hF4.cons (Cell.framed a 143 (agC ⟨a,st,xl,d,bT,bK,z⟩ node reps 0 0 0))
 have g15:Grow w1 w5:=(((hg2.trans g3).trans g4).trans g5)
 clear hS1 hS2 hS3 hS4 hF1 hF2 hF3 hF4 g3 g4 g5 m3 m4 z3 z4
 have ha5:=hS5.blk 0 rfl
 unfold agC at ha5
 have k3:=ha5.cell 3
 have hB5:=hB1.grow g15
 have hTk:=hS5.atV 3 rfl hF5 (fun U hU hUl hUP=>bTake_own w5 st z s x hp hs hx U hU hUl A1 q1 c1 (New w w1) (New w w1) hB5 (fun b hb hu=>by have:=hb.2;have:=hUP b hu;omega) (fun b hb hu=>by have:=hb.2;have:=hUP b hu;omega) (fun b hb=>Nat.lt_of_lt_of_le hb.2 g15.size) (fun b hb=>Nat.lt_of_lt_of_le hb.2 g15.size) hrec (by omega))
 rw[hql] at hTk
 go_wp2_with fail
 rw[←HW3.out,←HW4.out,←HbT.out,←ha1,←hK1,←HW5.out]
 clear k3 ha1 hK1
 refine hTk.mono ?_
 rintro e w6 ⟨rfl,hj6,hS6⟩
 obtain⟨A6,hS6⟩:=hS6.ex 3 rfl
 obtain⟨c6,hS6⟩:=hS6.ex 3 rfl
 obtain⟨cu6,hS6⟩:=hS6.ex 3 rfl
 have hS6:Solo (fun b=>w1.heap.size≤b) (Many [Cell a 143 (agC ⟨a,st,xl,d,bT,bK,z⟩ node reps 0 0 0),GMap (κ:=Int) keI bK [],GMap (κ:=Int×Int×Int) keD bT [],(BookT st z ((i+1:Nat):Int) (.slice A6 0 c6) [] [(1,[(s,x)])] 1 cu6)]) w6:=hS6
 have j16:Just (fun b=>w1.heap.size≤b) w1 w6:=(Just.of_grow g15).trans hj6
 have hL6:=LogAt.framed xl d _ _ _ w1 w6 _ hL fun b hb=>j16.block b (hb.elim (fun h=>Nat.lt_of_lt_of_le (hV b h) hw1) fun h=>h.2) (fun h=>hb.elim (fun h2=>by have:=hV b h2;omega) fun h2=>by have:=h2.2;omega)
 have J6:Just (Lic V w) w w6:=(hj1.imp fun b hb => .inl hb).trans (j16.imp fun b hb => .inr (Nat.le_trans hw1 hb))
 obtain⟨h60,U6,hM6,hU6⟩:=hS6
 have hS7:=Solo.cons_ (P:=Lic V w) (fun b hb => .inr (Nat.le_trans J6.size hb)) hM6 (fun b hb=>⟨.inr (Nat.le_trans hw1 (hU6 b hb).1),(hU6 b hb).2⟩) hL6 (fun b hb=>⟨hb.elim .inl fun h => .inr h.1,hb.elim (fun h=>Nat.lt_of_lt_of_le (hV b h) J6.size) (fun h=>Nat.lt_of_lt_of_le h.2 j16.size),fun hu=>hb.elim (fun h=>by have:=hV b h;have:=(hU6 b hu).1;omega) fun h=>by have:=h.2;have:=(hU6 b hu).1;omega⟩)
 have hS7:Solo (Lic V w) (Many ([(BookT st z ((i+1:Nat):Int) (.slice A6 0 c6) [] [(1,[(s,x)])] 1 cu6),Cell a 143 (agC ⟨a,st,xl,d,bT,bK,z⟩ node reps 0 0 0),GMap (κ:=Int) keI bK [],GMap (κ:=Int×Int×Int) keD bT [],LogAt xl d ((i+3:Nat):Int) bs bs.length])) w6:=hS7.perm (by
  refine (List.perm_middle (l₁:=[_,_,_,_]) (l₂:=[])).trans (List.Perm.cons _ ?_)
  exact (List.perm_middle (l₁:=[_,_,_]) (l₂:=[])).symm)
 obtain⟨E1,HE1⟩:∃ E:Int,Hid (E=((i+1:Nat):Int)):=⟨_,rfl⟩
 obtain⟨E2,HE2⟩:∃ E:Int,Hid (E=((i+2:Nat):Int)):=⟨_,rfl⟩
 have e1:=HE1.out
 have e2:=HE2.out
 rw[←HE1.out] at hS7
 have hwr:IntKind.i64.wrap (E1+1)=E2:=by rw[IntKind.wrap_i64];omega
 have hwr2:wrap64 (E1+1)=E2:=by unfold wrap64;omega
 have hE2:decide ((1073741824:Int)<E2)=false:=decide_eq_false (by omega)
 clear e1 e2
 have hS8:Solo (Lic V w) (Many (bookL st z E1 (.slice A6 0 c6) [] [(1,[(s,x)])] 1 cu6++[Cell a 143 (agC ⟨a,st,xl,d,bT,bK,z⟩ node reps 0 0 0),GMap (κ:=Int) keI bK [],GMap (κ:=Int×Int×Int) keD bT [],LogAt xl d ((i+3:Nat):Int) bs bs.length])) w6:=Solo.flat hS7
 have hF8:=allFramed_app (bookL_framed st z E1 (.slice A6 0 c6) [] [(1,[(s,x)])] 1 cu6) (agL_framed ⟨a,st,xl,d,bT,bK,z⟩ Emp Emp.framed node reps 0 0 0 [] [] ((i+3:Nat):Int) bs (bs).length).tail
 have hs8:=hS8.blk 0 rfl
 have ha8:=hS8.blk 6 rfl
 unfold bkC at hs8
 unfold agC at ha8
 have s0:=hs8.cell 0
 have k3:=ha8.cell 3
 go_wp2_with (refine wpList_putS rfl _ _ _ rfl hS8 hF8 J6 0 rfl rfl (.int .i64 E2) rfl (Nat.le_of_ble_eq_true rfl) rfl (by kernel_rfl) ?_;intro w7 hS9 J7;refine stay ?_)
 refine stay_out ?_
 have hS9:Solo (Lic V w) (Many (bookL st z E2 (.slice A6 0 c6) [] [(1,[(s,x)])] 1 cu6++[Cell a 143 (agC ⟨a,st,xl,d,bT,bK,z⟩ node reps 0 0 0),GMap (κ:=Int) keI bK [],GMap (κ:=Int×Int×Int) keD bT [],LogAt xl d ((i+3:Nat):Int) bs bs.length])) w7:=hS9
 have hF9:=allFramed_app (bookL_framed st z E2 (.slice A6 0 c6) [] [(1,[(s,x)])] 1 cu6) (agL_framed ⟨a,st,xl,d,bT,bK,z⟩ Emp Emp.framed node reps 0 0 0 [] [] ((i+3:Nat):Int) bs (bs).length).tail
 clear k3 s0 hwr hwr2
 have ha9:=hS9.blk 6 rfl
 have hs9:=hS9.blk 0 rfl
 unfold agC at ha9
 unfold bkC at hs9
 have k3:=ha9.cell 3
 have s0:=hs9.cell 0
 have hE:=bEpoch_any w7 (i+2) (by omega)
 rw[←HE2.out] at hE
 go_wp2_with fail
 refine hE.mono ?_
 rintro e w8 ⟨v8,rfl,hg8,hI8⟩
 have hI8:IsBytes (recOf s x (i+3)) v8 w8:=hI8
 have hS10:=hS9.grows hF9 hg8
 have J8:=J7.trans (Just.of_grow hg8)
 have hfl:=frame_le (recOf s x (i+3)) (by omega)
 have hW:=lWrite_ok w8 xl d ((i+3:Nat):Int) bs (recOf s x (i+3)) v8 hI8 (by omega) (by omega) (by omega)
 have hC:=hS10.at_ 9 rfl hF9 hW
 go_wp2_with fail
 clear k3 s0 hE2
 refine hC.mono ?_
 rintro e w9 ⟨rfl,hj9,hS11⟩
 obtain⟨b2,HB2⟩:∃ b2:List UInt8,Hid (b2=bs++frame (recOf s x (i+3))):=⟨_,rfl⟩
 obtain⟨N2,HN2⟩:∃ N2:Int,Hid (N2=((i+3:Nat):Int)+1):=⟨_,rfl⟩
 rw[←HB2.out,←HN2.out] at hS11
 have hS11:Solo (Lic V w) (Many (bookL st z E2 (.slice A6 0 c6) [] [(1,[(s,x)])] 1 cu6++[Cell a 143 (agC ⟨a,st,xl,d,bT,bK,z⟩ node reps 0 0 0),GMap (κ:=Int) keI bK [],GMap (κ:=Int×Int×Int) keD bT [],LogAt xl d N2 b2 b2.length])) w9:=hS11
 have hF11:=allFramed_app (bookL_framed st z E2 (.slice A6 0 c6) [] [(1,[(s,x)])] 1 cu6) (agL_framed ⟨a,st,xl,d,bT,bK,z⟩ Emp Emp.framed node reps 0 0 0 [] [] N2 b2 (b2).length).tail
 have J9:=J8.trans hj9
 have ha11:=hS11.blk 6 rfl
 have hs11:=hS11.blk 0 rfl
 unfold agC at ha11
 unfold bkC at hs11
 have k3:=ha11.cell 3
 have s0:=hs11.cell 0
 go_wp2_with (refine wpList_putS rfl _ _ _ rfl hS11 hF11 J9 6 rfl rfl (.int .i64 (wrap64 (E2*4294967296))) rfl (Nat.le_of_ble_eq_true rfl) rfl (by kernel_rfl) ?_;intro wz hSz Jz;refine stay ?_)
 refine stay_out ?_
 go_wp2_with fail
 go_ret
 have hSz:Solo (Lic V w) (Many (bookL st z E2 (.slice A6 0 c6) [] [(1,[(s,x)])] 1 cu6++[Cell a 143 (agC ⟨a,st,xl,d,bT,bK,z⟩ node reps 0 (wrap64 (E2*4294967296)) 0),GMap (κ:=Int) keI bK [],GMap (κ:=Int×Int×Int) keD bT [],LogAt xl d N2 b2 b2.length])) wz:=hSz
 obtain⟨r1,r2⟩:=Solo.done (Solo.unflat hSz) Jz hV
 rw[←HB2.out,←HE2.out]
 have hN:((i+3+1:Nat):Int)=N2:=by rw[HN2.out];omega
 rw[hN]
 refine⟨⟨a,st,xl,d,bT,bK,z⟩,wrap64 (E2*4294967296),rfl,rfl,?_,r2⟩
 obtain⟨V1,V2,h1,h2⟩:=r1
 exact⟨V1,V2,⟨A6,c6,cu6,h1⟩,h2⟩
theorem aEpoch_any (w:World) (p:AgP) (node reps now tag last ep:Int) (sl cu:Value) (ha:Blk w p.a 143 (agC p node reps now tag last)) (hst:Blk w p.st 148 (bkC ep sl p.z cu)):Calls Tryz.prog 28 #[.pointer (some ⟨p.a,0,none⟩)] w fun e w'=>e=.returned (.int .i64 ep)∧w=w':=by
 unfold agC at ha
 unfold bkC at hst
 have c3:=ha.cell 3
 have c0:=hst.cell 0
 go_enter Tryz.func28,Tryz.ntmps28
 go_wp2_with fail
 go_ret
 exact⟨rfl,rfl⟩
def OneBat (B:Nat) (s:ByteArray) (x:Nat) (u:Value) (w:World):Prop:=∃ A q,u=.slice A 1 1∧Q.Bats w (fun b=>B≤b∧b<w.heap.size) (fun b=>B≤b∧b<w.heap.size) A 1 q∧q.map Q.Bat.abs=[(1,[(s,x)])]
theorem oneBat_lasting (B:Nat) (s:ByteArray) (x:Nat):Lasting (OneBat B s x):=fun u w w' ⟨A,q,h1,h2,h3⟩ hg=>⟨A,q,h1,(h2.grow hg).mono (fun b hb=>⟨hb.1,Nat.lt_of_lt_of_le hb.2 hg.size⟩) (fun b hb=>⟨hb.1,Nat.lt_of_lt_of_le hb.2 hg.size⟩),h3⟩
theorem all_one {w:World} (w2:World) (hg:Grow w w2) (g:Nat) (s:ByteArray) (x:Nat) (k0:Int) (U:Nat→Prop) (hU:∀ b,U b→b<w.heap.size) (hQ:Q.QueueAt g [(1,[(s,x)])] k0 w U):Calls Tryz.prog 78 #[.pointer (some ⟨g,0,none⟩)] w2 fun e w'=>∃ u,e=.returned u∧Grow w2 w'∧OneBat w.heap.size s x u w':=
 (Q.All_at w2 g _ k0 U (Q.QueueAt.framed _ _ _ w w2 U hQ fun b hb=>hg.block b (hU b hb)) 1 rfl).mono fun e w' ⟨A,q,h1,h2,h3,h4⟩=>⟨_,h1,h4,A,q,rfl,h2.mono (fun b hb=>⟨Nat.le_trans hg.size hb.1,hb.2⟩) (fun b hb=>⟨Nat.le_trans hg.size hb.1,hb.2⟩),h3⟩
theorem aBatch_1 (w:World) (p:AgP) (reps now tag last ep k0:Int) (sl cu:Value) (s:ByteArray) (x:Nat) (U:Nat→Prop) (ha:Blk w p.a 143 (agC p 1 reps now tag last)) (hst:Blk w p.st 148 (bkC ep sl p.z cu)) (hQ:Q.QueueAt p.z.a [(1,[(s,x)])] k0 w U) (hU:∀ b,U b→b<w.heap.size) :
 Calls Tryz.prog 26 #[.pointer (some ⟨p.a,0,none⟩),.agg #[.int .i64 1,.int .i64 0,.int .i64 1]] w fun e w'=>∃ A c,e=.returned (.slice A 1 c)∧DIn w' (New w w') A 1 [(s,x)]∧Grow w w':=by
 have k78:∀ (vs:Array Value) (w:World),(callFunc 78 vs).run Tryz.prog w=.ok (.enter 78 vs) w:=fun vs w=>by go_simp
 have hga:=grow_alloc w (.cells #[.int .i64 1,.int .i64 0,.int .i64 1] 26)
 have hBy:=Blk.made w 26 #[.int .i64 1,.int .i64 0,.int .i64 1]
 obtain⟨y,HY⟩:∃ y:Nat,Hid (y=w.heap.size):=⟨_,rfl⟩
 obtain⟨wa,HA_⟩:∃ wa:World,Hid (wa=w.alloc (.cells #[.int .i64 1,.int .i64 0,.int .i64 1] 26)):=⟨_,rfl⟩
 rw[←HA_.out] at hga hBy
 rw[←HY.out] at hBy
 have ha1:=ha.grow hga
 have hst1:=hst.grow hga
 unfold agC at ha1
 unfold bkC at hst1
 go_enter Tryz.func26,Tryz.ntmps26
 go_wp2_with fail
 rw[←HA_.out,←HY.out]
 refine wp_region_flow 17 48 [] rfl rfl (by kernel_rfl) (by kernel_rfl) (by kernel_rfl) ?_ ?_
 ·intro x hx φ he
  cases hx
 intro ops' A' K' T hops hA' hK hT
 refine fl_op1N 7 (.tmp 3) (.pointer (some ⟨y,0,none⟩)) (.pointer (some ⟨y,0,none⟩)) (fun ρ h1 kk w1 (hgA:Grow _ w1) hb hf=>by go_simp) ?_
 refine fl_op1N 8 (.tmp 7) (.pointer (some ⟨y,0,none⟩)) (.int .i64 1) (fun ρ h1 kk w1 (hgA:Grow _ w1) hb hf=>by have c:=(hBy.grow hgA).cell 0;go_simp) ?_
 refine fl_mvN 9 (.pointer (some ⟨p.a,0,none⟩)) ?_
 refine fl_op1N 10 (.tmp 9) (.pointer (some ⟨p.a,0,none⟩)) (.pointer (some ⟨p.a,0,none⟩)) (fun ρ h1 kk w1 (hgA:Grow _ w1) hb hf=>by go_simp) ?_
 refine fl_op1N 11 (.tmp 10) (.pointer (some ⟨p.a,0,none⟩)) (.pointer (some ⟨p.a,0,none⟩)) (fun ρ h1 kk w1 (hgA:Grow _ w1) hb hf=>by go_simp) ?_
 refine fl_op1N 12 (.tmp 11) (.pointer (some ⟨p.a,0,none⟩)) (.int .i64 1) (fun ρ h1 kk w1 (hgA:Grow _ w1) hb hf=>by have c:=(ha1.grow hgA).cell 0;go_simp) ?_
 refine fl_op2N 13 (.tmp 8) (.tmp 12) (.int .i64 1) (.int .i64 1) (.bool false) (fun ρ h1 h2 kk w1 (hgA:Grow _ w1) hb hf=>by go_simp) ?_
 refine fl_mvN 14 (.bool false) ?_
 refine fl_op1W 15 (wif hops 7 false 14 false) (.tmp 3) (.pointer (some ⟨y,0,none⟩)) (.pointer (some ⟨y,1,none⟩)) (fun ρ h1 kk w1 (hgA:Grow _ w1) hb hf=>by go_simp) ?_
 refine fl_op1W 16 (wif hops 7 false 14 false) (.tmp 15) (.pointer (some ⟨y,1,none⟩)) (.int .i64 0) (fun ρ h1 kk w1 (hgA:Grow _ w1) hb hf=>by have c:=(hBy.grow hgA).cell 1;go_simp) ?_
 refine fl_op2W 17 (wif hops 7 false 14 false) (.tmp 16) (.const (.int .i64 0)) (.int .i64 0) (.int .i64 0) (.bool false) (fun ρ h1 h2 kk w1 (hgA:Grow _ w1) hb hf=>by go_simp) ?_
 refine fl_pickN 18 false (.bool false) ?_
 refine fl_mvN 19 (.bool false) ?_
 refine fl_op1W 20 (wif hops 12 false 19 false) (.tmp 3) (.pointer (some ⟨y,0,none⟩)) (.pointer (some ⟨y,1,none⟩)) (fun ρ h1 kk w1 (hgA:Grow _ w1) hb hf=>by go_simp) ?_
 refine fl_op1W 21 (wif hops 12 false 19 false) (.tmp 20) (.pointer (some ⟨y,1,none⟩)) (.int .i64 0) (fun ρ h1 kk w1 (hgA:Grow _ w1) hb hf=>by have c:=(hBy.grow hgA).cell 1;go_simp) ?_
 refine fl_op2W 22 (wif hops 12 false 19 false) (.tmp 21) (.const (.int .i64 4)) (.int .i64 0) (.int .i64 4) (.bool false) (fun ρ h1 h2 kk w1 (hgA:Grow _ w1) hb hf=>by go_simp) ?_
 refine fl_pickN 23 false (.bool false) ?_
 refine fl_end (fun _ _ w1 (hgA:Grow _ w1) _ hfacts=>hT _ _ ?_)
 clear hops hA' hK hT
 simp only[putsL,Act.put,List.setIfInBounds_toArray,List.set_cons_zero,List.set_cons_succ,List.drop_succ_cons,List.drop_zero]
 go_wp2_with fail
 have hgw:=hga.trans hgA
 refine wp_region_flow 13 48 [(10,.inr (fun _=>OneBat w.heap.size s x))] rfl rfl (by kernel_rfl) (by kernel_rfl) (by kernel_rfl) ?_ ?_
 ·intro x hx φ he
  simp only[List.mem_cons,List.not_mem_nil,or_false] at hx
  rcases hx with rfl<;>cases he
  all_goals first|exact lasts_quiet (lasting_bytes _)|exact lasts_quiet (oneBat_lasting _ _ _)
 intro ops' A' K' T hops hA' hK hT
 refine fl_mvN 24 (.pointer (some ⟨p.a,0,none⟩)) ?_
 refine fl_op1N 25 (.tmp 24) (.pointer (some ⟨p.a,0,none⟩)) (.pointer (some ⟨p.a,0,none⟩)) (fun ρ h1 kk w2 (hg2:Grow _ w2) hb hf=>by go_simp) ?_
 refine fl_op1N 26 (.tmp 25) (.pointer (some ⟨p.a,0,none⟩)) (.pointer (some ⟨p.a,3,none⟩)) (fun ρ h1 kk w2 (hg2:Grow _ w2) hb hf=>by go_simp) ?_
 refine fl_op1N 27 (.tmp 26) (.pointer (some ⟨p.a,3,none⟩)) (.pointer (some ⟨p.st,0,none⟩)) (fun ρ h1 kk w2 (hg2:Grow _ w2) hb hf=>by have c:=(ha1.grow (hgA.trans hg2)).cell 3;go_simp) ?_
 refine fl_op1N 28 (.tmp 3) (.pointer (some ⟨y,0,none⟩)) (.pointer (some ⟨y,1,none⟩)) (fun ρ h1 kk w2 (hg2:Grow _ w2) hb hf=>by go_simp) ?_
 refine fl_op1N 29 (.tmp 28) (.pointer (some ⟨y,1,none⟩)) (.int .i64 0) (fun ρ h1 kk w2 (hg2:Grow _ w2) hb hf=>by have c:=(hBy.grow (hgA.trans hg2)).cell 1;go_simp) ?_
 refine fl_op1N 30 (.tmp 27) (.pointer (some ⟨p.st,0,none⟩)) (.pointer (some ⟨p.st,0,none⟩)) (fun ρ h1 kk w2 (hg2:Grow _ w2) hb hf=>by go_simp) ?_
 refine fl_op1N 31 (.tmp 30) (.pointer (some ⟨p.st,0,none⟩)) (.pointer (some ⟨p.st,3,none⟩)) (fun ρ h1 kk w2 (hg2:Grow _ w2) hb hf=>by go_simp) ?_
 refine fl_op2N 32 (.tmp 31) (.tmp 29) (.pointer (some ⟨p.st,3,none⟩)) (.int .i64 0) (.pointer (some ⟨p.st,3,none⟩)) (fun ρ h1 h2 kk w2 (hg2:Grow _ w2) hb hf=>by go_simp) ?_
 refine fl_op1N 33 (.tmp 32) (.pointer (some ⟨p.st,3,none⟩)) (.pointer (some ⟨p.z.a,0,none⟩)) (fun ρ h1 kk w2 (hg2:Grow _ w2) hb hf=>by have c:=(hst1.grow (hgA.trans hg2)).cell 3;go_simp) ?_
 refine fl_callAny 34 (by rfl) (by decide) (wanted_none (by rfl)) (fun _=>OneBat w.heap.size s x) (by rw[hK.out];rfl) 78 _ _ (by rfl) [.pointer (some ⟨p.z.a,0,none⟩)] (by rfl) k78 (fun kk w2 (hg2:Grow _ w2) hb hf=>calls_behindAny (φ:=fun _=>OneBat w.heap.size s x) (by rfl) (by exact all_one w2 (hgw.trans hg2) p.z.a s x k0 U hU hQ)) (fun v34=>?_)
 refine fl_op1N 35 (.tmp 34) (v34) (.int .i64 1) (fun ρ h1 kk w2 (hg2:Grow _ w2) hb hf=>by obtain⟨A9,q9,e9,_⟩:=(facts_take hf (by rw[hA'.out];kernel_rfl));subst e9;go_simp) ?_
 refine fl_mvN 36 (.int .i64 0) ?_
 refine fl_end (fun _ _ w2 (hg2:Grow _ w2) _ hfacts=>hT _ _ ?_)
 clear hops hA' hK hT
 simp only[putsL,Act.put,List.setIfInBounds_toArray,List.set_cons_zero,List.set_cons_succ,List.drop_succ_cons,List.drop_zero]
 obtain⟨A2,q',rfl,hBt,hq'⟩:OneBat w.heap.size s x v34 w2:=hfacts.1
 clear hfacts
 have hgw2:=hgw.trans hg2
 obtain⟨b,rfl⟩:∃ b:Q.Bat,q'=[b]:=by
  have h:=congrArg List.length hq'
  simp at h
  match q',h with
  | [b],_=>exact⟨b,rfl⟩
 have hb1:b.abs=(1,[(s,x)]):=by simpa using hq'
 have hbseq:b.seq=1:=congrArg Prod.fst hb1
 have hbds:b.ds=[(s,x)]:=congrArg Prod.snd hb1
 have hbi:=hBt.all b (by simp)
 have hbm:b.m=1:=by have:=DIn.len hbi.ds;rw[hbds] at this;simpa using this.symm
 obtain⟨ad,hkq,rfl,hVb,hlb,f0,f1⟩:=hBt.row.rec_ (by omega) Q.bat_len (k:=0) (by omega)
 have e0:w2.cell? ad=some (.int .i64 b.seq):=f0 _ rfl
 have e1:w2.cell? ⟨ad.block,ad.off+1,none⟩=some (.slice b.A b.m b.c):=f1 0 _ rfl
 clear f0 f1
 obtain⟨sq,A,m,c,ds⟩:=b
 dsimp only at hbseq hbds hbi hbm e0 e1
 subst hbseq hbds hbm
 have hd2:DIn w2 (New w w2) A 1 [(s,x)]:=hbi.ds
 clear hbi hBt hq' hb1 hkq hVb hlb
 have hBy2:=hBy.grow (hgA.trans hg2)
 have y2:=hBy2.cell 2
 go_wp2_with fail
 go_loopw [36] (fun i wr=>i=.int .i64 0∧w2=wr) (fun _ _=>0)
 case atStart=>exact⟨rfl,rfl⟩
 case round=>
  obtain⟨rfl,rfl⟩:=hrel
  have hgb:=grow_alloc w2 (.cells #[.int .i64 1,.slice A 1 c] 159)
  have hBb:=Blk.made w2 159 #[.int .i64 1,.slice A 1 c]
  have b0:=hBb.cell 0
  have b1:=hBb.cell 1
  have y2:=(hBy2.grow hgb).cell 2
  go_wp2_with fail
  go_ret
  exact⟨_,_,rfl,(In.grow hd2 hgb).mono fun b hb=>⟨hb.1,Nat.lt_of_lt_of_le hb.2 hgb.size⟩,hgw2.trans hgb⟩
theorem same_1 (w:World) (s:ByteArray) (x:Nat) (A A':Option Addr) (c c':Nat) (D D':Nat→Prop) (h:DIn w D A 1 [(s,x)]) (h':DIn w D' A' 1 [(s,x)]):Calls Tryz.prog 29 #[.slice A 1 c,.slice A' 1 c'] w fun e w'=>e=.returned (.bool true)∧Grow w w':=by
 obtain⟨ad,hq,rfl,f0,f1⟩:=del_cells h (k:=0) (by omega)
 obtain⟨ad',hq',rfl,f0',f1'⟩:=del_cells h' (k:=0) (by omega)
 have f0:∀ w1,Grow w w1→w1.cell? ad=some (.string s):=f0
 have f1:∀ w1,Grow w w1→w1.cell? ⟨ad.block,ad.off+1,none⟩=some (.int .u64 (x:Int)):=f1
 have f0':∀ w1,Grow w w1→w1.cell? ad'=some (.string s):=f0'
 have f1':∀ w1,Grow w w1→w1.cell? ⟨ad'.block,ad'.off+1,none⟩=some (.int .u64 (x:Int)):=f1'
 go_enter Tryz.func29,Tryz.ntmps29
 go_wp2_with fail
 go_loopw [13] (fun i wr=>(i=.int .i64 0∨i=.int .i64 1)∧Grow w wr) (fun i _=>1-(intOf i).toNat)
 case atStart=>exact⟨.inl rfl,Grow.refl _⟩
 case round=>
  obtain⟨rfl|rfl,hgr⟩:=hrel
  ·go_wp2_with fail
   refine wp_region_flow 9 26 [] rfl rfl (by kernel_rfl) (by kernel_rfl) (by kernel_rfl) ?_ ?_
   ·intro x hx φ he
    cases hx
   intro ops' A' K' T hops hA' hK hT
   refine fl_mvN 16 (.slice (some ad) 1 c) ?_
   refine fl_mvN 17 (.int .i64 0) ?_
   refine fl_op2N 18 (.tmp 16) (.tmp 17) (.slice (some ad) 1 c) (.int .i64 0) (.pointer (some ad)) (fun ρ h1 h2 kk w2 (hg:Grow _ w2) hb hf=>by go_simp) ?_
   refine fl_op1N 19 (.tmp 18) (.pointer (some ad)) (.agg #[.string s,.int .u64 (x:Int)]) (fun ρ h1 kk w2 (hg:Grow _ w2) hb hf=>by have c0:=f0 _ (hgr.trans hg);have c1:=f1 _ (hgr.trans hg);clear f0 f1;go_simp) ?_
   refine fl_mvN 20 (.slice (some ad') 1 c') ?_
   refine fl_mvN 21 (.int .i64 0) ?_
   refine fl_op2N 22 (.tmp 20) (.tmp 21) (.slice (some ad') 1 c') (.int .i64 0) (.pointer (some ad')) (fun ρ h1 h2 kk w2 (hg:Grow _ w2) hb hf=>by go_simp) ?_
   refine fl_op1N 23 (.tmp 22) (.pointer (some ad')) (.agg #[.string s,.int .u64 (x:Int)]) (fun ρ h1 kk w2 (hg:Grow _ w2) hb hf=>by have c0:=f0' _ (hgr.trans hg);have c1:=f1' _ (hgr.trans hg);clear f0' f1';go_simp) ?_
   refine fl_op2N 24 (.tmp 19) (.tmp 23) (.agg #[.string s,.int .u64 (x:Int)]) (.agg #[.string s,.int .u64 (x:Int)]) (.bool false) (fun ρ h1 h2 kk w2 (hg:Grow _ w2) hb hf=>by go_simp) ?_
   refine fl_end (fun _ _ w2 (hg:Grow _ w2) _ hfacts=>hT _ _ ?_)
   clear hops hA' hK hT
   simp only[putsL,Act.put,List.setIfInBounds_toArray,List.set_cons_zero,List.set_cons_succ,List.drop_succ_cons,List.drop_zero]
   go_wp2_with fail
   go_roundw
   case rel=>exact⟨.inr rfl,hgr.trans hg⟩
   case measure=>simp[intOf]
  ·go_wp2_with fail
   go_ret
   exact⟨rfl,hgr⟩
end Go.Proofs.YtmijcbfgfkeodaaGreatDoor
end
section
namespace Go.Proofs.YtmijcbfgfkeodaaGreatDoor.bulks
theorem one_le {H:Type} (d:DataW H):1≤Rows.uptoBulk d:=by
 cases d with
 | lit l=>cases l<;>simp[Rows.uptoBulk]
 | nil=>simp[Rows.uptoBulk]
 | ptr d=>simp[Rows.uptoBulk]
 | slice elems spare=>simp[Rows.uptoBulk]
 | agg parts=>simp[Rows.uptoBulk]
 | iface t d=>simp[Rows.uptoBulk]
 | map entries=>simp[Rows.uptoBulk]
 | held h=>simp[Rows.uptoBulk]
theorem append {H:Type} (l r:List (DataW H)):Rows.uptoBulkAll (l++r)=Rows.uptoBulkAll l+Rows.uptoBulkAll r:=by
 induction l with
 | nil=>simp[Rows.uptoBulkAll]
 | cons x l ih=>simp only[List.cons_append,Rows.uptoBulkAll,ih];omega
theorem length_le {H:Type} (l:List (DataW H)):l.length≤Rows.uptoBulkAll l:=by
 induction l with
 | nil=>simp[Rows.uptoBulkAll]
 | cons x r ih=>have:=one_le x;simp only[Rows.uptoBulkAll,List.length_cons];omega
end Go.Proofs.YtmijcbfgfkeodaaGreatDoor.bulks
end
