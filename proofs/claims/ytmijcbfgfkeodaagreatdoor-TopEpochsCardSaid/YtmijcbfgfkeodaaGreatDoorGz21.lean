/- Ag2, Ag3, Ag4, Ag5, Dr, Ag7. -/
import Derived.Test.YtmijcbfgfkeodaaGreatDoorGz19
set_option linter.all false
set_option maxRecDepth 100000
section
namespace Go.Proofs.YtmijcbfgfkeodaaGreatDoor
open Go.RowKit Go.Hop Go.Proofs.YtmijcbfgfkeodaaGreatDoor.V
theorem aNew_1 (w:World) (d node reps:Nat) (hnode:node<8) (hr1:1≤reps) (hr8:reps≤8) (V:Nat→Prop) (hD:DiskAt 133 d [] 0 w V) (hV:∀ b,V b→b<w.heap.size) :
 Calls Tryz.prog 23 #[.int .i64 (node:Int),.int .i64 (reps:Int),.pointer (some ⟨d,0,none⟩)] w fun e w'=>∃ p:AgP,p.d=d∧e=.returned (.pointer (some ⟨p.a,0,none⟩))∧Many (agL p (BookT p.st p.z 1 (.slice none 0 0) [] [] 0 (.slice none 0 0)) node reps 0 4294967296 0 [] [] 1 (frame (recB 1 [1])) (frame (recB 1 [1])).length) w' (Ext V w w')∧Just V w w':=by
 have hmm:=@run_makeMap Tryz.prog
 have hO:=Open_any w d [] 0 V hD hV
 have d1:decide ((node:Int)<0)=false:=decide_eq_false (by omega)
 have d2:decide ((8:Int)≤(node:Int))=false:=decide_eq_false (by omega)
 have d3:decide ((reps:Int)<1)=false:=decide_eq_false (by omega)
 have d4:decide ((8:Int)<(reps:Int))=false:=decide_eq_false (by omega)
 go_enter Tryz.func23,Tryz.ntmps23
 go_wp2_with fail
 refine hO.mono ?_
 rintro e w1 ⟨xs,j,x,u,hs,rfl,hX,hL,hj1⟩
 obtain⟨rfl,rfl⟩:=hs.one scan_empty
 obtain⟨A1,c1,q1,rfl,hB1,hq1,hqc1,hcm1⟩:=hX
 have hql:q1.length=0:=by have:=congrArg List.length hq1;simpa using this
 rw[hql]
 have hL:LogAt x d 0 [] 0 w1 (Ext V w w1):=hL
 have hlt:∀ b,Ext V w w1 b→b<w1.heap.size:=fun b hb=>by
  rcases hb with hb|hb
  ·have:=hV b hb;have:=hj1.size;omega
  ·exact hb.2
 have hww:=hj1.size
 have hS1:Solo (Lic V w) (Many [LogAt x d 0 [] 0]) w1:=Solo.cons_ (l:=[]) (V:=fun _=>False) (U:=Ext V w w1) (fun b hb => .inr (by omega)) trivial (fun b hb=>hb.elim) hL fun b hb=>⟨by
  rcases hb with hb|hb
  ·exact .inl hb
  ·exact .inr hb.1,hlt b hb,fun h=>h⟩
 have hF1:AllFramed [LogAt x d 0 [] 0]:=AllFramed.nil.cons (LogAt.framed _ _ _ _ _)
 have hN:=bNew_any w1
 go_wp2_with fail
 refine hN.mono ?_
 rintro e w2 ⟨st,z,rfl,hBk,hg2⟩
 have hS2:=hS1.join hF1 hg2 hBk (fun b hb=>hb)
 have hF2:=hF1.cons (BookT.framed st z 0 (.slice none 0 0) [] [] 0 (.slice none 0 0))
 have g3:Grow w2 (w2.alloc (.map #[] 0)):=(Below.refl _ w2).alloc (Nat.le_refl _) _
 have m3:GMap (κ:=Int×Int×Int) keD w2.heap.size [] (w2.alloc (.map #[] 0)) (fun b=>b=w2.heap.size):=GMap.made w2
 have z3:(w2.alloc (.map #[] 0)).heap.size=w2.heap.size+1:=by simp
 obtain⟨w3,HW3⟩:∃ w3:World,Hid (w3=w2.alloc (.map #[] 0)):=⟨_,rfl⟩
 rw[←HW3.out] at g3 m3 z3
 have hS3:=hS2.join hF2 g3 m3 (fun b hb=>by omega)
 have hF3:=hF2.cons (GMap.framed (ke:=keD) w2.heap.size [])
 have g4:Grow w3 (w3.alloc (.map #[] 0)):=(Below.refl _ w3).alloc (Nat.le_refl _) _
 have m4:GMap (κ:=Int) keI w3.heap.size [] (w3.alloc (.map #[] 0)) (fun b=>b=w3.heap.size):=GMap.made w3
 have z4:(w3.alloc (.map #[] 0)).heap.size=w3.heap.size+1:=by simp
 obtain⟨w4,HW4⟩:∃ w4:World,Hid (w4=w3.alloc (.map #[] 0)):=⟨_,rfl⟩
 rw[←HW4.out] at g4 m4 z4
 have hS4:=hS3.join hF3 g4 m4 (fun b hb=>by omega)
 have hF4:=hF3.cons (GMap.framed (ke:=keI) w3.heap.size [])
 obtain⟨bT,HbT⟩:∃ b:Nat,Hid (b=w2.heap.size):=⟨_,rfl⟩
 obtain⟨bK,HbK⟩:∃ b:Nat,Hid (b=w3.heap.size):=⟨_,rfl⟩
 obtain⟨a,Ha⟩:∃ b:Nat,Hid (b=w4.heap.size):=⟨_,rfl⟩
 have hK1:bK=bT+1:=by rw[HbK.out,HbT.out];omega
 have ha1:a=bT+1+1:=by rw[Ha.out,HbT.out];omega
 rw[←HbT.out,←HbK.out] at hS4 hF4
 have g5:=grow_alloc w4 (.cells #[.int .i64 (node:Int),.int .i64 (reps:Int),.pointer (some ⟨x,0,none⟩),.pointer (some ⟨st,0,none⟩),.int .i64 0,.int .i64 0,.int .i64 0,.map (some bT),.map (some bK)] 143)
 have b5:=Blk.made w4 143 #[.int .i64 (node:Int),.int .i64 (reps:Int),.pointer (some ⟨x,0,none⟩),.pointer (some ⟨st,0,none⟩),.int .i64 0,.int .i64 0,.int .i64 0,.map (some bT),.map (some bK)]
 obtain⟨w5,HW5⟩:∃ w5:World,Hid (w5=w4.alloc (.cells #[.int .i64 (node:Int),.int .i64 (reps:Int),.pointer (some ⟨x,0,none⟩),.pointer (some ⟨st,0,none⟩),.int .i64 0,.int .i64 0,.int .i64 0,.map (some bT),.map (some bK)] 143)):=⟨_,rfl⟩
 rw[←HW5.out] at g5 b5
 rw[←Ha.out] at b5
 have hS5:=hS4.join hF4 g5 (R:=Cell a 143 (agC ⟨a,st,x,d,bT,bK,z⟩ node reps 0 0 0)) (U:=fun b=>b=a) ⟨rfl,b5⟩ (fun b hb=>by have:=b5.lt;have:=Ha.out;omega)
 have J5:Just (Lic V w) w w5:=(((((hj1.imp fun b hb => .inl hb).trans (Just.of_grow hg2)).trans (Just.of_grow g3)).trans (Just.of_grow g4)).trans (Just.of_grow g5))
 have hS5:Solo (Lic V w) (Many (agL ⟨a,st,x,d,bT,bK,z⟩ (BookT st z 0 (.slice none 0 0) [] [] 0 (.slice none 0 0)) node reps 0 0 0 [] [] 0 [] 0)) w5:=hS5.perm (List.perm_middle (l₁:=[_,_,_]))
 have hF5:=agL_framed ⟨a,st,x,d,bT,bK,z⟩ (BookT st z 0 (.slice none 0 0) [] [] 0 (.slice none 0 0)) (BookT.framed _ _ _ _ _ _ _ _) node reps 0 0 0 [] [] 0 [] 0
 clear hS1 hS2 hS3 hS4 hF1 hF2 hF3 hF4 g3 g4 g5 m3 m4 z3 z4
 have ha5:=hS5.blk 1 rfl
 unfold agC at ha5
 have k3:=ha5.cell 3
 go_wp2_with fail
 rw[←HW3.out,←HW4.out,←HbT.out,←ha1,←hK1,←HW5.out]
 clear k3 ha1 hK1
 refine (bTake_nil _ st c1 A1).mono ?_
 rintro e w6 ⟨rfl,rfl⟩
 have hS6:Solo (Lic V w) (Many (bookL st z 0 (.slice none 0 0) [] [] 0 (.slice none 0 0)++[Cell a 143 (agC ⟨a,st,x,d,bT,bK,z⟩ node reps 0 0 0),GMap (κ:=Int) keI bK [],GMap (κ:=Int×Int×Int) keD bT [],LogAt x d 0 [] 0])) w5:=Solo.flat hS5
 have hF6:=allFramed_app (bookL_framed st z 0 (.slice none 0 0) [] [] 0 (.slice none 0 0)) (agL_framed ⟨a,st,x,d,bT,bK,z⟩ Emp Emp.framed node reps 0 0 0 [] [] 0 [] 0).tail
 have hs6:=hS6.blk 0 rfl
 unfold bkC at hs6
 have s0:=hs6.cell 0
 have k3:=ha5.cell 3
 go_wp2_with (refine wpList_putS rfl _ _ _ rfl hS6 hF6 J5 0 rfl rfl (.int .i64 1) rfl (Nat.le_of_ble_eq_true rfl) rfl (by kernel_rfl) ?_;intro w7 hS7 J7;refine stay ?_)
 refine stay_out ?_
 have hS7:Solo (Lic V w) (Many (bookL st z 1 (.slice none 0 0) [] [] 0 (.slice none 0 0)++[Cell a 143 (agC ⟨a,st,x,d,bT,bK,z⟩ node reps 0 0 0),GMap (κ:=Int) keI bK [],GMap (κ:=Int×Int×Int) keD bT [],LogAt x d 0 [] 0])) w7:=hS7
 have hF7:=allFramed_app (bookL_framed st z 1 (.slice none 0 0) [] [] 0 (.slice none 0 0)) (agL_framed ⟨a,st,x,d,bT,bK,z⟩ Emp Emp.framed node reps 0 0 0 [] [] 0 [] 0).tail
 clear k3 s0
 have ha7:=hS7.blk 6 rfl
 have hs7:=hS7.blk 0 rfl
 unfold agC at ha7
 unfold bkC at hs7
 have k3:=ha7.cell 3
 have s0:=hs7.cell 0
 have hE:Calls Tryz.prog 69 #[.int .i64 1] w7 _:=bEpoch_any w7 1 (by decide)
 go_wp2_with fail
 refine hE.mono ?_
 rintro e w8 ⟨v8,rfl,hg8,hI8⟩
 have hS8:=hS7.grows hF7 hg8
 have J8:=J7.trans (Just.of_grow hg8)
 have hrl:=recB_len 1 [1] (by decide) (by decide)
 have hrl2:(recB 1 [1]).length≤20:=by simpa using hrl
 have hfl:=frame_le (recB 1 [1]) (by omega)
 have hW:=lWrite_ok w8 x d 0 [] (recB 1 [1]) v8 hI8 (by decide) (by omega) (by simp;omega)
 rw[List.nil_append] at hW
 have hC:=hS8.at_ 9 rfl hF7 hW
 go_wp2_with fail
 clear k3 s0
 refine hC.mono ?_
 rintro e w9 ⟨rfl,hj9,hS9⟩
 obtain⟨fb,HFB⟩:∃ fb:List UInt8,Hid (fb=frame (recB 1 [1])):=⟨_,rfl⟩
 rw[←HFB.out] at hS9
 have hS9:Solo (Lic V w) (Many (bookL st z 1 (.slice none 0 0) [] [] 0 (.slice none 0 0)++[Cell a 143 (agC ⟨a,st,x,d,bT,bK,z⟩ node reps 0 0 0),GMap (κ:=Int) keI bK [],GMap (κ:=Int×Int×Int) keD bT [],LogAt x d 1 fb fb.length])) w9:=hS9
 have hF9:=allFramed_app (bookL_framed st z 1 (.slice none 0 0) [] [] 0 (.slice none 0 0)) (agL_framed ⟨a,st,x,d,bT,bK,z⟩ Emp Emp.framed node reps 0 0 0 [] [] 1 fb fb.length).tail
 have J9:=J8.trans hj9
 have ha9:=hS9.blk 6 rfl
 have hs9:=hS9.blk 0 rfl
 unfold agC at ha9
 unfold bkC at hs9
 have k3:=ha9.cell 3
 have s0:=hs9.cell 0
 go_wp2_with (refine wpList_putS rfl _ _ _ rfl hS9 hF9 J9 6 rfl rfl (.int .i64 4294967296) rfl (Nat.le_of_ble_eq_true rfl) rfl (by kernel_rfl) ?_;intro wz hSz Jz;refine stay ?_)
 refine stay_out ?_
 go_wp2_with fail
 go_ret
 have hSz:Solo (Lic V w) (Many (bookL st z 1 (.slice none 0 0) [] [] 0 (.slice none 0 0)++[Cell a 143 (agC ⟨a,st,x,d,bT,bK,z⟩ node reps 0 4294967296 0),GMap (κ:=Int) keI bK [],GMap (κ:=Int×Int×Int) keD bT [],LogAt x d 1 fb fb.length])) wz:=hSz
 obtain⟨r1,r2⟩:=Solo.done (Solo.unflat hSz) Jz hV
 rw[←HFB.out]
 exact⟨⟨a,st,x,d,bT,bK,z⟩,rfl,rfl,r1,r2⟩
theorem dlt_one (s:ByteArray) (n:Int):∀ u∈[Value.string s,.int .u64 n],u.oneCell'=true:=by simp[Value.oneCell']
theorem lAppend_ok (w:World) (x d:Nat) (n:Int) (l b:List UInt8) (k:Nat) (u:Value) (hb:IsBytes b u w) (hn:0≤n∧n≤1099511627776) (h1:b.length≤65536) (h2:l.length+(frame b).length≤1048576) :
 Turns Tryz.prog 71 #[.pointer (some ⟨x,0,none⟩),u] (fun e=>e=.returned (.int .i64 0)) (LogAt x d n l k) (LogAt x d (n+1) (l++frame b) k) w:=by
 obtain⟨A,m,c,rfl,hbb,_⟩:=hb
 have hA:=lAppend_any w x d n l k A m c b hbb hn
 have hf:fits l (frame b)=true:=fits_of h2
 have hz:recE l b=0:=by unfold recE;rw[if_pos h1];exact appE_zero.2 hf
 have hr:recL l b=l++frame b:=by unfold recL appL;rw[if_pos h1,if_pos hf]
 rw[hz,if_pos rfl,hr] at hA
 exact hA
def smpB (s:ByteArray) (x:Nat):List UInt8:=recB 2 []++dsB [(s,x)]
theorem smpB_len {s:ByteArray} {x:Nat} (h:Small (s,x)):(smpB s x).length≤1030:=by
 have h1:=recB_len 2 [] (by decide) (by simp)
 have h2:=dsB_len [(s,x)] fun d hd=>by rw[List.mem_singleton.1 hd];exact h
 unfold smpB
 rw[List.length_append]
 simp only[List.length_nil,List.length_cons] at h1 h2
 omega
theorem aIngest_1 (w:World) (p:AgP) (node reps now tag last:Int) (asks:List (Int×Value)) (tr:List ((Int×Int×Int)×Value)) (n:Int) (bs:List UInt8) (k:Nat) (ep:Int) (l0:List Q.Ab) (k0:Int) (cu:Value) (s:ByteArray) (x:Nat) (hp:L.parseE s=0) (hs:Small (s,x)) (hx:1≤x) (hn:0≤n∧n≤1099511627776) (hbs:bs.length≤1000000) (V:Nat→Prop) (hM:Many (agL p (BookT p.st p.z ep (.slice none 0 0) [] l0 k0 cu) node reps now tag last asks tr n bs k) w V) (hV:∀ b,V b→b<w.heap.size) :
 Calls Tryz.prog 24 #[.pointer (some ⟨p.a,0,none⟩),.string s,.int .u64 (x:Int)] w fun e w'=>e=.returned (.int .i64 0)∧(∃ sl,Many (agL p (BookT p.st p.z ep sl [(s,x)] l0 k0 cu) node reps now tag last asks tr (n+1) (bs++frame (smpB s x)) k) w' (Ext V w w'))∧Just V w w':=by
 have k70:∀ (vs:Array Value) (w:World),(callFunc 70 vs).run Tryz.prog w=.ok (.enter 70 vs) w:=fun vs w=>by go_simp
 have k72:∀ (vs:Array Value) (w:World),(callFunc 72 vs).run Tryz.prog w=.ok (.enter 72 vs) w:=fun vs w=>by go_simp
 have k71:∀ (vs:Array Value) (w:World),(callFunc 71 vs).run Tryz.prog w=.ok (.enter 71 vs) w:=fun vs w=>by go_simp
 have hsl:=smpB_len hs
 have hfl:=frame_le (smpB s x) (by omega)
 have hsz:=hs.1
 have hS0:=Solo.begin_ hM hV
 have hS0:Solo (Lic V w) (Many (bookL p.st p.z ep (.slice none 0 0) [] l0 k0 cu++[Cell p.a 143 (agC p node reps now tag last),GMap keI p.bK asks,GMap keD p.bT tr,LogAt p.x p.d n bs k])) w:=Solo.flat hS0
 have hF0:=allFramed_app (bookL_framed p.st p.z ep (.slice none 0 0) [] l0 k0 cu) (agL_framed p Emp Emp.framed node reps now tag last asks tr n bs k).tail
 have hga:=grow_alloc w (.cells #[.string s,.int .u64 (x:Int)] 29)
 have hBy:=Blk.made w 29 #[.string s,.int .u64 (x:Int)]
 obtain⟨y,HY⟩:∃ y:Nat,Hid (y=w.heap.size):=⟨_,rfl⟩
 obtain⟨wa,HA_⟩:∃ wa:World,Hid (wa=w.alloc (.cells #[.string s,.int .u64 (x:Int)] 29)):=⟨_,rfl⟩
 rw[←HA_.out] at hga hBy
 rw[←HY.out] at hBy
 have hSa:=hS0.join hF0 hga (R:=Cell y 29 #[.string s,.int .u64 (x:Int)]) (U:=fun b=>b=y) ⟨rfl,hBy⟩ (fun b hb=>by have:=HY.out;have:=hBy.lt;omega)
 have hFa:=hF0.cons (Cell.framed y 29 #[.string s,.int .u64 (x:Int)])
 have hY1:=hSa.blk 0 rfl
 have hst1:=hSa.blk 1 rfl
 have ha1:=hSa.blk 7 rfl
 have hst1':=hst1
 unfold bkC at hst1
 unfold agC at ha1
 clear hBy
 go_enter Tryz.func24,Tryz.ntmps24
 go_wp2_with fail
 rw[←HA_.out,←HY.out]
 refine wp_region_flow 7 48 [(5,.inl (.int .i64 0))] rfl rfl (by kernel_rfl) (by kernel_rfl) (by kernel_rfl) ?_ ?_
 ·intro x hx φ he
  simp only[List.mem_cons,List.not_mem_nil,or_false] at hx
  rcases hx with rfl<;>cases he
 intro ops' A' K' T hops hA' hK hT
 refine fl_mvN 13 (.pointer (some ⟨p.a,0,none⟩)) ?_
 refine fl_op1G 14 (.tmp 13) (.pointer (some ⟨p.a,0,none⟩)) (.pointer (some ⟨p.a,0,none⟩)) ?_
 refine fl_op1G 15 (.tmp 14) (.pointer (some ⟨p.a,0,none⟩)) (.pointer (some ⟨p.a,3,none⟩)) ?_
 refine fl_op1N 16 (.tmp 15) (.pointer (some ⟨p.a,3,none⟩)) (.pointer (some ⟨p.st,0,none⟩)) (fun ρ h1 kk w1 (hg:Grow _ w1) hb hf=>by have c:=(ha1.grow hg).cell 3;go_simp) ?_
 refine fl_op1N 17 (.tmp 7) (.pointer (some ⟨y,0,none⟩)) (.agg #[.string s,.int .u64 (x:Int)]) (fun ρ h1 kk w1 (hg:Grow _ w1) hb hf=>by have c0:=(hY1.grow hg).cell 0;have c1:=(hY1.grow hg).cell 1;go_simp) ?_
 refine fl_call 18 (by rfl) (by decide) (wanted_none (by rfl)) (.int .i64 0) (by rw[hK.out];rfl) 70 _ _ (by rfl) [.pointer (some ⟨p.st,0,none⟩),.agg #[.string s,.int .u64 (x:Int)]] (by rfl) k70 (fun kk w1 (hg:Grow _ w1) hb hf=>calls_behind (by rfl) (by exact bMay_0 w1 p.st ep none 0 p.z cu (hst1'.grow hg) s x hp (by omega) hx)) ?_
 refine fl_mvN 8 (.int .i64 0) ?_
 refine fl_end (fun _ _ w1 (hg:Grow _ w1) _ hfacts=>hT _ _ ?_)
 clear hops hA' hK hT
 simp only[putsL,Act.put,List.setIfInBounds_toArray,List.set_cons_zero,List.set_cons_succ,List.drop_succ_cons,List.drop_zero]
 have hS1:=hSa.grows hFa hg
 have J1:=Just.of_grow (V:=Lic V w) (hga.trans hg)
 have hY2:=hS1.blk 0 rfl
 have ha2:=hS1.blk 7 rfl
 unfold agC at ha2
 go_wp2_with fail
 refine wp_region_flow 6 48 [(5,.inr (fun _=>IsBytes (smpB s x)))] rfl rfl (by kernel_rfl) (by kernel_rfl) (by kernel_rfl) ?_ ?_
 ·intro x hx φ he
  simp only[List.mem_cons,List.not_mem_nil,or_false] at hx
  rcases hx with rfl<;>cases he
  all_goals first|exact lasts_quiet (lasting_bytes _)|fail
 intro ops' A' K' T hops hA' hK hT
 refine fl_mvN 22 (.pointer (some ⟨p.a,0,none⟩)) ?_
 refine fl_op1N 23 (.tmp 22) (.pointer (some ⟨p.a,0,none⟩)) (.pointer (some ⟨p.a,0,none⟩)) (fun ρ h1 kk w2 (hg2:Grow _ w2) hb hf=>by go_simp) ?_
 refine fl_op1N 24 (.tmp 23) (.pointer (some ⟨p.a,0,none⟩)) (.pointer (some ⟨p.a,2,none⟩)) (fun ρ h1 kk w2 (hg2:Grow _ w2) hb hf=>by go_simp) ?_
 refine fl_op1N 25 (.tmp 24) (.pointer (some ⟨p.a,2,none⟩)) (.pointer (some ⟨p.x,0,none⟩)) (fun ρ h1 kk w2 (hg2:Grow _ w2) hb hf=>by have c:=(ha2.grow hg2).cell 2;go_simp) ?_
 refine fl_op1N 26 (.tmp 7) (.pointer (some ⟨y,0,none⟩)) (.agg #[.string s,.int .u64 (x:Int)]) (fun ρ h1 kk w2 (hg2:Grow _ w2) hb hf=>by have c0:=(hY2.grow hg2).cell 0;have c1:=(hY2.grow hg2).cell 1;go_simp) ?_
 refine fl_callAny 27 (by rfl) (by decide) (wanted_none (by rfl)) (fun _=>IsBytes (smpB s x)) (by rw[hK.out];rfl) 72 _ _ (by rfl) [.agg #[.string s,.int .u64 (x:Int)]] (by rfl) k72 (fun kk w2 (hg2:Grow _ w2) hb hf=>calls_behindAny (φ:=fun _=>IsBytes (smpB s x)) (by rfl) (by exact bSample_any w2 s x hs)) (fun v27=>?_)
 refine fl_end (fun _ _ w2 (hg2:Grow _ w2) _ hfacts=>hT _ _ ?_)
 clear hops hA' hK hT
 simp only[putsL,Act.put,List.setIfInBounds_toArray,List.set_cons_zero,List.set_cons_succ,List.drop_succ_cons,List.drop_zero]
 have hI2:IsBytes (smpB s x) v27 w2:=hfacts.1
 clear hfacts
 have hS2:=hS1.grows hFa hg2
 have J2:=J1.trans (Just.of_grow hg2)
 have hC:=hS2.at_ 10 rfl hFa (lAppend_ok w2 p.x p.d n bs (smpB s x) k v27 hI2 hn (by omega) (by omega))
 go_wp2_with fail
 refine hC.mono ?_
 rintro en w3 ⟨rfl,hj3,hS3⟩
 obtain⟨b2,HB2⟩:∃ b2:List UInt8,Hid (b2=bs++frame (smpB s x)):=⟨_,rfl⟩
 rw[←HB2.out] at hS3
 have hS3:Solo (Lic V w) (Many (Cell y 29 #[.string s,.int .u64 (x:Int)] :: (bookL p.st p.z ep (.slice none 0 0) [] l0 k0 cu++[Cell p.a 143 (agC p node reps now tag last),GMap keI p.bK asks,GMap keD p.bT tr,LogAt p.x p.d (n+1) b2 k]))) w3:=hS3
 have hFb:=(allFramed_app (bookL_framed p.st p.z ep (.slice none 0 0) [] l0 k0 cu) (agL_framed p Emp Emp.framed node reps now tag last asks tr (n+1) b2 k).tail).cons (Cell.framed y 29 #[.string s,.int .u64 (x:Int)])
 have J3:=J2.trans hj3
 have hY3:=hS3.blk 0 rfl
 have hst3:=hS3.blk 1 rfl
 have ha3:=hS3.blk 7 rfl
 unfold bkC at hst3
 unfold agC at ha3
 go_wp2_with fail
 refine wp_region_flow 16 48 [(12,.inr (fun _=>IsIn 2 1 [.string s,.int .u64 (x:Int)])),(13,.inr (fun _=>NewRow w3.heap.size 29 2 1 [.string s,.int .u64 (x:Int)]))] rfl rfl (by kernel_rfl) (by kernel_rfl) (by kernel_rfl) ?_ ?_
 ·intro x hx φ he
  simp only[List.mem_cons,List.not_mem_nil,or_false] at hx
  rcases hx with rfl|rfl<;>cases he
  all_goals first|exact lasts_quiet (lasting_bytes _)|first|exact lasts_quiet (isIn_lasting _ _ _)|exact lasts_quiet (newRow_lasting _ _ _ _ _)
 intro ops' A' K' T hops hA' hK hT
 refine fl_mvN 32 (.pointer (some ⟨p.a,0,none⟩)) ?_
 refine fl_op1N 33 (.tmp 32) (.pointer (some ⟨p.a,0,none⟩)) (.pointer (some ⟨p.a,0,none⟩)) (fun ρ h1 kk w4 (hg4:Grow _ w4) hb hf=>by go_simp) ?_
 refine fl_op1N 34 (.tmp 33) (.pointer (some ⟨p.a,0,none⟩)) (.pointer (some ⟨p.a,3,none⟩)) (fun ρ h1 kk w4 (hg4:Grow _ w4) hb hf=>by go_simp) ?_
 refine fl_op1N 35 (.tmp 34) (.pointer (some ⟨p.a,3,none⟩)) (.pointer (some ⟨p.st,0,none⟩)) (fun ρ h1 kk w4 (hg4:Grow _ w4) hb hf=>by have c:=(ha3.grow hg4).cell 3;go_simp) ?_
 refine fl_mvN 36 (.pointer (some ⟨p.a,0,none⟩)) ?_
 refine fl_op1N 37 (.tmp 36) (.pointer (some ⟨p.a,0,none⟩)) (.pointer (some ⟨p.a,0,none⟩)) (fun ρ h1 kk w4 (hg4:Grow _ w4) hb hf=>by go_simp) ?_
 refine fl_op1N 38 (.tmp 37) (.pointer (some ⟨p.a,0,none⟩)) (.pointer (some ⟨p.a,3,none⟩)) (fun ρ h1 kk w4 (hg4:Grow _ w4) hb hf=>by go_simp) ?_
 refine fl_op1N 39 (.tmp 38) (.pointer (some ⟨p.a,3,none⟩)) (.pointer (some ⟨p.st,0,none⟩)) (fun ρ h1 kk w4 (hg4:Grow _ w4) hb hf=>by have c:=(ha3.grow hg4).cell 3;go_simp) ?_
 refine fl_op1N 40 (.tmp 39) (.pointer (some ⟨p.st,0,none⟩)) (.pointer (some ⟨p.st,0,none⟩)) (fun ρ h1 kk w4 (hg4:Grow _ w4) hb hf=>by go_simp) ?_
 refine fl_op1N 41 (.tmp 40) (.pointer (some ⟨p.st,0,none⟩)) (.pointer (some ⟨p.st,1,none⟩)) (fun ρ h1 kk w4 (hg4:Grow _ w4) hb hf=>by go_simp) ?_
 refine fl_op1N 42 (.tmp 41) (.pointer (some ⟨p.st,1,none⟩)) (.slice none 0 0) (fun ρ h1 kk w4 (hg4:Grow _ w4) hb hf=>by have c:=(hst3.grow hg4).cell 1;go_simp) ?_
 refine fl_op1N 43 (.tmp 7) (.pointer (some ⟨y,0,none⟩)) (.agg #[.string s,.int .u64 (x:Int)]) (fun ρ h1 kk w4 (hg4:Grow _ w4) hb hf=>by have c0:=(hY3.grow hg4).cell 0;have c1:=(hY3.grow hg4).cell 1;go_simp) ?_
 refine fl_any1 44 (by rfl) (by decide) (wanted_none (by rfl)) (fun _=>IsIn 2 1 [.string s,.int .u64 (x:Int)]) (by rw[hK.out];rfl) (.tmp 43) (.agg #[.string s,.int .u64 (x:Int)]) (by rfl) (fun ρ h1 kk w4 (hg4:Grow _ w4) hb hf=>by refine upon_behindAny (φ:=fun _=>IsIn 2 1 [.string s,.int .u64 (x:Int)]) (by rfl) ?_;exact delta_made rfl h1) (fun v44=>?_)
 refine fl_any2 45 (by rfl) (by decide) (wanted_none (by rfl)) (fun _=>NewRow w3.heap.size 29 2 1 [.string s,.int .u64 (x:Int)]) (by rw[hK.out];rfl) (.tmp 42) (.tmp 44) (.slice none 0 0) (v44) (by rfl) (by rfl) (fun ρ h1 h2 kk w4 (hg4:Grow _ w4) hb hf=>by refine upon_behindAny (φ:=fun _=>NewRow w3.heap.size 29 2 1 [.string s,.int .u64 (x:Int)]) (by rfl) ?_;exact app_nil dltE hg4.size (facts_take hf (by rw[hA'.out];kernel_rfl)) h1 h2 rfl (dlt_one _ _) (by decide)) (fun v45=>?_)
 refine fl_op1N 46 (.tmp 35) (.pointer (some ⟨p.st,0,none⟩)) (.pointer (some ⟨p.st,0,none⟩)) (fun ρ h1 kk w4 (hg4:Grow _ w4) hb hf=>by go_simp) ?_
 refine fl_op1N 47 (.tmp 46) (.pointer (some ⟨p.st,0,none⟩)) (.pointer (some ⟨p.st,1,none⟩)) (fun ρ h1 kk w4 (hg4:Grow _ w4) hb hf=>by go_simp) ?_
 refine fl_end (fun _ _ w4 (hg4:Grow _ w4) _ hfacts=>hT _ _ ?_)
 clear hops hA' hK hT
 simp only[putsL,Act.put,List.setIfInBounds_toArray,List.set_cons_zero,List.set_cons_succ,List.drop_succ_cons,List.drop_zero]
 obtain⟨A6,c6,e6⟩:=newRow_one hfacts.1
 obtain⟨U6,hR6,hU6⟩:NewRow w3.heap.size 29 2 1 [.string s,.int .u64 (x:Int)] v45 w4:=hfacts.1
 clear hfacts
 subst e6
 have hS4:=hS3.renew (R:=Smp (.slice A6 1 c6) [(s,x)]) 2 rfl hFb hg4 hR6 hU6
 have hS4:Solo (Lic V w) (Many (Cell y 29 #[.string s,.int .u64 (x:Int)] :: Cell p.st 148 (bkC ep (.slice none 0 0) p.z cu) :: (bookL p.st p.z ep (.slice A6 1 c6) [(s,x)] l0 k0 cu++[Cell p.a 143 (agC p node reps now tag last),GMap keI p.bK asks,GMap keD p.bT tr,LogAt p.x p.d (n+1) b2 k]).tail)) w4:=hS4
 have hFc:=(((allFramed_app (bookL_framed p.st p.z ep (.slice A6 1 c6) [(s,x)] l0 k0 cu) (agL_framed p Emp Emp.framed node reps now tag last asks tr (n+1) b2 k).tail).tail).cons (Cell.framed p.st 148 (bkC ep (.slice none 0 0) p.z cu))).cons (Cell.framed y 29 #[.string s,.int .u64 (x:Int)])
 have J4:=J3.trans (Just.of_grow hg4)
 go_wp2_with (refine wpList_putS rfl _ _ _ rfl hS4 hFc J4 1 rfl rfl (.slice A6 1 c6) rfl (Nat.le_of_ble_eq_true rfl) rfl (by kernel_rfl) ?_;intro w5 hS5 J5;refine stay ?_)
 refine stay_out ?_
 go_wp2_with fail
 go_ret
 have hS5:Solo (Lic V w) (Many (Cell y 29 #[.string s,.int .u64 (x:Int)] :: (bookL p.st p.z ep (.slice A6 1 c6) [(s,x)] l0 k0 cu++[Cell p.a 143 (agC p node reps now tag last),GMap keI p.bK asks,GMap keD p.bT tr,LogAt p.x p.d (n+1) b2 k]))) w5:=hS5
 have hS6:Solo (Lic V w) (Many (agL p (BookT p.st p.z ep (.slice A6 1 c6) [(s,x)] l0 k0 cu) node reps now tag last asks tr (n+1) b2 k)) w5:=Solo.unflat hS5.drop1
 obtain⟨r1,r2⟩:=Solo.done hS6 J5 hV
 rw[←HB2.out]
 exact⟨rfl,⟨_,r1⟩,r2⟩
theorem qLast_any (w:World) (g:Nat) (l:List Q.Ab) (last:Int) (V:Nat→Prop) (h:Q.QueueAt g l last w V):Calls Tryz.prog 76 #[.pointer (some ⟨g,0,none⟩)] w fun e w'=>e=.returned (.int .i64 last)∧w=w':=by
 obtain⟨_,v,q,R,D,_,_,hB,_⟩:=h
 have c1:=hB.cell 1
 go_enter Tryz.func76,Tryz.ntmps76
 go_wp2_with fail
 go_ret
 exact⟨rfl,rfl⟩
theorem idxF_nil (w:World) (f:Value):Calls Tryz.prog 156 #[.slice none 0 0,f] w fun e w'=>e=.returned (.int .i64 (-1))∧w=w':=by
 go_enter Tryz.func156,Tryz.ntmps156
 go_wp2_with fail
 go_loopw [8] (fun i wr=>i=.int .i64 0∧w=wr) (fun _ _=>0)
 case atStart=>exact⟨rfl,rfl⟩
 case round=>
  obtain⟨rfl,rfl⟩:=hrel
  go_wp2_with fail
  go_ret
  exact⟨rfl,rfl⟩
theorem eDeltas_1 (w:World) (s:ByteArray) (x:Nat) (A:Option Addr) (c:Nat) (D:Nat→Prop) (hd:DIn w D A 1 [(s,x)]):Calls Tryz.prog 74 #[.slice A 1 c] w fun e w'=>∃ A2,e=.returned (.slice A2 1 1)∧DIn w' (New w w') A2 1 [(s,x)]∧Grow w w':=by
 go_enter Tryz.func74,Tryz.ntmps74
 go_wp2_with fail
 go_loopw [3,9] (fun u i wr=>(u=.slice none 0 0∧i=.int .i64 0∧w=wr)∨(i=.int .i64 1∧NewRow w.heap.size 29 2 1 [.string s,.int .u64 (x:Int)] u wr∧Grow w wr)) (fun _ i _=>1-(intOf i).toNat)
 case atStart=>exact .inl ⟨rfl,rfl,rfl⟩
 case round=>
  rcases hrel with ⟨rfl,rfl,rfl⟩|⟨rfl,hR,hg⟩
  ·obtain⟨ad,hq,rfl,f0,f1⟩:=del_cells hd (k:=0) (by omega)
   have e0:w.cell? ad=some (.string s):=f0 w (Grow.refl _)
   have e1:w.cell? ⟨ad.block,ad.off+1,none⟩=some (.int .u64 (x:Int)):=f1 w (Grow.refl _)
   clear f0 f1
   have hga:=grow_alloc w (.cells #[.string s,.int .u64 (x:Int)] 29)
   go_wp2_with fail
   refine (idxF_nil _ _).mono ?_
   rintro e w1 ⟨rfl,rfl⟩
   have hgb:=grow_alloc (w.alloc (.cells #[.string s,.int .u64 (x:Int)] 29)) (.cells #[.string s,.int .u64 (x:Int)] 29)
   have hBb:=isIn_blk (Blk.made (w.alloc (.cells #[.string s,.int .u64 (x:Int)] 29)) 29 #[.string s,.int .u64 (x:Int)]) (size:=2) (n:=1) rfl
   obtain⟨A4,e4,hI4⟩:=hBb
   injection e4 with e4
   subst e4
   have hI5:=hI4.reads
   rw[alloc_size w] at hI5
   go_wp2_with (at_builtin;refine stay ?_)
   refine stay_out ?_
   refine wpList_row dltE _ rfl (.tmp 18) (.tmp 20) rfl (.slice none 0 0) 0 [] rfl (Row.nil (V:=fun _=>False)) _ _ 1 1 [.string s,.int .u64 (x:Int)] rfl hI5 (dlt_one _ _) (by decide) ?_
   intro v5 w5 hR5 hj5
   have hg5:=hj5.below (B:=w.heap.size) (fun b hb=>hb.elim) (by simp;omega)
   have hgw:Grow w w5:=Below.trans (hga.trans hgb) hg5
   have hN:NewRow w.heap.size 29 2 1 [.string s,.int .u64 (x:Int)] v5 w5:=by
    simp only[Nat.zero_add,List.nil_append] at hR5
    refine⟨_,hR5,fun b hb=>?_⟩
    rcases hb with hb|hb
    ·exact hb.elim
    ·exact⟨by have:=hb.1;simp at this;omega,hb.2⟩
   go_wp2_with fail
   go_roundw
   case rel=>exact .inr ⟨rfl,hN,hgw⟩
   case measure=>simp[intOf]
  ·obtain⟨A6,c6,rfl⟩:=newRow_one hR
   obtain⟨U,hU,hlt⟩:=hR
   obtain⟨A7,c7,e7,hI7,hc7,hm7⟩:=hU.in_
   injection e7 with e7 _ e8
   subst e7 e8
   have hC:=clip_any wr A6 1 c6 hc7
   go_wp2_with fail
   refine hC.mono ?_
   rintro e w2 ⟨rfl,rfl⟩
   go_wp2_with fail
   go_ret
   exact⟨A6,rfl,hI7.mono hlt,hg⟩
def batB (s:ByteArray) (x:Nat):List UInt8:=recB 3 [0,1,1]++dsB [(s,x)]
theorem batB_len {s:ByteArray} {x:Nat} (h:Small (s,x)):(batB s x).length≤1060:=by
 have h1:=recB_len 3 [0,1,1] (by decide) (by decide)
 have h2:=dsB_len [(s,x)] fun d hd=>by rw[List.mem_singleton.1 hd];exact h
 unfold batB
 rw[List.length_append]
 simp only[List.length_nil,List.length_cons] at h1 h2
 omega
theorem qLen_g (w:World) (g:Nat) (l:List Q.Ab) (last:Int) (V:Nat→Prop) (h:Q.QueueAt g l last w V) (k:Nat) (hk:l.length=k):Calls Tryz.prog 159 #[.pointer (some ⟨g,0,none⟩)] w fun e w'=>e=.returned (.int .i64 (k:Int))∧Grow w w':=(Q.Len_at w g l last V h k hk).mono fun _ _ ⟨h1,h2⟩=>⟨h1,h2▸Grow.refl _⟩
theorem qLast_g (w:World) (g:Nat) (l:List Q.Ab) (last:Int) (V:Nat→Prop) (h:Q.QueueAt g l last w V):Calls Tryz.prog 76 #[.pointer (some ⟨g,0,none⟩)] w fun e w'=>e=.returned (.int .i64 last)∧Grow w w':=(qLast_any w g l last V h).mono fun _ _ ⟨h1,h2⟩=>⟨h1,h2▸Grow.refl _⟩
set_option maxHeartbeats 1000000 in
theorem acut_1 (w:World) (p:AgP) (node reps now tag last:Int) (asks:List (Int×Value)) (tr:List ((Int×Int×Int)×Value)) (n:Int) (bs:List UInt8) (k:Nat) (ep:Int) (sl:Value) (s:ByteArray) (x c:Nat) (A:Option Addr) (D:Nat→Prop) (hs:Small (s,x)) (hc1:1≤c) (hc:c≤maxLen) (hn:0≤n∧n≤1099511627776) (hbs:bs.length≤1000000) (V:Nat→Prop) (hM:Many (agL p (BookT p.st p.z ep sl [(s,x)] [] 0 (.slice none 0 0)) node reps now tag last asks tr n bs k) w V) (hV:∀ b,V b→b<w.heap.size) (hd:DIn w D A 1 [(s,x)]) (hDl:∀ b,D b→b<w.heap.size) (hDV:∀ b,D b→¬ V b) :
 Calls Tryz.prog 75 #[.pointer (some ⟨p.a,0,none⟩),.int .i64 0,.slice A 1 c] w fun e w'=>e=.returned (.bool true)∧Many (agL p (BookE p.st p.z ep [(1,[(s,x)])] 1) node reps now tag last asks tr (n+1) (bs++frame (batB s x)) k) w' (Ext V w w')∧Just V w w':=by
 have k159:∀ (vs:Array Value) (w:World),(callFunc 159 vs).run Tryz.prog w=.ok (.enter 159 vs) w:=fun vs w=>by go_simp
 have k76:∀ (vs:Array Value) (w:World),(callFunc 76 vs).run Tryz.prog w=.ok (.enter 76 vs) w:=fun vs w=>by go_simp
 have k160:∀ (vs:Array Value) (w:World),(callFunc 160 vs).run Tryz.prog w=.ok (.enter 160 vs) w:=fun vs w=>by go_simp
 have k71:∀ (vs:Array Value) (w:World),(callFunc 71 vs).run Tryz.prog w=.ok (.enter 71 vs) w:=fun vs w=>by go_simp
 have k161:∀ (vs:Array Value) (w:World),(callFunc 161 vs).run Tryz.prog w=.ok (.enter 161 vs) w:=fun vs w=>by go_simp
 have hsl:=batB_len hs
 have hfl:=frame_le (batB s x) (by omega)
 have hsz:=hs.1
 have hS0:=Solo.begin_ hM hV
 have hS0:Solo (Lic V w) (Many (bookL p.st p.z ep sl [(s,x)] [] 0 (.slice none 0 0)++[Cell p.a 143 (agC p node reps now tag last),GMap keI p.bK asks,GMap keD p.bT tr,LogAt p.x p.d n bs k])) w:=Solo.flat hS0
 have hF0:=allFramed_app (bookL_framed p.st p.z ep sl [(s,x)] [] 0 (.slice none 0 0)) (agL_framed p Emp Emp.framed node reps now tag last asks tr n bs k).tail
 have hst0:=hS0.blk 0 rfl
 have ha0:=hS0.blk 6 rfl
 unfold bkC at hst0
 unfold agC at ha0
 have k3:=ha0.cell 3
 have q3:=hst0.cell 3
 obtain⟨U0,hQ0,hU0⟩:=hS0.see 2 rfl
 go_enter Tryz.func75,Tryz.ntmps75
 go_wp2_with fail
 clear k3 q3
 refine (qLast_any w p.z.a [] 0 U0 hQ0).mono ?_
 rintro e w1 ⟨rfl,rfl⟩
 have hga:=grow_alloc w (.cells #[.int .i64 1,.slice A 1 c] 159)
 have hBy:=Blk.made w 159 #[.int .i64 1,.slice A 1 c]
 obtain⟨y,HY⟩:∃ y:Nat,Hid (y=w.heap.size):=⟨_,rfl⟩
 obtain⟨wa,HA_⟩:∃ wa:World,Hid (wa=w.alloc (.cells #[.int .i64 1,.slice A 1 c] 159)):=⟨_,rfl⟩
 rw[←HA_.out] at hga hBy
 rw[←HY.out] at hBy
 have hSa:=hS0.join hF0 hga (R:=Cell y 159 #[.int .i64 1,.slice A 1 c]) (U:=fun b=>b=y) ⟨rfl,hBy⟩ (fun b hb=>by have:=HY.out;have:=hBy.lt;omega)
 have hFa:=hF0.cons (Cell.framed y 159 #[.int .i64 1,.slice A 1 c])
 have hY1:=hSa.blk 0 rfl
 have ha1:=hSa.blk 7 rfl
 unfold agC at ha1
 obtain⟨U1,hQ1,hU1⟩:=hSa.see 3 rfl
 have hQg:∀ w1,Grow wa w1→Q.QueueAt p.z.a [] 0 w1 U1:=fun w1 hg=>Q.QueueAt.framed _ _ _ wa w1 U1 hQ1 fun b hb=>hg.block b (hU1 b hb).2
 have hda:=In.grow hd hga
 clear hBy
 have hsm:∀ d∈[(s,x)],Small d:=fun d hd=>by rw[List.mem_singleton.1 hd];exact hs
 have hBt:∀ w1,Grow wa w1→Calls Tryz.prog 160 #[.int .i64 0,.agg #[.int .i64 1,.slice A 1 c]] w1 fun e w'=>∃ v,e=.returned v∧Grow w1 w'∧IsBytes (batB s x) v w':=fun w1 hg=>bBatch_any w1 0 1 A 1 c [(s,x)] D (In.grow hda hg) (by decide) (by decide) (by decide) hsm
 go_wp2_with fail
 rw[←HA_.out,←HY.out]
 refine wp_region_flow 16 49 [(1,.inl (.int .i64 0)),(5,.inl (.int .i64 0)),(15,.inr (fun _=>IsBytes (batB s x)))] rfl rfl (by kernel_rfl) (by kernel_rfl) (by kernel_rfl) ?_ ?_
 ·intro x hx φ he
  simp only[List.mem_cons,List.not_mem_nil,or_false] at hx
  rcases hx with rfl|rfl|rfl<;>cases he
  all_goals first|exact lasts_quiet (lasting_bytes _)|fail
 intro ops' A' K' T hops hA' hK hT
 refine fl_mvN 23 (.pointer (some ⟨p.z.a,0,none⟩)) ?_
 refine fl_call 24 (by rfl) (by decide) (wanted_none (by rfl)) (.int .i64 0) (by rw[hK.out];rfl) 159 _ _ (by rfl) [.pointer (some ⟨p.z.a,0,none⟩)] (by rfl) k159 (fun kk w2 (hg2:Grow _ w2) hb hf=>calls_behind (by rfl) (by exact qLen_g w2 p.z.a [] 0 U1 (hQg w2 hg2) 0 rfl)) ?_
 refine fl_op2N 25 (.tmp 24) (.const (.int .i64 16)) (.int .i64 0) (.int .i64 16) (.bool false) (fun ρ h1 h2 kk w2 (hg2:Grow _ w2) hb hf=>by go_simp) ?_
 refine fl_mvN 26 (.bool false) ?_
 refine fl_mvW 27 (wif hops 3 false 26 false) (.pointer (some ⟨p.z.a,0,none⟩)) ?_
 refine fl_call 28 (by rfl) (by decide) (wanted_if hops 3 false (by rfl) 26 (by rfl) false (by rfl)) (.int .i64 0) (by rw[hK.out];rfl) 76 _ _ (by rfl) [.pointer (some ⟨p.z.a,0,none⟩)] (by rfl) k76 (fun kk w2 (hg2:Grow _ w2) hb hf=>calls_behind (by rfl) (by exact qLast_g w2 p.z.a [] 0 U1 (hQg w2 hg2))) ?_
 refine fl_op2W 29 (wif hops 3 false 26 false) (.tmp 28) (.const (.int .i64 9223372036854775807)) (.int .i64 0) (.int .i64 9223372036854775807) (.bool false) (fun ρ h1 h2 kk w2 (hg2:Grow _ w2) hb hf=>by go_simp) ?_
 refine fl_pickN 30 false (.bool false) ?_
 refine fl_mvN 31 (.bool false) ?_
 refine fl_mvW 32 (wif hops 8 false 31 false) (.pointer (some ⟨p.a,0,none⟩)) ?_
 refine fl_op1W 33 (wif hops 8 false 31 false) (.tmp 32) (.pointer (some ⟨p.a,0,none⟩)) (.pointer (some ⟨p.a,0,none⟩)) (fun ρ h1 kk w2 (hg2:Grow _ w2) hb hf=>by go_simp) ?_
 refine fl_op1W 34 (wif hops 8 false 31 false) (.tmp 33) (.pointer (some ⟨p.a,0,none⟩)) (.pointer (some ⟨p.a,2,none⟩)) (fun ρ h1 kk w2 (hg2:Grow _ w2) hb hf=>by go_simp) ?_
 refine fl_op1W 35 (wif hops 8 false 31 false) (.tmp 34) (.pointer (some ⟨p.a,2,none⟩)) (.pointer (some ⟨p.x,0,none⟩)) (fun ρ h1 kk w2 (hg2:Grow _ w2) hb hf=>by have c:=(ha1.grow hg2).cell 2;go_simp) ?_
 refine fl_mvW 36 (wif hops 8 false 31 false) (.int .i64 0) ?_
 refine fl_op1W 37 (wif hops 8 false 31 false) (.tmp 8) (.pointer (some ⟨y,0,none⟩)) (.agg #[.int .i64 1,.slice A 1 c]) (fun ρ h1 kk w2 (hg2:Grow _ w2) hb hf=>by have c0:=(hY1.grow hg2).cell 0;have c1:=(hY1.grow hg2).cell 1;go_simp) ?_
 refine fl_callAny 38 (by rfl) (by decide) (wanted_if hops 8 false (by rfl) 31 (by rfl) false (by rfl)) (fun _=>IsBytes (batB s x)) (by rw[hK.out];rfl) 160 _ _ (by rfl) [.int .i64 0,.agg #[.int .i64 1,.slice A 1 c]] (by rfl) k160 (fun kk w2 (hg2:Grow _ w2) hb hf=>calls_behindAny (φ:=fun _=>IsBytes (batB s x)) (by rfl) (by exact hBt w2 hg2)) (fun v38=>?_)
 refine fl_end (fun _ _ w2 (hg2:Grow _ w2) _ hfacts=>hT _ _ ?_)
 clear hops hA' hK hT
 simp only[putsL,Act.put,List.setIfInBounds_toArray,List.set_cons_zero,List.set_cons_succ,List.drop_succ_cons,List.drop_zero]
 have hI2:IsBytes (batB s x) v38 w2:=by first|exact hfacts.1|exact hfacts.2.1|exact hfacts.2.2.1
 clear hfacts hBt hQg
 have hS2:=hSa.grows hFa hg2
 have J2:=Just.of_grow (V:=Lic V w) (hga.trans hg2)
 have hC:=hS2.at_ 10 rfl hFa (lAppend_ok w2 p.x p.d n bs (batB s x) k v38 hI2 hn (by omega) (by omega))
 go_wp2_with fail
 refine hC.mono ?_
 rintro en w3 ⟨rfl,hj3,hS3⟩
 obtain⟨b2,HB2⟩:∃ b2:List UInt8,Hid (b2=bs++frame (batB s x)):=⟨_,rfl⟩
 rw[←HB2.out] at hS3
 have hS3:Solo (Lic V w) (Many (Cell y 159 #[.int .i64 1,.slice A 1 c] :: (bookL p.st p.z ep sl [(s,x)] [] 0 (.slice none 0 0)++[Cell p.a 143 (agC p node reps now tag last),GMap keI p.bK asks,GMap keD p.bT tr,LogAt p.x p.d (n+1) b2 k]))) w3:=hS3
 have hFb:=(allFramed_app (bookL_framed p.st p.z ep sl [(s,x)] [] 0 (.slice none 0 0)) (agL_framed p Emp Emp.framed node reps now tag last asks tr (n+1) b2 k).tail).cons (Cell.framed y 159 #[.int .i64 1,.slice A 1 c])
 have J3:=J2.trans hj3
 have hY3:=hS3.blk 0 rfl
 have ha3:=hS3.blk 7 rfl
 unfold agC at ha3
 go_wp2_with fail
 refine wp_region_flow 6 49 [] rfl rfl (by kernel_rfl) (by kernel_rfl) (by kernel_rfl) ?_ ?_
 ·intro x hx φ he
  cases hx
 intro ops' A' K' T hops hA' hK hT
 refine fl_mvN 42 (.pointer (some ⟨p.a,0,none⟩)) ?_
 refine fl_op1N 43 (.tmp 42) (.pointer (some ⟨p.a,0,none⟩)) (.pointer (some ⟨p.a,0,none⟩)) (fun ρ h1 kk w4 (hg4:Grow _ w4) hb hf=>by go_simp) ?_
 refine fl_op1N 44 (.tmp 43) (.pointer (some ⟨p.a,0,none⟩)) (.pointer (some ⟨p.a,3,none⟩)) (fun ρ h1 kk w4 (hg4:Grow _ w4) hb hf=>by go_simp) ?_
 refine fl_op1N 45 (.tmp 44) (.pointer (some ⟨p.a,3,none⟩)) (.pointer (some ⟨p.st,0,none⟩)) (fun ρ h1 kk w4 (hg4:Grow _ w4) hb hf=>by have c:=(ha3.grow hg4).cell 3;go_simp) ?_
 refine fl_mvN 46 (.int .i64 0) ?_
 refine fl_op1N 47 (.tmp 8) (.pointer (some ⟨y,0,none⟩)) (.agg #[.int .i64 1,.slice A 1 c]) (fun ρ h1 kk w4 (hg4:Grow _ w4) hb hf=>by have c0:=(hY3.grow hg4).cell 0;have c1:=(hY3.grow hg4).cell 1;go_simp) ?_
 refine fl_end (fun _ _ w4 (hg4:Grow _ w4) _ hfacts=>hT _ _ ?_)
 clear hops hA' hK hT
 simp only[putsL,Act.put,List.setIfInBounds_toArray,List.set_cons_zero,List.set_cons_succ,List.drop_succ_cons,List.drop_zero]
 have hS4:=hS3.grows hFb hg4
 have J4:=J3.trans (Just.of_grow hg4)
 have hS5:Solo (Lic V w) (Many (agL p (BookT p.st p.z ep sl [(s,x)] [] 0 (.slice none 0 0)) node reps now tag last asks tr (n+1) b2 k)) w4:=Solo.unflat hS4.drop1
 have hF5:=agL_framed p (BookT p.st p.z ep sl [(s,x)] [] 0 (.slice none 0 0)) (BookT.framed _ _ _ _ _ _ _ _) node reps now tag last asks tr (n+1) b2 k
 have hw4:=J4.size
 have hd4:DIn w4 D A 1 [(s,x)]:=In.just hd J4 fun b hb hl=>hl.elim (hDV b hb) (fun h=>by have:=hDl b hb;omega)
 have hB:=hS5.atV (C:=fun e=>e=.returned (.tuple #[])) (S':=BookE p.st p.z ep [(1,[(s,x)])] 1) 0 rfl hF5 fun U hU hUl hUp=>bAdd_one w4 p.st p.z ep sl s x x 1 c [] 0 A D U hU hUl hd4 (fun b hb=>by have:=hDl b hb;omega) (fun b hb hu=>(hUp b hu).elim (hDV b hb) (fun h=>by have:=hDl b hb;omega)) hc1 hc (by decide)
 go_wp2_with fail
 refine hB.mono ?_
 rintro en w6 ⟨rfl,hj6,hS6⟩
 go_wp2_with fail
 go_ret
 obtain⟨r1,r2⟩:=Solo.done hS6 (J4.trans hj6) hV
 rw[←HB2.out]
 exact⟨rfl,r1,r2⟩
end Go.Proofs.YtmijcbfgfkeodaaGreatDoor
end
section
namespace Go.Proofs.YtmijcbfgfkeodaaGreatDoor
open Go.RowKit Go.Hop
theorem dNext_any (w:World) (x:Int):Calls Tryz.prog 365 #[.int .u64 x] w fun e w'=>∃ y:Int,e=.returned (.int .u64 y)∧w=w':=by
 go_enter Tryz.func365,Tryz.ntmps365
 go_wp2_with fail
 go_ret
 exact⟨_,rfl,rfl⟩
theorem dIn_3 (w:World) (x:Int):Calls Tryz.prog 362 #[.int .u64 x,.int .i64 3] w fun e w'=>∃ y:Int,e=.returned (.int .i64 y)∧w=w':=by
 have hN:=dNext_any w x
 go_enter Tryz.func362,Tryz.ntmps362
 go_wp2_with fail
 refine hN.mono ?_
 rintro e w1 ⟨y,rfl,rfl⟩
 go_wp2_with fail
 go_ret
 exact⟨_,rfl,rfl⟩
theorem Back_0 (w:World):Calls Tryz.prog 361 #[.int .i64 0,.int .i64 4,.int .i64 32] w fun e w'=>e=.returned (.int .i64 4)∧w=w':=by
 have hmn:∀ ts t w,(Builtin.min_ ts t #[.int .i64 4,.int .i64 32]).run Tryz.prog w=.ok (.int .i64 4) w:=fun ts t w=>by rw[run_min_int2];rfl
 go_enter Tryz.func361,Tryz.ntmps361
 go_wp2_with fail
 go_loopw [7,8] (fun b k wr=>b=.int .i64 4∧k=.int .i64 0∧w=wr) (fun _ _ _=>0)
 case atStart=>exact⟨rfl,rfl,rfl⟩
 case round=>
  obtain⟨rfl,rfl,rfl⟩:=hrel
  go_wp2_with fail
  go_ret
  exact⟨rfl,rfl⟩
theorem Wait_0 (w:World) (x:Int):Calls Tryz.prog 346 #[.int .u64 x,.int .i64 0,.int .i64 4,.int .i64 32] w fun e w'=>∃ y:Int,e=.returned (.int .i64 y)∧w=w':=by
 have hB:=Back_0 w
 have hI:=dIn_3 w x
 go_enter Tryz.func346,Tryz.ntmps346
 go_wp2_with fail
 refine hB.mono ?_
 rintro e w1 ⟨rfl,rfl⟩
 go_wp2_with fail
 refine hI.mono ?_
 rintro e w1 ⟨y,rfl,rfl⟩
 go_wp2_with fail
 go_ret
 exact⟨_,rfl,rfl⟩
end Go.Proofs.YtmijcbfgfkeodaaGreatDoor
end
section
namespace Go.Proofs.YtmijcbfgfkeodaaGreatDoor
open Go.RowKit Go.Hop Go.Proofs.YtmijcbfgfkeodaaGreatDoor.V
theorem anext_any (w:World) (p:AgP) (node reps now tag last:Int) (asks:List (Int×Value)) (tr:List ((Int×Int×Int)×Value)) (n:Int) (bs:List UInt8) (k:Nat) (B:Thing) (hB:Framed B) (k0 k1 k2:Int) (htag:0≤tag∧tag≤4611686018427387904) (V:Nat→Prop) (hM:Many (agL p (B) node reps now tag last asks tr n bs k) w V) (hV:∀ b,V b→b<w.heap.size):Calls Tryz.prog 310 #[.pointer (some ⟨p.a,0,none⟩),.agg #[.int .i64 k0,.int .i64 k1,.int .i64 k2]] w fun e w'=>e=.returned (.int .i64 (tag+1))∧Many (agL p (B) node reps now (tag+1) last (gput asks (tag+1) (.agg #[.int .i64 k0,.int .i64 k1,.int .i64 k2])) tr n bs k) w' (Ext V w w')∧Just V w w':=by
 have hS0:=Solo.begin_ hM hV
 have hF0:=agL_framed p B hB node reps now tag last asks tr n bs k
 have hga:=grow_alloc w (.cells #[.int .i64 k0,.int .i64 k1,.int .i64 k2] 26)
 have hBy:=Blk.made w 26 #[.int .i64 k0,.int .i64 k1,.int .i64 k2]
 obtain⟨y,HY⟩:∃ y:Nat,Hid (y=w.heap.size):=⟨_,rfl⟩
 obtain⟨wa,HA_⟩:∃ wa:World,Hid (wa=w.alloc (.cells #[.int .i64 k0,.int .i64 k1,.int .i64 k2] 26)):=⟨_,rfl⟩
 rw[←HA_.out] at hga hBy
 rw[←HY.out] at hBy
 have hSa:=hS0.join hF0 hga (R:=Cell y 26 #[.int .i64 k0,.int .i64 k1,.int .i64 k2]) (U:=fun b=>b=y) ⟨rfl,hBy⟩ (fun b hb=>by have:=HY.out;have:=hBy.lt;omega)
 have hFa:=hF0.cons (Cell.framed y 26 #[.int .i64 k0,.int .i64 k1,.int .i64 k2])
 have Ja:=Just.of_grow (V:=Lic V w) hga
 have hyw:w.heap.size≠0∨True := .inr trivial
 rw[HA_.out] at hSa Ja
 have ha:=hSa.blk 2 rfl
 unfold agC at ha
 have k5:=ha.cell 5
 go_enter Tryz.func310,Tryz.ntmps310
 go_wp2_with (refine wpList_putS rfl _ _ _ rfl hSa hFa Ja 2 rfl rfl (.int .i64 (tag+1)) rfl (Nat.le_of_ble_eq_true rfl) rfl (by kernel_rfl) ?_;intro w2 hS2 J2;refine stay ?_)
 refine stay_out ?_
 rw[←HY.out]
 clear k5 ha
 have hS2:Solo (Lic V w) (Many (Cell y 26 #[.int .i64 k0,.int .i64 k1,.int .i64 k2] :: agL p (B) node reps now (tag+1) last asks tr n bs k)) w2:=hS2
 have hF2:=(agL_framed p B hB node reps now (tag+1) last asks tr n bs k).cons (Cell.framed y 26 #[.int .i64 k0,.int .i64 k1,.int .i64 k2])
 have ha2:=hS2.blk 2 rfl
 have hY2:=hS2.blk 0 rfl
 unfold agC at ha2
 go_wp2_with fail
 refine wp_region_flow 9 25 [] rfl rfl (by kernel_rfl) (by kernel_rfl) (by kernel_rfl) ?_ ?_
 ·intro x hx φ he
  cases hx
 intro ops' A' K' T hops hA' hK hT
 refine fl_mvN 12 (.pointer (some ⟨p.a,0,none⟩)) ?_
 refine fl_op1N 13 (.tmp 12) (.pointer (some ⟨p.a,0,none⟩)) (.pointer (some ⟨p.a,0,none⟩)) (fun ρ h1 kk w3 (hg3:Grow _ w3) hb hf=>by go_simp) ?_
 refine fl_op1N 14 (.tmp 13) (.pointer (some ⟨p.a,0,none⟩)) (.pointer (some ⟨p.a,8,none⟩)) (fun ρ h1 kk w3 (hg3:Grow _ w3) hb hf=>by go_simp) ?_
 refine fl_op1N 15 (.tmp 14) (.pointer (some ⟨p.a,8,none⟩)) (.map (some p.bK)) (fun ρ h1 kk w3 (hg3:Grow _ w3) hb hf=>by have c:=(ha2.grow hg3).cell 8;go_simp) ?_
 refine fl_mvN 16 (.pointer (some ⟨p.a,0,none⟩)) ?_
 refine fl_op1N 17 (.tmp 16) (.pointer (some ⟨p.a,0,none⟩)) (.pointer (some ⟨p.a,0,none⟩)) (fun ρ h1 kk w3 (hg3:Grow _ w3) hb hf=>by go_simp) ?_
 refine fl_op1N 18 (.tmp 17) (.pointer (some ⟨p.a,0,none⟩)) (.pointer (some ⟨p.a,5,none⟩)) (fun ρ h1 kk w3 (hg3:Grow _ w3) hb hf=>by go_simp) ?_
 refine fl_op1N 19 (.tmp 18) (.pointer (some ⟨p.a,5,none⟩)) (.int .i64 (tag+1)) (fun ρ h1 kk w3 (hg3:Grow _ w3) hb hf=>by have c:=(ha2.grow hg3).cell 5;go_simp) ?_
 refine fl_op1N 20 (.tmp 3) (.pointer (some ⟨y,0,none⟩)) (.agg #[.int .i64 k0,.int .i64 k1,.int .i64 k2]) (fun ρ h1 kk w3 (hg3:Grow _ w3) hb hf=>by have c0:=(hY2.grow hg3).cell 0;have c1:=(hY2.grow hg3).cell 1;have c2:=(hY2.grow hg3).cell 2;go_simp) ?_
 refine fl_end (fun _ _ w3 (hg3:Grow _ w3) _ hfacts=>hT _ _ ?_)
 clear hops hA' hK hT
 simp only[putsL,Act.put,List.setIfInBounds_toArray,List.set_cons_zero,List.set_cons_succ,List.drop_succ_cons,List.drop_zero]
 have hS3:=hS2.grows hF2 hg3
 have J3:=J2.trans (Just.of_grow hg3)
 obtain⟨w4,hrun,hS4,hj4⟩:=hS3.put_ (φ:=fun w'=>(Instr.mapUpdate 141 (.map (some p.bK)) (.int .i64 (tag+1)) (.agg #[.int .i64 k0,.int .i64 k1,.int .i64 k2])).run Tryz.prog w3=.ok () w') 3 rfl hF2 (fun U hU hUl=>by
  obtain⟨w',h1,h2,h3⟩:=GMap.put keyL (t:=141) (et:=26) (by kernel_rfl) hU (tag+1) (.agg #[.int .i64 k0,.int .i64 k1,.int .i64 k2])
  exact⟨w',h1,h2,h3.imp fun b hb=>hb▸hU.1⟩)
 have hS4:Solo (Lic V w) (Many (Cell y 26 #[.int .i64 k0,.int .i64 k1,.int .i64 k2] :: agL p (B) node reps now (tag+1) last (gput asks (tag+1) (.agg #[.int .i64 k0,.int .i64 k1,.int .i64 k2])) tr n bs k)) w4:=hS4
 have ha4:=hS4.blk 2 rfl
 unfold agC at ha4
 have k5:=ha4.cell 5
 go_wp2_with fail
 go_ret
 obtain⟨r1,r2⟩:=Solo.done hS4.drop1 (J3.trans hj4) hV
 exact⟨rfl,r1,r2⟩
end Go.Proofs.YtmijcbfgfkeodaaGreatDoor
end
