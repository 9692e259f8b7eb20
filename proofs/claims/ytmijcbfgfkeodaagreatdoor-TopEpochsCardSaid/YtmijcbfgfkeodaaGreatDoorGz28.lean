/- Agc, Lprint, Ag6. -/
import Derived.Test.YtmijcbfgfkeodaaGreatDoorGz27
import Derived.WalkMore
set_option linter.all false
set_option maxRecDepth 100000
section
namespace Go.Proofs.YtmijcbfgfkeodaaGreatDoor
open Go.RowKit Go.Hop Go.Proofs.YtmijcbfgfkeodaaGreatDoor.V
def NewSt (Z:Nat) (t:TypeId) (c0 c1:Array Value) (m1 m2:Nat):Stages where
 G:=Just (fun b=>b=Z)
 T:=fun _=>Just (fun b=>b=Z)
 I := fun k w=>match k with
   | 0=>w.heap.size=Z
   | 1=>w.heap.size=Z+1∧Blk w Z t c0
   | _=>w.heap.size=Z+1∧Blk w Z t c1
 muts:=[m1,m2]
 stage:=fun j=>if j=m1 then some 0 else if j=m2 then some 1 else none
 q:=Hush.still
theorem newSt_ok (Z:Nat) (t:TypeId) (c0 c1:Array Value) (m1 m2:Nat):(NewSt Z t c0 c1 m1 m2).Ok:=
 ⟨fun _ _ _=>Just.trans,fun a b (h:a=b)=>by cases h;exact Just.of_grow (Grow.refl _),fun _ _ _ h=>h,fun k a b h (hg:a=b)=>by cases hg;exact h⟩
theorem newSt_alloc {Z:Nat} {t:TypeId} {c0 c1:Array Value} {m1 m2:Nat} {ρ:Operand→Value} {o:Oper} {w:World} (hI:(NewSt Z t c0 c1 m1 m2).I 0 w) (hr:(execOp ρ o).run Tryz.prog w=.ok (.value (.pointer (some ⟨w.heap.size,0,none⟩))) (w.alloc (.cells c0 t))):flowUpon Tryz.prog (fun u w'=>u=.pointer (some ⟨Z,0,none⟩)∧(NewSt Z t c0 c1 m1 m2).T 0 w w'∧(NewSt Z t c0 c1 m1 m2).I 1 w') ((execOp ρ o).run Tryz.prog w):=by
 have hI:w.heap.size=Z:=hI
 subst hI
 exact flowUpon_value hr ⟨rfl,Just.of_grow (grow_alloc w _),by simp,Blk.made w t c0⟩
theorem newSt_fill {Z:Nat} {t:TypeId} {c0 c1:Array Value} {m1 m2:Nat} {ρ:Operand→Value} {o:Oper} {x y:Operand} {w:World} (hI:(NewSt Z t c0 c1 m1 m2).I 1 w) (ho:o.op=.store t x y) (hx:ρ x=.pointer (some ⟨Z,0,none⟩)) (hy:ρ y=.agg c1) (hl:c1.size=c0.size) (h1:c1.toList.all (fun v=>v.oneCell')=true) (hi:(Tryz.prog.info? t).map (·.size)=some c1.size):flowUpon Tryz.prog (fun u w'=>u=undef∧(NewSt Z t c0 c1 m1 m2).T 1 w w'∧(NewSt Z t c0 c1 m1 m2).I 2 w') ((execOp ρ o).run Tryz.prog w):=by
 obtain⟨hs,hB⟩:w.heap.size=Z+1∧Blk w Z t c0:=hI
 have hr:(execOp ρ o).run Tryz.prog w=.ok .skip (w.setCells Z 0 c1.toList):=by
  obtain⟨dst,op,ty,pos,after,guard⟩:=o
  simp only at ho
  subst ho
  have h2:=run_storeAt_mid (P:=Tryz.prog) w Z 0 t c1 (fun j hj=>⟨by rw[Nat.zero_add,hB.cell,Array.getElem?_eq_getElem (by omega)];rfl,hB.frozen _⟩) hi (by simpa using h1)
  simp[execOp,hx,hy,h2,Result.andThen]
 rw[hr]
 exact⟨rfl,Just.of_only (setCells_only Z c1.toList 0 w) rfl,(setCells_size Z c1.toList 0 w).trans hs,by simpa using hB.all c1.toList (by simpa using hl)⟩
def FillSt (z:Nat) (t:TypeId) (c0 c1:Array Value) (m1:Nat):Stages where
 G:=Just (fun b=>b=z)
 T:=fun _=>Just (fun b=>b=z)
 I := fun k w=>match k with
   | 0=>Blk w z t c0
   | _=>Blk w z t c1
 muts:=[m1]
 stage:=fun j=>if j=m1 then some 0 else none
theorem fillSt_ok (z:Nat) (t:TypeId) (c0 c1:Array Value) (m1:Nat):(FillSt z t c0 c1 m1).Ok:=
 ⟨fun _ _ _=>Just.trans,fun _ _ h=>Just.of_grow h,fun _ _ _ h=>h,fun k a b h hg=>by
  rcases k with _|k
  ·exact Blk.grow h hg
  ·exact Blk.grow h hg⟩
theorem fillSt_fill {Z:Nat} {t:TypeId} {c0 c1:Array Value} {m1:Nat} {ρ:Operand→Value} {o:Oper} {x y:Operand} {w:World} (hI:(FillSt Z t c0 c1 m1).I 0 w) (ho:o.op=.store t x y) (hx:ρ x=.pointer (some ⟨Z,0,none⟩)) (hy:ρ y=.agg c1) (hl:c1.size=c0.size) (h1:c1.toList.all (fun v=>v.oneCell')=true) (hi:(Tryz.prog.info? t).map (·.size)=some c1.size):flowUpon Tryz.prog (fun u w'=>u=undef∧(FillSt Z t c0 c1 m1).T 0 w w'∧(FillSt Z t c0 c1 m1).I 1 w') ((execOp ρ o).run Tryz.prog w):=by
 have hB:Blk w Z t c0:=hI
 have hr:(execOp ρ o).run Tryz.prog w=.ok .skip (w.setCells Z 0 c1.toList):=by
  obtain⟨dst,op,ty,pos,after,guard⟩:=o
  simp only at ho
  subst ho
  have h2:=run_storeAt_mid (P:=Tryz.prog) w Z 0 t c1 (fun j hj=>⟨by rw[Nat.zero_add,hB.cell,Array.getElem?_eq_getElem (by omega)];rfl,hB.frozen _⟩) hi (by simpa using h1)
  simp[execOp,hx,hy,h2,Result.andThen]
 rw[hr]
 have h3:Blk (w.setCells Z 0 c1.toList) Z t c1:=by simpa using hB.all c1.toList (by simpa using hl)
 exact⟨rfl,Just.of_only (setCells_only Z c1.toList 0 w) rfl,h3⟩
set_option maxHeartbeats 1000000 in
theorem aReceive_1 (w:World) (p:AgP) (node:Nat) (now tag last:Int) (n:Int) (bs:List UInt8) (k:Nat) (ep:Int) (sl:Value) (smp:List Dl) (k0:Int) (cu:Value) (s:ByteArray) (x:Nat) (tv:Value) (tg:Int) (ht:0≤tg∧tg≤9223372036854775807) (hn:0≤n∧n≤1099511627776) (hbs:bs.length≤1000000) (V:Nat→Prop) (hM:Many (agL p (BookT p.st p.z ep sl smp [(1,[(s,x)])] k0 cu) node 1 now tag last [(tg,.agg #[.int .i64 (node:Int),.int .i64 0,.int .i64 1])] [(((node:Int),0,1),tv)] n bs k) w V) (hV:∀ b,V b→b<w.heap.size) :
 Calls Tryz.prog 247 #[.pointer (some ⟨p.a,0,none⟩),.int .i64 0,.agg (ansM tg 1 0)] w fun e w'=>e=.returned (.tuple #[.agg #[.int .i64 (node:Int),.int .i64 0,.int .i64 1],.int .i64 1])∧Many (agL p (BookT p.st p.z ep sl smp [] k0 cu) node 1 now tag 0 [] [] (n+1) (bs++frame (recB 5 [0,1])) k) w' (Ext V w w')∧Just V w w':=by
 have k306:∀ (vs:Array Value) (w:World),(callFunc 306 vs).run Tryz.prog w=.ok (.enter 306 vs) w:=fun vs w=>by go_simp
 have hRt:=fun w1=>mRight_ans w1 tg 1 0 ht.1 (by omega)
 unfold ansM at hRt ⊢
 have hS0:=Solo.begin_ hM hV
 have hF0:=agL_framed p (BookT p.st p.z ep sl smp [(1,[(s,x)])] k0 cu) (BookT.framed _ _ _ _ _ _ _ _) node 1 now tag last [(tg,.agg #[.int .i64 (node:Int),.int .i64 0,.int .i64 1])] [(((node:Int),0,1),tv)] n bs k
 have g1:=grow_alloc w (.cells #[.int .i64 2,.int .i64 0,.int .i64 0,.int .i64 0,.int .i64 0,.int .i64 0,.slice none 0 0,.string ⟨#[]⟩,.int .i64 0,.int .i64 0,.int .i64 tg,.int .i64 1,.int .u64 0,.int .i64 0,.int .i64 0,.slice none 0 0,.int .i64 0,.int .i64 0] 73)
 have b1:=Blk.made w 73 #[.int .i64 2,.int .i64 0,.int .i64 0,.int .i64 0,.int .i64 0,.int .i64 0,.slice none 0 0,.string ⟨#[]⟩,.int .i64 0,.int .i64 0,.int .i64 tg,.int .i64 1,.int .u64 0,.int .i64 0,.int .i64 0,.slice none 0 0,.int .i64 0,.int .i64 0]
 obtain⟨y,HY⟩:∃ y:Nat,Hid (y=w.heap.size):=⟨_,rfl⟩
 obtain⟨wa,HA_⟩:∃ wa:World,Hid (wa=w.alloc (.cells #[.int .i64 2,.int .i64 0,.int .i64 0,.int .i64 0,.int .i64 0,.int .i64 0,.slice none 0 0,.string ⟨#[]⟩,.int .i64 0,.int .i64 0,.int .i64 tg,.int .i64 1,.int .u64 0,.int .i64 0,.int .i64 0,.slice none 0 0,.int .i64 0,.int .i64 0] 73)):=⟨_,rfl⟩
 rw[←HA_.out] at g1 b1
 rw[←HY.out] at b1
 have g2:=grow_alloc wa (.cells #[.int .i64 0,.int .i64 0,.int .i64 0] 26)
 have b2:=Blk.made wa 26 #[.int .i64 0,.int .i64 0,.int .i64 0]
 obtain⟨z,HZ⟩:∃ z:Nat,Hid (z=y+1):=⟨_,rfl⟩
 obtain⟨wb,HB_⟩:∃ wb:World,Hid (wb=wa.alloc (.cells #[.int .i64 0,.int .i64 0,.int .i64 0] 26)):=⟨_,rfl⟩
 have hz0:wa.heap.size=y+1:=by rw[HA_.out,HY.out];simp
 rw[←HB_.out] at g2 b2
 rw[hz0,←HZ.out] at b2
 have hSa:=hS0.join hF0 g1 (R:=Cell y 73 #[.int .i64 2,.int .i64 0,.int .i64 0,.int .i64 0,.int .i64 0,.int .i64 0,.slice none 0 0,.string ⟨#[]⟩,.int .i64 0,.int .i64 0,.int .i64 tg,.int .i64 1,.int .u64 0,.int .i64 0,.int .i64 0,.slice none 0 0,.int .i64 0,.int .i64 0]) (U:=fun b=>b=y) ⟨rfl,b1⟩ (fun b hb=>by have:=HY.out;have:=b1.lt;omega)
 have hFa:=hF0.cons (Cell.framed y 73 #[.int .i64 2,.int .i64 0,.int .i64 0,.int .i64 0,.int .i64 0,.int .i64 0,.slice none 0 0,.string ⟨#[]⟩,.int .i64 0,.int .i64 0,.int .i64 tg,.int .i64 1,.int .u64 0,.int .i64 0,.int .i64 0,.slice none 0 0,.int .i64 0,.int .i64 0])
 have hSb:=hSa.join hFa g2 (R:=Cell z 26 #[.int .i64 0,.int .i64 0,.int .i64 0]) (U:=fun b=>b=z) ⟨rfl,b2⟩ (fun b hb=>by have h8:b=z:=hb;have:=HZ.out;have:=b2.lt;omega)
 clear hz0
 have hFb:=hFa.cons (Cell.framed z 26 #[.int .i64 0,.int .i64 0,.int .i64 0])
 have Jb:Just (Lic V w) w wb:=(Just.of_grow g1).trans (Just.of_grow g2)
 have hyb:=hSb.blk 1 rfl
 have hab:=hSb.blk 3 rfl
 unfold agC at hab
 clear b1 b2 g1 g2
 obtain⟨zi,HZI⟩:∃ zi:Nat,wb.heap.size=zi:=⟨_,rfl⟩
 have hzi:¬ (fun b=>b=z) zi:=fun e=>by have e2:zi=z:=e;have:=(hSb.lics 0 rfl).2;omega
 have hyz:¬ (fun b=>b=z) y:=fun e=>by have e2:y=z:=e;have:=HZ.out;omega
 have hLk:∀ w6,Just (fun b=>b=zi) wb w6→(Instr.lookup 141 (.map (some p.bK)) (.int .i64 tg) true).run Tryz.prog w6=.ok (.tuple #[.agg #[.int .i64 (node:Int),.int .i64 0,.int .i64 1],.bool true]) w6:=fun w6 hj=>by
  obtain⟨U,hU,hUl⟩:=hSb.see 4 rfl
  have hG6:=GMap.just hU hj (fun e=>by have e2:p.bK=zi:=e;have:=(hUl _ hU.1).2;omega)
  have h:=GMap.look keyL (t:=141) (et:=26) (by kernel_rfl) (zD w6) hG6 tg true
  have h1:glk [(tg,.agg #[.int .i64 (node:Int),.int .i64 0,.int .i64 1])] tg=some (.agg #[.int .i64 (node:Int),.int .i64 0,.int .i64 1]):=by simp[glk]
  rw[h1] at h
  exact h
 go_enter Tryz.func247,Tryz.ntmps247
 go_wp2_with fail
 rw[←HA_.out,←HY.out,←HB_.out,←HZ.out]
 refine wp_region_reg rfl ?_
 refine reg_flow (NewSt zi 26 #[.int .i64 0,.int .i64 0,.int .i64 0] #[.int .i64 (node:Int),.int .i64 0,.int .i64 1] 10 11) (newSt_ok _ _ _ _ _ _) 0 12 120 [(10,.inl (.pointer (some ⟨zi,0,none⟩))),(11,.inl (undef))] rfl (by kernel_rfl) (by kernel_rfl) (by kernel_rfl) ?_ (Just.of_grow (Grow.refl _).drew) HZI ?_
 ·intro x hx φ he
  simp only[List.mem_cons,List.not_mem_nil,or_false] at hx
  rcases hx with rfl|rfl<;>cases he
 intro ops' A' K' T hops hA' hK hT
 refine fl_mvN 12 (.pointer (some ⟨p.a,0,none⟩)) ?_
 refine fl_op1N 13 (.tmp 12) (.pointer (some ⟨p.a,0,none⟩)) (.pointer (some ⟨p.a,0,none⟩)) (fun ρ h1 kk w1 (hg:Just (fun b=>b=zi) _ w1) hb hf=>by go_simp) ?_
 refine fl_op1N 14 (.tmp 13) (.pointer (some ⟨p.a,0,none⟩)) (.pointer (some ⟨p.a,8,none⟩)) (fun ρ h1 kk w1 (hg:Just (fun b=>b=zi) _ w1) hb hf=>by go_simp) ?_
 refine fl_op1N 15 (.tmp 14) (.pointer (some ⟨p.a,8,none⟩)) (.map (some p.bK)) (fun ρ h1 kk w1 (hg:Just (fun b=>b=zi) _ w1) hb hf=>by have c:=(hg.blk hab (fun e=>by have:=hab.lt;have e2:p.a=zi:=e;omega)).cell 8;go_simp) ?_
 refine fl_op1N 16 (.tmp 5) (.pointer (some ⟨y,0,none⟩)) (.pointer (some ⟨y,10,none⟩)) (fun ρ h1 kk w1 (hg:Just (fun b=>b=zi) _ w1) hb hf=>by go_simp) ?_
 refine fl_op1N 17 (.tmp 16) (.pointer (some ⟨y,10,none⟩)) (.int .i64 tg) (fun ρ h1 kk w1 (hg:Just (fun b=>b=zi) _ w1) hb hf=>by have c:=(hg.blk hyb (fun e=>by have:=hyb.lt;have e2:y=zi:=e;omega)).cell 10;go_simp) ?_
 refine fl_op2N 18 (.tmp 15) (.tmp 17) (.map (some p.bK)) (.int .i64 tg) (.tuple #[.agg #[.int .i64 (node:Int),.int .i64 0,.int .i64 1],.bool true]) (fun ρ h1 h2 kk w1 (hg:Just (fun b=>b=zi) _ w1) hb hf=>by have hl:=hLk w1 hg;go_simp) ?_
 refine fl_mvN 11 (.tuple #[.agg #[.int .i64 (node:Int),.int .i64 0,.int .i64 1],.bool true]) ?_
 refine fl_op1N 19 (.tmp 11) (.tuple #[.agg #[.int .i64 (node:Int),.int .i64 0,.int .i64 1],.bool true]) (.agg #[.int .i64 (node:Int),.int .i64 0,.int .i64 1]) (fun ρ h1 kk w1 (hg:Just (fun b=>b=zi) _ w1) hb hf=>by go_simp) ?_
 refine fl_op1N 20 (.tmp 11) (.tuple #[.agg #[.int .i64 (node:Int),.int .i64 0,.int .i64 1],.bool true]) (.bool true) (fun ρ h1 kk w1 (hg:Just (fun b=>b=zi) _ w1) hb hf=>by go_simp) ?_
 refine fl_val 8 (by rfl) (by decide) (wanted_none (by rfl)) (.pointer (some ⟨zi,0,none⟩)) (by rw[hK.out];rfl) (fun kk w1 (hg:Just (fun b=>b=zi) _ w1) hb hf=>by obtain rfl:=before_some 0 (by rfl) hb;have hI:=hb.1;refine upon_turn 0 (by rfl) ?_;exact newSt_alloc hI (run_alcI w1 _ _ rfl)) ?_
 refine fl_do2 (by rfl) (wanted_none (by rfl)) (undef) (by rw[hK.out];rfl) (.tmp 8) (.tmp 19) (.pointer (some ⟨zi,0,none⟩)) (.agg #[.int .i64 (node:Int),.int .i64 0,.int .i64 1]) (by rfl) (by rfl) (fun ρ h1 h2 kk w1 (hg:Just (fun b=>b=zi) _ w1) hb hf=>by obtain rfl:=before_some 1 (by rfl) hb;have hI:=hb.1;refine upon_turn 1 (by rfl) ?_;exact newSt_fill hI rfl h1 h2 rfl rfl (by kernel_rfl)) ?_
 refine fl_end (fun _ _ w1 (hg:Just (fun b=>b=zi) _ w1) hend hfacts=>hT _ _ ?_)
 clear hops hA' hK hT
 simp only[putsL,Act.put,List.setIfInBounds_toArray,List.set_cons_zero,List.set_cons_succ]
 obtain⟨hs1,hYi⟩:w1.heap.size=zi+1∧Blk w1 zi 26 #[.int .i64 (node:Int),.int .i64 0,.int .i64 1]:=hend
 clear hfacts hLk
 refine reg_line 12 13 (by kernel_rfl) (by kernel_rfl) ?_
 simp only[List.take_succ_cons,List.take_zero,List.drop_succ_cons,List.drop_zero]
 go_wp2_with fail
 refine reg_end ?_
 have hg2:Grow wb w1:=hg.below (B:=wb.heap.size) (fun b hb=>by have e2:b=zi:=hb;omega) (Nat.le_refl _)
 have hS2:=hSb.join hFb hg2 (R:=Cell zi 26 #[.int .i64 (node:Int),.int .i64 0,.int .i64 1]) (U:=fun b=>b=zi) ⟨rfl,hYi⟩ (fun b hb=>by have e2:b=zi:=hb;omega)
 have hF2:=hFb.cons (Cell.framed zi 26 #[.int .i64 (node:Int),.int .i64 0,.int .i64 1])
 have J2:=Jb.trans (Just.of_grow hg2)
 clear hyb hab
 have hy2:=hS2.blk 2 rfl
 have ha2:=hS2.blk 4 rfl
 unfold agC at ha2
 have c0:=hy2.cell 0
 have c1:=ha2.cell 1
 have hRt:=hRt w1
 go_wp2_with (refine wpList_load_blk rfl 73 _ rfl _ rfl (hy2) Tryz.underlying73 (by kernel_rfl) ?_)
 refine hRt.mono ?_
 rintro en w3 ⟨rfl,hg3⟩
 have hS3:=hS2.grows hF2 hg3
 have J3:=J2.trans (Just.of_grow hg3)
 clear c0 c1 hy2 ha2 hRt
 have hy3:=hS3.blk 2 rfl
 have ha3:=hS3.blk 4 rfl
 unfold agC at ha3
 have c1:=ha3.cell 1
 go_wp2_with fail
 clear c1
 refine wp_region_flow 6 120 [] rfl rfl (by kernel_rfl) (by kernel_rfl) (by kernel_rfl) ?_ ?_
 ·intro x hx φ he
  cases hx
 intro ops' A' K' T hops hA' hK hT
 refine fl_mvN 46 (.pointer (some ⟨p.a,0,none⟩)) ?_
 refine fl_op1N 47 (.tmp 46) (.pointer (some ⟨p.a,0,none⟩)) (.pointer (some ⟨p.a,0,none⟩)) (fun ρ h1 kk w4 (hg4:Grow _ w4) hb hf=>by go_simp) ?_
 refine fl_op1N 48 (.tmp 47) (.pointer (some ⟨p.a,0,none⟩)) (.pointer (some ⟨p.a,8,none⟩)) (fun ρ h1 kk w4 (hg4:Grow _ w4) hb hf=>by go_simp) ?_
 refine fl_op1N 49 (.tmp 48) (.pointer (some ⟨p.a,8,none⟩)) (.map (some p.bK)) (fun ρ h1 kk w4 (hg4:Grow _ w4) hb hf=>by have c:=(ha3.grow hg4).cell 8;go_simp) ?_
 refine fl_op1N 50 (.tmp 5) (.pointer (some ⟨y,0,none⟩)) (.pointer (some ⟨y,10,none⟩)) (fun ρ h1 kk w4 (hg4:Grow _ w4) hb hf=>by go_simp) ?_
 refine fl_op1N 51 (.tmp 50) (.pointer (some ⟨y,10,none⟩)) (.int .i64 tg) (fun ρ h1 kk w4 (hg4:Grow _ w4) hb hf=>by have c:=(hy3.grow hg4).cell 10;go_simp) ?_
 refine fl_end (fun _ _ w4 (hg4:Grow _ w4) _ hfacts=>hT _ _ ?_)
 clear hops hA' hK hT
 simp only[putsL,Act.put,List.setIfInBounds_toArray,List.set_cons_zero,List.set_cons_succ,List.drop_succ_cons,List.drop_zero]
 clear hfacts
 have hS4:=hS3.grows hF2 hg4
 have J4:=J3.trans (Just.of_grow hg4)
 obtain⟨w5,hrun,hS5,hj5⟩:=hS4.put_ (φ:=fun w'=>∀ ty,(Builtin.delete_ #[141,2] ty #[.map (some p.bK),.int .i64 tg]).run Tryz.prog w4=.ok (.tuple #[]) w') 5 rfl hF2 (fun U hU hUl=>by
  obtain⟨w',h1,h2,h3⟩:=GMap.del keyL (t:=141) (et:=26) (by kernel_rfl) hU tg 0
  rw[gdel_one] at h2
  exact⟨w',fun ty=>by rw[delete_ty];exact h1,h2,h3.imp fun b hb=>hb▸hU.1⟩)
 have hS5:Solo (Lic V w) (Many (Cell zi 26 #[.int .i64 (node:Int),.int .i64 0,.int .i64 1] :: Cell z 26 #[.int .i64 0,.int .i64 0,.int .i64 0] :: Cell y 73 #[.int .i64 2,.int .i64 0,.int .i64 0,.int .i64 0,.int .i64 0,.int .i64 0,.slice none 0 0,.string ⟨#[]⟩,.int .i64 0,.int .i64 0,.int .i64 tg,.int .i64 1,.int .u64 0,.int .i64 0,.int .i64 0,.slice none 0 0,.int .i64 0,.int .i64 0] :: agL p (BookT p.st p.z ep sl smp [(1,[(s,x)])] k0 cu) node 1 now tag last [] [(((node:Int),0,1),tv)] n bs k)) w5:=hS5
 have hF5:=(((agL_framed p (BookT p.st p.z ep sl smp [(1,[(s,x)])] k0 cu) (BookT.framed _ _ _ _ _ _ _ _) node 1 now tag last [] [(((node:Int),0,1),tv)] n bs k).cons (Cell.framed y 73 #[.int .i64 2,.int .i64 0,.int .i64 0,.int .i64 0,.int .i64 0,.int .i64 0,.slice none 0 0,.string ⟨#[]⟩,.int .i64 0,.int .i64 0,.int .i64 tg,.int .i64 1,.int .u64 0,.int .i64 0,.int .i64 0,.slice none 0 0,.int .i64 0,.int .i64 0])).cons (Cell.framed z 26 #[.int .i64 0,.int .i64 0,.int .i64 0])).cons (Cell.framed zi 26 #[.int .i64 (node:Int),.int .i64 0,.int .i64 1])
 have J5:=J4.trans hj5
 clear hy3 ha3
 have hy5:=hS5.blk 2 rfl
 have c3:=hy5.cell 3
 have ha5:=hS5.blk 4 rfl
 unfold agC at ha5
 have k6:=ha5.cell 6
 have c11:=hy5.cell 11
 go_wp2_with (refine wpList_putS rfl _ _ _ rfl hS5 hF5 J5 4 rfl rfl (.int .i64 0) rfl (Nat.le_of_ble_eq_true rfl) rfl (by kernel_rfl) ?_;intro w6 hS6 J6;refine stay ?_)
 refine stay_out ?_
 clear c3 c11 k6 hy5 ha5 hrun
 have hS6:Solo (Lic V w) (Many (Cell zi 26 #[.int .i64 (node:Int),.int .i64 0,.int .i64 1] :: Cell z 26 #[.int .i64 0,.int .i64 0,.int .i64 0] :: Cell y 73 #[.int .i64 2,.int .i64 0,.int .i64 0,.int .i64 0,.int .i64 0,.int .i64 0,.slice none 0 0,.string ⟨#[]⟩,.int .i64 0,.int .i64 0,.int .i64 tg,.int .i64 1,.int .u64 0,.int .i64 0,.int .i64 0,.slice none 0 0,.int .i64 0,.int .i64 0] :: agL p (BookT p.st p.z ep sl smp [(1,[(s,x)])] k0 cu) node 1 now tag 0 [] [(((node:Int),0,1),tv)] n bs k)) w6:=hS6
 have hF6:=(((agL_framed p (BookT p.st p.z ep sl smp [(1,[(s,x)])] k0 cu) (BookT.framed _ _ _ _ _ _ _ _) node 1 now tag 0 [] [(((node:Int),0,1),tv)] n bs k).cons (Cell.framed y 73 #[.int .i64 2,.int .i64 0,.int .i64 0,.int .i64 0,.int .i64 0,.int .i64 0,.slice none 0 0,.string ⟨#[]⟩,.int .i64 0,.int .i64 0,.int .i64 tg,.int .i64 1,.int .u64 0,.int .i64 0,.int .i64 0,.slice none 0 0,.int .i64 0,.int .i64 0])).cons (Cell.framed z 26 #[.int .i64 0,.int .i64 0,.int .i64 0])).cons (Cell.framed zi 26 #[.int .i64 (node:Int),.int .i64 0,.int .i64 1])
 have hi6:=hS6.blk 0 rfl
 have hy6:=hS6.blk 2 rfl
 have c11:=hy6.cell 11
 have i0:=hi6.cell 0
 have i1:=hi6.cell 1
 have i2:=hi6.cell 2
 have hS6p:=Solo.unflat (l:=agL p (BookT p.st p.z ep sl smp [(1,[(s,x)])] k0 cu) node 1 now tag 0 [] [(((node:Int),0,1),tv)] n bs k) (hS6.perm (List.perm_append_comm (l₁:=[Cell zi 26 #[.int .i64 (node:Int),.int .i64 0,.int .i64 1],Cell z 26 #[.int .i64 0,.int .i64 0,.int .i64 0],Cell y 73 #[.int .i64 2,.int .i64 0,.int .i64 0,.int .i64 0,.int .i64 0,.int .i64 0,.slice none 0 0,.string ⟨#[]⟩,.int .i64 0,.int .i64 0,.int .i64 tg,.int .i64 1,.int .u64 0,.int .i64 0,.int .i64 0,.slice none 0 0,.int .i64 0,.int .i64 0]])))
 have hFy:AllFramed [Cell zi 26 #[.int .i64 (node:Int),.int .i64 0,.int .i64 1],Cell z 26 #[.int .i64 0,.int .i64 0,.int .i64 0],Cell y 73 #[.int .i64 2,.int .i64 0,.int .i64 0,.int .i64 0,.int .i64 0,.int .i64 0,.slice none 0 0,.string ⟨#[]⟩,.int .i64 0,.int .i64 0,.int .i64 tg,.int .i64 1,.int .u64 0,.int .i64 0,.int .i64 0,.slice none 0 0,.int .i64 0,.int .i64 0]]:=((AllFramed.nil.cons (Cell.framed y 73 #[.int .i64 2,.int .i64 0,.int .i64 0,.int .i64 0,.int .i64 0,.int .i64 0,.slice none 0 0,.string ⟨#[]⟩,.int .i64 0,.int .i64 0,.int .i64 tg,.int .i64 1,.int .u64 0,.int .i64 0,.int .i64 0,.slice none 0 0,.int .i64 0,.int .i64 0])).cons (Cell.framed z 26 #[.int .i64 0,.int .i64 0,.int .i64 0])).cons (Cell.framed zi 26 #[.int .i64 (node:Int),.int .i64 0,.int .i64 1])
 have hF6p:=hFy.cons (Many.framed _ (agL_framed p (BookT p.st p.z ep sl smp [(1,[(s,x)])] k0 cu) (BookT.framed _ _ _ _ _ _ _ _) node 1 now tag 0 [] [(((node:Int),0,1),tv)] n bs k))
 have hD:=hS6p.at_ 0 rfl hF6p (fun U hU hUl=>adone_1 w6 p node now tag 0 n bs k ep sl smp k0 cu s x tv hn hbs U hU hUl)
 go_wp2_with fail
 refine hD.mono ?_
 rintro en w7 ⟨rfl,hj7,hS7⟩
 clear c11 i0 i1 i2 hi6 hy6
 obtain⟨b2,HB2⟩:∃ b2:List UInt8,Hid (b2=bs++frame (recB 5 [0,1])):=⟨_,rfl⟩
 rw[←HB2.out] at hS7
 have hS7:Solo (Lic V w) (Many (Many (agL p (BookT p.st p.z ep sl smp [] k0 cu) node 1 now tag 0 [] [] (n+1) b2 k) :: [Cell zi 26 #[.int .i64 (node:Int),.int .i64 0,.int .i64 1],Cell z 26 #[.int .i64 0,.int .i64 0,.int .i64 0],Cell y 73 #[.int .i64 2,.int .i64 0,.int .i64 0,.int .i64 0,.int .i64 0,.int .i64 0,.slice none 0 0,.string ⟨#[]⟩,.int .i64 0,.int .i64 0,.int .i64 tg,.int .i64 1,.int .u64 0,.int .i64 0,.int .i64 0,.slice none 0 0,.int .i64 0,.int .i64 0]])) w7:=hS7
 have hF7:=hFy.cons (Many.framed _ (agL_framed p (BookT p.st p.z ep sl smp [] k0 cu) (BookT.framed _ _ _ _ _ _ _ _) node 1 now tag 0 [] [] (n+1) b2 k))
 have J7:=J6.trans hj7
 have hz7:=hS7.blk 2 rfl
 have hi7:=hS7.blk 1 rfl
 have hy7:=hS7.blk 3 rfl
 go_wp2_with fail
 refine wp_region_reg rfl ?_
 refine reg_flow (FillSt z 26 #[.int .i64 0,.int .i64 0,.int .i64 0] #[.int .i64 (node:Int),.int .i64 0,.int .i64 1] 3) (fillSt_ok _ _ _ _ _) 0 4 120 [(3,.inl (undef))] rfl (by kernel_rfl) (by kernel_rfl) (by kernel_rfl) ?_ (Just.of_grow (Grow.refl _).drew) (hz7.grow (Grow.refl _).drew) ?_
 ·intro x hx φ he
  simp only[List.mem_cons,List.not_mem_nil,or_false] at hx
  rcases hx with rfl<;>cases he
 intro ops' A' K' T hops hA' hK hT
 refine fl_op1N 117 (.tmp 8) (.pointer (some ⟨zi,0,none⟩)) (.agg #[.int .i64 (node:Int),.int .i64 0,.int .i64 1]) (fun ρ h1 kk w9 (hj9:Just (fun b=>b=z) _ w9) hb hf=>by have hB:=hj9.blk hi7 hzi;have c0:=hB.cell 0;have c1:=hB.cell 1;have c2:=hB.cell 2;go_simp) ?_
 refine fl_op1N 118 (.tmp 5) (.pointer (some ⟨y,0,none⟩)) (.pointer (some ⟨y,11,none⟩)) (fun ρ h1 kk w9 (hj9:Just (fun b=>b=z) _ w9) hb hf=>by go_simp) ?_
 refine fl_op1N 119 (.tmp 118) (.pointer (some ⟨y,11,none⟩)) (.int .i64 1) (fun ρ h1 kk w9 (hj9:Just (fun b=>b=z) _ w9) hb hf=>by have c:=(hj9.blk hy7 hyz).cell 11;go_simp) ?_
 refine fl_do2 (by rfl) (wanted_none (by rfl)) (undef) (by rw[hK.out];rfl) (.tmp 6) (.tmp 117) (.pointer (some ⟨z,0,none⟩)) (.agg #[.int .i64 (node:Int),.int .i64 0,.int .i64 1]) (by rfl) (by rfl) (fun ρ h1 h2 kk w9 (hj9:Just (fun b=>b=z) _ w9) hb hf=>by obtain rfl:=before_some 0 (by rfl) hb;have hI:=hb.1;refine upon_turn 0 (by rfl) ?_;exact fillSt_fill hI rfl h1 h2 rfl rfl (by kernel_rfl)) ?_
 refine fl_end (fun _ _ w9 (hj9:Just (fun b=>b=z) _ w9) hend hfacts=>hT _ _ ?_)
 clear hops hA' hK hT
 simp only[putsL,Act.put,List.setIfInBounds_toArray,List.set_cons_zero,List.set_cons_succ]
 clear hfacts
 have hZ9:Blk w9 z 26 #[.int .i64 (node:Int),.int .i64 0,.int .i64 1]:=hend
 refine reg_line 4 5 (by kernel_rfl) (by kernel_rfl) ?_
 simp only[List.take_succ_cons,List.take_zero,List.drop_succ_cons,List.drop_zero]
 go_wp2_with fail
 refine reg_end ?_
 have hS9:=hS7.turned 2 rfl hF7 hj9 hZ9
 have J9:=J7.trans (hj9.imp fun b hb=>hb▸(hS7.lics 2 rfl).1)
 go_wp2_with fail
 refine bodyPost_ret (results_blk_tmp rfl _ z rfl hZ9 Tryz.underlying26 (by kernel_rfl)) rfl ?_
 have hS10:Solo (Lic V w) (Many (agL p (BookT p.st p.z ep sl smp [] k0 cu) node 1 now tag 0 [] [] (n+1) b2 k)) w9:=((Solo.flat (l:=agL p (BookT p.st p.z ep sl smp [] k0 cu) node 1 now tag 0 [] [] (n+1) b2 k) hS9).perm (List.perm_append_comm (l₂:=[Cell zi 26 #[.int .i64 (node:Int),.int .i64 0,.int .i64 1],Cell z 26 #[.int .i64 (node:Int),.int .i64 0,.int .i64 1],Cell y 73 #[.int .i64 2,.int .i64 0,.int .i64 0,.int .i64 0,.int .i64 0,.int .i64 0,.slice none 0 0,.string ⟨#[]⟩,.int .i64 0,.int .i64 0,.int .i64 tg,.int .i64 1,.int .u64 0,.int .i64 0,.int .i64 0,.slice none 0 0,.int .i64 0,.int .i64 0]]))).drop1.drop1.drop1
 obtain⟨r1,r2⟩:=Solo.done hS10 J9 hV
 rw[HB2.out] at r1
 exact⟨rfl,r1,r2⟩
end Go.Proofs.YtmijcbfgfkeodaaGreatDoor
end
section
namespace Go.Proofs.YtmijcbfgfkeodaaGreatDoor.L
open Go.RowKit Go.Hop
def stepP (h:Int) (c:UInt8):Int:=IntKind.u64.wrap (bits .xor .u64 h (c.toNat:Int)*1099511628211)
def printI (l:List UInt8):Int:=l.foldl stepP 14695981039346656037
theorem printI_in (l:List UInt8):0≤printI l∧printI l≤18446744073709551615:=by
 unfold printI
 rcases List.eq_nil_or_concat l with rfl|⟨r,c,rfl⟩
 ·exact⟨by decide,by decide⟩
 ·rw[List.concat_eq_append,List.foldl_append]
  show 0≤stepP _ c∧stepP _ c≤_
  unfold stepP
  rw[wrap_u64]
  omega
theorem printI_take {s:ByteArray} {k:Nat} (hk:k<s.size):printI (s.data.toList.take (k+1))=stepP (printI (s.data.toList.take k)) s[k]:=by
 have hl:k<s.data.toList.length:=by simpa using hk
 unfold printI
 rw[List.take_succ_eq_append_getElem hl,List.foldl_append]
 rfl
def manyI (n:Int):Int:=max 1 (min n 4)
theorem manyI_in (n:Int):∃ m:Int,1≤m∧m≤4∧manyI n=m:=⟨manyI n,by unfold manyI;omega,by unfold manyI;omega,rfl⟩
def shardI (s:ByteArray) (n:Int):Int:=printI s.data.toList % manyI n
set_option maxHeartbeats 1000000 in
theorem Print_any (w:World) (s:ByteArray) (hs:s.size≤maxLen):Calls Tryz.prog 155 #[.string s] w fun e w'=>e=.returned (.int .u64 (printI s.data.toList))∧w=w':=by
 unfold maxLen at hs
 go_enter Tryz.func155,Tryz.ntmps155
 go_wp2
 go_loop [3,7] (fun h i=>∃ k:Nat,k≤s.size∧i=.int .i64 (k:Int)∧h=.int .u64 (printI (s.data.toList.take k))) (fun _ i=>s.size-(intOf i).toNat)
 case atStart=>exact⟨0,Nat.zero_le _,rfl,rfl⟩
 case round=>
  obtain⟨k,hk,rfl,rfl⟩:=hrel
  have hp:=printI_in (s.data.toList.take k)
  by_cases hlt:k<s.size
  ·have hlt':decide ((k:Int)<(s.size:Int))=true:=decide_eq_true (by omega)
   have hb:=u8_cmp s[k]
   have HS:=Lib.hid (printI_take hlt)
   have hcw:IntKind.u64.wrap (s[k].toNat:Int)=(s[k].toNat:Int):=by rw[wrap_u64];omega
   go_wp2
   go_round
   case rel=>exact⟨k+1,by omega,by go_num,by rw[HS.out];rfl⟩
   case measure=>simp[intOf];omega
  ·obtain rfl:k=s.size:=by omega
   have hlt':decide ((s.size:Int)<(s.size:Int))=false:=decide_eq_false (by omega)
   go_wp2
   go_ret
   exact⟨by rw[List.take_of_length_le (by simp)];rfl,rfl⟩
theorem Shard_any (w:World) (s:ByteArray) (n:Int) (hs:s.size≤maxLen) (hn:-9223372036854775808≤n∧n≤9223372036854775807):Calls Tryz.prog 73 #[.string s,.int .i64 n] w fun e w'=>e=.returned (.int .i64 (shardI s n))∧w=w':=by
 obtain⟨m,h1,h4,hm⟩:=manyI_in n
 have hp:=printI_in s.data.toList
 have hmn:∀ ts t w,(Builtin.min_ ts t #[.int .i64 n,.int .i64 4]).run Tryz.prog w=.ok (.int .i64 (min n 4)) w:=fun ts t w=>by rw[run_min_int2];congr 2;split<;>omega
 have hmx:∀ ts t w,(Builtin.max_ ts t #[.int .i64 1,.int .i64 (min n 4)]).run Tryz.prog w=.ok (.int .i64 m) w:=fun ts t w=>by rw[run_max_int2,←hm];congr 2;unfold manyI;split<;>omega
 have hmw:IntKind.u64.wrap m=m:=by rw[wrap_u64];omega
 have hm0:¬ m=0:=by omega
 have HM:=Lib.hid hm
 clear hm
 have q0:=Int.emod_nonneg (printI s.data.toList) (b:=m) (by omega)
 have q1:=Int.emod_lt_of_pos (printI s.data.toList) (b:=m) (by omega)
 have hrem:(printI s.data.toList).tmod m=printI s.data.toList % m:=Int.tmod_eq_emod_of_nonneg hp.1
 have hwi:IntKind.i64.wrap (printI s.data.toList % m)=printI s.data.toList % m:=by rw[IntKind.wrap_i64];omega
 go_enter Tryz.func73,Tryz.ntmps73
 go_wp2_with (go_at_call 155;refine (Print_any _ _ hs).mono ?_;rintro e w' ⟨rfl,rfl⟩)
 go_ret
 exact⟨by unfold shardI;rw[HM.out];rfl,rfl⟩
end Go.Proofs.YtmijcbfgfkeodaaGreatDoor.L
end
section
namespace Go.Proofs.YtmijcbfgfkeodaaGreatDoor
open Go.RowKit Go.Hop Go.Proofs.YtmijcbfgfkeodaaGreatDoor.V
theorem shard_one (s:ByteArray):L.shardI s 1=0:=by
 have h:L.manyI 1=1:=by decide
 unfold L.shardI
 rw[h]
 exact Int.emod_one _
def slen (v:Value):Nat:=match v with | .slice _ n _=>n|_=>0
theorem aSync_any (w:World) (p:AgP) (node reps now tag last:Int) (asks:List (Int×Value)) (tr:List ((Int×Int×Int)×Value)) (n:Int) (bs:List UInt8) (k:Nat) (B:Thing) (hB:Framed B) (V:Nat→Prop) (hM:Many (agL p (B) node reps now tag last asks tr n bs k) w V) (hV:∀ b,V b→b<w.heap.size):Calls Tryz.prog 77 #[.pointer (some ⟨p.a,0,none⟩)] w fun e w'=>e=.returned (.tuple #[])∧Many (agL p (B) node reps now tag last asks tr n bs bs.length) w' (Ext V w w')∧Just V w w':=by
 have hS:=Solo.begin_ hM hV
 have hF:=agL_framed p B hB node reps now tag last asks tr n bs k
 have ha:=hS.blk 1 rfl
 unfold agC at ha
 have k2:=ha.cell 2
 have hC:=hS.at_ 4 rfl hF (lSync_any w p.x p.d n bs k)
 go_enter Tryz.func77,Tryz.ntmps77
 go_wp2_with fail
 clear k2
 refine hC.mono ?_
 rintro e w1 ⟨rfl,hj,hS1⟩
 go_wp2_with fail
 go_end0
 obtain⟨r1,r2⟩:=Solo.done hS1 hj hV
 exact⟨rfl,r1,r2⟩
set_option maxHeartbeats 2000000 in
theorem aCut_1 (w:World) (p:AgP) (node:Nat) (reps now tag last:Int) (asks:List (Int×Value)) (tr:List ((Int×Int×Int)×Value)) (n:Int) (bs:List UInt8) (k:Nat) (ep:Int) (sl:Value) (s:ByteArray) (x:Nat) (hs:Small (s,x)) (hn:0≤n∧n≤1099511627776) (hbs:bs.length≤1000000) (V:Nat→Prop) (hM:Many (agL p (BookT p.st p.z ep sl [(s,x)] [] 0 (.slice none 0 0)) node reps now tag last asks tr n bs k) w V) (hV:∀ b,V b→b<w.heap.size) :
 Calls Tryz.prog 25 #[.pointer (some ⟨p.a,0,none⟩)] w fun e w'=>(∃ A c,e=.returned (.slice A 1 c))∧Many (agL p (BookE p.st p.z ep [(1,[(s,x)])] 1) node reps now tag last asks tr (n+1) (bs++frame (batB s x)) (bs++frame (batB s x)).length) w' (Ext V w w')∧Just V w w':=by
 have k76:∀ (vs:Array Value) (w:World),(callFunc 76 vs).run Tryz.prog w=.ok (.enter 76 vs) w:=fun vs w=>by go_simp
 have k73:∀ (vs:Array Value) (w:World),(callFunc 73 vs).run Tryz.prog w=.ok (.enter 73 vs) w:=fun vs w=>by go_simp
 have hsz:s.size≤1000:=hs.1
 have hS0:=Solo.begin_ hM hV
 have hS0:Solo (Lic V w) (Many (bookL p.st p.z ep sl [(s,x)] [] 0 (.slice none 0 0)++[Cell p.a 143 (agC p node reps now tag last),GMap keI p.bK asks,GMap keD p.bT tr,LogAt p.x p.d n bs k])) w:=Solo.flat hS0
 have hst0:=hS0.blk 0 rfl
 have ha0:=hS0.blk 6 rfl
 unfold bkC at hst0
 unfold agC at ha0
 obtain⟨U0,hR0,hU0⟩:=hS0.see 1 rfl
 obtain⟨A2,c2,rfl,hI0,_,_⟩:=Row.in_ hR0
 have hI0:DIn w U0 A2 1 [(s,x)]:=hI0
 have k3:=ha0.cell 3
 have q1:=hst0.cell 1
 have q2:=hst0.cell 2
 obtain⟨V0,HV0⟩:∃ V0:Nat→Prop,Hid (V0=V):=⟨_,rfl⟩
 have hShard:∀ w1:World,Calls Tryz.prog 73 #[.string s,.int .i64 1] w1 fun e w'=>e=.returned (.int .i64 0)∧Grow w1 w':=fun w1=>by
  have h:=L.Shard_any w1 s 1 (by unfold maxLen;omega) (by decide)
  rw[shard_one] at h
  exact h.mono fun _ _ ⟨h1,h2⟩=>⟨h1,h2▸Grow.refl _⟩
 have hmn:∀ ts t w,(Builtin.min_ ts t #[.int .i64 1,.int .i64 8]).run Tryz.prog w=.ok (.int .i64 1) w:=fun ts t w=>by rw[run_min_int2];rfl
 go_enter Tryz.func25,Tryz.ntmps25
 go_wp2_with fail
 go_step3
 go_wp2_with fail
 go_step3
 go_wp2_with fail
 go_loopw [3,16] (fun u i wr=>(u=(.slice none 0 0)∧i=.int .i64 0∧w=wr)∨(i=.int .i64 1∧(∃ A c,u=.slice A 1 c)∧Many (agL p (BookE p.st p.z ep [(1,[(s,x)])] 1) node reps now tag last asks tr (n+1) (bs++frame (batB s x)) k) wr (Ext V w wr)∧Just V w wr)) (fun _ i _=>1-(intOf i).toNat)
 case atStart=>exact .inl ⟨rfl,rfl,rfl⟩
 case round=>
  rcases hrel with ⟨rfl,rfl,rfl⟩|⟨rfl,⟨A,c,rfl⟩,hMf,hjf⟩
  ·go_wp2_with fail
   clear k3 q1 q2
   go_loopw [5,27] (fun u i wr=>(u=(.slice none 0 0)∧i=.int .i64 0∧w=wr)∨(i=.int .i64 1∧NewRow w.heap.size 29 2 1 [.string s,.int .u64 (x:Int)] u wr∧Grow w wr)) (fun _ i _=>1-(intOf i).toNat)
   case atStart=>exact .inl ⟨rfl,rfl,rfl⟩
   case round=>
    rcases hrel with ⟨rfl,rfl,rfl⟩|⟨rfl,hR,hg⟩
    ·obtain⟨ad,hq,rfl,f0,f1⟩:=del_cells hI0 (k:=0) (by omega)
     have e0:w.cell? ad=some (.string s):=f0 w (Grow.refl _)
     have e1:w.cell? ⟨ad.block,ad.off+1,none⟩=some (.int .u64 (x:Int)):=f1 w (Grow.refl _)
     clear f0 f1
     have hga:=grow_alloc w (.cells #[.string s,.int .u64 (x:Int)] 29)
     have hBy:=Blk.made w 29 #[.string s,.int .u64 (x:Int)]
     obtain⟨y,HY⟩:∃ y:Nat,Hid (y=w.heap.size):=⟨_,rfl⟩
     obtain⟨wa,HA_⟩:∃ wa:World,Hid (wa=w.alloc (.cells #[.string s,.int .u64 (x:Int)] 29)):=⟨_,rfl⟩
     rw[←HA_.out] at hga hBy
     rw[←HY.out] at hBy
     have ha1:=ha0.grow hga
     have hst1:=hst0.grow hga
     go_wp2_with fail
     rw[←HA_.out,←HY.out]
     refine wp_region_flow 12 92 [(9,.inl (.int .i64 0))] rfl rfl (by kernel_rfl) (by kernel_rfl) (by kernel_rfl) ?_ ?_
     ·intro x hx φ he
      simp only[List.mem_cons,List.not_mem_nil,or_false] at hx
      rcases hx with rfl<;>cases he
     intro ops' A' K' T hops hA' hK hT
     refine fl_op1G 31 (.tmp 7) (.pointer (some ⟨y,0,none⟩)) (.pointer (some ⟨y,0,none⟩)) ?_
     refine fl_op1N 32 (.tmp 31) (.pointer (some ⟨y,0,none⟩)) (.string s) (fun ρ h1 kk w1 (hg:Grow _ w1) hb hf=>by have c:=(hBy.grow hg).cell 0;go_simp) ?_
     refine fl_mvN 33 (.pointer (some ⟨p.a,0,none⟩)) ?_
     refine fl_op1G 34 (.tmp 33) (.pointer (some ⟨p.a,0,none⟩)) (.pointer (some ⟨p.a,0,none⟩)) ?_
     refine fl_op1G 35 (.tmp 34) (.pointer (some ⟨p.a,0,none⟩)) (.pointer (some ⟨p.a,3,none⟩)) ?_
     refine fl_op1N 36 (.tmp 35) (.pointer (some ⟨p.a,3,none⟩)) (.pointer (some ⟨p.st,0,none⟩)) (fun ρ h1 kk w1 (hg:Grow _ w1) hb hf=>by have c:=(ha1.grow hg).cell 3;go_simp) ?_
     refine fl_op1G 37 (.tmp 36) (.pointer (some ⟨p.st,0,none⟩)) (.pointer (some ⟨p.st,0,none⟩)) ?_
     refine fl_op1G 38 (.tmp 37) (.pointer (some ⟨p.st,0,none⟩)) (.pointer (some ⟨p.st,2,none⟩)) ?_
     refine fl_op1N 39 (.tmp 38) (.pointer (some ⟨p.st,2,none⟩)) (.int .i64 1) (fun ρ h1 kk w1 (hg:Grow _ w1) hb hf=>by have c:=(hst1.grow hg).cell 2;go_simp) ?_
     refine fl_call 40 (by rfl) (by decide) (wanted_none (by rfl)) (.int .i64 0) (by rw[hK.out];rfl) 73 _ _ (by rfl) [.string s,.int .i64 1] (by rfl) k73 (fun kk w1 (hg:Grow _ w1) hb hf=>calls_behind (by rfl) (by exact hShard w1)) ?_
     refine fl_mvN 41 (.int .i64 0) ?_
     refine fl_op2N 42 (.tmp 40) (.tmp 41) (.int .i64 0) (.int .i64 0) (.bool true) (fun ρ h1 h2 kk w1 (hg:Grow _ w1) hb hf=>by go_simp) ?_
     refine fl_end (fun _ _ w1 (hg:Grow _ w1) _ hfacts=>hT _ _ ?_)
     clear hops hA' hK hT
     simp only[putsL,Act.put,List.setIfInBounds_toArray,List.set_cons_zero,List.set_cons_succ,List.drop_succ_cons,List.drop_zero]
     have hgw:Grow w w1:=hga.trans hg
     have hB1:=hBy.grow hg
     have c0:=hB1.cell 0
     have c1:=hB1.cell 1
     have hgb:=grow_alloc w1 (.cells #[.string s,.int .u64 (x:Int)] 29)
     obtain⟨A4,e4,hI4⟩:=isIn_blk (Blk.made w1 29 #[.string s,.int .u64 (x:Int)]) (size:=2) (n:=1) rfl
     injection e4 with e4
     subst e4
     go_wp2_with (at_builtin;refine stay ?_)
     refine stay_out ?_
     refine wpList_row dltE _ rfl (.tmp 43) (.tmp 45) rfl (.slice none 0 0) 0 [] rfl (Row.nil (V:=fun _=>False)) _ _ 1 1 [.string s,.int .u64 (x:Int)] rfl hI4.reads (dlt_one _ _) (by decide) ?_
     intro v5 w5 hR5 hj5
     have hw1:=hgw.size
     have hg5:=hj5.below (B:=w.heap.size) (fun b hb=>hb.elim) (by simp;omega)
     have hN:NewRow w.heap.size 29 2 1 [.string s,.int .u64 (x:Int)] v5 w5:=by
      simp only[Nat.zero_add,List.nil_append] at hR5
      refine⟨_,hR5,fun b hb=>?_⟩
      rcases hb with hb|hb
      ·exact hb.elim
      ·exact⟨by have:=hb.1;simp at this;omega,hb.2⟩
     have hgw5:Grow w w5:=Below.trans (hgw.trans hgb) hg5
     clear c0 c1
     go_wp2_with fail
     go_roundw
     case rel=>exact .inr ⟨rfl,hN,hgw5⟩
     case measure=>simp[intOf]
    ·obtain⟨A6,c6,e6⟩:=newRow_one hR
     obtain⟨U6,hR6,hU6⟩:=hR
     subst e6
     obtain⟨A7,c7,e7,hI7,hc7,hm7⟩:=Row.in_ hR6
     injection e7 with e7 _ e8
     subst e7 e8
     have hE:=eDeltas_1 wr s x A6 c6 U6 hI7
     go_wp2_with fail
     refine hE.mono ?_
     rintro e w3 ⟨A8,rfl,hI8,hg8⟩
     have hgw3:Grow w w3:=hg.trans hg8
     have hw3:=hgw3.size
     have hwr:=hg.size
     have hD3:∃ D:Nat→Prop,DIn w3 D A8 1 [(s,x)]∧(∀ b,D b→b<w3.heap.size)∧(∀ b,D b→¬ V b):=⟨New wr w3,hI8,fun b hb=>hb.2,fun b hb hv=>by have:=hV b hv;have:=hb.1;omega⟩
     have hM3:=Many.framed _ (agL_framed p (BookT p.st p.z ep (.slice A2 1 c2) [(s,x)] [] 0 (.slice none 0 0)) (BookT.framed _ _ _ _ _ _ _ _) node reps now tag last asks tr n bs k) w w3 V hM fun b hb=>hgw3.block b (hV b hb)
     have hV3:∀ b,V b→b<w3.heap.size:=fun b hb=>by have:=hV b hb;omega
     clear hE hI8 hg8 hI7 hR6 hU6 hwr
     go_wp2_with fail
     go_loopw [3,5] (fun u v wr=>(u=(.slice none 0 0)∧v=.slice A8 1 1∧w3=wr)∨((∃ A c,u=.slice A 1 c)∧(∃ A c,v=.slice A 0 c)∧Many (agL p (BookE p.st p.z ep [(1,[(s,x)])] 1) node reps now tag last asks tr (n+1) (bs++frame (batB s x)) k) wr (Ext V w wr)∧Just V w wr)) (fun _ v _=>slen v)
     case atStart=>exact .inl ⟨rfl,rfl,rfl⟩
     case round=>
      rcases hrel with ⟨rfl,rfl,rfl⟩|⟨⟨A,c,rfl⟩,⟨A',c',rfl⟩,hMf,hjf⟩
      ·obtain⟨D,hd3,hDl,hDV⟩:=hD3
       have hc:=acut_1 w3 p node reps now tag last asks tr n bs k ep _ s x 1 A8 D hs (Nat.le_refl _) (by unfold maxLen;omega) hn hbs V hM3 hV3 hd3 hDl hDV
       go_wp2_with fail
       refine hc.mono ?_
       rintro e w4 ⟨rfl,hM4,hj4⟩
       obtain⟨b2,HB2⟩:∃ b2:List UInt8,Hid (b2=bs++frame (batB s x)):=⟨_,rfl⟩
       rw[←HB2.out] at hM4
       obtain⟨V1,V2,⟨Ab,cb,cub,hBk⟩,hrest,hs1,hs2,hs3⟩:=id hM4
       have hE4:∀ b,Ext V w3 w4 b→b<w4.heap.size:=fun b hb=>hb.elim (fun h=>by have:=hV3 b h;have:=hj4.size;omega) fun h=>h.2
       have hS4:Solo (fun _=>True) (Many (bookL p.st p.z ep (.slice Ab 0 cb) [] [(1,[(s,x)])] 1 cub++[Cell p.a 143 (agC p node reps now tag last),GMap keI p.bK asks,GMap keD p.bT tr,LogAt p.x p.d (n+1) b2 k])) w4:=Solo.of_new (fun _ _=>trivial) (Many.flat _ ⟨V1,V2,hBk,hrest,hs1,hs2,hs3⟩) fun b hb=>⟨trivial,hE4 b hb⟩
       have hst4:=hS4.blk 0 rfl
       have ha4:=hS4.blk 6 rfl
       unfold bkC at hst4
       unfold agC at ha4
       obtain⟨U4,hQ4,hU4⟩:=hS4.see 2 rfl
       have hQg:∀ w1,Grow w4 w1→Q.QueueAt p.z.a [(1,[(s,x)])] 1 w1 U4:=fun w1 hg=>Q.QueueAt.framed _ _ _ w4 w1 U4 hQ4 fun b hb=>hg.block b (hU4 b hb).2
       go_wp2_with fail
       refine wp_region_flow 20 92 [(15,.inl (.int .i64 1)),(17,.inr (fun _=>IsIn 3 1 [.int .i64 (node:Int),.int .i64 0,.int .i64 1])),(18,.inr (fun _=>NewRow w4.heap.size 26 3 1 [.int .i64 (node:Int),.int .i64 0,.int .i64 1]))] rfl rfl (by kernel_rfl) (by kernel_rfl) (by kernel_rfl) ?_ ?_
       ·intro x hx φ he
        simp only[List.mem_cons,List.not_mem_nil,or_false] at hx
        rcases hx with rfl|rfl|rfl<;>cases he
        all_goals first|exact lasts_quiet (lasting_bytes _)|first|exact lasts_quiet (isIn_lasting _ _ _)|exact lasts_quiet (newRow_lasting _ _ _ _ _)
       intro ops' A' K' T hops hA' hK hT
       refine fl_mvN 63 (.slice none 0 0) ?_
       refine fl_mvN 64 (.pointer (some ⟨p.a,0,none⟩)) ?_
       refine fl_op1N 65 (.tmp 64) (.pointer (some ⟨p.a,0,none⟩)) (.pointer (some ⟨p.a,0,none⟩)) (fun ρ h1 kk w5 (hg5:Grow _ w5) hb hf=>by go_simp) ?_
       refine fl_op1N 66 (.tmp 65) (.pointer (some ⟨p.a,0,none⟩)) (.pointer (some ⟨p.a,0,none⟩)) (fun ρ h1 kk w5 (hg5:Grow _ w5) hb hf=>by go_simp) ?_
       refine fl_op1N 67 (.tmp 66) (.pointer (some ⟨p.a,0,none⟩)) (.int .i64 (node:Int)) (fun ρ h1 kk w5 (hg5:Grow _ w5) hb hf=>by have c:=(ha4.grow hg5).cell 0;go_simp) ?_
       refine fl_mvN 68 (.int .i64 0) ?_
       refine fl_mvN 69 (.pointer (some ⟨p.a,0,none⟩)) ?_
       refine fl_op1N 70 (.tmp 69) (.pointer (some ⟨p.a,0,none⟩)) (.pointer (some ⟨p.a,0,none⟩)) (fun ρ h1 kk w5 (hg5:Grow _ w5) hb hf=>by go_simp) ?_
       refine fl_op1N 71 (.tmp 70) (.pointer (some ⟨p.a,0,none⟩)) (.pointer (some ⟨p.a,3,none⟩)) (fun ρ h1 kk w5 (hg5:Grow _ w5) hb hf=>by go_simp) ?_
       refine fl_op1N 72 (.tmp 71) (.pointer (some ⟨p.a,3,none⟩)) (.pointer (some ⟨p.st,0,none⟩)) (fun ρ h1 kk w5 (hg5:Grow _ w5) hb hf=>by have c:=(ha4.grow hg5).cell 3;go_simp) ?_
       refine fl_mvN 73 (.int .i64 0) ?_
       refine fl_op1N 74 (.tmp 72) (.pointer (some ⟨p.st,0,none⟩)) (.pointer (some ⟨p.st,0,none⟩)) (fun ρ h1 kk w5 (hg5:Grow _ w5) hb hf=>by go_simp) ?_
       refine fl_op1N 75 (.tmp 74) (.pointer (some ⟨p.st,0,none⟩)) (.pointer (some ⟨p.st,3,none⟩)) (fun ρ h1 kk w5 (hg5:Grow _ w5) hb hf=>by go_simp) ?_
       refine fl_op2N 76 (.tmp 75) (.tmp 73) (.pointer (some ⟨p.st,3,none⟩)) (.int .i64 0) (.pointer (some ⟨p.st,3,none⟩)) (fun ρ h1 h2 kk w5 (hg5:Grow _ w5) hb hf=>by go_simp) ?_
       refine fl_op1N 77 (.tmp 76) (.pointer (some ⟨p.st,3,none⟩)) (.pointer (some ⟨p.z.a,0,none⟩)) (fun ρ h1 kk w5 (hg5:Grow _ w5) hb hf=>by have c:=(hst4.grow hg5).cell 3;go_simp) ?_
       refine fl_call 78 (by rfl) (by decide) (wanted_none (by rfl)) (.int .i64 1) (by rw[hK.out];rfl) 76 _ _ (by rfl) [.pointer (some ⟨p.z.a,0,none⟩)] (by rfl) k76 (fun kk w5 (hg5:Grow _ w5) hb hf=>calls_behind (by rfl) (by exact qLast_g w5 p.z.a [(1,[(s,x)])] 1 U4 (hQg w5 hg5))) ?_
       refine fl_op3 79 (by rfl) (by decide) (wanted_none (by rfl)) (by rw[hK.out];rfl) (by rfl) (.tmp 67) (.tmp 68) (.tmp 78) (.int .i64 (node:Int)) (.int .i64 0) (.int .i64 1) (by rfl) (by rfl) (by rfl) (.agg #[.int .i64 (node:Int),.int .i64 0,.int .i64 1]) (fun ρ h1 h2 h3 kk w5 (hg5:Grow _ w5) hb hf=>by go_simp) ?_
       refine fl_any1 80 (by rfl) (by decide) (wanted_none (by rfl)) (fun _=>IsIn 3 1 [.int .i64 (node:Int),.int .i64 0,.int .i64 1]) (by rw[hK.out];rfl) (.tmp 79) (.agg #[.int .i64 (node:Int),.int .i64 0,.int .i64 1]) (by rfl) (fun ρ h1 kk w5 (hg5:Grow _ w5) hb hf=>by refine upon_behindAny (φ:=fun _=>IsIn 3 1 [.int .i64 (node:Int),.int .i64 0,.int .i64 1]) (by rfl) ?_;exact ident_made rfl h1) (fun v80=>?_)
       refine fl_any2 81 (by rfl) (by decide) (wanted_none (by rfl)) (fun _=>NewRow w4.heap.size 26 3 1 [.int .i64 (node:Int),.int .i64 0,.int .i64 1]) (by rw[hK.out];rfl) (.tmp 63) (.tmp 80) (.slice none 0 0) (v80) (by rfl) (by rfl) (fun ρ h1 h2 kk w5 (hg5:Grow _ w5) hb hf=>by refine upon_behindAny (φ:=fun _=>NewRow w4.heap.size 26 3 1 [.int .i64 (node:Int),.int .i64 0,.int .i64 1]) (by rfl) ?_;exact app_nil idE hg5.size (facts_take hf (by rw[hA'.out];kernel_rfl)) h1 h2 rfl (ident_one _ _ _) (by decide)) (fun v81=>?_)
       refine fl_mvN 3 (v81) ?_
       refine fl_end (fun _ _ w5 (hg5:Grow _ w5) _ hfacts=>hT _ _ ?_)
       clear hops hA' hK hT
       simp only[putsL,Act.put,List.setIfInBounds_toArray,List.set_cons_zero,List.set_cons_succ,List.drop_succ_cons,List.drop_zero]
       obtain⟨A9,c9,rfl⟩:=newRow_one hfacts.1
       clear hfacts hQg
       have hM5:=Many.framed _ (agL_framed p (BookE p.st p.z ep [(1,[(s,x)])] 1) (BookE.framed _ _ _ _ _) node reps now tag last asks tr (n+1) b2 k) w4 w5 _ hM4 fun b hb=>hg5.block b (hE4 b hb)
       have hM6:Many (agL p (BookE p.st p.z ep [(1,[(s,x)])] 1) node reps now tag last asks tr (n+1) b2 k) w5 (Ext V w w5):=Many.wide _ w5 _ _ (fun b hb=>hb.elim .inl fun h => .inr ⟨by have:=h.1;omega,by have:=h.2;have:=hg5.size;omega⟩) hM5
       have hj6:Just V w w5:=(Just.of_grow hgw3).trans (hj4.trans (Just.of_grow hg5))
       rw[HB2.out] at hM6
       clear hst4 ha4
       go_wp2_with fail
       go_roundw
       case rel=>exact .inr ⟨⟨_,_,rfl⟩,⟨_,_,rfl⟩,hM6,hj6⟩
       case measure=>simp[slen]
      ·go_wp2_with fail
       go_roundw
       case rel=>exact .inr ⟨rfl,⟨_,_,rfl⟩,hMf,hjf⟩
       case measure=>simp[intOf]
  ·have hlt:∀ b,Ext V w wr b→b<wr.heap.size:=fun b hb=>hb.elim (fun h=>by have:=hV b h;have:=hjf.size;omega) fun h=>h.2
   have hSy:=aSync_any wr p node reps now tag last asks tr (n+1) (bs++frame (batB s x)) k (BookE p.st p.z ep [(1,[(s,x)])] 1) (BookE.framed _ _ _ _ _) (Ext V w wr) hMf hlt
   go_wp2_with fail
   refine hSy.mono ?_
   rintro e w2 ⟨rfl,hM2,hj2⟩
   go_wp2_with fail
   try rw[Exit.noGoto_ret]
   go_ret
   refine⟨⟨_,_,rfl⟩,Many.wide _ w2 _ _ (fun b hb=>?_) hM2,Go.RowKit.Just.ext_ hjf hj2⟩
   have h2:=hj2.size
   have h1:=hjf.size
   rcases hb with (hb|hb)|hb
   ·exact .inl hb
   ·exact .inr ⟨hb.1,by have:=hb.2;omega⟩
   ·exact .inr ⟨by have:=hb.1;omega,hb.2⟩
end Go.Proofs.YtmijcbfgfkeodaaGreatDoor
end
