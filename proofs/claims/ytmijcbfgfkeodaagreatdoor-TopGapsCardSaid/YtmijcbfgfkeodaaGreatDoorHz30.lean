/- Re5, Re6. -/
import Derived.Test.YtmijcbfgfkeodaaGreatDoorHz29
set_option linter.all false
set_option maxRecDepth 100000
section
namespace Go.Proofs.YtmijcbfgfkeodaaGreatDoor
open Go.RowKit Go.Hop Go.Proofs.YtmijcbfgfkeodaaGreatDoor.V
def OneMsg (B:Nat) (cs:List Value) (u:Value) (w:World):Prop:=∃ U:Nat→Prop,Row w U 270 19 u 1 cs∧∀ b,U b→B≤b∧b<w.heap.size
def OneT (B:Nat) (cs:List Value) (u:Value):Thing:=fun w V=>∃ U:Nat→Prop,Row w U 270 19 u 1 cs∧∀ b,U b→B≤b∧V b
theorem OneT.framed (B:Nat) (cs:List Value) (u:Value):Framed (OneT B cs u):=fun w w' V ⟨U,h1,h2⟩ hk=>⟨U,h1.keep fun b hb _=>hk b (h2 b hb).2,h2⟩
theorem OneT.msg {B:Nat} {cs:List Value} {u:Value} {w:World} {V:Nat→Prop} (h:OneT B cs u w V) (hV:∀ b,V b→b<w.heap.size):OneMsg B cs u w:=by
 obtain⟨U,h1,h2⟩:=h
 exact⟨U,h1,fun b hb=>⟨(h2 b hb).1,hV b (h2 b hb).2⟩⟩
def slenR (v:Value):Nat:=match v with
 | .slice _ n _=>n
 | _=>0
theorem OneMsg.grow {B:Nat} {cs:List Value} {u:Value} {w w':World} (h:OneMsg B cs u w) (hg:Grow w w'):OneMsg B cs u w':=by
 obtain⟨U,h1,h2⟩:=h
 exact⟨U,h1.grow hg,fun b hb=>⟨(h2 b hb).1,Nat.lt_of_lt_of_le (h2 b hb).2 hg.size⟩⟩
theorem OneMsg.sl {B:Nat} {cs:List Value} {u:Value} {w:World} (h:OneMsg B cs u w):∃ A c,u=.slice A 1 c:=by
 obtain⟨U,h1,_⟩:=h
 obtain⟨A2,c2,e2,_⟩:=h1.in_
 exact⟨A2,c2,e2⟩
theorem OneMsg.slc {B:Nat} {cs:List Value} {u:Value} {w:World} (h:OneMsg B cs u w):∃ A c,u=.slice A 1 c∧1≤c:=by
 obtain⟨U,h1,_⟩:=h
 obtain⟨A2,c2,e2,_,h3,_⟩:=h1.in_
 exact⟨A2,c2,e2,h3⟩
theorem OneMsg.mono {B B':Nat} {cs:List Value} {u:Value} {w:World} (h:OneMsg B cs u w) (hb:B'≤B):OneMsg B' cs u w:=by
 obtain⟨U,h1,h2⟩:=h
 exact⟨U,h1,fun b h=>⟨Nat.le_trans hb (h2 b h).1,(h2 b h).2⟩⟩
set_option maxHeartbeats 2000000 in
theorem rpapply_1 (w:World) (p:RpP) (v:Nat) (t:Nat) (n:Int) (bs:List UInt8) (k ag sh sq ep:Int) (ds:List Dl) (se:ByteArray) (fr tg:Int) (hok:(⟨k,ag,sh,sq,ep,ds,se,fr,tg⟩:En).Ok) (hk:Hid (k=1)) (hse:W.seen 0 0 sq=false) (hfa:W.far 0 sq=false) (hep:0≤ep) (hmay:K.mayE [] ds=0) (Vt:Thing) (hVt:Framed Vt) (V:Nat→Prop) (hL:Many (rpL p 0 1 0 (.pointer (some ⟨v,0,none⟩)) true 0 t t [⟨k,ag,sh,sq,ep,ds,se,fr,tg⟩] n bs (MachAt p.m [] [] none) Vt) w V) (hV:∀ b,V b→b<w.heap.size) :
 Calls Tryz.prog 176 #[.pointer (some ⟨p.r,0,none⟩),.int .i64 1] w fun e w'=>(∃ u,e=.returned u∧OneMsg w.heap.size #[.int .i64 fr,.int .i64 2,.int .i64 0,.int .i64 0,.int .i64 0,.int .i64 0,.int .i64 0,.slice none 0 0,.string ⟨#[]⟩,.int .i64 0,.int .i64 0,.int .i64 tg,.int .i64 1,.int .u64 0,.int .i64 0,.int .i64 0,.slice none 0 0,.int .i64 0,.int .i64 0].toList u w')∧Many (rpL p 0 1 1 (.pointer (some ⟨v,0,none⟩)) true 0 t t [⟨k,ag,sh,sq,ep,ds,se,fr,tg⟩] n bs (MachAt p.m (K.addM [] ds) (gput [] ag (.int .i64 ep)) (some ((ag,sh),(W.addS 0 0 sq).1,(W.addS 0 0 sq).2))) Vt) w' (Ext V w w')∧Just V w w':=by
 have k13:∀ (vs:Array Value) (w:World),(callFunc 13 vs).run Tryz.prog w=.ok (.enter 13 vs) w:=fun vs w=>by go_simp
 have hmn:∀ ts t w,(Builtin.min_ ts t #[.int .i64 1,.int .i64 1]).run Tryz.prog w=.ok (.int .i64 1) w:=fun ts t w=>by rw[run_min_int2];rfl
 have hF0:=rpL_framed p 0 1 0 (.pointer (some ⟨v,0,none⟩)) true 0 t t [⟨k,ag,sh,sq,ep,ds,se,fr,tg⟩] n bs (MachAt p.m [] [] none) Vt (MachAt.framed _ _ _ _) hVt
 have hS0:=Solo.begin_ hL hV
 obtain⟨U,hSt,hU⟩:=hS0.see 1 rfl
 have hL0:=sLog_any w p.s p.x p.d t t [⟨k,ag,sh,sq,ep,ds,se,fr,tg⟩] n bs U hSt (by simp)
 have hB:=hS0.blk 0 rfl
 unfold rpC at hB
 have c2:=hB.cell 2
 go_enter Tryz.func176,Tryz.ntmps176
 go_wp2_with fail
 refine hL0.mono ?_
 rintro e wl ⟨u,rfl,hI,⟨Ax,hux⟩,hg1⟩
 obtain⟨A,c,q,hu,hEn,hqe,hqc,hcm⟩:=hI
 obtain⟨x,rfl⟩:∃ x,q=[x]:=by
  have h:=congrArg List.length hqe
  simp at h
  match q,h with
  | [x],_=>exact⟨x,rfl⟩
 have hxe:x.e=⟨k,ag,sh,sq,ep,ds,se,fr,tg⟩:=by simpa using hqe
 rw[hu] at hux
 injection hux with h1 h2 h3
 subst h1 h3 hu
 obtain⟨ad,hkq,rfl,hVk,hBk,e0,e1⟩:=hEn.1.rec_ (by omega) el_len (k:=0) (by simp)
 have hx:=hEn.2 x (by simp)
 obtain⟨_,A,c⟩:=x
 simp only at hxe
 subst hxe
 simp only[List.getElem_cons_zero,El.cells,En.agg,Nat.zero_mul,Addr.add_zero'] at e0 e1
 have e2:=e1 1 _ rfl
 have e3:=e1 2 _ rfl
 have e4:=e1 3 _ rfl
 have e5:=e1 4 _ rfl
 have e6:=e1 5 _ rfl
 have e7:=e1 6 _ rfl
 have e8:=e1 7 _ rfl
 have e1:=e1 0 _ rfl
 have e0:=e0 _ rfl
 have c4:=(hB.grow hg1).cell 4
 have hga:=grow_alloc wl (.cells #[.int .i64 k,.int .i64 ag,.int .i64 sh,.int .i64 sq,.int .i64 ep,.slice A ds.length c,.string se,.int .i64 fr,.int .i64 tg] 32)
 have hBy:=Blk.made wl 32 #[.int .i64 k,.int .i64 ag,.int .i64 sh,.int .i64 sq,.int .i64 ep,.slice A ds.length c,.string se,.int .i64 fr,.int .i64 tg]
 obtain⟨y,HY⟩:∃ y:Nat,Hid (y=wl.heap.size):=⟨_,rfl⟩
 obtain⟨wa,HA_⟩:∃ wa:World,Hid (wa=wl.alloc (.cells #[.int .i64 k,.int .i64 ag,.int .i64 sh,.int .i64 sq,.int .i64 ep,.slice A ds.length c,.string se,.int .i64 fr,.int .i64 tg] 32)):=⟨_,rfl⟩
 rw[←HA_.out] at hga hBy
 rw[←HY.out] at hBy
 have hgw:Grow w wa:=hg1.trans hga
 clear c2
 go_wp2_with fail
 go_loopw [5] (fun u wr=>(u=.slice none 0 0∧wl=wr)∨(OneMsg w.heap.size #[.int .i64 fr,.int .i64 2,.int .i64 0,.int .i64 0,.int .i64 0,.int .i64 0,.int .i64 0,.slice none 0 0,.string ⟨#[]⟩,.int .i64 0,.int .i64 0,.int .i64 tg,.int .i64 1,.int .u64 0,.int .i64 0,.int .i64 0,.slice none 0 0,.int .i64 0,.int .i64 0].toList u wr∧Many (rpL p 0 1 1 (.pointer (some ⟨v,0,none⟩)) true 0 t t [⟨k,ag,sh,sq,ep,ds,se,fr,tg⟩] n bs (MachAt p.m (K.addM [] ds) (gput [] ag (.int .i64 ep)) (some ((ag,sh),(W.addS 0 0 sq).1,(W.addS 0 0 sq).2))) Vt) wr (Ext V w wr)∧Just V w wr)) (fun u _=>1-slenR u)
 case atStart=>exact .inl ⟨rfl,rfl⟩
 case round=>
  rcases hrel with ⟨rfl,rfl⟩|⟨hO,hMf,hjf⟩
  ·have hMa:=Many.framed _ hF0 w wa V hL fun b hb=>hgw.block b (hV b hb)
   have hlta:∀ b,V b→b<wa.heap.size:=fun b hb=>Nat.lt_of_lt_of_le (hV b hb) hgw.size
   have hSa:=Solo.begin_ hMa hlta
   have hF3:=rpL_framed p 0 1 0 (.pointer (some ⟨v,0,none⟩)) true 0 t t [⟨k,ag,sh,sq,ep,ds,se,fr,tg⟩] n bs (MachAt p.m (K.addM [] ds) (gput [] ag (.int .i64 ep)) (some ((ag,sh),(W.addS 0 0 sq).1,(W.addS 0 0 sq).2))) Vt (MachAt.framed _ _ _ _) hVt
   have hyn:¬ Lic V wa y:=fun h=>h.elim (fun h=>by have:=hV _ h;have:=HY.out;have:=hg1.size;omega) fun h=>by have:=hBy.lt;omega
   have hDn:∀ b,New w wl b→¬ Lic V wa b:=fun b hb h=>h.elim (fun h=>by have:=hV _ h;have:=hb.1;omega) fun h=>by have:=hb.2;have:=hga.size;omega
   have hMk:∀ w5,Just (Lic V wa) wa w5→Solo (Lic V wa) (Many (rpL p 0 1 0 (.pointer (some ⟨v,0,none⟩)) true 0 t t [⟨k,ag,sh,sq,ep,ds,se,fr,tg⟩] n bs (MachAt p.m [] [] none) Vt)) w5→Calls Tryz.prog 13 #[.pointer (some ⟨p.m,0,none⟩),.agg #[.int .i64 k,.int .i64 ag,.int .i64 sh,.int .i64 sq,.int .i64 ep,.slice A ds.length c,.string se,.int .i64 fr,.int .i64 tg]] w5 fun e w'=>e=.returned (.tuple #[.int .i64 1,.int .u64 0])∧Just (Lic V wa) w5 w'∧Solo (Lic V wa) (Many (rpL p 0 1 0 (.pointer (some ⟨v,0,none⟩)) true 0 t t [⟨k,ag,sh,sq,ep,ds,se,fr,tg⟩] n bs (MachAt p.m (K.addM [] ds) (gput [] ag (.int .i64 ep)) (some ((ag,sh),(W.addS 0 0 sq).1,(W.addS 0 0 sq).2))) Vt)) w':=fun w5 hj hI=>hI.atV 2 rfl hF0 (fun U hU hU2 hU3=>mach_ack_0 w5 p.m [] [] 0 0 ⟨k,ag,sh,sq,ep,ds,se,fr,tg⟩ A c (New w wl) U hU2 hok hk.out (In.just (In.grow hx.1 hga) hj hDn) (fun b hb=>by have:=hb.2;have:=hga.size;have:=hj.size;omega) (fun b hb hu=>hDn b hb (hU3 b hu)) (by simp) hse hfa ⟨0,rfl,hep⟩ hmay hU)
   go_wp2_with fail
   rw[←HA_.out,←HY.out]
   clear e0 e1 e2 e3 e4 e5 e6 e7 e8 c4
   refine wp_region_reg rfl ?_
   refine reg_flow (SoloSt (Lic V wa) (Many (rpL p 0 1 0 (.pointer (some ⟨v,0,none⟩)) true 0 t t [⟨k,ag,sh,sq,ep,ds,se,fr,tg⟩] n bs (MachAt p.m [] [] none) Vt)) (Many (rpL p 0 1 0 (.pointer (some ⟨v,0,none⟩)) true 0 t t [⟨k,ag,sh,sq,ep,ds,se,fr,tg⟩] n bs (MachAt p.m (K.addM [] ds) (gput [] ag (.int .i64 ep)) (some ((ag,sh),(W.addS 0 0 sq).1,(W.addS 0 0 sq).2))) Vt)) 5 [(3,0),(4,0)]) (soloSt_ok (Many.framed _ hF0) (Many.framed _ hF3)) 0 11 74 [(5,.inl (.tuple #[.int .i64 1,.int .u64 0]))] rfl (by kernel_rfl) (by kernel_rfl) (by kernel_rfl) ?_ (Just.of_grow (Grow.refl _).drew) (hSa.grows hF0 (Grow.refl _).drew) ?_
   ·intro x hx φ he
    simp only[List.mem_cons,List.not_mem_nil,or_false] at hx
    rcases hx with rfl<;>cases he
   intro ops' A' K' T hops hA' hK hT
   refine fl_mvN 32 (.pointer (some ⟨p.r,0,none⟩)) ?_
   refine fl_op1N 33 (.tmp 32) (.pointer (some ⟨p.r,0,none⟩)) (.pointer (some ⟨p.r,0,none⟩)) (fun ρ h1 kk w3 (hj3:Just (Lic V wa) _ w3) hb hf=>by go_simp) ?_
   refine fl_op1N 34 (.tmp 33) (.pointer (some ⟨p.r,0,none⟩)) (.pointer (some ⟨p.r,3,none⟩)) (fun ρ h1 kk w3 (hj3:Just (Lic V wa) _ w3) hb hf=>by go_simp) ?_
   refine fl_op1N 35 (.tmp 34) (.pointer (some ⟨p.r,3,none⟩)) (.pointer (some ⟨p.m,0,none⟩)) (fun ρ h1 kk w3 (hj3:Just (Lic V wa) _ w3) hb hf=>by obtain rfl:=before_some 0 (by rfl) hb;have hI:=hb.1;have hB:=hI.blk 0 rfl;unfold rpC at hB;have c:=hB.cell 3;go_simp) ?_
   refine fl_op1N 36 (.tmp 7) (.pointer (some ⟨y,0,none⟩)) (.agg #[.int .i64 k,.int .i64 ag,.int .i64 sh,.int .i64 sq,.int .i64 ep,.slice A ds.length c,.string se,.int .i64 fr,.int .i64 tg]) (fun ρ h1 kk w3 (hj3:Just (Lic V wa) _ w3) hb hf=>by obtain rfl:=before_some 0 (by rfl) hb;have hI:=hb.1;have hB:=hj3.blk hBy hyn;have c0:=hB.cell 0;have c1:=hB.cell 1;have c2:=hB.cell 2;have c3:=hB.cell 3;have c4:=hB.cell 4;have c5:=hB.cell 5;have c6:=hB.cell 6;have c7:=hB.cell 7;have c8:=hB.cell 8;go_simp) ?_
   refine fl_call 37 (by rfl) (by decide) (wanted_none (by rfl)) (.tuple #[.int .i64 1,.int .u64 0]) (by rw[hK.out];rfl) 13 _ _ (by rfl) [.pointer (some ⟨p.m,0,none⟩),.agg #[.int .i64 k,.int .i64 ag,.int .i64 sh,.int .i64 sq,.int .i64 ep,.slice A ds.length c,.string se,.int .i64 fr,.int .i64 tg]] (by rfl) k13 (fun kk w3 (hj3:Just (Lic V wa) _ w3) hb hf=>calls_turn 0 (by rfl) (by obtain rfl:=before_some 0 (by rfl) hb;have hI:=hb.1;exact (hMk w3 hj3 hI))) ?_
   refine fl_mvN 31 (.tuple #[.int .i64 1,.int .u64 0]) ?_
   refine fl_op1N 38 (.tmp 31) (.tuple #[.int .i64 1,.int .u64 0]) (.int .i64 1) (fun ρ h1 kk w3 (hj3:Just (Lic V wa) _ w3) hb hf=>by go_simp) ?_
   refine fl_op1N 39 (.tmp 31) (.tuple #[.int .i64 1,.int .u64 0]) (.int .u64 0) (fun ρ h1 kk w3 (hj3:Just (Lic V wa) _ w3) hb hf=>by go_simp) ?_
   refine fl_mvN 8 (.int .i64 1) ?_
   refine fl_mvN 9 (.int .u64 0) ?_
   refine fl_end (fun _ _ w3 (hj3:Just (Lic V wa) _ w3) hend hfacts=>hT _ _ ?_)
   clear hops hA' hK hT
   simp only[putsL,Act.put,List.setIfInBounds_toArray,List.set_cons_zero,List.set_cons_succ]
   clear hfacts hMk
   have hS3:Solo (Lic V wa) (Many (rpL p 0 1 0 (.pointer (some ⟨v,0,none⟩)) true 0 t t [⟨k,ag,sh,sq,ep,ds,se,fr,tg⟩] n bs (MachAt p.m (K.addM [] ds) (gput [] ag (.int .i64 ep)) (some ((ag,sh),(W.addS 0 0 sq).1,(W.addS 0 0 sq).2))) Vt)) w3:=hend
   refine reg_end ?_
   have hB3:=hS3.blk 0 rfl
   unfold rpC at hB3
   have hBy3:Blk w3 y 32 #[.int .i64 k,.int .i64 ag,.int .i64 sh,.int .i64 sq,.int .i64 ep,.slice A ds.length c,.string se,.int .i64 fr,.int .i64 tg]:=hj3.blk hBy hyn
   go_wp2_with fail
   refine wp_region_flow 15 74 [] rfl rfl (by kernel_rfl) (by kernel_rfl) (by kernel_rfl) ?_ ?_
   ·intro x hx φ he
    cases hx
   intro ops' A' K' T hops hA' hK hT
   refine fl_mvN 40 (.pointer (some ⟨p.r,0,none⟩)) ?_
   refine fl_op1N 41 (.tmp 40) (.pointer (some ⟨p.r,0,none⟩)) (.pointer (some ⟨p.r,0,none⟩)) (fun ρ h1 kk w4 (hg4:Grow _ w4) hb hf=>by go_simp) ?_
   refine fl_op1N 42 (.tmp 41) (.pointer (some ⟨p.r,0,none⟩)) (.pointer (some ⟨p.r,6,none⟩)) (fun ρ h1 kk w4 (hg4:Grow _ w4) hb hf=>by go_simp) ?_
   refine fl_op1N 43 (.tmp 42) (.pointer (some ⟨p.r,6,none⟩)) (.bool true) (fun ρ h1 kk w4 (hg4:Grow _ w4) hb hf=>by have c:=(hB3.grow hg4).cell 6;go_simp) ?_
   refine fl_mvN 44 (.bool true) ?_
   refine fl_mvW 45 (wif hops 4 true 44 true) (.pointer (some ⟨p.r,0,none⟩)) ?_
   refine fl_op1W 46 (wif hops 4 true 44 true) (.tmp 45) (.pointer (some ⟨p.r,0,none⟩)) (.pointer (some ⟨p.r,0,none⟩)) (fun ρ h1 kk w4 (hg4:Grow _ w4) hb hf=>by go_simp) ?_
   refine fl_op1W 47 (wif hops 4 true 44 true) (.tmp 46) (.pointer (some ⟨p.r,0,none⟩)) (.pointer (some ⟨p.r,4,none⟩)) (fun ρ h1 kk w4 (hg4:Grow _ w4) hb hf=>by go_simp) ?_
   refine fl_op1W 48 (wif hops 4 true 44 true) (.tmp 47) (.pointer (some ⟨p.r,4,none⟩)) (.int .i64 0) (fun ρ h1 kk w4 (hg4:Grow _ w4) hb hf=>by have c:=(hB3.grow hg4).cell 4;go_simp) ?_
   refine fl_mvW 49 (wif hops 4 true 44 true) (.pointer (some ⟨p.r,0,none⟩)) ?_
   refine fl_op1W 50 (wif hops 4 true 44 true) (.tmp 49) (.pointer (some ⟨p.r,0,none⟩)) (.pointer (some ⟨p.r,0,none⟩)) (fun ρ h1 kk w4 (hg4:Grow _ w4) hb hf=>by go_simp) ?_
   refine fl_op1W 51 (wif hops 4 true 44 true) (.tmp 50) (.pointer (some ⟨p.r,0,none⟩)) (.pointer (some ⟨p.r,7,none⟩)) (fun ρ h1 kk w4 (hg4:Grow _ w4) hb hf=>by go_simp) ?_
   refine fl_op1W 52 (wif hops 4 true 44 true) (.tmp 51) (.pointer (some ⟨p.r,7,none⟩)) (.int .i64 0) (fun ρ h1 kk w4 (hg4:Grow _ w4) hb hf=>by have c:=(hB3.grow hg4).cell 7;go_simp) ?_
   refine fl_op2W 53 (wif hops 4 true 44 true) (.tmp 48) (.tmp 52) (.int .i64 0) (.int .i64 0) (.bool true) (fun ρ h1 h2 kk w4 (hg4:Grow _ w4) hb hf=>by go_simp) ?_
   refine fl_pickN 54 true (.bool true) ?_
   refine fl_end (fun _ _ w4 (hg4:Grow _ w4) _ hfacts=>hT _ _ ?_)
   clear hops hA' hK hT
   simp only[putsL,Act.put,List.setIfInBounds_toArray,List.set_cons_zero,List.set_cons_succ,List.drop_succ_cons,List.drop_zero]
   clear hfacts
   have hS4:=hS3.grows hF3 hg4
   have hBy4:=hBy3.grow hg4
   have y7:=hBy4.cell 7
   have y8:=hBy4.cell 8
   have hB9:=Blk.made w4 270 #[.int .i64 fr,.int .i64 2,.int .i64 0,.int .i64 0,.int .i64 0,.int .i64 0,.int .i64 0,.slice none 0 0,.string ⟨#[]⟩,.int .i64 0,.int .i64 0,.int .i64 tg,.int .i64 1,.int .u64 0,.int .i64 0,.int .i64 0,.slice none 0 0,.int .i64 0,.int .i64 0]
   have hI9:=hB9.in_ (size:=19) (n:=1) (by rfl)
   have hga9:=grow_alloc w4 (.cells #[.int .i64 fr,.int .i64 2,.int .i64 0,.int .i64 0,.int .i64 0,.int .i64 0,.int .i64 0,.slice none 0 0,.string ⟨#[]⟩,.int .i64 0,.int .i64 0,.int .i64 tg,.int .i64 1,.int .u64 0,.int .i64 0,.int .i64 0,.slice none 0 0,.int .i64 0,.int .i64 0] 270)
   go_wp2_with (at_builtin;refine stay ?_)
   refine stay_out ?_
   clear y7 y8
   refine wpList_row sentE _ rfl (.tmp 55) (.tmp 64) rfl (.slice none 0 0) 0 [] rfl (Row.nil (V:=fun _=>False)) _ _ 1 1 #[.int .i64 fr,.int .i64 2,.int .i64 0,.int .i64 0,.int .i64 0,.int .i64 0,.int .i64 0,.slice none 0 0,.string ⟨#[]⟩,.int .i64 0,.int .i64 0,.int .i64 tg,.int .i64 1,.int .u64 0,.int .i64 0,.int .i64 0,.slice none 0 0,.int .i64 0,.int .i64 0].toList rfl hI9.reads (by simp[Value.oneCell']) (by decide) ?_
   intro v10 w10 hR10 hj10
   have hg10a:=hj10.below (B:=w4.heap.size) (fun b hb=>hb.elim) (by simp)
   have hg10:Grow w4 w10:=Below.trans hga9 hg10a
   have hgz:=hgw.size
   have hz34:=hj3.size
   have hz4:=hg4.size
   have hOM:OneMsg w.heap.size #[.int .i64 fr,.int .i64 2,.int .i64 0,.int .i64 0,.int .i64 0,.int .i64 0,.int .i64 0,.slice none 0 0,.string ⟨#[]⟩,.int .i64 0,.int .i64 0,.int .i64 tg,.int .i64 1,.int .u64 0,.int .i64 0,.int .i64 0,.slice none 0 0,.int .i64 0,.int .i64 0].toList v10 w10:=by
    simp only[Nat.zero_add,List.nil_append] at hR10
    refine⟨_,hR10,fun b hb=>?_⟩
    rcases hb with hb|hb
    ·exact hb.elim
    ·exact⟨by have:=hb.1;simp at this;omega,hb.2⟩
   have hR11:∃ U:Nat→Prop,Row w10 U 270 19 v10 1 #[.int .i64 fr,.int .i64 2,.int .i64 0,.int .i64 0,.int .i64 0,.int .i64 0,.int .i64 0,.slice none 0 0,.string ⟨#[]⟩,.int .i64 0,.int .i64 0,.int .i64 tg,.int .i64 1,.int .u64 0,.int .i64 0,.int .i64 0,.slice none 0 0,.int .i64 0,.int .i64 0].toList∧∀ b,U b→w4.heap.size≤b∧b<w10.heap.size:=by
    simp only[Nat.zero_add,List.nil_append] at hR10
    refine⟨_,hR10,fun b hb=>?_⟩
    rcases hb with hb|hb
    ·exact hb.elim
    ·exact⟨by have:=hb.1;simp at this;omega,hb.2⟩
   obtain⟨Ao,co,rfl⟩:=hOM.sl
   clear hI9 hB9 hga9
   have hS10:=hS4.join hF3 hg10 (R:=OneT w.heap.size #[.int .i64 fr,.int .i64 2,.int .i64 0,.int .i64 0,.int .i64 0,.int .i64 0,.int .i64 0,.slice none 0 0,.string ⟨#[]⟩,.int .i64 0,.int .i64 0,.int .i64 tg,.int .i64 1,.int .u64 0,.int .i64 0,.int .i64 0,.slice none 0 0,.int .i64 0,.int .i64 0].toList (.slice Ao 1 co)) (U:=fun b=>w4.heap.size≤b∧b<w10.heap.size) (by
    obtain⟨U,h1,h2⟩:=hR11
    exact⟨U,h1,fun b hb=>⟨by have:=h2 b hb;omega,h2 b hb⟩⟩) (fun b hb=>hb)
   have hF10:=hF3.cons (OneT.framed w.heap.size #[.int .i64 fr,.int .i64 2,.int .i64 0,.int .i64 0,.int .i64 0,.int .i64 0,.int .i64 0,.slice none 0 0,.string ⟨#[]⟩,.int .i64 0,.int .i64 0,.int .i64 tg,.int .i64 1,.int .u64 0,.int .i64 0,.int .i64 0,.slice none 0 0,.int .i64 0,.int .i64 0].toList (.slice Ao 1 co))
   have J10:Just (Lic V wa) wa w10:=hj3.trans (Just.of_grow (hg4.trans hg10))
   have hB10:=hS10.blk 1 rfl
   unfold rpC at hB10
   have k4:=hB10.cell 4
   go_wp2_with (refine wpList_putS rfl _ _ _ rfl hS10 hF10 J10 1 rfl rfl (.int .i64 1) rfl (Nat.le_of_ble_eq_true rfl) rfl (by kernel_rfl) ?_;intro w11 hS11 J11;refine stay ?_)
   refine stay_out ?_
   clear k4
   have hS11:Solo (Lic V wa) (Many (OneT w.heap.size #[.int .i64 fr,.int .i64 2,.int .i64 0,.int .i64 0,.int .i64 0,.int .i64 0,.int .i64 0,.slice none 0 0,.string ⟨#[]⟩,.int .i64 0,.int .i64 0,.int .i64 tg,.int .i64 1,.int .u64 0,.int .i64 0,.int .i64 0,.slice none 0 0,.int .i64 0,.int .i64 0].toList (.slice Ao 1 co) :: rpL p 0 1 1 (.pointer (some ⟨v,0,none⟩)) true 0 t t [⟨k,ag,sh,sq,ep,ds,se,fr,tg⟩] n bs (MachAt p.m (K.addM [] ds) (gput [] ag (.int .i64 ep)) (some ((ag,sh),(W.addS 0 0 sq).1,(W.addS 0 0 sq).2))) Vt)) w11:=hS11
   obtain⟨U9,hU9,hUl9⟩:=hS11.see 0 rfl
   have hO11:=hU9.msg fun b hb=>(hUl9 b hb).2
   obtain⟨r1,r2⟩:=Solo.done hS11.drop1 J11 hlta
   have r3:=Many.wide _ w11 (Ext V wa w11) (Ext V w w11) (fun b hb=>hb.elim .inl fun h => .inr ⟨by have:=h.1;omega,h.2⟩) r1
   have r4:=(Just.of_grow (V:=V) hgw).trans r2
   go_wp2_with fail
   go_roundw
   case rel=>exact .inr ⟨hO11,r3,r4⟩
   case measure=>simp[slenR]
  ·obtain⟨Ao,co,rfl⟩:=hO.sl
   have hltf:∀ b,Ext V w wr b→b<wr.heap.size:=fun b hb=>hb.elim (fun h=>by have:=hV b h;have:=hjf.size;omega) fun h=>h.2
   have hBf:=(Solo.begin_ hMf hltf).blk 0 rfl
   unfold rpC at hBf
   have k4:=hBf.cell 4
   go_wp2_with fail
   go_ret
   exact⟨⟨_,rfl,hO⟩,hMf,hjf⟩
theorem Copies_nil (w:World) (A:Option Addr) (c:Nat):Calls Tryz.prog 168 #[.slice A 0 c] w fun e w'=>e=.returned (.slice none 0 0)∧w=w':=by
 have hC:=clip_ens w none 0 0 (Nat.le_refl _)
 go_enter Tryz.func168,Tryz.ntmps168
 go_wp2_with fail
 go_loopw [3,8] (fun u i wr=>u=.slice none 0 0∧i=.int .i64 0∧w=wr) (fun _ _ _=>0)
 case atStart=>exact⟨rfl,rfl,rfl⟩
 case round=>
  obtain⟨rfl,rfl,rfl⟩:=hrel
  go_wp2_with fail
  refine hC.mono ?_
  rintro e w1 ⟨rfl,rfl⟩
  go_wp2_with fail
  go_ret
  exact⟨rfl,rfl⟩
theorem sLog_nil (w:World) (s x d:Nat) (t h:Nat) (n:Int) (bs:List UInt8) (V:Nat→Prop) (hS:StateAt s x d t h [] n bs w V):Calls Tryz.prog 89 #[.pointer (some ⟨s,0,none⟩)] w fun e w'=>e=.returned (.slice none 0 0)∧w=w':=by
 obtain⟨A,c,q,hq,_,_,⟨D,hE⟩,hB⟩:=hS.cells
 have hl:q.length=0:=by have:=congrArg List.length hq;simpa using this
 have hC:=Copies_nil w A c
 unfold StC at hB
 rw[hl] at hB
 have c0:=hB.cell 2
 go_enter Tryz.func89,Tryz.ntmps89
 go_wp2_with fail
 refine hC.mono ?_
 rintro e w1 ⟨rfl,rfl⟩
 go_wp2_with fail
 go_ret
 exact⟨rfl,rfl⟩
theorem soloCall {Pr:Program} {f:FuncId} {args:Array Value} {P:Nat→Prop} {S S':Thing} {C:Ending→World→Prop} {w:World} (h:Solo P S w) (hc:∀ V:Nat→Prop,S w V→(∀ b,V b→b<w.heap.size)→Calls Pr f args w fun e w'=>C e w'∧S' w' (Ext V w w')∧Just V w w'):Calls Pr f args w fun e w'=>C e w'∧Just P w w'∧Solo P S' w':=by
 obtain⟨h0,V,h1,h2⟩:=h
 exact (hc V h1 fun b hb=>(h2 b hb).2).mono fun e w' ⟨he,hs,hj⟩=>⟨he,hj.imp fun x hx=>(h2 x hx).1,fun b hb=>h0 b (Nat.le_trans hj.size hb),Ext V w w',hs,ext_lt h2 h0 hj.size⟩
theorem rpcounted_1 (w:World) (p:RpP) (v:Nat) (t:Nat) (had n:Int) (bs:List UInt8) (k ag sh sq ep:Int) (ds:List Dl) (se:ByteArray) (fr tg:Int) (hok:(⟨k,ag,sh,sq,ep,ds,se,fr,tg⟩:En).Ok) (hk:Hid (k=1)) (hse:W.seen 0 0 sq=false) (hfa:W.far 0 sq=false) (hep:0≤ep) (hmay:K.mayE [] ds=0) (V:Nat→Prop) (hL:Many (rpL p 0 1 0 (.pointer (some ⟨v,0,none⟩)) true 0 t t [⟨k,ag,sh,sq,ep,ds,se,fr,tg⟩] n bs (MachAt p.m [] [] none) (VoteAt v t true 0 had 1)) w V) (hV:∀ b,V b→b<w.heap.size) :
 Calls Tryz.prog 98 #[.pointer (some ⟨p.r,0,none⟩),.int .i64 0,.int .i64 1] w fun e w'=>(∃ u,e=.returned u∧OneMsg w.heap.size #[.int .i64 fr,.int .i64 2,.int .i64 0,.int .i64 0,.int .i64 0,.int .i64 0,.int .i64 0,.slice none 0 0,.string ⟨#[]⟩,.int .i64 0,.int .i64 0,.int .i64 tg,.int .i64 1,.int .u64 0,.int .i64 0,.int .i64 0,.slice none 0 0,.int .i64 0,.int .i64 0].toList u w')∧Many (rpL p 0 1 1 (.pointer (some ⟨v,0,none⟩)) true 0 t t [⟨k,ag,sh,sq,ep,ds,se,fr,tg⟩] n bs (MachAt p.m (K.addM [] ds) (gput [] ag (.int .i64 ep)) (some ((ag,sh),(W.addS 0 0 sq).1,(W.addS 0 0 sq).2))) (VoteAt v t true 1 had 1)) w' (Ext V w w')∧Just V w w':=by
 have hS0:=Solo.begin_ hL hV
 have hF0:=rpL_framed p 0 1 0 (.pointer (some ⟨v,0,none⟩)) true 0 t t [⟨k,ag,sh,sq,ep,ds,se,fr,tg⟩] n bs (MachAt p.m [] [] none) (VoteAt v t true 0 had 1) (MachAt.framed _ _ _ _) (VoteAt.framed _ _ _ _ _ _)
 have hB:=hS0.blk 0 rfl
 unfold rpC at hB
 have c5:=hB.cell 5
 have hA:=hS0.at_ 3 rfl hF0 (vAccepted_one w v t 0 had 1 (by omega))
 go_enter Tryz.func98,Tryz.ntmps98
 go_wp2_with fail
 refine hA.mono ?_
 rintro e w1 ⟨rfl,hj1,hS1⟩
 have hS1:Solo (Lic V w) (Many (rpL p 0 1 0 (.pointer (some ⟨v,0,none⟩)) true 0 t t [⟨k,ag,sh,sq,ep,ds,se,fr,tg⟩] n bs (MachAt p.m [] [] none) (VoteAt v t true 1 had 1))) w1:=hS1
 have hw1:=hj1.size
 have hP:=soloCall (C:=fun e w'=>∃ u,e=.returned u∧OneMsg w1.heap.size #[.int .i64 fr,.int .i64 2,.int .i64 0,.int .i64 0,.int .i64 0,.int .i64 0,.int .i64 0,.slice none 0 0,.string ⟨#[]⟩,.int .i64 0,.int .i64 0,.int .i64 tg,.int .i64 1,.int .u64 0,.int .i64 0,.int .i64 0,.slice none 0 0,.int .i64 0,.int .i64 0].toList u w') hS1 fun U hU hUl=>rpapply_1 w1 p v t n bs k ag sh sq ep ds se fr tg hok hk hse hfa hep hmay (VoteAt v t true 1 had 1) (VoteAt.framed _ _ _ _ _ _) U hU hUl
 clear c5
 go_wp2_with fail
 refine hP.mono ?_
 rintro e w2 ⟨⟨u,rfl,hO⟩,hj2,hS2⟩
 go_wp2_with fail
 go_ret
 obtain⟨r1,r2⟩:=Solo.done hS2 (hj1.trans hj2) hV
 exact⟨⟨u,rfl,hO.mono hw1⟩,r1,r2⟩
end Go.Proofs.YtmijcbfgfkeodaaGreatDoor
end
