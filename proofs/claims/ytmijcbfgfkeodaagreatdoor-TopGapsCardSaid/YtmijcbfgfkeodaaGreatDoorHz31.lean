/- Re7, Re8, Nelt. -/
import Derived.Test.YtmijcbfgfkeodaaGreatDoorHz30
set_option linter.all false
set_option maxRecDepth 100000
section
namespace Go.Proofs.YtmijcbfgfkeodaaGreatDoor
open Go.RowKit Go.Hop Go.Proofs.YtmijcbfgfkeodaaGreatDoor.V
def EnsNew (B:Nat) (e:En) (u:Value) (w:World):Prop:=∃ (A:Option Addr) (c:Nat) (Ag:Option Addr) (cap:Nat),u=.slice Ag 1 cap∧1≤cap∧cap≤maxLen∧Ens w (fun b=>B≤b∧b<w.heap.size) Ag [⟨e,A,c⟩]
theorem ensNew_lasting (B:Nat) (e:En):Lasting (EnsNew B e):=fun u w w' ⟨A,c,Ag,cap,h1,h2,h3,h4⟩ hg=>⟨A,c,Ag,cap,h1,h2,h3,(h4.grow hg).mono fun b hb=>⟨hb.1,Nat.lt_of_lt_of_le hb.2 hg.size⟩⟩
theorem ens_built {w:World} {B:Nat} {e:En} {u:Value} {o:Oper} {ρ:Operand→Value} {x:Operand} (h1:ρ x=u) (ho:o.op=.buildSlice 39 1 #[(0,x)]) (hB:B≤w.heap.size) (hu:EntNew B e u w):flowUpon Tryz.prog (fun v w'=>Grow w w'∧EnsNew B e v w') ((execOp ρ o).run Tryz.prog w):=by
 obtain⟨A,c,rfl,h⟩:=hu
 have hg:=grow_alloc w (.cells (e.agg A c) 32)
 have hr:(execOp ρ o).run Tryz.prog w=.ok (.value (.slice (some ⟨w.heap.size,0,none⟩) 1 1)) (w.alloc (.cells (e.agg A c) 32)):=by
  obtain⟨dst,op,ty,pos,after,guard⟩:=o
  simp only at ho
  subst ho
  unfold En.agg at h1 ⊢
  go_simp
 have hI:=(Blk.made w 32 (e.agg A c)).in_ (size:=9) (n:=1) (by rfl)
 refine flowUpon_value hr ⟨hg,A,c,some ⟨w.heap.size,0,none⟩,1,rfl,Nat.le_refl _,by decide,⟨?_,fun y hy=>?_⟩⟩
 ·have h2:[(⟨e,A,c⟩:El)].flatMap El.cells=(e.agg A c).toList:=by simp[El.cells]
  rw[h2]
  exact hI.mono fun b hb=>by have e2:b=w.heap.size:=hb;subst e2;exact⟨hB,by simp⟩
 ·obtain rfl:y=⟨e,A,c⟩:=by simpa using hy
  exact elIn_grow h hg
theorem ens_app {w:World} {B:Nat} {e:En} {u:Value} {o:Oper} {ρ:Operand→Value} {s x:Operand} (hs:ρ s=.slice none 0 0) (hx:ρ x=u) (ho:o.op=.call { callee := .builtin .append,args:=#[s,x],argTypes:=#[39,39] }) (hB:B≤w.heap.size) (hu:EnsNew B e u w):flowUpon Tryz.prog (fun v w'=>Grow w w'∧EnsNew B e v w') ((execOp ρ o).run Tryz.prog w):=by
 obtain⟨A,c,Ag,cap,rfl,_,_,hE⟩:=hu
 refine flow_append_row entryE ho hs (Row.nil (V:=fun _=>False)) hx hE.1.reads (fun u hu=>by
  obtain⟨y,_,hy⟩:=List.mem_flatMap.1 hu
  exact el_one y u hy) (by decide) fun v' w' hR hj=>?_
 have hg:Grow w w':=hj.below (B:=w.heap.size) (fun b hb=>hb.elim) (Nat.le_refl _)
 rw[Nat.zero_add,List.nil_append] at hR
 obtain⟨A2,c2,e2,hI2,h3,h4⟩:=hR.in_
 subst e2
 refine⟨hg,A,c,A2,c2,rfl,h3,h4,⟨hI2.mono fun b hb=>?_,fun y hy=>?_⟩⟩
 ·rcases hb with hb|hb
  ·exact hb.elim
  ·exact⟨Nat.le_trans hB hb.1,hb.2⟩
 ·obtain rfl:y=⟨e,A,c⟩:=by simpa using hy
  exact elIn_grow (hE.2 _ (by simp)) hg
def Behind (φ:Value→World→Prop):Fact:=fun k u w=>match k with
 | 0=>False
 | _=>φ u w
theorem behind_take {φ:Value→World→Prop} {k:Nat} {u:Value} {w:World} (h:Behind φ k u w):φ u w:=by
 cases k with
 | zero=>exact h.elim
 | succ k=>exact h
theorem lasts_solo_behind {P:Nat→Prop} {S0 S1:Thing} {m1:Nat} {st:List (Nat×Nat)} {φ:Value→World→Prop} (h:Lasting φ):Lasts (SoloSt P S0 S1 m1 st) (Behind φ):=fun k u w w' hu=>by
 rcases k with _|k
 ·exact hu.elim
 ·exact⟨fun hg=>h u w w' hu hg,fun hk=>by simp[SoloSt] at hk⟩
theorem oneMsg_lasting (B:Nat) (cs:List Value):Lasting (OneMsg B cs):=fun _ _ _ h hg=>h.grow hg
theorem app_none {w:World} {o:Oper} {ρ:Operand→Value} {s x:Operand} {A:Option Addr} {n c:Nat} (hc:n≤c) (hs:ρ s=.slice A n c) (hx:ρ x=.slice none 0 0) (ho:o.op=.call { callee := .builtin .append,args:=#[s,x],argTypes:=#[68,68] }):(execOp ρ o).run Tryz.prog w=.ok (.value (.slice A n c)) w:=by
 obtain⟨dst,op,ty,pos,after,guard⟩:=o
 simp only at ho
 subst ho
 cases A<;>go_simp
set_option maxHeartbeats 1000000 in
theorem rpask_1 (w:World) (p:RpP) (v:Nat) (t:Nat) (had n:Int) (bs:List UInt8) (k ag sh sq ep:Int) (ds:List Dl) (se:ByteArray) (fr tg:Int) (hok:(⟨k,ag,sh,sq,ep,ds,se,fr,tg⟩:En).Ok) (hk:Hid (k=1)) (hse:W.seen 0 0 sq=false) (hfa:W.far 0 sq=false) (hep:0≤ep) (hmay:K.mayE [] ds=0) (fr0:Int) (A:Option Addr) (c:Nat) (D V:Nat→Prop) (hD:ElIn w D ⟨⟨k,ag,sh,sq,ep,ds,se,fr0,tg⟩,A,c⟩) (hDV:∀ b,D b→¬ Lic V w b) (h1t:1≤t) (hte:t≤9223372036854775807) (hn0:0≤n∧n≤1000000000) (hroom:Room bs (wordB t t [⟨k,ag,sh,sq,ep,ds,se,fr,tg⟩])) (hL:Many (rpL p 0 1 0 (.pointer (some ⟨v,0,none⟩)) true 0 t t [] n bs (MachAt p.m [] [] none) (VoteAt v t true 0 had 1)) w V) (hV:∀ b,V b→b<w.heap.size) :
 Calls Tryz.prog 93 #[.pointer (some ⟨p.r,0,none⟩),.int .i64 fr,.agg #[.int .i64 k,.int .i64 ag,.int .i64 sh,.int .i64 sq,.int .i64 ep,.slice A ds.length c,.string se,.int .i64 fr0,.int .i64 tg]] w fun e w'=>(∃ u,e=.returned u∧OneMsg w.heap.size #[.int .i64 fr,.int .i64 2,.int .i64 0,.int .i64 0,.int .i64 0,.int .i64 0,.int .i64 0,.slice none 0 0,.string ⟨#[]⟩,.int .i64 0,.int .i64 0,.int .i64 tg,.int .i64 1,.int .u64 0,.int .i64 0,.int .i64 0,.slice none 0 0,.int .i64 0,.int .i64 0].toList u w')∧Many (rpL p 0 1 1 (.pointer (some ⟨v,0,none⟩)) true 0 t t [⟨k,ag,sh,sq,ep,ds,se,fr,tg⟩] (n+1) (bs++frame (wordB t t [⟨k,ag,sh,sq,ep,ds,se,fr,tg⟩])) (MachAt p.m (K.addM [] ds) (gput [] ag (.int .i64 ep)) (some ((ag,sh),(W.addS 0 0 sq).1,(W.addS 0 0 sq).2))) (VoteAt v t true 1 had 1)) w' (Ext V w w')∧Just V w w':=by
 have k95:∀ (vs:Array Value) (w:World),(callFunc 95 vs).run Tryz.prog w=.ok (.enter 95 vs) w:=fun vs w=>by go_simp
 have k175:∀ (vs:Array Value) (w:World),(callFunc 175 vs).run Tryz.prog w=.ok (.enter 175 vs) w:=fun vs w=>by go_simp
 have k171:∀ (vs:Array Value) (w:World),(callFunc 171 vs).run Tryz.prog w=.ok (.enter 171 vs) w:=fun vs w=>by go_simp
 have k98:∀ (vs:Array Value) (w:World),(callFunc 98 vs).run Tryz.prog w=.ok (.enter 98 vs) w:=fun vs w=>by go_simp
 have k172:∀ (vs:Array Value) (w:World),(callFunc 172 vs).run Tryz.prog w=.ok (.enter 172 vs) w:=fun vs w=>by go_simp
 have hF0:=rpL_framed p 0 1 0 (.pointer (some ⟨v,0,none⟩)) true 0 t t [] n bs (MachAt p.m [] [] none) (VoteAt v t true 0 had 1) (MachAt.framed _ _ _ _) (VoteAt.framed _ _ _ _ _ _)
 have hS0:=Solo.begin_ hL hV
 have g1:=grow_alloc w (.cells #[.int .i64 k,.int .i64 ag,.int .i64 sh,.int .i64 sq,.int .i64 ep,.slice A ds.length c,.string se,.int .i64 fr0,.int .i64 tg] 32)
 have b1:=Blk.made w 32 #[.int .i64 k,.int .i64 ag,.int .i64 sh,.int .i64 sq,.int .i64 ep,.slice A ds.length c,.string se,.int .i64 fr0,.int .i64 tg]
 have hB:=hS0.blk 0 rfl
 unfold rpC at hB
 have c2:=(hB.grow g1).cell 2
 obtain⟨y,HY⟩:∃ y:Nat,Hid (y=w.heap.size):=⟨_,rfl⟩
 obtain⟨wa,HA_⟩:∃ wa:World,Hid (wa=w.alloc (.cells #[.int .i64 k,.int .i64 ag,.int .i64 sh,.int .i64 sq,.int .i64 ep,.slice A ds.length c,.string se,.int .i64 fr0,.int .i64 tg] 32)):=⟨_,rfl⟩
 have c2':=c2
 rw[←HA_.out] at g1 b1 c2'
 rw[←HY.out] at b1
 have hSa:=hS0.join hF0 g1 (R:=Cell y 32 #[.int .i64 k,.int .i64 ag,.int .i64 sh,.int .i64 sq,.int .i64 ep,.slice A ds.length c,.string se,.int .i64 fr0,.int .i64 tg]) (U:=fun b=>b=y) ⟨rfl,b1⟩ (fun b hb=>by have:=HY.out;have:=b1.lt;have e2:b=y:=hb;omega)
 have hFa:=hF0.cons (Cell.framed y 32 #[.int .i64 k,.int .i64 ag,.int .i64 sh,.int .i64 sq,.int .i64 ep,.slice A ds.length c,.string se,.int .i64 fr0,.int .i64 tg])
 obtain⟨U2,hU2,hUl2⟩:=hSa.see 2 rfl
 have hLg:=sLog_nil wa p.s p.x p.d t t n bs U2 hU2
 go_enter Tryz.func93,Tryz.ntmps93
 go_wp2_with fail
 rw[←HA_.out,←HY.out]
 refine hLg.mono ?_
 rintro e w1 ⟨rfl,rfl⟩
 clear c2 c2'
 have y6:=(hSa.blk 0 rfl).cell 8
 have y5:=(hSa.blk 0 rfl).cell 7
 go_wp2_with (refine wpList_putS rfl _ _ _ rfl hSa hFa (Just.of_grow (V:=Lic V w) g1) 0 rfl rfl (.int .i64 fr) rfl (Nat.le_of_ble_eq_true rfl) rfl (by kernel_rfl) ?_;intro w2 hS2 J2;refine stay ?_)
 refine stay_out ?_
 clear y6 y5
 have hS2:Solo (Lic V w) (Many (Cell y 32 #[.int .i64 k,.int .i64 ag,.int .i64 sh,.int .i64 sq,.int .i64 ep,.slice A ds.length c,.string se,.int .i64 fr,.int .i64 tg] :: rpL p 0 1 0 (.pointer (some ⟨v,0,none⟩)) true 0 t t [] n bs (MachAt p.m [] [] none) (VoteAt v t true 0 had 1))) w2:=hS2
 have hF2:=hF0.cons (Cell.framed y 32 #[.int .i64 k,.int .i64 ag,.int .i64 sh,.int .i64 sq,.int .i64 ep,.slice A ds.length c,.string se,.int .i64 fr,.int .i64 tg])
 have hy2:=hS2.blk 0 rfl
 have hB2:=hS2.blk 1 rfl
 unfold rpC at hB2
 have c6:=hB2.cell 6
 obtain⟨U4,hU4,hUl4⟩:=hS2.see 4 rfl
 have hVt:∀ w3,Grow w2 w3→VoteAt v t true 0 had 1 w3 U4:=fun w3 hg=>VoteAt.framed _ _ _ _ _ _ w2 w3 U4 hU4 fun b hb=>hg.block b (hUl4 b hb).2
 have hDj:∀ b,D b→¬ Lic V w b:=fun b hb h=>hDV b hb h
 have hD2:∀ w3,Grow w2 w3→ElIn w3 D ⟨⟨k,ag,sh,sq,ep,ds,se,fr,tg⟩,A,c⟩:=fun w3 hg=>⟨In.grow (In.just hD.1 J2 hDj) hg,hD.2⟩
 clear hB
 go_wp2_with fail
 clear c6
 refine wp_region_flow 18 69 [(12,.inl (.int .i64 (t:Int))),(15,.inr (fun _=>EntNew w2.heap.size ⟨k,ag,sh,sq,ep,ds,se,fr,tg⟩)),(16,.inr (fun _=>EnsNew w2.heap.size ⟨k,ag,sh,sq,ep,ds,se,fr,tg⟩)),(17,.inr (fun _=>EnsNew w2.heap.size ⟨k,ag,sh,sq,ep,ds,se,fr,tg⟩))] rfl rfl (by kernel_rfl) (by kernel_rfl) (by kernel_rfl) ?_ ?_
 ·intro x hx φ he
  simp only[List.mem_cons,List.not_mem_nil,or_false] at hx
  rcases hx with rfl|rfl|rfl|rfl<;>cases he
  all_goals first|exact lasts_quiet (lasting_bytes _)|first|exact lasts_quiet (ensNew_lasting _ _)|exact lasts_quiet (entNew_lasting _ _)
 intro ops' A' K' T hops hA' hK hT
 refine fl_mvN 26 (.slice none 0 0) ?_
 refine fl_op1N 27 (.tmp 26) (.slice none 0 0) (.int .i64 0) (fun ρ h1 kk w3 (hg3:Grow _ w3) hb hf=>by go_simp) ?_
 refine fl_op2N 28 (.tmp 27) (.const (.int .i64 128)) (.int .i64 0) (.int .i64 128) (.bool false) (fun ρ h1 h2 kk w3 (hg3:Grow _ w3) hb hf=>by go_simp) ?_
 refine fl_mvN 29 (.bool false) ?_
 refine fl_mvW 30 (wif hops 3 false 29 false) (.pointer (some ⟨p.r,0,none⟩)) ?_
 refine fl_op1W 31 (wif hops 3 false 29 false) (.tmp 30) (.pointer (some ⟨p.r,0,none⟩)) (.pointer (some ⟨p.r,0,none⟩)) (fun ρ h1 kk w3 (hg3:Grow _ w3) hb hf=>by go_simp) ?_
 refine fl_op1W 32 (wif hops 3 false 29 false) (.tmp 31) (.pointer (some ⟨p.r,0,none⟩)) (.pointer (some ⟨p.r,2,none⟩)) (fun ρ h1 kk w3 (hg3:Grow _ w3) hb hf=>by go_simp) ?_
 refine fl_op1W 33 (wif hops 3 false 29 false) (.tmp 32) (.pointer (some ⟨p.r,2,none⟩)) (.pointer (some ⟨p.s,0,none⟩)) (fun ρ h1 kk w3 (hg3:Grow _ w3) hb hf=>by have c:=(hB2.grow hg3).cell 2;go_simp) ?_
 refine fl_mvW 34 (wif hops 3 false 29 false) (.pointer (some ⟨p.r,0,none⟩)) ?_
 refine fl_op1W 35 (wif hops 3 false 29 false) (.tmp 34) (.pointer (some ⟨p.r,0,none⟩)) (.pointer (some ⟨p.r,0,none⟩)) (fun ρ h1 kk w3 (hg3:Grow _ w3) hb hf=>by go_simp) ?_
 refine fl_op1W 36 (wif hops 3 false 29 false) (.tmp 35) (.pointer (some ⟨p.r,0,none⟩)) (.pointer (some ⟨p.r,5,none⟩)) (fun ρ h1 kk w3 (hg3:Grow _ w3) hb hf=>by go_simp) ?_
 refine fl_op1W 37 (wif hops 3 false 29 false) (.tmp 36) (.pointer (some ⟨p.r,5,none⟩)) (.pointer (some ⟨v,0,none⟩)) (fun ρ h1 kk w3 (hg3:Grow _ w3) hb hf=>by have c:=(hB2.grow hg3).cell 5;go_simp) ?_
 refine fl_call 38 (by rfl) (by decide) (wanted_if hops 3 false (by rfl) 29 (by rfl) false (by rfl)) (.int .i64 (t:Int)) (by rw[hK.out];rfl) 95 _ _ (by rfl) [.pointer (some ⟨v,0,none⟩)] (by rfl) k95 (fun kk w3 (hg3:Grow _ w3) hb hf=>calls_behind (by rfl) (by exact grew_same (vTerm_any w3 v t 0 had 1 true U4 (hVt w3 hg3)))) ?_
 refine fl_mvW 39 (wif hops 3 false 29 false) (.slice none 0 0) ?_
 refine fl_op1W 40 (wif hops 3 false 29 false) (.tmp 5) (.pointer (some ⟨y,0,none⟩)) (.agg #[.int .i64 k,.int .i64 ag,.int .i64 sh,.int .i64 sq,.int .i64 ep,.slice A ds.length c,.string se,.int .i64 fr,.int .i64 tg]) (fun ρ h1 kk w3 (hg3:Grow _ w3) hb hf=>by have hB:=hy2.grow hg3;have c0:=hB.cell 0;have c1:=hB.cell 1;have c2:=hB.cell 2;have c3:=hB.cell 3;have c4:=hB.cell 4;have c5:=hB.cell 5;have c6:=hB.cell 6;have c7:=hB.cell 7;have c8:=hB.cell 8;go_simp) ?_
 refine fl_callAny 41 (by rfl) (by decide) (wanted_if hops 3 false (by rfl) 29 (by rfl) false (by rfl)) (fun _=>EntNew w2.heap.size ⟨k,ag,sh,sq,ep,ds,se,fr,tg⟩) (by rw[hK.out];rfl) 175 _ _ (by rfl) [.agg #[.int .i64 k,.int .i64 ag,.int .i64 sh,.int .i64 sq,.int .i64 ep,.slice A ds.length c,.string se,.int .i64 fr,.int .i64 tg]] (by rfl) k175 (fun kk w3 (hg3:Grow _ w3) hb hf=>calls_behindAny (φ:=fun _=>EntNew w2.heap.size ⟨k,ag,sh,sq,ep,ds,se,fr,tg⟩) (by rfl) (by exact copy_new w2.heap.size w3 D ⟨⟨k,ag,sh,sq,ep,ds,se,fr,tg⟩,A,c⟩ (hD2 w3 hg3) hg3.size)) (fun v41=>?_)
 refine fl_any1 42 (by rfl) (by decide) (wanted_if hops 3 false (by rfl) 29 (by rfl) false (by rfl)) (fun _=>EnsNew w2.heap.size ⟨k,ag,sh,sq,ep,ds,se,fr,tg⟩) (by rw[hK.out];rfl) (.tmp 41) (v41) (by rfl) (fun ρ h1 kk w3 (hg3:Grow _ w3) hb hf=>by refine upon_behindAny (φ:=fun _=>EnsNew w2.heap.size ⟨k,ag,sh,sq,ep,ds,se,fr,tg⟩) (by rfl) ?_;exact ens_built h1 rfl hg3.size (facts_take hf (by rw[hA'.out];kernel_rfl))) (fun v42=>?_)
 refine fl_any2 43 (by rfl) (by decide) (wanted_if hops 3 false (by rfl) 29 (by rfl) false (by rfl)) (fun _=>EnsNew w2.heap.size ⟨k,ag,sh,sq,ep,ds,se,fr,tg⟩) (by rw[hK.out];rfl) (.tmp 39) (.tmp 42) (.slice none 0 0) (v42) (by rfl) (by rfl) (fun ρ h1 h2 kk w3 (hg3:Grow _ w3) hb hf=>by refine upon_behindAny (φ:=fun _=>EnsNew w2.heap.size ⟨k,ag,sh,sq,ep,ds,se,fr,tg⟩) (by rfl) ?_;exact ens_app h1 h2 rfl hg3.size (facts_take hf (by rw[hA'.out];kernel_rfl))) (fun v43=>?_)
 refine fl_end (fun _ _ w3 (hg3:Grow _ w3) _ hfacts=>hT _ _ ?_)
 clear hops hA' hK hT
 simp only[putsL,Act.put,List.setIfInBounds_toArray,List.set_cons_zero,List.set_cons_succ,List.drop_succ_cons,List.drop_zero]
 obtain⟨A3,c3,Ag,cap,rfl,hcap,hcapm,hEn⟩:EnsNew w2.heap.size ⟨k,ag,sh,sq,ep,ds,se,fr,tg⟩ v43 w3:=hfacts.1
 clear hfacts
 have hS3:=hS2.grows hF2 hg3
 have J3:=J2.trans (Just.of_grow hg3)
 have hAc:=hS3.at_ 2 rfl hF2 (sAccept_1 w3 p.s p.x p.d t t [] [⟨k,ag,sh,sq,ep,ds,se,fr,tg⟩] n bs (fun b=>w2.heap.size≤b∧b<w3.heap.size) Ag cap [⟨⟨k,ag,sh,sq,ep,ds,se,fr,tg⟩,A3,c3⟩] hEn rfl (Nat.le_refl _) h1t (by simp) hte (by simpa using hok) (by simp) ⟨hn0.1,by omega⟩ hroom)
 go_wp2_with fail
 refine hAc.mono ?_
 rintro e w4 ⟨rfl,hj4,hS4⟩
 obtain⟨b2,HB2⟩:∃ b2:List UInt8,Hid (b2=bs++frame (wordB t t [⟨k,ag,sh,sq,ep,ds,se,fr,tg⟩])):=⟨_,rfl⟩
 rw[←HB2.out] at hS4
 have hS4:Solo (Lic V w) (Many (rpL p 0 1 0 (.pointer (some ⟨v,0,none⟩)) true 0 t t [⟨k,ag,sh,sq,ep,ds,se,fr,tg⟩] (n+1) b2 (MachAt p.m [] [] none) (VoteAt v t true 0 had 1))) w4:=Solo.drop1 hS4
 have hFA:AllFramed (rpL p 0 1 0 (.pointer (some ⟨v,0,none⟩)) true 0 t t [⟨k,ag,sh,sq,ep,ds,se,fr,tg⟩] (n+1) b2 (MachAt p.m [] [] none) (VoteAt v t true 0 had 1)):=rpL_framed p 0 1 0 (.pointer (some ⟨v,0,none⟩)) true 0 t t [⟨k,ag,sh,sq,ep,ds,se,fr,tg⟩] (n+1) b2 (MachAt p.m [] [] none) (VoteAt v t true 0 had 1) (MachAt.framed _ _ _ _) (VoteAt.framed _ _ _ _ _ _)
 have hFB:AllFramed (rpL p 0 1 1 (.pointer (some ⟨v,0,none⟩)) true 0 t t [⟨k,ag,sh,sq,ep,ds,se,fr,tg⟩] (n+1) b2 (MachAt p.m (K.addM [] ds) (gput [] ag (.int .i64 ep)) (some ((ag,sh),(W.addS 0 0 sq).1,(W.addS 0 0 sq).2))) (VoteAt v t true 1 had 1)):=rpL_framed p 0 1 1 (.pointer (some ⟨v,0,none⟩)) true 0 t t [⟨k,ag,sh,sq,ep,ds,se,fr,tg⟩] (n+1) b2 (MachAt p.m (K.addM [] ds) (gput [] ag (.int .i64 ep)) (some ((ag,sh),(W.addS 0 0 sq).1,(W.addS 0 0 sq).2))) (VoteAt v t true 1 had 1) (MachAt.framed _ _ _ _) (VoteAt.framed _ _ _ _ _ _)
 have J4:=J3.trans hj4
 go_wp2_with fail
 refine wp_region_reg rfl ?_
 refine reg_flow (SoloSt (Lic V w) (Many (rpL p 0 1 0 (.pointer (some ⟨v,0,none⟩)) true 0 t t [⟨k,ag,sh,sq,ep,ds,se,fr,tg⟩] (n+1) b2 (MachAt p.m [] [] none) (VoteAt v t true 0 had 1))) (Many (rpL p 0 1 1 (.pointer (some ⟨v,0,none⟩)) true 0 t t [⟨k,ag,sh,sq,ep,ds,se,fr,tg⟩] (n+1) b2 (MachAt p.m (K.addM [] ds) (gput [] ag (.int .i64 ep)) (some ((ag,sh),(W.addS 0 0 sq).1,(W.addS 0 0 sq).2))) (VoteAt v t true 1 had 1))) 10 [(4,0),(8,0),(9,0),(12,1)]) (soloSt_ok (Many.framed _ hFA) (Many.framed _ hFB)) 0 15 69 [(9,.inl (.int .i64 1)),(10,.inr (Behind (OneMsg w4.heap.size #[.int .i64 fr,.int .i64 2,.int .i64 0,.int .i64 0,.int .i64 0,.int .i64 0,.int .i64 0,.slice none 0 0,.string ⟨#[]⟩,.int .i64 0,.int .i64 0,.int .i64 tg,.int .i64 1,.int .u64 0,.int .i64 0,.int .i64 0,.slice none 0 0,.int .i64 0,.int .i64 0].toList))),(12,.inl (.slice none 0 0)),(13,.inr (Behind (OneMsg w4.heap.size #[.int .i64 fr,.int .i64 2,.int .i64 0,.int .i64 0,.int .i64 0,.int .i64 0,.int .i64 0,.slice none 0 0,.string ⟨#[]⟩,.int .i64 0,.int .i64 0,.int .i64 tg,.int .i64 1,.int .u64 0,.int .i64 0,.int .i64 0,.slice none 0 0,.int .i64 0,.int .i64 0].toList)))] rfl (by kernel_rfl) (by kernel_rfl) (by kernel_rfl) ?_ (Just.of_grow (Grow.refl _).drew) (hS4.grows hFA (Grow.refl _).drew) ?_
 ·intro x hx φ he
  simp only[List.mem_cons,List.not_mem_nil,or_false] at hx
  rcases hx with rfl|rfl|rfl|rfl<;>cases he
  all_goals first|exact lasts_quiet (lasting_bytes _)|exact lasts_solo_behind (oneMsg_lasting _ _)
 intro ops' A' K' T hops hA' hK hT
 refine fl_mvN 55 (.pointer (some ⟨p.r,0,none⟩)) ?_
 refine fl_mvN 56 (.pointer (some ⟨p.r,0,none⟩)) ?_
 refine fl_op1N 57 (.tmp 56) (.pointer (some ⟨p.r,0,none⟩)) (.pointer (some ⟨p.r,0,none⟩)) (fun ρ h1 kk w5 (hg5:Just (Lic V w) _ w5) hb hf=>by go_simp) ?_
 refine fl_op1N 58 (.tmp 57) (.pointer (some ⟨p.r,0,none⟩)) (.pointer (some ⟨p.r,0,none⟩)) (fun ρ h1 kk w5 (hg5:Just (Lic V w) _ w5) hb hf=>by go_simp) ?_
 refine fl_op1N 59 (.tmp 58) (.pointer (some ⟨p.r,0,none⟩)) (.int .i64 0) (fun ρ h1 kk w5 (hg5:Just (Lic V w) _ w5) hb hf=>by obtain rfl:=before_some 0 (by rfl) hb;have hI:=hb.1;have hB:=hI.blk 0 rfl;unfold rpC at hB;have c:=hB.cell 0;go_simp) ?_
 refine fl_mvN 60 (.pointer (some ⟨p.r,0,none⟩)) ?_
 refine fl_op1N 61 (.tmp 60) (.pointer (some ⟨p.r,0,none⟩)) (.pointer (some ⟨p.r,0,none⟩)) (fun ρ h1 kk w5 (hg5:Just (Lic V w) _ w5) hb hf=>by go_simp) ?_
 refine fl_op1N 62 (.tmp 61) (.pointer (some ⟨p.r,0,none⟩)) (.pointer (some ⟨p.r,2,none⟩)) (fun ρ h1 kk w5 (hg5:Just (Lic V w) _ w5) hb hf=>by go_simp) ?_
 refine fl_op1N 63 (.tmp 62) (.pointer (some ⟨p.r,2,none⟩)) (.pointer (some ⟨p.s,0,none⟩)) (fun ρ h1 kk w5 (hg5:Just (Lic V w) _ w5) hb hf=>by obtain rfl:=before_some 0 (by rfl) hb;have hI:=hb.1;have hB:=hI.blk 0 rfl;unfold rpC at hB;have c:=hB.cell 2;go_simp) ?_
 refine fl_call 64 (by rfl) (by decide) (wanted_none (by rfl)) (.int .i64 1) (by rw[hK.out];rfl) 171 _ _ (by rfl) [.pointer (some ⟨p.s,0,none⟩)] (by rfl) k171 (fun kk w5 (hg5:Just (Lic V w) _ w5) hb hf=>calls_behind (by rfl) (by obtain rfl:=before_some 0 (by rfl) hb;have hI:=hb.1;exact (by obtain⟨U,hU,hUl⟩:=hI.see 1 rfl;exact grew_same (sLen_any w5 p.s p.x p.d t t _ _ b2 U hU)))) ?_
 refine fl_callAny 65 (by rfl) (by decide) (wanted_none (by rfl)) (Behind (OneMsg w4.heap.size #[.int .i64 fr,.int .i64 2,.int .i64 0,.int .i64 0,.int .i64 0,.int .i64 0,.int .i64 0,.slice none 0 0,.string ⟨#[]⟩,.int .i64 0,.int .i64 0,.int .i64 tg,.int .i64 1,.int .u64 0,.int .i64 0,.int .i64 0,.slice none 0 0,.int .i64 0,.int .i64 0].toList)) (by rw[hK.out];rfl) 98 _ _ (by rfl) [.pointer (some ⟨p.r,0,none⟩),.int .i64 0,.int .i64 1] (by rfl) k98 (fun kk w5 (hg5:Just (Lic V w) _ w5) hb hf=>calls_turnAny (φ:=Behind (OneMsg w4.heap.size #[.int .i64 fr,.int .i64 2,.int .i64 0,.int .i64 0,.int .i64 0,.int .i64 0,.int .i64 0,.slice none 0 0,.string ⟨#[]⟩,.int .i64 0,.int .i64 0,.int .i64 tg,.int .i64 1,.int .u64 0,.int .i64 0,.int .i64 0,.slice none 0 0,.int .i64 0,.int .i64 0].toList)) 0 (by rfl) (by obtain rfl:=before_some 0 (by rfl) hb;have hI:=hb.1;exact (((soloCall (C:=fun e w'=>∃ u,e=.returned u∧OneMsg w5.heap.size #[.int .i64 fr,.int .i64 2,.int .i64 0,.int .i64 0,.int .i64 0,.int .i64 0,.int .i64 0,.slice none 0 0,.string ⟨#[]⟩,.int .i64 0,.int .i64 0,.int .i64 tg,.int .i64 1,.int .u64 0,.int .i64 0,.int .i64 0,.slice none 0 0,.int .i64 0,.int .i64 0].toList u w') hI fun U hU hUl=>rpcounted_1 w5 p v t had (n+1) b2 k ag sh sq ep ds se fr tg hok hk hse hfa hep hmay U hU hUl)).mono fun e w9 h9=>by obtain⟨⟨u,h1,h2⟩,h3,h4⟩:=h9;exact⟨u,h1,h3,h4,h2.mono hg5.size⟩))) (fun v65=>?_)
 refine fl_mvN 66 (.pointer (some ⟨p.r,0,none⟩)) ?_
 refine fl_call 67 (by rfl) (by decide) (wanted_none (by rfl)) (.slice none 0 0) (by rw[hK.out];rfl) 172 _ _ (by rfl) [.pointer (some ⟨p.r,0,none⟩)] (by rfl) k172 (fun kk w5 (hg5:Just (Lic V w) _ w5) hb hf=>calls_behind (by rfl) (by obtain rfl:=before_some 1 (by rfl) hb;have hI:=hb.1;exact (by obtain⟨U,hU,hUl⟩:=hI.see 1 rfl;exact rpaccepts_one w5 p 1 (.pointer (some ⟨v,0,none⟩)) true 0 (hI.blk 0 rfl) t t _ (n+1) b2 U hU (fun b hb=>(hUl b hb).2) (by simp)))) ?_
 refine fl_any2 68 (by rfl) (by decide) (wanted_none (by rfl)) (Behind (OneMsg w4.heap.size #[.int .i64 fr,.int .i64 2,.int .i64 0,.int .i64 0,.int .i64 0,.int .i64 0,.int .i64 0,.slice none 0 0,.string ⟨#[]⟩,.int .i64 0,.int .i64 0,.int .i64 tg,.int .i64 1,.int .u64 0,.int .i64 0,.int .i64 0,.slice none 0 0,.int .i64 0,.int .i64 0].toList)) (by rw[hK.out];rfl) (.tmp 65) (.tmp 67) (v65) (.slice none 0 0) (by rfl) (by rfl) (fun ρ h1 h2 kk w5 (hg5:Just (Lic V w) _ w5) hb hf=>by refine upon_imp (R:=fun u w9=>Grow w5 w9∧Behind (OneMsg w4.heap.size #[.int .i64 fr,.int .i64 2,.int .i64 0,.int .i64 0,.int .i64 0,.int .i64 0,.int .i64 0,.slice none 0 0,.string ⟨#[]⟩,.int .i64 0,.int .i64 0,.int .i64 tg,.int .i64 1,.int .u64 0,.int .i64 0,.int .i64 0,.slice none 0 0,.int .i64 0,.int .i64 0].toList) kk u w9) ?_ (fun u w9 h=>⟨behind_none (by rfl) h.1,by rw[next_none (by rfl)];exact h.2⟩);have hf1:Behind (OneMsg w4.heap.size #[.int .i64 fr,.int .i64 2,.int .i64 0,.int .i64 0,.int .i64 0,.int .i64 0,.int .i64 0,.slice none 0 0,.string ⟨#[]⟩,.int .i64 0,.int .i64 0,.int .i64 tg,.int .i64 1,.int .u64 0,.int .i64 0,.int .i64 0,.slice none 0 0,.int .i64 0,.int .i64 0].toList) kk v65 w5:=(facts_take hf (by rw[hA'.out];kernel_rfl));obtain⟨A6,c6,e6,hc6⟩:=(behind_take hf1).slc;subst e6;exact flowUpon_value (app_none hc6 h1 h2 rfl) ⟨Grow.refl _,hf1⟩) (fun v68=>?_)
 refine fl_mvN 6 (v68) ?_
 refine fl_end (fun _ _ w5 (hg5:Just (Lic V w) _ w5) hend hfacts=>hT _ _ ?_)
 clear hops hA' hK hT
 simp only[putsL,Act.put,List.setIfInBounds_toArray,List.set_cons_zero,List.set_cons_succ]
 have hO:OneMsg w4.heap.size #[.int .i64 fr,.int .i64 2,.int .i64 0,.int .i64 0,.int .i64 0,.int .i64 0,.int .i64 0,.slice none 0 0,.string ⟨#[]⟩,.int .i64 0,.int .i64 0,.int .i64 tg,.int .i64 1,.int .u64 0,.int .i64 0,.int .i64 0,.slice none 0 0,.int .i64 0,.int .i64 0].toList v68 w5:=behind_take hfacts.1
 have hS5:Solo (Lic V w) (Many (rpL p 0 1 1 (.pointer (some ⟨v,0,none⟩)) true 0 t t [⟨k,ag,sh,sq,ep,ds,se,fr,tg⟩] (n+1) b2 (MachAt p.m (K.addM [] ds) (gput [] ag (.int .i64 ep)) (some ((ag,sh),(W.addS 0 0 sq).1,(W.addS 0 0 sq).2))) (VoteAt v t true 1 had 1))) w5:=hend
 clear hfacts
 refine reg_end ?_
 have hw4:=J4.size
 go_wp2_with fail
 go_ret
 obtain⟨r1,r2⟩:=Solo.done hS5 (J4.trans hg5) hV
 rw[HB2.out] at r1
 exact⟨⟨_,rfl,hO.mono hw4⟩,r1,r2⟩
def R0 (r:Nat):Thing:=fun w V=>∃ p:RpP,p.r=r∧Many (rpL p 0 1 0 (.pointer none) false 0 0 0 [] 0 [] (MachAt p.m [] [] none) Emp) w V
def bsLed:List UInt8:=([]++frame (wordB 1 0 []))++frame (wordB 1 1 [])
def R1 (r:Nat):Thing:=fun w V=>∃ (p:RpP) (v:Nat),p.r=r∧Many (rpL p 0 1 0 (.pointer (some ⟨v,0,none⟩)) true 0 1 1 [] (0+1+1) bsLed (MachAt p.m [] [] none) (VoteAt v ((1:Nat):Int) true 0 ((0:Nat):Int) 1)) w V
theorem R0.framed (r:Nat):Framed (R0 r):=fun w w' V ⟨p,h1,h2⟩ hk=>⟨p,h1,Many.framed _ (rpL_framed _ _ _ _ _ _ _ _ _ _ _ _ _ _ (MachAt.framed _ _ _ _) Emp.framed) w w' V h2 hk⟩
theorem R1.framed (r:Nat):Framed (R1 r):=fun w w' V ⟨p,v,h1,h2⟩ hk=>⟨p,v,h1,Many.framed _ (rpL_framed _ _ _ _ _ _ _ _ _ _ _ _ _ _ (MachAt.framed _ _ _ _) (VoteAt.framed _ _ _ _ _ _)) w w' V h2 hk⟩
theorem word_small (t h:Nat) (l:List En) (h1:t<18446744073709551616) (h2:h<18446744073709551616) (hl:∀ e∈l,e.Ok) (hn:l.length≤1):(wordB t h l).length≤9040:=by
 rcases wordB_len h1 h2 hl with h3|h3<;>omega
theorem word_none (t h:Nat) (h1:t<18446744073709551616) (h2:h<18446744073709551616):(wordB t h []).length≤30:=by
 rcases wordB_len (l:=[]) h1 h2 (by simp) with h3|h3
 ·simpa using h3
 ·simp at h3
theorem bsLed_len:bsLed.length≤88:=by
 have h1:=word_none 1 0 (by omega) (by omega)
 have h2:=word_none 1 1 (by omega) (by omega)
 have h3:=frame_le (wordB 1 0 []) (by omega)
 have h4:=frame_le (wordB 1 1 []) (by omega)
 unfold bsLed
 rw[List.nil_append,List.length_append]
 omega
theorem rpNew_R (w:World) (d:Nat) (V:Nat→Prop) (hD:DiskAt 133 d [] 0 w V) (hV:∀ b,V b→b<w.heap.size) :
 Calls Tryz.prog 30 #[.int .i64 0,.int .i64 1,.pointer (some ⟨d,0,none⟩)] w fun e w'=>∃ r,e=.returned (.pointer (some ⟨r,0,none⟩))∧R0 r w' (Ext V w w')∧Just V w w':=
 (rpNew_0 w d 0 1 (by omega) (by omega) V hD hV).mono fun e w' ⟨p,_,h1,h2,h3⟩=>⟨p.r,h1,⟨p,rfl,h2⟩,h3⟩
theorem rpLead_R (w:World) (r:Nat):Turns Tryz.prog 32 #[.pointer (some ⟨r,0,none⟩)] (fun e=>e=.returned (.slice none 0 0)) (R0 r) (R1 r) w:=by
 rintro V ⟨p,rfl,hM⟩ hV
 have h1:=word_none 1 0 (by omega) (by omega)
 have h2:=word_none 1 1 (by omega) (by omega)
 have h3:=frame_le (wordB 1 0 []) (by omega)
 have h4:=frame_le (wordB 1 1 []) (by omega)
 exact (rpLead_1 w p 0 0 0 [] (by omega) (by omega) (by omega) 1 rfl ⟨by omega,by rw[List.length_nil];omega⟩ ⟨by omega,by rw[List.nil_append];omega⟩ _ (MachAt.framed _ _ _ _) V hM hV).mono fun e w' ⟨h1,⟨v,h2⟩,h3⟩=>⟨h1,⟨p,v,rfl,h2⟩,h3⟩
theorem rpLeads_R (w:World) (r:Nat) (V:Nat→Prop) (h:R1 r w V):Calls Tryz.prog 110 #[.pointer (some ⟨r,0,none⟩)] w fun e w'=>e=.returned (.bool true)∧w=w':=by
 obtain⟨p,v,rfl,hM⟩:=h
 obtain⟨_,_,hC,_⟩:=hM
 exact rpLeads_any w p _ _ _ _ _ _ hC.2
theorem rpMachine_R (w:World) (r:Nat) (V:Nat→Prop) (h:R0 r w V):Calls Tryz.prog 31 #[.pointer (some ⟨r,0,none⟩)] w fun e w'=>(∃ m,e=.returned (.pointer (some ⟨m,0,none⟩)))∧w=w':=by
 obtain⟨p,rfl,hM⟩:=h
 obtain⟨_,_,hC,_⟩:=hM
 exact (rpMachine_any w p _ _ _ _ _ _ hC.2).mono fun e w' ⟨h1,h2⟩=>⟨⟨_,h1⟩,h2⟩
set_option maxHeartbeats 1000000 in
theorem rpReceive_R (w:World) (r:Nat) (k ag sh sq ep:Int) (ds:List Dl) (se:ByteArray) (fr tg:Int) (hok:(⟨k,ag,sh,sq,ep,ds,se,fr,tg⟩:En).Ok) (hk:Hid (k=1)) (hse:W.seen 0 0 sq=false) (hfa:W.far 0 sq=false) (hep:0≤ep) (hmay:K.mayE [] ds=0) (fr0:Int) (hok0:(⟨k,ag,sh,sq,ep,ds,se,fr0,tg⟩:En).Ok) (A:Option Addr) (c:Nat) (D V:Nat→Prop) (hD:ElIn w D ⟨⟨k,ag,sh,sq,ep,ds,se,fr0,tg⟩,A,c⟩) (hDl:∀ b,D b→b<w.heap.size) (hDV:∀ b,D b→¬ V b) (hR:R1 r w V) (hV:∀ b,V b→b<w.heap.size) :
 Calls Tryz.prog 33 #[.pointer (some ⟨r,0,none⟩),.int .i64 fr,.agg (askM ⟨k,ag,sh,sq,ep,ds,se,fr0,tg⟩ A c)] w fun e w'=>(∃ u,e=.returned u∧OneMsg w.heap.size #[.int .i64 fr,.int .i64 2,.int .i64 0,.int .i64 0,.int .i64 0,.int .i64 0,.int .i64 0,.slice none 0 0,.string ⟨#[]⟩,.int .i64 0,.int .i64 0,.int .i64 tg,.int .i64 1,.int .u64 0,.int .i64 0,.int .i64 0,.slice none 0 0,.int .i64 0,.int .i64 0].toList u w')∧Just V w w':=by
 obtain⟨p,v,rfl,hM⟩:=hR
 have hF:=rpL_framed p 0 1 0 (.pointer (some ⟨v,0,none⟩)) true 0 1 1 [] (0+1+1) bsLed _ _ (MachAt.framed p.m [] [] none) (VoteAt.framed v ((1:Nat):Int) true 0 ((0:Nat):Int) 1)
 have hRt:=fun w1 (hg:Grow w w1)=>mRight_ask w1 ⟨k,ag,sh,sq,ep,ds,se,fr0,tg⟩ D A c hok0 (In.grow hD.1 hg)
 unfold askM at hRt ⊢
 have g1:=grow_alloc w (.cells #[.int .i64 1,.int .i64 k,.int .i64 ag,.int .i64 sh,.int .i64 sq,.int .i64 ep,.slice A ds.length c,.string se,.int .i64 fr0,.int .i64 tg,.int .i64 0,.int .i64 0,.int .u64 0,.int .i64 0,.int .i64 0,.slice none 0 0,.int .i64 0,.int .i64 0] 73)
 have b1:=Blk.made w 73 #[.int .i64 1,.int .i64 k,.int .i64 ag,.int .i64 sh,.int .i64 sq,.int .i64 ep,.slice A ds.length c,.string se,.int .i64 fr0,.int .i64 tg,.int .i64 0,.int .i64 0,.int .u64 0,.int .i64 0,.int .i64 0,.slice none 0 0,.int .i64 0,.int .i64 0]
 obtain⟨y,HY⟩:∃ y:Nat,Hid (y=w.heap.size):=⟨_,rfl⟩
 obtain⟨wa,HA_⟩:∃ wa:World,Hid (wa=w.alloc (.cells #[.int .i64 1,.int .i64 k,.int .i64 ag,.int .i64 sh,.int .i64 sq,.int .i64 ep,.slice A ds.length c,.string se,.int .i64 fr0,.int .i64 tg,.int .i64 0,.int .i64 0,.int .u64 0,.int .i64 0,.int .i64 0,.slice none 0 0,.int .i64 0,.int .i64 0] 73)):=⟨_,rfl⟩
 have b1':=b1
 rw[←HA_.out] at g1 b1
 rw[←HY.out] at b1
 have hRt1:=hRt wa g1
 rw[HA_.out] at hRt1
 go_enter Tryz.func33,Tryz.ntmps33
 go_wp2_with (refine wpList_load_blk rfl 73 _ rfl _ rfl (b1') Tryz.underlying73 (by kernel_rfl) ?_)
 refine hRt1.mono ?_
 rw[←HA_.out,←HY.out]
 rintro en w2 ⟨rfl,hg2⟩
 have hB:=b1.grow hg2
 have c0:=hB.cell 0;have c1:=hB.cell 1;have c2:=hB.cell 2;have c3:=hB.cell 3;have c4:=hB.cell 4;have c5:=hB.cell 5;have c6:=hB.cell 6;have c7:=hB.cell 7;have c8:=hB.cell 8;have c9:=hB.cell 9
 have hgw:=g1.trans hg2
 have hM2:=Many.framed _ hF w w2 V hM fun b hb=>hgw.block b (hV b hb)
 have hs2:=hgw.size
 have hwl:=word_small 1 1 [⟨k,ag,sh,sq,ep,ds,se,fr,tg⟩] (by omega) (by omega) (by simpa using hok) (by simp)
 have hfl:=frame_le (wordB 1 1 [⟨k,ag,sh,sq,ep,ds,se,fr,tg⟩]) (by omega)
 have hbl:=bsLed_len
 have hAk:=rpask_1 w2 p v 1 ((0:Nat):Int) (0+1+1) bsLed k ag sh sq ep ds se fr tg hok hk hse hfa hep hmay fr0 A c D V ⟨In.grow hD.1 hgw,hD.2⟩ (fun b hb h=>h.elim (hDV b hb) fun h=>by have:=hDl b hb;omega) (by omega) (by omega) (by omega) ⟨by omega,by omega⟩ hM2 (fun b hb=>Nat.lt_of_lt_of_le (hV b hb) hs2)
 go_wp2_with fail
 refine hAk.mono ?_
 rintro e w3 ⟨⟨u,rfl,hO⟩,hM3,hj3⟩
 go_wp2_with fail
 go_ret
 exact⟨⟨u,rfl,hO.mono hs2⟩,(Just.of_grow hgw).trans hj3⟩
end Go.Proofs.YtmijcbfgfkeodaaGreatDoor
end
section
namespace Go.Proofs.YtmijcbfgfkeodaaGreatDoor.Ne
open Go.RowKit Go.Hop
theorem info_parts {e size bytes:Nat} {z:Value} (h:(Tryz.prog.info? e).map (fun i=>(i.zero,i.size,i.bytes))=some (some z,size,bytes)):∃ i,Tryz.prog.info? e=some i∧i.zero=some z∧i.size=size∧i.bytes=bytes:=by
 cases hi:Tryz.prog.info? e with
 | none=>rw[hi] at h;cases h
 | some i=>rw[hi] at h;injection h with h;injection h with h1 h2;injection h2 with h2 h3;exact⟨i,rfl,h1,h2,h3⟩
theorem u8_info:(Tryz.prog.info? 5).map (fun i=>(i.zero,i.size,i.bytes))=some (some (.int .u8 0),1,1):=by kernel_rfl
theorem u8E:Elem Tryz.prog 65 5 1 1 (.int .u8 0):=⟨Tryz.underlying65,info_parts u8_info,rfl,by decide,by decide⟩
def BIn (w:World) (V:Nat→Prop) (A:Option Addr) (n:Nat) (l:List UInt8):Prop:=In w V 1 A n (u8s l)
theorem BIn.len {w:World} {V:Nat→Prop} {A:Option Addr} {n:Nat} {l:List UInt8} (h:BIn w V A n l):l.length=n:=by
 have:=h.1;simpa using this
theorem clone_any (w:World) (V:Nat→Prop) (A:Option Addr) (n c:Nat) (l:List UInt8) (h:BIn w V A n l) (hn:n≤1048576) :
 Calls Tryz.prog 180 #[.slice A n c] w fun e w'=>∃ A' c',e=.returned (.slice A' n c')∧BIn w' (New w w') A' n l∧n≤c'∧c'≤maxLen∧Grow w w':=by
 have hnil:=fun (w':World)=>Lib.run_eql_slice_nil (P:=Tryz.prog) w' 65 5 A n c 0 0 Tryz.underlying65
 cases A with
 | none=>
   have hn0:n=0:=by
    rcases Nat.eq_zero_or_pos n with h0|h0
    ·exact h0
    ·obtain⟨_,e,_⟩:=h.2 h0;cases e
   subst hn0
   obtain rfl:l=[]:=List.eq_nil_of_length_eq_zero h.len
   go_enter Tryz.func180,Tryz.ntmps180
   go_wp2_with fail
   go_ret
   exact⟨_,_,rfl,In.nil,Nat.le_refl _,Nat.zero_le _,Grow.refl _⟩
 | some ad=>
   go_enter Tryz.func180,Tryz.ntmps180
   go_wp2_with (at_builtin;refine stay ?_)
   refine stay_out ?_
   refine wpList_own (V:=fun b=>b=w.heap.size) u8E _ rfl (.tmp 5) (.tmp 6) rfl (.slice (some ⟨w.heap.size,0,none⟩) 0 0) 0 [] rfl (made_own w _ _) w.heap.size (some ad) n c (u8s l) rfl (Reads.alloc (In.reads h) (Nat.le_refl _) _) u8s_one (by omega) ?_
   intro v1 w1 hO1 hj1
   simp only[Nat.zero_add,List.nil_append] at hO1
   obtain⟨hO2,hg1⟩:=own_new hO1 hj1
   obtain⟨A2,c2,rfl,hI,hnc,hm⟩:=hO2.in_
   go_wp2_with fail
   go_ret
   exact⟨A2,c2,rfl,hI,hnc,hm,hg1⟩
abbrev Lb:=Int×Int×List UInt8
structure Lt where
 f:Int
 t:Int
 A:Option Addr
 m:Nat
 c:Nat
 bs:List UInt8
def Lt.cells (b:Lt):List Value:=[.int .i64 b.f,.int .i64 b.t,.slice b.A b.m b.c]
def Lt.abs (b:Lt):Lb:=(b.f,b.t,b.bs)
theorem lt_len (b:Lt):b.cells.length=3:=rfl
theorem lt_one (b:Lt):∀ u∈b.cells,u.oneCell'=true:=by
 intro u hu
 simp only[Lt.cells,List.mem_cons,List.not_mem_nil,or_false] at hu
 rcases hu with rfl|rfl|rfl<;>rfl
theorem lts_one (q:List Lt):∀ u∈q.flatMap Lt.cells,u.oneCell'=true:=by
 intro u hu
 obtain⟨b,_,hb⟩:=List.mem_flatMap.1 hu
 exact lt_one b u hb
structure LtIn (w:World) (V:Nat→Prop) (b:Lt):Prop where
 bs:BIn w V b.A b.m b.bs
 le:b.m≤b.c
 max:b.c≤maxLen
 small:b.m≤1048576
theorem LtIn.mono {w:World} {V V':Nat→Prop} {b:Lt} (h:LtIn w V b) (hV:∀ b,V b→V' b):LtIn w V' b:=⟨In.mono h.bs hV,h.le,h.max,h.small⟩
theorem LtIn.keep {w w':World} {V:Nat→Prop} {b:Lt} (h:LtIn w V b) (hk:∀ b,V b→b<w.heap.size→w'.heap[b]?=w.heap[b]?):LtIn w' V b:=⟨In.keep h.bs hk,h.le,h.max,h.small⟩
theorem LtIn.grow {w w':World} {V:Nat→Prop} {b:Lt} (h:LtIn w V b) (hg:Grow w w'):LtIn w' V b:=⟨In.grow h.bs hg,h.le,h.max,h.small⟩
theorem LtIn.just {w w':World} {V U:Nat→Prop} {b:Lt} (h:LtIn w V b) (hj:Just U w w') (hd:∀ b,V b→¬ U b):LtIn w' V b:=⟨In.just h.bs hj hd,h.le,h.max,h.small⟩
theorem letter_info:(Tryz.prog.info? 211).map (fun i=>(i.zero,i.size,i.bytes))=some (some (.agg #[.int .i64 0,.int .i64 0,.slice none 0 0]),3,40):=by kernel_rfl
theorem letterE:Elem Tryz.prog 107 211 3 40 (.agg #[.int .i64 0,.int .i64 0,.slice none 0 0]):=⟨Tryz.underlying107,info_parts letter_info,rfl,by decide,by decide⟩
theorem own_any (w:World) (V:Nat→Prop) (b:Lt) (h:LtIn w V b) :
 Calls Tryz.prog 124 #[.agg #[.int .i64 b.f,.int .i64 b.t,.slice b.A b.m b.c]] w fun e w'=>∃ A' c',e=.returned (.agg #[.int .i64 b.f,.int .i64 b.t,.slice A' b.m c'])∧LtIn w' (New w w') ⟨b.f,b.t,A',b.m,c',b.bs⟩∧Grow w w':=by
 obtain⟨f,t,A,m,c,bs⟩:=b
 obtain⟨hd,hle,hmx,hsm⟩:=h
 dsimp only at hd hle hmx hsm ⊢
 have hg0:Grow w ((w.alloc (.cells #[.int .i64 f,.int .i64 t,.slice A m c] 211)).alloc (.cells #[.int .i64 0,.int .i64 0,.slice none 0 0] 211)):=((Below.refl _ _).alloc (Nat.le_refl _) _).alloc (by simp) _
 have hB0:=(Blk.made w 211 #[.int .i64 f,.int .i64 t,.slice A m c]).alloc (.cells #[.int .i64 0,.int .i64 0,.slice none 0 0] 211)
 have hB1:=Blk.made (w.alloc (.cells #[.int .i64 f,.int .i64 t,.slice A m c] 211)) 211 #[.int .i64 0,.int .i64 0,.slice none 0 0]
 obtain⟨x,HX⟩:∃ x:Nat,Hid (x=w.heap.size):=⟨_,rfl⟩
 have hx1:(w.alloc (.cells #[.int .i64 f,.int .i64 t,.slice A m c] 211)).heap.size=x+1:=by rw[HX.out];simp
 rw[hx1] at hB1
 rw[←HX.out] at hB0
 obtain⟨wa,HA⟩:∃ wa:World,Hid (wa=(w.alloc (.cells #[.int .i64 f,.int .i64 t,.slice A m c] 211)).alloc (.cells #[.int .i64 0,.int .i64 0,.slice none 0 0] 211)):=⟨_,rfl⟩
 rw[←HA.out] at hB0 hB1 hg0
 have c1:=hB0.cell 2
 have hsz:wa.heap.size=x+2:=by rw[HA.out,HX.out];simp
 go_enter Tryz.func124,Tryz.ntmps124
 go_wp2_with fail
 rw[←HA.out,←HX.out]
 refine (clone_any wa V A m c bs (In.grow hd hg0) (by omega)).mono ?_
 rintro e w1 ⟨A1,c1',rfl,hd1,hn1,hm1,hg1⟩
 have hC0:=hB0.grow hg1
 have hC1:=hB1.grow hg1
 have hxs:=hC1.lt
 have hk0:=(hC0.put 2 (.slice A1 m c1')).cell 0
 have hk1:=(hC0.put 2 (.slice A1 m c1')).cell 1
 have hk2:=(hC0.put 2 (.slice A1 m c1')).cell 2
 have f2:=hC0.frozen 2
 have c12:=hC0.cell 2
 have hD:=(hC1.far (p:=⟨x,2,none⟩) (show x+1≠x by omega) (.slice A1 m c1'))
 have d0:=hD.cell 0
 have d1:=hD.cell 1
 have d2:=hD.cell 2
 have g0:=hD.frozen 0
 have g1:=hD.frozen 1
 have g2:=hD.frozen 2
 go_wp2_with fail
 have hE:=((hD.put 0 (.int .i64 f)).put 1 (.int .i64 t)).put 2 (.slice A1 m c1')
 have e0:=hE.cell 0
 have e1:=hE.cell 1
 have e2:=hE.cell 2
 have hj:Just (fun b=>b=x∨b=x+1) w1 ((((w1.setCell ⟨x,2,none⟩ (.slice A1 m c1')).setCell ⟨x+1,0,none⟩ (.int .i64 f)).setCell ⟨x+1,1,none⟩ (.int .i64 t)).setCell ⟨x+1,2,none⟩ (.slice A1 m c1')):=
  ((((Just.of_grow (Grow.refl w1)).put (V:=fun b=>b=x∨b=x+1) (.inl rfl) 2 _).put (.inr rfl) 0 _).put (.inr rfl) 1 _).put (.inr rfl) 2 _
 have hgw:Grow w ((((w1.setCell ⟨x,2,none⟩ (.slice A1 m c1')).setCell ⟨x+1,0,none⟩ (.int .i64 f)).setCell ⟨x+1,1,none⟩ (.int .i64 t)).setCell ⟨x+1,2,none⟩ (.slice A1 m c1')):=
  Below.trans (hg0.trans hg1) (hj.below (B:=w.heap.size) (fun b hb=>by have:=HX.out;omega) (hg0.trans hg1).size)
 refine bodyPost_ret (v := .agg #[.int .i64 f,.int .i64 t,.slice A1 m c1']) (by simp[results,Tryz.results124,go_sem,e0,e1,e2]) rfl ⟨A1,c1',rfl,⟨?_,hn1,hm1,hsm⟩,hgw⟩
 refine In.mono (V:=New wa w1) (In.just hd1 hj fun b hb=>by have:=hb.1;omega) fun b hb=>⟨by have:=hb.1;have:=hg0.size;omega,by have:=hb.2;simpa [World.setCell] using this⟩
end Go.Proofs.YtmijcbfgfkeodaaGreatDoor.Ne
end
