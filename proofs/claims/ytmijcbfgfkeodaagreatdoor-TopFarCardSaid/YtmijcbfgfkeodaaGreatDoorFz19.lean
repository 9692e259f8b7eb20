/- St1, Vo3, Vo4, Vo5. -/
import Derived.Test.YtmijcbfgfkeodaaGreatDoorFz18
set_option linter.all false
set_option maxRecDepth 100000
section
namespace Go.Proofs.YtmijcbfgfkeodaaGreatDoor
open Go.RowKit Go.Hop Go.Proofs.YtmijcbfgfkeodaaGreatDoor.V
theorem iGrow_1 (w:World):Calls Tryz.prog 211 #[.slice none 0 0,.int .i64 1] w fun e w'=>∃ v,e=.returned v∧Row w' (fun b=>w.heap.size≤b∧b<w'.heap.size) 26 3 v 0 []∧Grow w w':=by
 obtain⟨i,hi,hz,hs,hb⟩:=idE.info
 go_enter Tryz.func211,Tryz.ntmps211
 go_wp2_with (at_builtin;refine Lib.wpList_append_run _ rfl _ _ _ _ rfl _ _ rfl rfl _ _ (Lib.run_append_nil_zeros _ 41 3 _ 26 i (.agg #[.int .i64 0,.int .i64 0,.int .i64 0]) .i64 .i64 Tryz.underlying41 Tryz.underlying3 hi hz 1 (by omega) (by omega) (by omega) (by rw[hb];omega)) ?_)
 have hge:=grownCap_ge w 1 0 26
 have hle:grownCap w 1 0 26≤maxLen:=grownCap_le_maxLen w 1 0 26 (by unfold maxLen;omega)
 generalize grownCap w 1 0 26=cap at hge hle
 have hcs:(Builtin.zeroCells #[Value.int .i64 0,.int .i64 0,.int .i64 0] 1++Builtin.zeroCells #[Value.int .i64 0,.int .i64 0,.int .i64 0] (cap-1)).size=cap*3:=by
  rw[Array.size_append,size_zeroCells,size_zeroCells,show (#[Value.int .i64 0,.int .i64 0,.int .i64 0]:Array Value).size=3 from rfl];omega
 generalize Builtin.zeroCells #[Value.int .i64 0,.int .i64 0,.int .i64 0] 1++Builtin.zeroCells #[Value.int .i64 0,.int .i64 0,.int .i64 0] (cap-1)=cur at hcs
 have hc0:¬ cap<0:=by omega
 go_wp2_with fail
 go_ret
 refine⟨_,rfl,⟨rfl,.inr ⟨w.heap.size,cap,cur,rfl,⟨Nat.le_refl _,by simp⟩,?_,Nat.zero_le _,hle,hcs,by simp⟩⟩,Grow.drew ((Below.refl _ _).alloc (Nat.le_refl _) _)⟩
 exact heap_alloc_new w _
theorem iConcat_1 (w:World) (b:Nat) (A:Option Addr) (c:Nat) (hB:Blk w b 41 #[.slice none 0 0,.slice A 1 c]) (D:Nat→Prop) (xs:List Value) (hxs:∀ u∈xs,u.oneCell'=true) (hI:In w D 3 A 1 xs) :
 Calls Tryz.prog 138 #[.slice (some ⟨b,0,none⟩) 2 2] w fun e w'=>∃ v,e=.returned v∧Row w' (fun b=>w.heap.size≤b∧b<w'.heap.size) 26 3 v 1 xs∧Grow w w':=by
 have e0:=hB.cell 0
 have e1:=hB.cell 1
 have hG:=iGrow_1 w
 go_enter Tryz.func138,Tryz.ntmps138
 go_wp2_with fail
 go_loopw [3,11] (fun s i wr=>((s=.int .i64 0∧i=.int .i64 0)∨(s=.int .i64 0∧i=.int .i64 1)∨(s=.int .i64 1∧i=.int .i64 2))∧w=wr) (fun _ i _=>2-(intOf i).toNat)
 case atStart=>exact⟨.inl ⟨rfl,rfl⟩,rfl⟩
 case round=>
  obtain⟨hsi,rfl⟩:=hrel
  rcases hsi with ⟨rfl,rfl⟩|⟨rfl,rfl⟩|⟨rfl,rfl⟩
  ·go_wp2_with fail
   go_roundw
   case rel=>exact⟨.inr (.inl ⟨rfl,rfl⟩),by trivial⟩
   case measure=>simp[intOf]
  ·go_wp2_with fail
   go_roundw
   case rel=>exact⟨.inr (.inr ⟨rfl,rfl⟩),by trivial⟩
   case measure=>simp[intOf]
  ·go_wp2_with fail
   refine hG.mono ?_
   rintro e w1 ⟨v1,rfl,hR1,hg1⟩
   go_wp2_with fail
   go_loopw [6,27] (fun v i wr=>((i=.int .i64 0∧Row wr (fun b=>w.heap.size≤b∧b<wr.heap.size) 26 3 v 0 [])∨(i=.int .i64 1∧Row wr (fun b=>w.heap.size≤b∧b<wr.heap.size) 26 3 v 0 [])∨(i=.int .i64 2∧Row wr (fun b=>w.heap.size≤b∧b<wr.heap.size) 26 3 v 1 xs))∧Grow w wr) (fun _ i _=>2-(intOf i).toNat)
   case atStart=>exact⟨.inl ⟨rfl,hR1⟩,hg1⟩
   case round=>
    obtain⟨hsi,hgr⟩:=hrel
    have e0:=(hB.grow hgr).cell 0
    have e1:=(hB.grow hgr).cell 1
    have hwr:=hgr.size
    rcases hsi with ⟨rfl,hR⟩|⟨rfl,hR⟩|⟨rfl,hR⟩
    ·go_wp2_with (at_builtin;refine stay ?_)
     refine stay_out ?_
     refine wpList_row idE _ rfl (.tmp 31) (.tmp 32) rfl _ 0 [] rfl hR 0 none 0 0 [] rfl Reads.nil (by simp) (by decide) ?_
     intro v2 w2 hR2 hj2
     have hg2:Grow w w2:=Below.trans hgr (hj2.below (B:=w.heap.size) (fun b hb=>hb.1) hwr)
     have hR2:=hR2.mono (V':=fun b=>w.heap.size≤b∧b<w2.heap.size) fun b hb=>hb.elim (fun h=>⟨h.1,Nat.lt_of_lt_of_le h.2 hj2.size⟩) fun h=>⟨Nat.le_trans hwr h.1,h.2⟩
     go_wp2_with fail
     go_roundw
     case rel=>exact⟨.inr (.inl ⟨rfl,hR2⟩),hg2⟩
     case measure=>simp[intOf]
    ·go_wp2_with (at_builtin;refine stay ?_)
     refine stay_out ?_
     refine wpList_row idE _ rfl (.tmp 31) (.tmp 32) rfl _ 0 [] rfl hR _ A 1 c xs rfl (hI.grow hgr).reads hxs (by decide) ?_
     intro v2 w2 hR2 hj2
     have hg2:Grow w w2:=Below.trans hgr (hj2.below (B:=w.heap.size) (fun b hb=>hb.1) hwr)
     have hR2:=hR2.mono (V':=fun b=>w.heap.size≤b∧b<w2.heap.size) fun b hb=>hb.elim (fun h=>⟨h.1,Nat.lt_of_lt_of_le h.2 hj2.size⟩) fun h=>⟨Nat.le_trans hwr h.1,h.2⟩
     go_wp2_with fail
     go_roundw
     case rel=>exact⟨.inr (.inr ⟨rfl,hR2⟩),hg2⟩
     case measure=>simp[intOf]
    ·go_wp2_with fail
     go_ret
     exact⟨_,rfl,hR,hgr⟩
theorem iins_1 (w:World) (A:Option Addr) (c:Nat) (fv:Value):Calls Tryz.prog 275 #[.slice A 1 c,.int .i64 0,.int .i64 1,fv] w fun e w'=>e=.returned (.tuple #[])∧w=w':=by
 go_enter Tryz.func275,Tryz.ntmps275
 go_wp2_with fail
 go_loopw [8] (fun i wr=>i=.int .i64 1∧w=wr) (fun _ _=>0)
 case atStart=>exact⟨rfl,rfl⟩
 case round=>
  obtain⟨rfl,rfl⟩:=hrel
  go_wp2_with fail
  go_end0
  exact⟨rfl,rfl⟩
theorem ipdq_1 (w:World) (A:Option Addr) (c:Nat) (l:Int) (fv:Value):Calls Tryz.prog 212 #[.slice A 1 c,.int .i64 0,.int .i64 1,.int .i64 l,fv] w fun e w'=>e=.returned (.tuple #[])∧w=w':=by
 have hI:=iins_1 w A c fv
 go_enter Tryz.func212,Tryz.ntmps212
 go_wp2_with fail
 go_loopw [1,2] (fun a b wr=>a=.int .i64 0∧b=.int .i64 1∧w=wr) (fun _ _ _=>0)
 case atStart=>exact⟨rfl,rfl,rfl⟩
 case round=>
  obtain⟨rfl,rfl,rfl⟩:=hrel
  go_wp2_with fail
  refine hI.mono ?_
  rintro e w1 ⟨rfl,rfl⟩
  go_wp2_with fail
  refine bodyPost_ret (results_none rfl _ _ _) rfl ?_
  exact⟨rfl,rfl⟩
theorem iSort_1 (w:World) (A:Option Addr) (c:Nat) (fv:Value):Calls Tryz.prog 139 #[.slice A 1 c,fv] w fun e w'=>e=.returned (.tuple #[])∧w=w':=by
 have hL:=len_one w
 have hP:=fun l=>ipdq_1 w A c l fv
 go_enter Tryz.func139,Tryz.ntmps139
 go_wp2_with fail
 refine hL.mono ?_
 rintro e w1 ⟨l,rfl,rfl⟩
 go_wp2_with fail
 refine (hP l).mono ?_
 rintro e w1 ⟨rfl,rfl⟩
 go_wp2_with fail
 go_end0
 exact⟨rfl,rfl⟩
theorem iCompact_1 (w:World) (A:Option Addr) (c:Nat):Calls Tryz.prog 142 #[.slice A 1 c] w fun e w'=>e=.returned (.slice A 1 c)∧w=w':=by
 go_enter Tryz.func142,Tryz.ntmps142
 go_wp2_with fail
 go_ret
 exact⟨rfl,rfl⟩
theorem iClip_1 (w:World) (A:Option Addr) (c:Nat) (hc:1≤c):Calls Tryz.prog 141 #[.slice A 1 c] w fun e w'=>e=.returned (.slice A 1 1)∧w=w':=by
 have h1:¬ c<1:=by omega
 go_enter Tryz.func141,Tryz.ntmps141
 cases A with
 | none=>
   go_wp2_with fail
   go_ret
   exact⟨rfl,rfl⟩
 | some a=>
   go_wp2_with fail
   go_ret
   exact⟨rfl,rfl⟩
def StateAt (s x d:Nat) (t h:Nat) (es:List En) (n:Int) (bs:List UInt8):Thing:=fun w V=>∃ (A:Option Addr) (c:Nat) (q:List El),q.map El.e=es∧q.length≤c∧c≤maxLen∧Many [EnsT A q,Cell s 259 (StC t h (.slice A q.length c) x),LogAt x d n bs bs.length] w V
theorem state_framed (A:Option Addr) (q:List El) (s x d:Nat) (cs:Array Value) (n:Int) (bs:List UInt8) (k:Nat):AllFramed [EnsT A q,Cell s 259 cs,LogAt x d n bs k]:=((AllFramed.nil.cons (LogAt.framed _ _ _ _ _)).cons (Cell.framed _ _ _)).cons (EnsT.framed _ _)
theorem StateAt.framed (s x d:Nat) (t h:Nat) (es:List En) (n:Int) (bs:List UInt8):Framed (StateAt s x d t h es n bs):=fun w w' V ⟨A,c,q,h1,h2,h3,h4⟩ hk=>⟨A,c,q,h1,h2,h3,Many.framed _ (state_framed _ _ _ _ _ _ _ _ _) w w' V h4 hk⟩
theorem StateAt.cells {s x d:Nat} {t h:Nat} {es:List En} {n:Int} {bs:List UInt8} {w:World} {V:Nat→Prop} (hS:StateAt s x d t h es n bs w V):∃ (A:Option Addr) (c:Nat) (q:List El),q.map El.e=es∧q.length≤c∧c≤maxLen∧(∃ D,Ens w D A q)∧Blk w s 259 (StC t h (.slice A q.length c) x):=by
 obtain⟨A,c,q,h1,h2,h3,V1,V2,hE,⟨V3,V4,hB,_⟩,_⟩:=hS
 exact⟨A,c,q,h1,h2,h3,⟨V1,hE⟩,hB.2⟩
theorem sTerm_any (w:World) (s x d:Nat) (t h:Nat) (es:List En) (n:Int) (bs:List UInt8) (V:Nat→Prop) (hS:StateAt s x d t h es n bs w V):Calls Tryz.prog 83 #[.pointer (some ⟨s,0,none⟩)] w fun e w'=>e=.returned (.int .i64 (t:Int))∧w=w':=by
 obtain⟨A,c,q,_,_,_,_,hB⟩:=hS.cells
 unfold StC at hB
 have c0:=hB.cell 0
 go_enter Tryz.func83,Tryz.ntmps83
 go_wp2_with fail
 go_ret
 exact⟨rfl,rfl⟩
theorem sHad_any (w:World) (s x d:Nat) (t h:Nat) (es:List En) (n:Int) (bs:List UInt8) (V:Nat→Prop) (hS:StateAt s x d t h es n bs w V):Calls Tryz.prog 88 #[.pointer (some ⟨s,0,none⟩)] w fun e w'=>e=.returned (.int .i64 (h:Int))∧w=w':=by
 obtain⟨A,c,q,_,_,_,_,hB⟩:=hS.cells
 unfold StC at hB
 have c0:=hB.cell 1
 go_enter Tryz.func88,Tryz.ntmps88
 go_wp2_with fail
 go_ret
 exact⟨rfl,rfl⟩
theorem sLen_any (w:World) (s x d:Nat) (t h:Nat) (es:List En) (n:Int) (bs:List UInt8) (V:Nat→Prop) (hS:StateAt s x d t h es n bs w V):Calls Tryz.prog 171 #[.pointer (some ⟨s,0,none⟩)] w fun e w'=>e=.returned (.int .i64 (es.length:Int))∧w=w':=by
 obtain⟨A,c,q,hq,_,_,_,hB⟩:=hS.cells
 have hl:es.length=q.length:=by rw[←hq,List.length_map]
 unfold StC at hB
 have c0:=hB.cell 2
 rw[hl]
 clear hl
 go_enter Tryz.func171,Tryz.ntmps171
 go_wp2_with fail
 go_ret
 exact⟨rfl,rfl⟩
theorem sLog_any (w:World) (s x d:Nat) (t h:Nat) (es:List En) (n:Int) (bs:List UInt8) (V:Nat→Prop) (hS:StateAt s x d t h es n bs w V) (hn:es.length≤1048576):Calls Tryz.prog 89 #[.pointer (some ⟨s,0,none⟩)] w fun e w'=>∃ u,e=.returned u∧IsEns es w u w'∧(∃ A',u=.slice A' es.length es.length)∧Grow w w':=by
 obtain⟨A,c,q,hq,_,_,⟨D,hE⟩,hB⟩:=hS.cells
 have hl:es.length=q.length:=by rw[←hq,List.length_map]
 have hC:=Copies_any w D A c q hE (by omega)
 rw[hq,←hl] at hC
 unfold StC at hB
 rw[←hl] at hB
 have c0:=hB.cell 2
 clear hl
 go_enter Tryz.func89,Tryz.ntmps89
 go_wp2_with fail
 refine hC.mono ?_
 rintro e w1 ⟨u,rfl,hI,hu,hg⟩
 go_wp2_with fail
 go_ret
 exact⟨u,rfl,hI,hu,hg⟩
theorem sPromise_ok (w:World) (s x d:Nat) (t h TE:Nat) (es:List En) (n:Int) (bs:List UInt8) (htt:t<TE) (hte:TE≤9223372036854775807) (hha:h≤9223372036854775807) (hok:∀ e∈es,e.Ok) (hn:es.length≤1024) (hn0:0≤n∧n≤1099511627776) (hroom:Room bs (wordB TE h es)) :
 Turns Tryz.prog 84 #[.pointer (some ⟨s,0,none⟩),.int .i64 (TE:Int)] (fun e=>e=.returned (.bool true)) (StateAt s x d t h es n bs) (StateAt s x d TE h es (n+1) (bs++frame (wordB TE h es))) w:=by
 rintro V ⟨A,c,q,hq,hqc,hcm,hM⟩ hV
 subst hq
 rw[List.length_map] at hn
 have hFr:=state_framed A q s x d (StC t h (.slice A q.length c) x) n bs bs.length
 obtain⟨_,_,_,⟨_,_,hBk0,_⟩,_⟩:=id hM
 have hBk:Blk w s 259 #[.int .i64 (t:Int),.int .i64 (h:Int),.slice A q.length c,.pointer (some ⟨x,0,none⟩)]:=hBk0.2
 clear hBk0
 have dt:decide ((TE:Int) > (t:Int))=true:=decide_eq_true (by omega)
 have ht':(t:Int)<(TE:Int):=by omega
 have k166:∀ (vs:Array Value) (w:World),(callFunc 166 vs).run Tryz.prog w=.ok (.enter 166 vs) w:=fun vs w=>by go_simp
 go_enter Tryz.func84,Tryz.ntmps84
 go_wp2_with fail
 refine wp_region_flow 21 28 [] rfl rfl (by kernel_rfl) (by kernel_rfl) (by kernel_rfl) ?_ ?_
 ·intro x hx φ he
  cases hx
 intro ops' A' K' T hops hA' hK hT
 refine fl_mvN 5 (.int .i64 (TE:Int)) ?_
 refine fl_mvN 6 (.pointer (some ⟨s,0,none⟩)) ?_
 refine fl_op1G 7 (.tmp 6) (.pointer (some ⟨s,0,none⟩)) (.pointer (some ⟨s,0,none⟩)) ?_
 refine fl_op1G 8 (.tmp 7) (.pointer (some ⟨s,0,none⟩)) (.pointer (some ⟨s,0,none⟩)) ?_
 refine fl_op1G 9 (.tmp 8) (.pointer (some ⟨s,0,none⟩)) (.pointer (some ⟨s,0,none⟩)) ?_
 refine fl_op1N 10 (.tmp 9) (.pointer (some ⟨s,0,none⟩)) (.int .i64 (t:Int)) (fun ρ h1 kk w1 (hg:Grow _ w1) hb hf=>by have c:=(hBk.grow hg).cell 0;go_simp) ?_
 refine fl_op2N 11 (.tmp 5) (.tmp 10) (.int .i64 (TE:Int)) (.int .i64 (t:Int)) (.bool true) (fun ρ h1 h2 kk w1 (hg:Grow _ w1) hb hf=>by go_simp;try exact dt) ?_
 refine fl_mvN 12 (.bool true) ?_
 refine fl_mvW 13 (wif hops 7 true 12 true) (.pointer (some ⟨s,0,none⟩)) ?_
 refine fl_mvW 14 (wif hops 7 true 12 true) (.int .i64 (TE:Int)) ?_
 refine fl_mvW 15 (wif hops 7 true 12 true) (.pointer (some ⟨s,0,none⟩)) ?_
 refine fl_op1W 16 (wif hops 7 true 12 true) (.tmp 15) (.pointer (some ⟨s,0,none⟩)) (.pointer (some ⟨s,0,none⟩)) (fun ρ h1 kk w1 (hg:Grow _ w1) hb hf=>by go_simp) ?_
 refine fl_op1W 17 (wif hops 7 true 12 true) (.tmp 16) (.pointer (some ⟨s,0,none⟩)) (.pointer (some ⟨s,0,none⟩)) (fun ρ h1 kk w1 (hg:Grow _ w1) hb hf=>by go_simp) ?_
 refine fl_op1W 18 (wif hops 7 true 12 true) (.tmp 17) (.pointer (some ⟨s,0,none⟩)) (.pointer (some ⟨s,1,none⟩)) (fun ρ h1 kk w1 (hg:Grow _ w1) hb hf=>by go_simp) ?_
 refine fl_op1W 19 (wif hops 7 true 12 true) (.tmp 18) (.pointer (some ⟨s,1,none⟩)) (.int .i64 (h:Int)) (fun ρ h1 kk w1 (hg:Grow _ w1) hb hf=>by have c:=(hBk.grow hg).cell 1;go_simp) ?_
 refine fl_mvW 20 (wif hops 7 true 12 true) (.pointer (some ⟨s,0,none⟩)) ?_
 refine fl_op1W 21 (wif hops 7 true 12 true) (.tmp 20) (.pointer (some ⟨s,0,none⟩)) (.pointer (some ⟨s,0,none⟩)) (fun ρ h1 kk w1 (hg:Grow _ w1) hb hf=>by go_simp) ?_
 refine fl_op1W 22 (wif hops 7 true 12 true) (.tmp 21) (.pointer (some ⟨s,0,none⟩)) (.pointer (some ⟨s,0,none⟩)) (fun ρ h1 kk w1 (hg:Grow _ w1) hb hf=>by go_simp) ?_
 refine fl_op1W 23 (wif hops 7 true 12 true) (.tmp 22) (.pointer (some ⟨s,0,none⟩)) (.pointer (some ⟨s,2,none⟩)) (fun ρ h1 kk w1 (hg:Grow _ w1) hb hf=>by go_simp) ?_
 refine fl_op1W 24 (wif hops 7 true 12 true) (.tmp 23) (.pointer (some ⟨s,2,none⟩)) (.slice A q.length c) (fun ρ h1 kk w1 (hg:Grow _ w1) hb hf=>by have c:=(hBk.grow hg).cell 2;go_simp) ?_
 refine fl_op3 25 (by rfl) (by decide) (wanted_if hops 7 true (by rfl) 12 (by rfl) true (by rfl)) (by rw[hK.out];rfl) (by rfl) (.tmp 14) (.tmp 19) (.tmp 24) (.int .i64 (TE:Int)) (.int .i64 (h:Int)) (.slice A q.length c) (by rfl) (by rfl) (by rfl) (.agg #[.int .i64 (TE:Int),.int .i64 (h:Int),.slice A q.length c]) (fun ρ h1 h2 h3 kk w1 (hg:Grow _ w1) hb hf=>by go_simp) ?_
 refine fl_end (fun _ _ w1 (hg:Grow _ w1) _ hfacts=>hT _ _ ?_)
 clear hops hA' hK hT
 simp only[putsL,Act.put,List.setIfInBounds_toArray,List.set_cons_zero,List.set_cons_succ,List.drop_succ_cons,List.drop_zero]
 obtain⟨V1,V2,hE,hM1,hc1,hc2,hdis⟩:=Many.framed _ hFr w w1 V hM fun b hb=>hg.block b (hV b hb)
 have hs1:=hg.size
 have hk:=keep_ok w1 s x d t h (.slice A q.length c) n bs TE h V1 A c q hte hha hE (fun y hy=>hok _ (List.mem_map.2 ⟨y,hy,rfl⟩)) hn hn0 hroom V2 hM1 (fun b hb=>by have:=hV b (hc2 b hb);omega)
 go_wp2_with fail
 refine hk.mono ?_
 rintro e w2 ⟨rfl,hM2,hj2⟩
 go_wp2_with fail
 go_ret
 refine⟨rfl,⟨A,c,q,rfl,hqc,hcm,V1,Ext V2 w1 w2,hE.just hj2 (fun b hb hv=>hdis b hb hv),hM2,fun b hb => .inl (hc1 b hb),fun b hb=>?_,fun b hb hv=>?_⟩,(Just.of_grow hg).trans (hj2.imp hc2)⟩
 ·rcases hb with hb|hb
  ·exact .inl (hc2 b hb)
  ·exact .inr ⟨by have:=hb.1;omega,hb.2⟩
 ·rcases hv with hv|hv
  ·exact hdis b hb hv
  ·have:=hV b (hc1 b hb);have:=hv.1;omega
def IsBlk (B:Nat) (t:TypeId) (cs:Array Value) (u:Value) (w:World):Prop:=∃ g,u=.pointer (some ⟨g,0,none⟩)∧Blk w g t cs∧B≤g
theorem isBlk_lasting (B:Nat) (t:TypeId) (cs:Array Value):Lasting (IsBlk B t cs):=fun u w w' ⟨g,e,h,hb⟩ hg=>⟨g,e,h.grow hg,hb⟩
theorem run_alcW (w:World) (ρ:Operand→Value) (o:Oper) (ho:o.op=.alloc 257):(execOp ρ o).run Tryz.prog w=.ok (.value (.pointer (some ⟨w.heap.size,0,none⟩))) (w.alloc (.cells #[.int .i64 0,.int .i64 0,.slice none 0 0] 257)):=by
 obtain⟨dst,op,ty,pos,after,guard⟩:=o
 simp only at ho
 subst ho
 go_simp
set_option maxHeartbeats 1000000 in
theorem sAccept_0 (w:World) (s x d:Nat) (t h TE:Nat) (es es':List En) (n:Int) (bs:List UInt8) (D:Nat→Prop) (A9:Option Addr) (c':Nat) (q':List El) (hq':Ens w D A9 q') (hqe:q'.map El.e=es') (htt:t≤TE) (h1:1≤TE) (hlong:h<TE) (hte:TE≤9223372036854775807) (hok':∀ e∈es',e.Ok) (hn':es'.length≤128) (hn0:0≤n∧n≤1099511627776) (hroom:Room bs (wordB TE TE es')) :
 Turns Tryz.prog 170 #[.pointer (some ⟨s,0,none⟩),.int .i64 (TE:Int),.slice A9 es'.length c'] (fun e=>e=.returned (.bool true)) (StateAt s x d t h es n bs) (StateAt s x d TE TE es' (n+1) (bs++frame (wordB TE TE es'))) w:=by
 rintro V ⟨A,c,q,hq,hqc,hcm,hM⟩ hV
 have hl':es'.length=q'.length:=by rw[←hqe,List.length_map]
 have hl0:es.length=q.length:=by rw[←hq,List.length_map]
 clear hq
 have hokq:∀ y∈q',y.e.Ok:=fun y hy=>hok' _ (by rw[←hqe];exact List.mem_map.2 ⟨y,hy,rfl⟩)
 rw[hl'] at hn' ⊢
 have hFr:=state_framed A q s x d (StC t h (.slice A q.length c) x) n bs bs.length
 obtain⟨_,_,_,⟨_,_,hBk0,_⟩,_⟩:=id hM
 have hBk:Blk w s 259 #[.int .i64 (t:Int),.int .i64 (h:Int),.slice A q.length c,.pointer (some ⟨x,0,none⟩)]:=hBk0.2
 clear hBk0
 have d1:decide (TE<t)=false:=decide_eq_false (by omega)
 have d2:decide ((TE:Int)<1)=false:=decide_eq_false (by omega)
 have d3:decide ((q'.length:Int) > 128)=false:=decide_eq_false (by omega)
 have d3':decide ((128:Int)<(q'.length:Int))=false:=decide_eq_false (by omega)
 have dh:decide (h<TE)=true:=decide_eq_true (by omega)
 have k0:=hBk.cell 0
 have k1:=hBk.cell 1
 have k2:=hBk.cell 2
 obtain⟨m,HM⟩:∃ m,Hid (m=q'.length):=⟨_,rfl⟩
 rw[←HM.out] at d3 d3' hn' ⊢
 go_enter Tryz.func170,Tryz.ntmps170
 go_wp2_with fail
 clear k0 k1 k2
 go_loopw [29] (fun i wr=>∃ k:Nat,k≤m∧i=.int .i64 (k:Int)∧Grow w wr) (fun i _=>m-(intOf i).toNat)
 case atStart=>exact⟨0,by omega,rfl,Grow.refl _⟩
 case round=>
  obtain⟨k,hkn,rfl,hgr⟩:=hrel
  by_cases hk:k<m
  ·have hk2:k<q'.length:=by have:=HM.out;omega
   have hqr:=hq'.grow hgr
   obtain⟨ad,hkq,rfl,hVk,hBk2,e0,e1⟩:=hqr.1.rec_ (by omega) el_len hk2
   have hbin:=hqr.2 _ (List.getElem_mem hkq)
   have hokb:=hokq _ (List.getElem_mem hkq)
   generalize q'[k]=b at hbin e0 e1 hokb
   have hRt:=fun w1 (hg1:Grow wr w1)=>Right_ok w1 b.e D b.A b.c hokb (In.grow hbin.1 hg1)
   obtain⟨⟨bk,ag,sh,sq,ep,ds,se,fr,tg⟩,Ab,cb⟩:=b
   dsimp only[El.cells,En.agg] at e0 e1 hRt
   have e2:=e1 1 _ rfl
   have e3:=e1 2 _ rfl
   have e4:=e1 3 _ rfl
   have e5:=e1 4 _ rfl
   have e6:=e1 5 _ rfl
   have e7:=e1 6 _ rfl
   have e8:=e1 7 _ rfl
   have e1:=e1 0 _ rfl
   have e0:=e0 _ rfl
   have hga:=grow_alloc wr (.cells #[.int .i64 bk,.int .i64 ag,.int .i64 sh,.int .i64 sq,.int .i64 ep,.slice Ab ds.length cb,.string se,.int .i64 fr,.int .i64 tg] 32)
   have hRt:=hRt _ hga
   clear hbin hokb hqr
   go_wp2_with fail
   refine hRt.mono ?_
   rintro e w2 ⟨rfl,hg2⟩
   go_wp2_with fail
   go_roundw
   case rel=>exact⟨k+1,by omega,by go_num,hgr.trans (hga.trans hg2)⟩
   case measure=>simp[intOf];omega
  ·obtain rfl:k=m:=by omega
   have hBr:=hBk.grow hgr
   go_wp2_with fail
   refine wp_region_flow 13 89 [(12,.inr (fun _=>IsBlk wr.heap.size 257 #[.int .i64 0,.int .i64 0,.slice none 0 0]))] rfl rfl (by kernel_rfl) (by kernel_rfl) (by kernel_rfl) ?_ ?_
   ·intro x hx φ he
    simp only[List.mem_cons,List.not_mem_nil,or_false] at hx
    rcases hx with rfl<;>cases he
    all_goals first|exact lasts_quiet (lasting_bytes _)|exact lasts_quiet (isBlk_lasting _ _ _)
   intro ops' A' K' T hops hA' hK hT
   refine fl_mvN 37 (.int .i64 (TE:Int)) ?_
   refine fl_mvN 38 (.pointer (some ⟨s,0,none⟩)) ?_
   refine fl_op1G 39 (.tmp 38) (.pointer (some ⟨s,0,none⟩)) (.pointer (some ⟨s,0,none⟩)) ?_
   refine fl_op1G 40 (.tmp 39) (.pointer (some ⟨s,0,none⟩)) (.pointer (some ⟨s,0,none⟩)) ?_
   refine fl_op1G 41 (.tmp 40) (.pointer (some ⟨s,0,none⟩)) (.pointer (some ⟨s,1,none⟩)) ?_
   refine fl_op1N 42 (.tmp 41) (.pointer (some ⟨s,1,none⟩)) (.int .i64 (h:Int)) (fun ρ h1 kk w1 (hg:Grow _ w1) hb hf=>by have c:=(hBr.grow hg).cell 1;go_simp) ?_
   refine fl_mvN 43 (.pointer (some ⟨s,0,none⟩)) ?_
   refine fl_op1G 44 (.tmp 43) (.pointer (some ⟨s,0,none⟩)) (.pointer (some ⟨s,0,none⟩)) ?_
   refine fl_op1G 45 (.tmp 44) (.pointer (some ⟨s,0,none⟩)) (.pointer (some ⟨s,0,none⟩)) ?_
   refine fl_op1G 46 (.tmp 45) (.pointer (some ⟨s,0,none⟩)) (.pointer (some ⟨s,2,none⟩)) ?_
   refine fl_op1N 47 (.tmp 46) (.pointer (some ⟨s,2,none⟩)) (.slice A q.length c) (fun ρ h1 kk w1 (hg:Grow _ w1) hb hf=>by have c:=(hBr.grow hg).cell 2;go_simp) ?_
   refine fl_op3 48 (by rfl) (by decide) (wanted_none (by rfl)) (by rw[hK.out];rfl) (by rfl) (.tmp 37) (.tmp 42) (.tmp 47) (.int .i64 (TE:Int)) (.int .i64 (h:Int)) (.slice A q.length c) (by rfl) (by rfl) (by rfl) (.agg #[.int .i64 (TE:Int),.int .i64 (h:Int),.slice A q.length c]) (fun ρ h1 h2 h3 kk w1 (hg:Grow _ w1) hb hf=>by go_simp) ?_
   refine fl_any 9 (by rfl) (by decide) (wanted_none (by rfl)) (fun _=>IsBlk wr.heap.size 257 #[.int .i64 0,.int .i64 0,.slice none 0 0]) (by rw[hK.out];rfl) (fun kk w1 (hg:Grow _ w1) hb hf=>by refine upon_behindAny (φ:=fun _=>IsBlk wr.heap.size 257 #[.int .i64 0,.int .i64 0,.slice none 0 0]) (by rfl) ?_;exact flowUpon_value (run_alcW w1 _ _ rfl) ⟨grow_alloc w1 _,_,rfl,Blk.made w1 _ _,hg.size⟩) (fun v9=>?_)
   refine fl_end (fun _ _ w1 (hg:Grow _ w1) _ hfacts=>hT _ _ ?_)
   clear hops hA' hK hT
   simp only[putsL,Act.put,List.setIfInBounds_toArray,List.set_cons_zero,List.set_cons_succ,List.drop_succ_cons,List.drop_zero]
   have hgx:=hgr.trans hg
   have hB1:=hBr.grow hg
   obtain⟨y,rfl,hY0,hy0⟩:IsBlk wr.heap.size 257 #[.int .i64 0,.int .i64 0,.slice none 0 0] v9 w1:=hfacts.1
   clear hfacts
   go_wp2_with (refine wpList_fill rfl 257 _ _ rfl _ rfl [.int .i64 (TE:Int),.int .i64 (h:Int),.slice A q.length c] rfl hY0 rfl rfl (by kernel_rfl) ?_;intro wb hY hjb hsb;refine stay ?_)
   refine stay_out ?_
   have hyw:w.heap.size≤y:=by have:=hgr.size;omega
   have hgy:Below w.heap.size w1 wb:=hjb.below (B:=w.heap.size) (fun b hb=>by rw[hb];exact hyw) hgx.size
   have hgb:Grow w wb:=Below.trans hgx hgy
   have hB2:=hBk.grow hgb
   have k1:=hB2.cell 1
   have k2:=hB2.cell 2
   have hqb:=hq'.grow hgb
   have hC:=Copies_any _ D A9 c' q' hqb (by have:=HM.out;omega)
   rw[←HM.out,hqe] at hC
   go_wp2_with fail
   clear k1 k2
   refine hC.mono ?_
   rintro e w2 ⟨u,rfl,hI,_,hg2⟩
   obtain⟨A2,c2,q2,rfl,hE2,hqe2,hqc2,hcm2⟩:=hI
   have hY2:=hY.grow hg2
   have hY3:Blk ((w2.setCell ⟨y,1,none⟩ (.int .i64 (TE:Int))).setCell ⟨y,2,none⟩ (.slice A2 q2.length c2)) y 257 #[.int .i64 (TE:Int),.int .i64 (TE:Int),.slice A2 q2.length c2]:=(hY2.put 1 _).put 2 _
   have jY:=((Just.of_grow (V:=fun b=>b=y) (Grow.refl w2)).put rfl 1 (.int .i64 (TE:Int))).put (V:=fun b=>b=y) rfl 2 (.slice A2 q2.length c2)
   have y1:=hY2.cell 1
   have yf1:=hY2.frozen 1
   have z2:=(hY2.put 1 (.int .i64 (TE:Int))).cell 2
   have zf2:=(hY2.put 1 (.int .i64 (TE:Int))).frozen 2
   have v0:=hY3.cell 0
   have v1:=hY3.cell 1
   have v2:=hY3.cell 2
   have hgs:Grow w w2:=hgb.trans hg2
   obtain⟨V1,V2,hE,hM1,hc1,hc2,hdis⟩:=Many.framed _ hFr w w2 V hM fun b hb=>hgs.block b (hV b hb)
   have hF2:AllFramed [Cell s 259 (StC t h (.slice A q.length c) x),LogAt x d n bs bs.length]:=(AllFramed.nil.cons (LogAt.framed _ _ _ _ _)).cons (Cell.framed _ _ _)
   have hs2:=hgs.size
   have hM3:=Many.framed _ hF2 w2 _ V2 hM1 fun b hb=>jY.block b (by have:=hV b (hc2 b hb);omega) (fun e=>by have:=hV b (hc2 b hb);omega)
   have hE3:=hE2.just jY (fun b hb e=>by have:=hb.1;have:=hY.lt;omega)
   have hb2:∀ b,V2 b→b<w.heap.size:=fun b hb=>hV b (hc2 b hb)
   have hNew:∀ b,New wb w2 b→w.heap.size≤b∧b<w2.heap.size:=fun b hb=>by
    have:=hgb.size;exact⟨by have:=hb.1;omega,hb.2⟩
   obtain⟨w3,HW3⟩:∃ w3:World,Hid (w3=(w2.setCell ⟨y,1,none⟩ (.int .i64 (TE:Int))).setCell ⟨y,2,none⟩ (.slice A2 q2.length c2)):=⟨_,rfl⟩
   have hs3:w3.heap.size=w2.heap.size:=by rw[HW3.out,setCell_size,setCell_size]
   have hk:=keep_ok w3 s x d t h (.slice A q.length c) n bs TE TE (New wb w2) A2 c2 q2 hte hte (by rw[HW3.out];exact hE3) (fun y hy=>hok' _ (by rw[←hqe2];exact List.mem_map.2 ⟨y,hy,rfl⟩)) (by have h5:q2.length=es'.length:=(by rw[←hqe2,List.length_map]);have:=HM.out;omega) hn0 (by rw[hqe2];exact hroom) V2 (by rw[HW3.out];exact hM3) (fun b hb=>by have:=hb2 b hb;omega)
   rw[hqe2] at hk
   go_wp2_with fail
   rw[←HW3.out]
   refine hk.mono ?_
   rintro e w4 ⟨rfl,hM4,hj4⟩
   go_wp2_with fail
   go_ret
   rw[←HW3.out] at hE3 jY
   have hjy:Just (fun b=>V b∨w.heap.size≤b) w2 w3:=jY.imp fun b hb => .inr (by rw[hb];exact hyw)
   have J:Just (fun b=>V b∨w.heap.size≤b) w w4:=((Just.of_grow hgs).trans hjy).trans (hj4.imp fun b hb => .inl (hc2 b hb))
   have hs4:=hj4.size
   refine⟨rfl,⟨A2,c2,q2,hqe2,hqc2,hcm2,New wb w2,Ext V2 w3 w4,hE3.just hj4 (fun b hb hv=>by have:=hb2 b hv;have:=hNew b hb;omega),hM4,fun b hb => .inr ⟨(hNew b hb).1,by have:=(hNew b hb).2;omega⟩,fun b hb=>?_,fun b hb hv=>?_⟩,⟨J.os,J.tape,J.output,J.size,fun b hb hne=>J.block b hb fun h=>h.elim hne (fun h=>by omega)⟩⟩
   ·rcases hb with hb|hb
    ·exact .inl (hc2 b hb)
    ·exact .inr ⟨by have:=hb.1;omega,hb.2⟩
   ·rcases hv with hv|hv
    ·have:=hb2 b hv;have:=hNew b hb;omega
    ·have:=(hNew b hb).2;have:=hv.1;omega
set_option maxHeartbeats 1000000 in
theorem sAccept_1 (w:World) (s x d:Nat) (t TE:Nat) (es es':List En) (n:Int) (bs:List UInt8) (D:Nat→Prop) (A9:Option Addr) (c':Nat) (q':List El) (hq':Ens w D A9 q') (hqe:q'.map El.e=es') (htt:t≤TE) (h1:1≤TE) (hlong:es.length<es'.length) (hte:TE≤9223372036854775807) (hok':∀ e∈es',e.Ok) (hn':es'.length≤128) (hn0:0≤n∧n≤1099511627776) (hroom:Room bs (wordB TE TE es')) :
 Turns Tryz.prog 170 #[.pointer (some ⟨s,0,none⟩),.int .i64 (TE:Int),.slice A9 es'.length c'] (fun e=>e=.returned (.bool true)) (StateAt s x d t TE es n bs) (StateAt s x d TE TE es' (n+1) (bs++frame (wordB TE TE es'))) w:=by
 rintro V ⟨A,c,q,hq,hqc,hcm,hM⟩ hV
 have hl':es'.length=q'.length:=by rw[←hqe,List.length_map]
 have hl0:es.length=q.length:=by rw[←hq,List.length_map]
 clear hq
 have hokq:∀ y∈q',y.e.Ok:=fun y hy=>hok' _ (by rw[←hqe];exact List.mem_map.2 ⟨y,hy,rfl⟩)
 rw[hl'] at hn' ⊢
 have hFr:=state_framed A q s x d (StC t TE (.slice A q.length c) x) n bs bs.length
 obtain⟨_,_,_,⟨_,_,hBk0,_⟩,_⟩:=id hM
 have hBk:Blk w s 259 #[.int .i64 (t:Int),.int .i64 (TE:Int),.slice A q.length c,.pointer (some ⟨x,0,none⟩)]:=hBk0.2
 clear hBk0
 have d1:decide (TE<t)=false:=decide_eq_false (by omega)
 have d2:decide ((TE:Int)<1)=false:=decide_eq_false (by omega)
 have d3:decide ((q'.length:Int) > 128)=false:=decide_eq_false (by omega)
 have d3':decide ((128:Int)<(q'.length:Int))=false:=decide_eq_false (by omega)
 have dl:decide (q.length<q'.length)=true:=decide_eq_true (by omega)
 have k0:=hBk.cell 0
 have k1:=hBk.cell 1
 have k2:=hBk.cell 2
 obtain⟨m,HM⟩:∃ m,Hid (m=q'.length):=⟨_,rfl⟩
 rw[←HM.out] at d3 d3' hn' dl ⊢
 go_enter Tryz.func170,Tryz.ntmps170
 go_wp2_with fail
 clear k0 k1 k2
 go_loopw [29] (fun i wr=>∃ k:Nat,k≤m∧i=.int .i64 (k:Int)∧Grow w wr) (fun i _=>m-(intOf i).toNat)
 case atStart=>exact⟨0,by omega,rfl,Grow.refl _⟩
 case round=>
  obtain⟨k,hkn,rfl,hgr⟩:=hrel
  by_cases hk:k<m
  ·have hk2:k<q'.length:=by have:=HM.out;omega
   have hqr:=hq'.grow hgr
   obtain⟨ad,hkq,rfl,hVk,hBk2,e0,e1⟩:=hqr.1.rec_ (by omega) el_len hk2
   have hbin:=hqr.2 _ (List.getElem_mem hkq)
   have hokb:=hokq _ (List.getElem_mem hkq)
   generalize q'[k]=b at hbin e0 e1 hokb
   have hRt:=fun w1 (hg1:Grow wr w1)=>Right_ok w1 b.e D b.A b.c hokb (In.grow hbin.1 hg1)
   obtain⟨⟨bk,ag,sh,sq,ep,ds,se,fr,tg⟩,Ab,cb⟩:=b
   dsimp only[El.cells,En.agg] at e0 e1 hRt
   have e2:=e1 1 _ rfl
   have e3:=e1 2 _ rfl
   have e4:=e1 3 _ rfl
   have e5:=e1 4 _ rfl
   have e6:=e1 5 _ rfl
   have e7:=e1 6 _ rfl
   have e8:=e1 7 _ rfl
   have e1:=e1 0 _ rfl
   have e0:=e0 _ rfl
   have hga:=grow_alloc wr (.cells #[.int .i64 bk,.int .i64 ag,.int .i64 sh,.int .i64 sq,.int .i64 ep,.slice Ab ds.length cb,.string se,.int .i64 fr,.int .i64 tg] 32)
   have hRt:=hRt _ hga
   clear hbin hokb hqr
   go_wp2_with fail
   refine hRt.mono ?_
   rintro e w2 ⟨rfl,hg2⟩
   go_wp2_with fail
   go_roundw
   case rel=>exact⟨k+1,by omega,by go_num,hgr.trans (hga.trans hg2)⟩
   case measure=>simp[intOf];omega
  ·obtain rfl:k=m:=by omega
   have hBr:=hBk.grow hgr
   go_wp2_with fail
   refine wp_region_flow 13 89 [(12,.inr (fun _=>IsBlk wr.heap.size 257 #[.int .i64 0,.int .i64 0,.slice none 0 0]))] rfl rfl (by kernel_rfl) (by kernel_rfl) (by kernel_rfl) ?_ ?_
   ·intro x hx φ he
    simp only[List.mem_cons,List.not_mem_nil,or_false] at hx
    rcases hx with rfl<;>cases he
    all_goals first|exact lasts_quiet (lasting_bytes _)|exact lasts_quiet (isBlk_lasting _ _ _)
   intro ops' A' K' T hops hA' hK hT
   refine fl_mvN 37 (.int .i64 (TE:Int)) ?_
   refine fl_mvN 38 (.pointer (some ⟨s,0,none⟩)) ?_
   refine fl_op1G 39 (.tmp 38) (.pointer (some ⟨s,0,none⟩)) (.pointer (some ⟨s,0,none⟩)) ?_
   refine fl_op1G 40 (.tmp 39) (.pointer (some ⟨s,0,none⟩)) (.pointer (some ⟨s,0,none⟩)) ?_
   refine fl_op1G 41 (.tmp 40) (.pointer (some ⟨s,0,none⟩)) (.pointer (some ⟨s,1,none⟩)) ?_
   refine fl_op1N 42 (.tmp 41) (.pointer (some ⟨s,1,none⟩)) (.int .i64 (TE:Int)) (fun ρ h1 kk w1 (hg:Grow _ w1) hb hf=>by have c:=(hBr.grow hg).cell 1;go_simp) ?_
   refine fl_mvN 43 (.pointer (some ⟨s,0,none⟩)) ?_
   refine fl_op1G 44 (.tmp 43) (.pointer (some ⟨s,0,none⟩)) (.pointer (some ⟨s,0,none⟩)) ?_
   refine fl_op1G 45 (.tmp 44) (.pointer (some ⟨s,0,none⟩)) (.pointer (some ⟨s,0,none⟩)) ?_
   refine fl_op1G 46 (.tmp 45) (.pointer (some ⟨s,0,none⟩)) (.pointer (some ⟨s,2,none⟩)) ?_
   refine fl_op1N 47 (.tmp 46) (.pointer (some ⟨s,2,none⟩)) (.slice A q.length c) (fun ρ h1 kk w1 (hg:Grow _ w1) hb hf=>by have c:=(hBr.grow hg).cell 2;go_simp) ?_
   refine fl_op3 48 (by rfl) (by decide) (wanted_none (by rfl)) (by rw[hK.out];rfl) (by rfl) (.tmp 37) (.tmp 42) (.tmp 47) (.int .i64 (TE:Int)) (.int .i64 (TE:Int)) (.slice A q.length c) (by rfl) (by rfl) (by rfl) (.agg #[.int .i64 (TE:Int),.int .i64 (TE:Int),.slice A q.length c]) (fun ρ h1 h2 h3 kk w1 (hg:Grow _ w1) hb hf=>by go_simp) ?_
   refine fl_any 9 (by rfl) (by decide) (wanted_none (by rfl)) (fun _=>IsBlk wr.heap.size 257 #[.int .i64 0,.int .i64 0,.slice none 0 0]) (by rw[hK.out];rfl) (fun kk w1 (hg:Grow _ w1) hb hf=>by refine upon_behindAny (φ:=fun _=>IsBlk wr.heap.size 257 #[.int .i64 0,.int .i64 0,.slice none 0 0]) (by rfl) ?_;exact flowUpon_value (run_alcW w1 _ _ rfl) ⟨grow_alloc w1 _,_,rfl,Blk.made w1 _ _,hg.size⟩) (fun v9=>?_)
   refine fl_end (fun _ _ w1 (hg:Grow _ w1) _ hfacts=>hT _ _ ?_)
   clear hops hA' hK hT
   simp only[putsL,Act.put,List.setIfInBounds_toArray,List.set_cons_zero,List.set_cons_succ,List.drop_succ_cons,List.drop_zero]
   have hgx:=hgr.trans hg
   have hB1:=hBr.grow hg
   obtain⟨y,rfl,hY0,hy0⟩:IsBlk wr.heap.size 257 #[.int .i64 0,.int .i64 0,.slice none 0 0] v9 w1:=hfacts.1
   clear hfacts
   go_wp2_with (refine wpList_fill rfl 257 _ _ rfl _ rfl [.int .i64 (TE:Int),.int .i64 (TE:Int),.slice A q.length c] rfl hY0 rfl rfl (by kernel_rfl) ?_;intro wb hY hjb hsb;refine stay ?_)
   refine stay_out ?_
   have hyw:w.heap.size≤y:=by have:=hgr.size;omega
   have hgy:Below w.heap.size w1 wb:=hjb.below (B:=w.heap.size) (fun b hb=>by rw[hb];exact hyw) hgx.size
   have hgb:Grow w wb:=Below.trans hgx hgy
   have hB2:=hBk.grow hgb
   have k1:=hB2.cell 1
   have k2:=hB2.cell 2
   have hqb:=hq'.grow hgb
   have hC:=Copies_any _ D A9 c' q' hqb (by have:=HM.out;omega)
   rw[←HM.out,hqe] at hC
   go_wp2_with fail
   clear k1 k2
   refine hC.mono ?_
   rintro e w2 ⟨u,rfl,hI,_,hg2⟩
   obtain⟨A2,c2,q2,rfl,hE2,hqe2,hqc2,hcm2⟩:=hI
   have hY2:=hY.grow hg2
   have hY3:Blk ((w2.setCell ⟨y,1,none⟩ (.int .i64 (TE:Int))).setCell ⟨y,2,none⟩ (.slice A2 q2.length c2)) y 257 #[.int .i64 (TE:Int),.int .i64 (TE:Int),.slice A2 q2.length c2]:=(hY2.put 1 _).put 2 _
   have jY:=((Just.of_grow (V:=fun b=>b=y) (Grow.refl w2)).put rfl 1 (.int .i64 (TE:Int))).put (V:=fun b=>b=y) rfl 2 (.slice A2 q2.length c2)
   have y1:=hY2.cell 1
   have yf1:=hY2.frozen 1
   have z2:=(hY2.put 1 (.int .i64 (TE:Int))).cell 2
   have zf2:=(hY2.put 1 (.int .i64 (TE:Int))).frozen 2
   have v0:=hY3.cell 0
   have v1:=hY3.cell 1
   have v2:=hY3.cell 2
   have hgs:Grow w w2:=hgb.trans hg2
   obtain⟨V1,V2,hE,hM1,hc1,hc2,hdis⟩:=Many.framed _ hFr w w2 V hM fun b hb=>hgs.block b (hV b hb)
   have hF2:AllFramed [Cell s 259 (StC t TE (.slice A q.length c) x),LogAt x d n bs bs.length]:=(AllFramed.nil.cons (LogAt.framed _ _ _ _ _)).cons (Cell.framed _ _ _)
   have hs2:=hgs.size
   have hM3:=Many.framed _ hF2 w2 _ V2 hM1 fun b hb=>jY.block b (by have:=hV b (hc2 b hb);omega) (fun e=>by have:=hV b (hc2 b hb);omega)
   have hE3:=hE2.just jY (fun b hb e=>by have:=hb.1;have:=hY.lt;omega)
   have hb2:∀ b,V2 b→b<w.heap.size:=fun b hb=>hV b (hc2 b hb)
   have hNew:∀ b,New wb w2 b→w.heap.size≤b∧b<w2.heap.size:=fun b hb=>by
    have:=hgb.size;exact⟨by have:=hb.1;omega,hb.2⟩
   obtain⟨w3,HW3⟩:∃ w3:World,Hid (w3=(w2.setCell ⟨y,1,none⟩ (.int .i64 (TE:Int))).setCell ⟨y,2,none⟩ (.slice A2 q2.length c2)):=⟨_,rfl⟩
   have hs3:w3.heap.size=w2.heap.size:=by rw[HW3.out,setCell_size,setCell_size]
   have hk:=keep_ok w3 s x d t TE (.slice A q.length c) n bs TE TE (New wb w2) A2 c2 q2 hte hte (by rw[HW3.out];exact hE3) (fun y hy=>hok' _ (by rw[←hqe2];exact List.mem_map.2 ⟨y,hy,rfl⟩)) (by have h5:q2.length=es'.length:=(by rw[←hqe2,List.length_map]);have:=HM.out;omega) hn0 (by rw[hqe2];exact hroom) V2 (by rw[HW3.out];exact hM3) (fun b hb=>by have:=hb2 b hb;omega)
   rw[hqe2] at hk
   go_wp2_with fail
   rw[←HW3.out]
   refine hk.mono ?_
   rintro e w4 ⟨rfl,hM4,hj4⟩
   go_wp2_with fail
   go_ret
   rw[←HW3.out] at hE3 jY
   have hjy:Just (fun b=>V b∨w.heap.size≤b) w2 w3:=jY.imp fun b hb => .inr (by rw[hb];exact hyw)
   have J:Just (fun b=>V b∨w.heap.size≤b) w w4:=((Just.of_grow hgs).trans hjy).trans (hj4.imp fun b hb => .inl (hc2 b hb))
   have hs4:=hj4.size
   refine⟨rfl,⟨A2,c2,q2,hqe2,hqc2,hcm2,New wb w2,Ext V2 w3 w4,hE3.just hj4 (fun b hb hv=>by have:=hb2 b hv;have:=hNew b hb;omega),hM4,fun b hb => .inr ⟨(hNew b hb).1,by have:=(hNew b hb).2;omega⟩,fun b hb=>?_,fun b hb hv=>?_⟩,⟨J.os,J.tape,J.output,J.size,fun b hb hne=>J.block b hb fun h=>h.elim hne (fun h=>by omega)⟩⟩
   ·rcases hb with hb|hb
    ·exact .inl (hc2 b hb)
    ·exact .inr ⟨by have:=hb.1;omega,hb.2⟩
   ·rcases hv with hv|hv
    ·have:=hb2 b hv;have:=hNew b hb;omega
    ·have:=(hNew b hb).2;have:=hv.1;omega
theorem scan_empty:ScanIs [] [] 0:=⟨rfl,rfl,by simp,fun y _ hp=>by
 have h1:(frame y).length≤0:=hp.length_le
 have:=frame_five y
 omega⟩
theorem sOpen_new (w:World) (d:Nat) (V:Nat→Prop) (hD:DiskAt 133 d [] 0 w V) (hV:∀ b,V b→b<w.heap.size) :
 Calls Tryz.prog 81 #[.pointer (some ⟨d,0,none⟩)] w fun e w'=>∃ s x,e=.returned (.pointer (some ⟨s,0,none⟩))∧StateAt s x d 0 0 [] 0 [] w' (Ext V w w')∧Just V w w':=by
 have hO:=Open_any w d [] 0 V hD hV
 go_enter Tryz.func81,Tryz.ntmps81
 go_wp2_with fail
 refine hO.mono ?_
 rintro e w1 ⟨xs,j,x,u,hs,rfl,hX,hL,hj⟩
 obtain⟨rfl,rfl⟩:=hs.one scan_empty
 obtain⟨A1,c1,q1,rfl,hB1,hq1,hqc1,hcm1⟩:=hX
 have hql:q1.length=0:=by have:=congrArg List.length hq1;simpa using this
 rw[hql]
 have hL:LogAt x d 0 [] 0 w1 (Ext V w w1):=hL
 have hlt:∀ b,Ext V w w1 b→b<w1.heap.size:=fun b hb=>by
  rcases hb with hb|hb
  ·have:=hV b hb;have:=hj.size;omega
  ·exact hb.2
 have hga:=grow_alloc w1 (.cells #[.int .i64 0,.int .i64 0,.slice none 0 0,.pointer (some ⟨x,0,none⟩)] 259)
 have hSb:=Blk.made w1 259 #[.int .i64 0,.int .i64 0,.slice none 0 0,.pointer (some ⟨x,0,none⟩)]
 have hL2:=LogAt.framed x d 0 [] 0 w1 _ _ hL fun b hb=>hga.block b (hlt b hb)
 obtain⟨s,HS⟩:∃ s:Nat,Hid (s=w1.heap.size):=⟨_,rfl⟩
 obtain⟨wa,HA⟩:∃ wa:World,Hid (wa=w1.alloc (.cells #[.int .i64 0,.int .i64 0,.slice none 0 0,.pointer (some ⟨x,0,none⟩)] 259)):=⟨_,rfl⟩
 rw[←HA.out] at hga hSb hL2
 rw[←HS.out] at hSb
 have hsa:wa.heap.size=s+1:=by rw[HA.out,HS.out];simp
 go_wp2_with fail
 rw[←HA.out,←HS.out]
 go_loopw [22] (fun i wr=>i=.int .i64 0∧wa=wr) (fun _ _=>0)
 case atStart=>exact⟨rfl,rfl⟩
 case round=>
  obtain⟨rfl,rfl⟩:=hrel
  go_wp2_with fail
  go_ret
  have hws:w.heap.size≤s:=by have:=HS.out;have:=hj.size;omega
  refine⟨s,x,rfl,⟨none,0,[],rfl,Nat.le_refl _,Nat.zero_le _,fun _=>False,Ext V w wa,Ens.nil,⟨fun b=>b=s,Ext V w w1,⟨rfl,hSb⟩,?_,fun b hb=>?_,fun b hb=>?_,fun b hb hv=>?_⟩,fun _ h=>h.elim,fun b hb=>hb,fun _ h=>h.elim⟩,hj.trans (Just.of_grow hga)⟩
  ·exact⟨Ext V w w1,fun _=>False,hL2,trivial,fun b hb=>hb,fun _ h=>h.elim,fun _ _ h=>h⟩
  ·exact .inr ⟨by rw[hb];exact hws,by rw[hb];omega⟩
  ·rcases hb with hb|hb
   ·exact .inl hb
   ·exact .inr ⟨hb.1,by have:=hb.2;have:=HS.out;omega⟩
  ·have:=hlt b hv;have:=HS.out;omega
end Go.Proofs.YtmijcbfgfkeodaaGreatDoor
end
