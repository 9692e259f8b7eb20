/- Te1, Rowk, Kito, Wimem, Csort, Call, Call2. -/
import Derived.Test.YtmijcbfgfkeodaaGreatDoorGz36
import Derived.ProofKit
import Derived.OpenShut
import Derived.JoinedCond
import Derived.Shelf.SlSortCmp.WholeK
import Derived.Shelf.SlSortCmp.NoneTotal
set_option linter.all false
set_option maxRecDepth 100000
section
namespace Go.Proofs.YtmijcbfgfkeodaaGreatDoor
open Go.RowKit Go.Hop Go.Proofs.YtmijcbfgfkeodaaGreatDoor.V
theorem range_of_wf {l:List Int} (h:∀ z∈l,(Lit.int .i64 z).wf=true):∀ z∈l,-9223372036854775808≤z∧z≤9223372036854775807:=fun z hz=>by
 simpa [Lit.wf,IntKind.min,IntKind.max,IntKind.signed,IntKind.bits] using h z hz
theorem was_framed (A:Option Addr) (x:Nat) (s:ByteArray):Framed (fun w V=>DIn w V A 1 [(s,x)]):=fun _ _ _ h hk=>In.keep h fun b hb _=>hk b hb
theorem keep_all (l:List UInt8) (keep:Int):keepN l l.length keep=0:=by unfold keepN;omega
theorem crash_all (w:World) (d:Nat) (l:List UInt8) (keep:Int) (hkeep:-9223372036854775808≤keep∧keep≤9223372036854775807):Turns Tryz.prog 27 #[.pointer (some ⟨d,0,none⟩),.int .i64 keep] (fun e=>e=.returned (.int .i64 0)) (DiskAt 133 d l l.length) (DiskAt 133 d l l.length) w:=by
 have h:=Crash_any w d l l.length keep hkeep
 rw[keep_all,Nat.add_zero,List.take_length] at h
 exact fun V a b=>(h V a b).mono fun e w' ⟨h1,h2⟩=>⟨by rw[h1];congr 2;omega,h2⟩
theorem aNew_turn (w:World) (d i:Nat) (x:Nat) (hs:Small (tA1,x)) (hx:1≤x) (hi:i≤100):TurnsE (ι:=AgP×Int) Tryz.prog 23 #[.int .i64 1,.int .i64 3,.pointer (some ⟨d,0,none⟩)] (fun q e=>q.1.d=d∧e=.returned (.pointer (some ⟨q.1.a,0,none⟩))) (DiskAt 133 d (bsOf tA1 x (i+3)) (bsOf tA1 x (i+3)).length) (fun q=>Many (agL q.1 (BookE q.1.st q.1.z (((i+1)+1:Nat):Int) [(1,[(tA1,x)])] 1) 1 3 0 q.2 0 [] [] (((i+1)+3:Nat):Int) (bsOf tA1 x ((i+1)+3)) (bsOf tA1 x ((i+1)+3)).length)) w:=
 fun V hD hV=>(aNew_own w d 1 3 i _ tA1 x parse_A1 hs hx (by decide) (by decide) (by decide) hi V hD hV).mono fun e w' ⟨p,tag,h1,h2,h3,h4⟩=>⟨(p,tag),⟨h1,h2⟩,h3,h4⟩
theorem ag_see {w:World} {p:AgP} {ep:Int} {q:List Q.Ab} {k0 node reps now tag last:Int} {asks:List (Int×Value)} {tr:List ((Int×Int×Int)×Value)} {n:Int} {bs:List UInt8} {k:Nat} {U:Nat→Prop} (h:Many (agL p (BookE p.st p.z ep q k0) node reps now tag last asks tr n bs k) w U) :
 ∃ (sl cu:Value) (U2:Nat→Prop),Blk w p.a 143 (agC p node reps now tag last)∧Blk w p.st 148 (bkC ep sl p.z cu)∧Q.QueueAt p.z.a q k0 w U2∧∀ b,U2 b→U b:=by
 obtain⟨V1,V2,⟨A,c,cu,⟨W1,W2,hB,⟨W3,W4,_,⟨W5,W6,hQ,_,s5,_,_⟩,_,s4,_⟩,_,s2,_⟩⟩,⟨W7,W8,hC,_⟩,s1,_⟩:=h
 exact⟨_,cu,W5,hC.2,hB.2,hQ,fun b hb=>s1 b (s2 b (s4 b (s5 b hb)))⟩
set_option maxHeartbeats 2000000 in
theorem topEpochs_1 (w:World) (n0:Int) (hn0:-9223372036854775808≤n0∧n0≤9223372036854775807) (A:Option Addr) (n c:Nat) (l:List Int) (hr:Reads w w.heap.size 1 A n (l.map (Value.int .i64))) (hl:∀ z∈l,-9223372036854775808≤z∧z≤9223372036854775807) (hc:n≤c∧c≤maxLen) :
 Calls Tryz.prog 6 #[.int .i64 n0,.slice A n c] w fun e w'=>e=.returned (.bool true)∧Grow w w':=by
 have hWn:=fun w=>within_any w n0 0 99 hn0 (by omega) (by omega) (by omega)
 have hD0:=New_any w
 obtain⟨d,HD⟩:∃ d:Nat,Hid (d=w.heap.size):=⟨_,rfl⟩
 rw[←HD.out] at hD0
 go_enter Tryz.func6,Tryz.ntmps6
 go_wp2_with fail
 refine hD0.mono ?_
 rintro e w1 ⟨rfl,hDk,hg1⟩
 have hV1:∀ b,New w w1 b→b<w1.heap.size:=fun b hb=>hb.2
 have hA1:Calls Tryz.prog 23 #[.int .i64 1,.int .i64 3,.pointer (some ⟨d,0,none⟩)] w1 fun e w'=>∃ p:AgP,p.d=d∧e=.returned (.pointer (some ⟨p.a,0,none⟩))∧Many (agL p (BookT p.st p.z 1 (.slice none 0 0) [] [] 0 (.slice none 0 0)) 1 3 0 4294967296 0 [] [] 1 (frame (recB 1 [1])) (frame (recB 1 [1])).length) w' (Ext (New w w1) w1 w')∧Just (New w w1) w1 w':=aNew_1 w1 d 1 3 (by decide) (by decide) (by decide) (New w w1) hDk hV1
 go_wp2_with fail
 refine hA1.mono ?_
 rintro e w2 ⟨p,hpd,rfl,hM2,hj2⟩
 have hV2:∀ b,Ext (New w w1) w1 w2 b→b<w2.heap.size:=fun b hb=>hb.elim (fun h=>Nat.lt_of_lt_of_le h.2 hj2.size) fun h=>h.2
 have hW1:=hWn w2
 go_wp2_with fail
 refine hW1.mono ?_
 rintro e w3 ⟨m1,hm0,hm9,rfl,rfl⟩
 obtain⟨x,hx⟩:∃ x:Nat,1+m1=(x:Int):=⟨(1+m1).toNat,by omega⟩
 have hx1:1≤x:=by omega
 have hx2:x≤100:=by omega
 have hsm:Small (tA1,x):=⟨show 3≤1000 by decide,show x<18446744073709551616 by omega⟩
 have hw1:IntKind.i64.wrap (1+m1)=(x:Int):=by rw[IntKind.wrap_i64];omega
 have hw2:wrap64 (1+m1)=(x:Int):=by unfold wrap64;omega
 have hw3:IntKind.u64.wrap (x:Int)=(x:Int):=by rw[IntKind.wrap_u64];omega
 clear hx hm0 hm9
 have hl1:=recB_len 1 [1] (by decide) (by decide)
 simp only[List.length_cons,List.length_nil] at hl1
 have hf1:=frame_le (recB 1 [1]) (by omega)
 have hf2:=frame_le (smpB tA1 x) (by have:=smpB_len hsm;omega)
 have hs2:=smpB_len hsm
 have hI:Calls Tryz.prog 24 #[.pointer (some ⟨p.a,0,none⟩),.string tA1,.int .u64 (x:Int)] w2 _:=aIngest_1 w2 p 1 3 0 4294967296 0 [] [] 1 _ _ 1 [] 0 (.slice none 0 0) tA1 x parse_A1 hsm hx1 (by decide) (by omega) _ hM2 hV2
 go_wp2_with fail
 clear hw1 hw2 hw3
 refine hI.mono ?_
 rintro e w3 ⟨rfl,⟨sl3,hM3⟩,hj3⟩
 have hV3:∀ b,Ext (Ext (New w w1) w1 w2) w2 w3 b→b<w3.heap.size:=fun b hb=>hb.elim (fun h=>Nat.lt_of_lt_of_le (hV2 b h) hj3.size) fun h=>h.2
 have hCt:=aCut_1 w3 p 1 3 0 4294967296 0 [] [] (1+1) _ _ 1 sl3 tA1 x hsm (by decide) (by rw[List.length_append];omega) _ hM3 hV3
 go_wp2_with fail
 refine hCt.mono ?_
 rintro e w4 ⟨⟨Ac,cc,rfl⟩,hM4,hj4⟩
 have hV4:∀ b,Ext (Ext (Ext (New w w1) w1 w2) w2 w3) w3 w4 b→w.heap.size≤b∧b<w4.heap.size:=fun b hb=>by
  have s1:=hg1.size
  have s2:=hj2.size
  have s3:=hj3.size
  have s4:=hj4.size
  rcases hb with ((hb|hb)|hb)|hb
  ·exact⟨hb.1,by have:=hb.2;omega⟩
  ·exact⟨by have:=hb.1;omega,by have:=hb.2;omega⟩
  ·exact⟨by have:=hb.1;omega,by have:=hb.2;omega⟩
  ·exact⟨by have:=hb.1;omega,hb.2⟩
 have hbs3:frame (recB 1 [1])++frame (smpB tA1 x)++frame (batB tA1 x)=bsOf tA1 x (0+3):=by simp[bsOf,List.range_succ,recOf]
 rw[hbs3] at hM4
 have hM4:Many (agL p (BookE p.st p.z ((0+1:Nat):Int) [(1,[(tA1,x)])] 1) 1 3 0 4294967296 0 [] [] ((0+3:Nat):Int) (bsOf tA1 x (0+3)) (bsOf tA1 x (0+3)).length) w4 _:=hM4
 obtain⟨sl4,cu4,U4,ha4,hst4,hQ4,hU4⟩:=ag_see hM4
 have hB4:=aBatch_1 w4 p 3 0 4294967296 0 _ 1 sl4 cu4 tA1 x U4 ha4 hst4 hQ4 (fun b hb=>(hV4 b (hU4 b hb)).2)
 go_wp2_with fail
 refine hB4.mono ?_
 rintro e w5 ⟨A1,c1,rfl,hI5,hg5⟩
 have J4:Just (fun b=>w.heap.size≤b) w w4:=by
  have s1:=hg1.size
  have s2:=hj2.size
  have s3:=hj3.size
  refine (((Just.of_grow hg1).trans (hj2.imp fun b hb=>?_)).trans (hj3.imp fun b hb=>?_)).trans (hj4.imp fun b hb=>?_)
  ·exact hb.1
  ·rcases hb with hb|hb
   ·exact hb.1
   ·have:=hb.1;omega
  ·rcases hb with (hb|hb)|hb
   ·exact hb.1
   ·have:=hb.1;omega
   ·have:=hb.1;omega
 have hS4:Solo (fun b=>w.heap.size≤b) (Many (agL p (BookE p.st p.z ((0+1:Nat):Int) [(1,[(tA1,x)])] 1) 1 3 0 4294967296 0 [] [] ((0+3:Nat):Int) (bsOf tA1 x (0+3)) (bsOf tA1 x (0+3)).length)) w4:=Solo.of_new (fun b hb=>Nat.le_trans J4.size hb) hM4 hV4
 have hF4:=agL_framed p _ (BookE.framed p.st p.z (((0+1:Nat)):Int) [(1,[(tA1,x)])] 1) 1 3 0 4294967296 0 [] [] (((0+3:Nat)):Int) (bsOf tA1 x (0+3)) (bsOf tA1 x (0+3)).length
 have hS5:=hS4.join hF4 hg5 (R:=(fun w V=>DIn w V A1 1 [(tA1,x)])) hI5 (fun b hb=>hb)
 have hS5:Solo (fun b=>w.heap.size≤b) (Many (agL p (BookE p.st p.z ((0+1:Nat):Int) [(1,[(tA1,x)])] 1) 1 3 0 4294967296 0 [] [] ((0+3:Nat):Int) (bsOf tA1 x (0+3)) (bsOf tA1 x (0+3)).length++[(fun w V=>DIn w V A1 1 [(tA1,x)])])) w5:=hS5.perm (List.perm_append_singleton _ _).symm
 have J5:Just (fun b=>w.heap.size≤b) w w5:=J4.trans (Just.of_grow hg5)
 clear hS4 hF4 hI5 hB4 hCt hI hA1 hM2 hM3 hM4 ha4 hst4 hQ4 hU4 hV1 hV2 hV3 hV4 hj2 hj3 hj4 hg1 hD0 hDk J4 hg5 hWn hW1 hf1 hf2 hs2 hl1 hbs3
 go_wp2_with fail
 go_loopw [6,8] (fun a i wr=>∃ (k:Nat) (p:AgP) (tag:Int),a=.pointer (some ⟨p.a,0,none⟩)∧i=.int .i64 (k:Int)∧k≤n∧k≤10∧p.d=d∧Solo (fun b=>w.heap.size≤b) (Many (agL p (BookE p.st p.z ((k+1:Nat):Int) [(1,[(tA1,x)])] 1) 1 3 0 tag 0 [] [] ((k+3:Nat):Int) (bsOf tA1 x (k+3)) (bsOf tA1 x (k+3)).length++[(fun w V=>DIn w V A1 1 [(tA1,x)])])) wr∧Just (fun b=>w.heap.size≤b) w wr) (fun _ i _=>10-(intOf i).toNat)
 case atStart=>exact⟨0,p,_,rfl,rfl,by omega,by omega,hpd,hS5,J5⟩
 case round=>
  clear hS5 J5 hpd
  obtain⟨k,p,tag,rfl,rfl,hkn,hk10,hpd,hS,hJ⟩:=hrel
  have hgr:Grow w wr:=hJ.below (fun b hb=>hb) (Nat.le_refl _)
  by_cases hlt:k<n∧k<10
  ·obtain⟨hl1,hl2⟩:=hlt
   obtain⟨ad,u,rfl,_,hu,hcl⟩:=(hr.below hgr).at_ hl1
   obtain⟨zk,hzl,rfl⟩:∃ z∈l,u=.int .i64 z:=by
    rw[List.getElem?_map] at hu
    cases hq:l[k]? with
    | none=>rw[hq] at hu;cases hu
    | some z=>rw[hq] at hu;cases hu;exact⟨z,List.mem_of_getElem? hq,rfl⟩
   have hzk:=hl zk hzl
   obtain⟨a,st,xl,d',bT,bK,z⟩:=p
   obtain rfl:d'=d:=hpd
   have d1:decide ((k:Int)<(n:Int))=true:=decide_eq_true (by omega)
   have d2:decide ((k:Int)<10)=true:=decide_eq_true (by omega)
   have hF:AllFramed (agL (⟨a,st,xl,d',bT,bK,z⟩:AgP) (BookE (⟨a,st,xl,d',bT,bK,z⟩:AgP).st (⟨a,st,xl,d',bT,bK,z⟩:AgP).z ((k+1:Nat):Int) [(1,[(tA1,x)])] 1) 1 3 0 tag 0 [] [] ((k+3:Nat):Int) (bsOf tA1 x (k+3)) (bsOf tA1 x (k+3)).length++[(fun w V=>DIn w V A1 1 [(tA1,x)])]):=allFramed_app (agL_framed _ _ (BookE.framed _ _ _ _ _) _ _ _ _ _ _ _ _ _ _) (AllFramed.nil.cons (was_framed A1 x tA1))
   have hC:=hS.at_ 4 rfl hF (LogAt.turn (crash_all wr d' (bsOf tA1 x (k+3)) zk hzk))
   go_wp2_with fail
   clear d1 d2 hcl
   refine hC.mono ?_
   rintro e w6 ⟨rfl,hj6,hS6⟩
   have hS6:Solo (fun b=>w.heap.size≤b) (Many (agL (⟨a,st,xl,d',bT,bK,z⟩:AgP) (BookE (⟨a,st,xl,d',bT,bK,z⟩:AgP).st (⟨a,st,xl,d',bT,bK,z⟩:AgP).z ((k+1:Nat):Int) [(1,[(tA1,x)])] 1) 1 3 0 tag 0 [] [] ((k+3:Nat):Int) (bsOf tA1 x (k+3)) (bsOf tA1 x (k+3)).length++[(fun w V=>DIn w V A1 1 [(tA1,x)])])) w6:=hS6
   have hS7:=hS6.map 4 rfl (S':=DiskAt 133 d' (bsOf tA1 x (k+3)) (bsOf tA1 x (k+3)).length) (fun U hU=>LogAt.disk hU)
   have hF7:AllFramed ([BookE st z ((k+1:Nat):Int) [(1,[(tA1,x)])] 1,Cell a 143 (agC ⟨a,st,xl,d',bT,bK,z⟩ 1 3 0 tag 0),GMap (κ:=Int) keI bK [],GMap (κ:=Int×Int×Int) keD bT [],DiskAt 133 d' (bsOf tA1 x (k+3)) (bsOf tA1 x (k+3)).length,(fun w V=>DIn w V A1 1 [(tA1,x)])]):=(((((AllFramed.nil.cons (was_framed A1 x tA1)).cons (DiskAt.framed _ _ _ _)).cons (GMap.framed _ _)).cons (GMap.framed _ _)).cons (Cell.framed _ _ _)).cons (BookE.framed _ _ _ _ _)
   have hN:=hS7.atE 4 rfl hF7 (aNew_turn w6 d' k x hsm hx1 (by omega))
   go_wp2_with fail
   refine hN.mono ?_
   rintro e w7 ⟨⟨p2,tag2⟩,⟨hp2,rfl⟩,hj7,hS8⟩
   have hS8:Solo (fun b=>w.heap.size≤b) (Many [BookE st z ((k+1:Nat):Int) [(1,[(tA1,x)])] 1,Cell a 143 (agC ⟨a,st,xl,d',bT,bK,z⟩ 1 3 0 tag 0),GMap (κ:=Int) keI bK [],GMap (κ:=Int×Int×Int) keD bT [],Many (agL p2 (BookE p2.st p2.z (((k+1)+1:Nat):Int) [(1,[(tA1,x)])] 1) 1 3 0 tag2 0 [] [] (((k+1)+3:Nat):Int) (bsOf tA1 x ((k+1)+3)) (bsOf tA1 x ((k+1)+3)).length),(fun w V=>DIn w V A1 1 [(tA1,x)])]) w7:=hS8
   have hp2:p2.d=d':=hp2
   have J7:=(hJ.trans hj6).trans hj7
   obtain⟨U0,⟨A0,c0,cu0,W1,W2,hst0,_⟩,_⟩:=hS8.see 0 rfl
   have hst0:=hst0.2
   have ha0:=hS8.blk 1 rfl
   obtain⟨U9,hM9,hU9⟩:=hS8.see 4 rfl
   obtain⟨sl9,cu9,U8,ha9,hst9,hQ9,hU8⟩:=ag_see hM9
   obtain⟨UW,hIW,_⟩:=hS8.see 5 rfl
   obtain⟨E1,HE1⟩:∃ E:Int,Hid (E=((k+1:Nat):Int)):=⟨_,rfl⟩
   obtain⟨E2,HE2⟩:∃ E:Int,Hid (E=((k+1+1:Nat):Int)):=⟨_,rfl⟩
   have e1:=HE1.out
   have e2:=HE2.out
   rw[←HE1.out] at hst0
   rw[←HE2.out] at hst9
   have hwr:IntKind.i64.wrap (E1+1)=E2:=by rw[IntKind.wrap_i64];omega
   have hwr2:wrap64 (E1+1)=E2:=by unfold wrap64;omega
   clear e1 e2 hM9
   have hEb:=aEpoch_any w7 p2 1 3 0 tag2 0 E2 sl9 cu9 ha9 hst9
   have hEa:Calls Tryz.prog 28 #[.pointer (some ⟨a,0,none⟩)] w7 _:=aEpoch_any w7 ⟨a,st,xl,d',bT,bK,z⟩ 1 3 0 tag 0 E1 _ cu0 ha0 hst0
   have hBt:=aBatch_1 w7 p2 3 0 tag2 0 E2 1 sl9 cu9 tA1 x U8 ha9 hst9 hQ9 (fun b hb=>(hU9 b (hU8 b hb)).2)
   clear hst0 ha0 hst9 ha9 hQ9 hU8 hU9
   go_wp2_with fail
   refine hEb.mono ?_
   rintro e w8 ⟨rfl,rfl⟩
   go_wp2_with fail
   refine hEa.mono ?_
   rintro e w8 ⟨rfl,rfl⟩
   go_wp2_with fail
   clear hwr hwr2
   refine hBt.mono ?_
   rintro e w8 ⟨A9,c9,rfl,hI9,hg9⟩
   have hSm:=same_1 w8 tA1 x A9 A1 c9 c1 _ _ hI9 (In.grow hIW hg9)
   go_wp2_with fail
   refine hSm.mono ?_
   rintro e w9 ⟨rfl,hg10⟩
   have hS9:=(((hS8.drop1).drop1).drop1).drop1
   have hS9:Solo (fun b=>w.heap.size≤b) (Many (agL p2 (BookE p2.st p2.z (((k+1)+1:Nat):Int) [(1,[(tA1,x)])] 1) 1 3 0 tag2 0 [] [] (((k+1)+3:Nat):Int) (bsOf tA1 x ((k+1)+3)) (bsOf tA1 x ((k+1)+3)).length++[(fun w V=>DIn w V A1 1 [(tA1,x)])])) w7:=Solo.flat hS9
   have hF9:AllFramed (agL p2 (BookE p2.st p2.z (((k+1)+1:Nat):Int) [(1,[(tA1,x)])] 1) 1 3 0 tag2 0 [] [] (((k+1)+3:Nat):Int) (bsOf tA1 x ((k+1)+3)) (bsOf tA1 x ((k+1)+3)).length++[(fun w V=>DIn w V A1 1 [(tA1,x)])]):=allFramed_app (agL_framed _ _ (BookE.framed _ _ _ _ _) _ _ _ _ _ _ _ _ _ _) (AllFramed.nil.cons (was_framed A1 x tA1))
   have hS10:=hS9.grows hF9 (hg9.trans hg10)
   have J10:=J7.trans (Just.of_grow (hg9.trans hg10))
   clear hS8 hS9 hS7 hS6 hS
   go_wp2_with fail
   go_roundw
   case rel=>exact⟨k+1,p2,tag2,rfl,by go_num,by omega,by omega,hp2,hS10,J10⟩
   case measure=>simp[intOf];omega
  ·have hAw:=awake_1 wr
   by_cases hl1:k<n
   ·have d1:decide ((k:Int)<(n:Int))=true:=decide_eq_true (by omega)
    have d2:decide ((k:Int)<10)=false:=decide_eq_false (by omega)
    go_wp2_with fail
    refine hAw.mono ?_
    rintro e w8 ⟨rfl,hg8⟩
    go_wp2_with fail
    go_ret
    exact⟨rfl,hgr.trans hg8⟩
   ·have d1:decide ((k:Int)<(n:Int))=false:=decide_eq_false (by omega)
    go_wp2_with fail
    refine hAw.mono ?_
    rintro e w8 ⟨rfl,hg8⟩
    go_wp2_with fail
    go_ret
    exact⟨rfl,hgr.trans hg8⟩
end Go.Proofs.YtmijcbfgfkeodaaGreatDoor
end
section
namespace Go.Hop
open Go.ChangeShapes Go.WideShapes Go.ChangeAt Go.RowKit
section
variable {H:Type} {enc:TypeId×Value→H} {P:Program}
theorem trodAll_below (hl:laidOutB P=true) {W W':World} (hb:Below W.heap.size W W'):∀ (ts:List TypeId) (vs:List Value) (ds:List (DataW H)) (ps:List MemPlace),
 (∀ t∈ts,P.readableRec t=true∧t<P.types.size)→DataW.TrodAll enc P W 0 (fun _=>true) true ts vs ds ps→(∀ x∈ps,x.block<W.heap.size)→
 DataW.TrodAll enc P W' 0 (fun b=>decide (b<W.heap.size)) true ts vs ds ps
 | [],vs,ds,ps,_,h,_=>by
   obtain⟨rfl,rfl,rfl⟩:=trodAll_nil h
   exact trodAll_mk0
 | t :: ts,vs,ds,ps,hr,h,hlt=>by
   obtain⟨v0,vs0,d0,ds0,p0,q0,rfl,rfl,rfl,h0,r0⟩:=trodAll_cons h
   obtain⟨h1,h2⟩:=hr t (by simp)
   exact⟨p0,q0,Below.trod hl h1 h2 h0 hb (fun x hx=>hlt x (by simp[hx])),trodAll_below hl hb ts vs0 ds0 q0 (fun u hu=>hr u (by simp[hu])) r0 (fun x hx=>hlt x (by simp[hx])),rfl⟩
theorem law_post {f:Func} {s:ChangeSpec} {tb:TypeId} (hl:laidOutB P=true) (htb:P.underlying tb=some .bool) (hres:f.resultTypes=#[tb]) (hvars:s.vars=[])
 (hr0:(f.params.toList.all fun t=>P.readableRec t && decide (t<P.types.size))=true) {W W':World} {args:Array Value} {ds gs:List (DataW H)} {before:List MemPlace}
 (hW:DataW.Whole enc P f.params.toList s.vars false W args.toList ds gs before) (hspec:s.fn H ds={ results:=[.lit (.bool true)],args:=ds }) (hb:Below W.heap.size W W') :
 s.post enc P f false true false false W args (.bool true) W':=by
 have hW':=hW
 have hr:∀ t∈f.params.toList,P.readableRec t=true∧t<P.types.size:=by
  intro t ht
  simpa using List.all_eq_true.1 hr0 t ht
 have hlt:∀ p∈before,p.block<W.heap.size:=fun p hp=>hW'.lt p hp
 obtain⟨p,q,hA,hV,rfl,hfz,hnd⟩:=hW
 rw[hvars] at hV
 obtain⟨rfl,rfl⟩:=trodVars_none hV
 refine⟨ds,[],p++[],[],p,[],hW',?_,?_,?_,World.keptBut_mono (fun x hx=>⟨hx,?_⟩) (hb.frame (·∈p++[])),fun h=>by cases h⟩
 ·rw[List.append_nil,hspec,hres]
  exact trodAll_mk1 (shut_bool htb true)
 ·rw[List.append_nil,hspec]
  exact trodAll_below hl hb _ _ _ _ hr hA (fun x hx=>hlt x (by simp[hx]))
 ·rw[List.append_nil,hspec,hvars]
  rfl
 ·exact Or.inr (Or.inl (by simpa using hx))
theorem u8_of_wf {z:Int} (h:(Lit.int .u8 z).wf=true):((UInt8.ofNat z.toNat).toNat:Int)=z:=by
 have hx:0≤z∧z≤255:=by simpa [Lit.wf,IntKind.min,IntKind.max,IntKind.signed,IntKind.bits] using h
 rw[UInt8.toNat_ofNat']
 omega
theorem open_bytes {t e:TypeId} (ht:P.underlying t=some (.slice e)) (he:P.underlying e=some (.int .u8)) (hc:P.cellsOf e=1) {w:World} {v:Value} {d:DataW H} {p:List MemPlace} {r:Reach} {b0:Nat}
 (hv:Value.okWide P w r b0 t v) (h:DataW.Trod enc P w 0 (fun _=>true) true t v d p) :
 ∃ (A:Option Addr) (n cap:Nat) (l:List UInt8),v=.slice A n cap∧Bytes w w.heap.size A n l∧n≤cap∧cap≤maxLen∧
   ((d=.nil∧n=0)∨∃ zs:List Int,d=.slice (lits .u8 (zs.take n)) (lits .u8 (zs.drop n))∧zs.length=cap):=by
 obtain⟨A,n,cap,rfl⟩:=okWide_slice ht hv
 obtain⟨fuel,hf⟩:=h
 rcases open_ints ht he hc hf with ⟨hcs,hx⟩|⟨a,len',cap',zs,hcs,_,hl,hm,hz,hx,hcell,hwz⟩
 ·simp only[Value.cells,List.cons.injEq,Value.slice.injEq,and_true] at hcs
  simp only[Prod.mk.injEq] at hx
  obtain⟨rfl,rfl,rfl⟩:=hcs
  exact⟨none,0,0,[],rfl,Reads.nil,Nat.le_refl _,Nat.zero_le _,.inl ⟨hx.1,rfl⟩⟩
 ·simp only[Value.cells,List.cons.injEq,Value.slice.injEq,and_true] at hcs
  simp only[Prod.mk.injEq] at hx
  obtain⟨rfl,rfl,rfl⟩:=hcs
  simp only[if_true] at hz
  refine⟨_,_,_,(zs.take n).map (fun z=>UInt8.ofNat z.toNat),rfl,⟨by simp;omega,fun hn=>⟨a,rfl,?_,fun j u hu=>?_⟩⟩,hl,hm,.inr ⟨zs,hx.1,hz⟩⟩
  ·have:=World.block_lt_of_cell? w (a.add 0) (hcell 0 (by omega))
   rwa [block_add] at this
  ·obtain⟨hj,rfl⟩:=u8s_get hu
   simp only[List.length_map,List.length_take] at hj
   rw[hcell j (by omega)]
   simp only[List.getElem_map,List.getElem_take]
   rw[u8_of_wf (hwz _ (List.getElem_mem _))]
   simp[List.getD,show j<zs.length by omega]
theorem open_nums {t e:TypeId} {k:IntKind} (ht:P.underlying t=some (.slice e)) (he:P.underlying e=some (.int k)) (hc:P.cellsOf e=1) {w:World} {v:Value} {d:DataW H} {p:List MemPlace} {r:Reach} {b0:Nat}
 (hv:Value.okWide P w r b0 t v) (h:DataW.Trod enc P w 0 (fun _=>true) true t v d p) :
 ∃ (A:Option Addr) (n cap:Nat) (l:List Int),v=.slice A n cap∧Reads w w.heap.size 1 A n (l.map (Value.int k))∧(∀ z∈l,(Lit.int k z).wf=true)∧n≤cap∧cap≤maxLen∧
   ((d=.nil∧n=0)∨∃ zs:List Int,d=.slice (lits k (zs.take n)) (lits k (zs.drop n))∧zs.length=cap):=by
 obtain⟨A,n,cap,rfl⟩:=okWide_slice ht hv
 obtain⟨fuel,hf⟩:=h
 rcases open_ints ht he hc hf with ⟨hcs,hx⟩|⟨a,len',cap',zs,hcs,_,hl,hm,hz,hx,hcell,hwz⟩
 ·simp only[Value.cells,List.cons.injEq,Value.slice.injEq,and_true] at hcs
  simp only[Prod.mk.injEq] at hx
  obtain⟨rfl,rfl,rfl⟩:=hcs
  exact⟨none,0,0,[],rfl,Reads.nil,by simp,Nat.le_refl _,Nat.zero_le _,.inl ⟨hx.1,rfl⟩⟩
 ·simp only[Value.cells,List.cons.injEq,Value.slice.injEq,and_true] at hcs
  simp only[Prod.mk.injEq] at hx
  obtain⟨rfl,rfl,rfl⟩:=hcs
  simp only[if_true] at hz
  refine⟨_,_,_,zs.take n,rfl,⟨by simp;omega,fun hn=>⟨a,rfl,?_,fun j u hu=>?_⟩⟩,fun z hz=>hwz z (List.mem_of_mem_take hz),hl,hm,.inr ⟨zs,hx.1,hz⟩⟩
  ·have:=World.block_lt_of_cell? w (a.add 0) (hcell 0 (by omega))
   rwa [block_add] at this
  ·rw[List.getElem?_map,List.getElem?_take] at hu
   split at hu
   ·rename_i hj
    rw[List.getElem?_eq_getElem (by omega)] at hu
    rw[hcell j (by omega)]
    simp only[Option.map_some,Option.some.injEq] at hu
    rw[←hu]
    simp[List.getD,show j<zs.length by omega]
   ·cases hu
end
end Go.Hop
end
section
namespace Go.Proofs.YtmijcbfgfkeodaaGreatDoor
open Go.RowKit Go.Hop Go.ChangeShapes Go.WideShapes Go.ChangeAt
theorem own:ownKnob Tryz.prog.godebug=none:=by kernel_rfl
theorem laidOut:laidOutB Tryz.prog=true:=by kernel_rfl
end Go.Proofs.YtmijcbfgfkeodaaGreatDoor
end
section
namespace Go.Proofs.YtmijcbfgfkeodaaGreatDoor.W
def mem (F:Int) (M:Nat) (x:Int):Bool:=decide (x≤F) || (decide (F<x) && M.testBit (x-F-1).toNat)
theorem mem_strip1 {F:Int} {M:Nat} (ho:M % 2=1) (x:Int):mem (F+1) (M / 2) x=mem F M x:=by
 unfold mem
 rw[Bool.eq_iff_iff]
 simp only[Bool.or_eq_true,Bool.and_eq_true,decide_eq_true_eq]
 rcases Int.lt_trichotomy x (F+1) with h|h|h
 ·constructor<;>intro _<;>left<;>omega
 ·constructor
  ·intro _
   right
   refine⟨by omega,?_⟩
   have:(x-F-1).toNat=0:=by omega
   rw[this,Nat.testBit_zero];simpa using ho
  ·intro _;left;omega
 ·have e:(x-F-1).toNat=(x-(F+1)-1).toNat+1:=by omega
  rw[e,Nat.testBit_succ]
  constructor
  ·rintro (h1|⟨_,h1⟩)
   ·omega
   ·exact .inr ⟨by omega,h1⟩
  ·rintro (h1|⟨_,h1⟩)
   ·omega
   ·exact .inr ⟨by omega,h1⟩
theorem mem_strip:∀ (k:Nat) (F:Int) (M:Nat) (x:Int),mem (strip k F M).1 (strip k F M).2 x=mem F M x
 | 0,F,M,x=>by unfold strip;rfl
 | k+1,F,M,x=>by
   unfold strip
   split
   ·rename_i ho
    rw[mem_strip k,mem_strip1 ho]
   ·rfl
theorem strip_even:∀ (k:Nat) (F:Int) (M:Nat),M<2 ^ k→(strip k F M).2 % 2=0
 | 0,F,M,h=>by unfold strip;simp at h;omega
 | k+1,F,M,h=>by
   unfold strip
   split
   ·exact strip_even k _ _ (by rw[Nat.pow_succ] at h;omega)
   ·omega
theorem mem_put {F:Int} {M:Nat} {n:Int} (h:F<n) (x:Int):mem (put F M n).1 (put F M n).2 x=(mem F M x || decide (x=n)):=by
 unfold put
 rw[mem_strip]
 unfold mem
 rw[Bool.eq_iff_iff]
 simp only[Nat.testBit_or,Nat.testBit_two_pow,Bool.or_eq_true,Bool.and_eq_true,decide_eq_true_eq]
 constructor
 ·rintro (h1|⟨h1,h2|h2⟩)
  ·exact .inl (.inl h1)
  ·exact .inl (.inr ⟨h1,h2⟩)
  ·exact .inr (by omega)
 ·rintro ((h1|⟨h1,h2⟩)|h1)
  ·exact .inl h1
  ·exact .inr ⟨h1,.inl h2⟩
  ·exact .inr ⟨by omega,.inr (by rw[h1])⟩
structure Low (k:Int) (F:Int) (M:Nat):Prop where
 inv:WInv F M
 top:∀ x,mem F M x=true→x≤k
 even:M % 2=0
theorem Low.none {k:Int} (hk:0≤k):Low k 0 0:=⟨WInv.none,fun x h=>by unfold mem at h;simp at h;omega,rfl⟩
theorem Low.floor {k F:Int} {M:Nat} (h:Low k F M):F≤k:=h.top F (by unfold mem;simp)
theorem Low.near {k F:Int} {M:Nat} (h:Low k F M) (hk:k≤60) {n:Int} (hn:n≤k+1):far F n=false:=by
 have:=h.inv.lo
 unfold far
 rw[Bool.and_eq_false_iff]
 exact .inr (decide_eq_false (by omega))
theorem Low.seen {k F:Int} {M:Nat} (h:Low k F M) (hk:k≤60) {n:Int} (hn:n≤k+1):seen F M n=mem F M n:=by
 unfold Go.Proofs.YtmijcbfgfkeodaaGreatDoor.W.seen mem
 rw[h.near hk hn]
 by_cases hF:n≤F
 ·rw[decide_eq_true hF];rfl
 ·rw[decide_eq_false hF,decide_eq_true (show F<n by omega)];rfl
theorem Low.addB {k F:Int} {M:Nat} (h:Low k F M) (hk:k≤60) {n:Int} (hn:n≤k+1):addB F M n=!mem F M n:=by
 unfold Go.Proofs.YtmijcbfgfkeodaaGreatDoor.W.addB
 rw[h.near hk hn,h.seen hk hn];rfl
theorem Low.add {k F:Int} {M:Nat} (h:Low k F M) (hk:k≤60) {n:Int} (hn:n≤k):Low k (addS F M n).1 (addS F M n).2∧∀ x,mem (addS F M n).1 (addS F M n).2 x=(mem F M x || decide (x=n)):=by
 unfold addS
 cases hb:Go.Proofs.YtmijcbfgfkeodaaGreatDoor.W.addB F M n with
 | false=>
   rw[if_neg Bool.false_ne_true]
   rw[h.addB hk (by omega)] at hb
   refine⟨h,fun x=>?_⟩
   by_cases hx:x=n
   ·subst hx
    have:mem F M x=true:=by simpa using hb
    rw[this];rfl
   ·rw[decide_eq_false hx,Bool.or_false]
 | true=>
   rw[if_pos rfl]
   obtain⟨h1,h2,_⟩:=addB_range hb
   have hm:=mem_put (M:=M) h1
   refine⟨⟨h.inv.put (by omega) h1 h2,fun x hx=>?_,?_⟩,hm⟩
   ·rw[hm,Bool.or_eq_true,decide_eq_true_eq] at hx
    rcases hx with hx|hx
    ·exact h.top x hx
    ·omega
   ·unfold put
    refine strip_even 64 _ _ ?_
    exact Nat.or_lt_two_pow (n:=64) h.inv.mask (Nat.pow_lt_pow_right (by omega) (by omega))
theorem Low.full {k F:Int} {M:Nat} (h:Low k F M) (hall:∀ x,1≤x→x≤k→mem F M x=true):F=k∧M=0:=by
 have h0:=h.inv.lo
 have hF:F=k:=by
  rcases Int.lt_or_eq_of_le h.floor with hlt|he
  ·exfalso
   have:=hall (F+1) (by omega) (by omega)
   unfold mem at this
   simp only[Bool.or_eq_true,Bool.and_eq_true,decide_eq_true_eq] at this
   rcases this with h1|⟨_,h1⟩
   ·omega
   ·rw[show (F+1-F-1).toNat=0 by omega,Nat.testBit_zero] at h1
    have:=h.even
    simp at h1;omega
  ·exact he
 refine⟨hF,Nat.eq_of_testBit_eq fun i=>?_⟩
 rw[Nat.zero_testBit]
 cases hi:M.testBit i with
 | false=>rfl
 | true=>
   have:=h.top (F+1+i) (by
    unfold mem
    rw[Bool.or_eq_true,Bool.and_eq_true]
    refine .inr ⟨decide_eq_true (by omega),?_⟩
    rw[show (F+1+(i:Int)-F-1).toNat=i by omega];exact hi)
   omega
end Go.Proofs.YtmijcbfgfkeodaaGreatDoor.W
end
section
namespace Go.Proofs.YtmijcbfgfkeodaaGreatDoor.K
open Go.RowKit Go.Hop Go.Shelf
def sortDl_ren:Go.Shelf.Ren:=⟨fun|6=>134|15=>208|14=>209|28=>265|29=>266|20=>267|21=>268|22=>269|23=>270|24=>271|25=>272|26=>273|27=>274|46=>316|47=>312|48=>313|49=>317|50=>318|57=>349|n=>n,fun|22=>30|24=>29|25=>230|3=>3|39=>86|0=>0|53=>85|55=>27|4=>4|46=>341|45=>340|50=>346|5=>5|9=>9|66=>385|70=>388|76=>411|77=>412|n=>n,fun|n=>n⟩
theorem sortDl:Go.Proofs.SlLaysF0.n6 Tryz.prog sortDl_ren:={
 mixed:=by kernel_rfl
 f6:=⟨Tryz.f134.name,by decide,Tryz.func134.trans (congrArg some (by kernel_rfl))⟩
 f14:=⟨Tryz.f209.name,by decide,Tryz.func209.trans (congrArg some (by kernel_rfl))⟩
 f15:=Tryz.func208.trans (congrArg some (by kernel_rfl))
 f20:=⟨Tryz.f267.name,by decide,Tryz.func267.trans (congrArg some (by kernel_rfl))⟩
 f21:=⟨Tryz.f268.name,by decide,Tryz.func268.trans (congrArg some (by kernel_rfl))⟩
 f22:=⟨Tryz.f269.name,by decide,Tryz.func269.trans (congrArg some (by kernel_rfl))⟩
 f23:=⟨Tryz.f270.name,by decide,Tryz.func270.trans (congrArg some (by kernel_rfl))⟩
 f24:=⟨Tryz.f271.name,by decide,Tryz.func271.trans (congrArg some (by kernel_rfl))⟩
 f25:=⟨Tryz.f272.name,by decide,Tryz.func272.trans (congrArg some (by kernel_rfl))⟩
 f26:=⟨Tryz.f273.name,by decide,Tryz.func273.trans (congrArg some (by kernel_rfl))⟩
 f27:=⟨Tryz.f274.name,by decide,Tryz.func274.trans (congrArg some (by kernel_rfl))⟩
 f28:=Tryz.func265.trans (congrArg some (by kernel_rfl))
 f29:=Tryz.func266.trans (congrArg some (by kernel_rfl))
 f46:=⟨Tryz.f316.name,by decide,Tryz.func316.trans (congrArg some (by kernel_rfl))⟩
 f47:=Tryz.func312.trans (congrArg some (by kernel_rfl))
 f48:=Tryz.func313.trans (congrArg some (by kernel_rfl))
 f49:=⟨Tryz.f317.name,by decide,Tryz.func317.trans (congrArg some (by kernel_rfl))⟩
 f50:=⟨Tryz.f318.name,by decide,Tryz.func318.trans (congrArg some (by kernel_rfl))⟩
 f57:=⟨Tryz.f349.name,by decide,Tryz.func349.trans (congrArg some (by kernel_rfl))⟩
 t0:=Tryz.underlying0
 a0:=Tryz.isAgg0
 z0:=Tryz.sizeOf0
 v0:=Tryz.zeroValue0
 t3:=Tryz.underlying3
 a3:=Tryz.isAgg3
 z3:=Tryz.sizeOf3
 v3:=Tryz.zeroValue3
 t4:=Tryz.underlying4
 a4:=Tryz.isAgg4
 z4:=Tryz.sizeOf4
 v4:=Tryz.zeroValue4
 t5:=Tryz.underlying5
 a5:=Tryz.isAgg5
 z5:=Tryz.sizeOf5
 v5:=Tryz.zeroValue5
 t9:=Tryz.underlying9
 a9:=Tryz.isAgg9
 z9:=Tryz.sizeOf9
 v9:=Tryz.zeroValue9
 t22:=Tryz.underlying30
 a22:=Tryz.isAgg30
 z22:=Tryz.sizeOf30
 v22:=Tryz.zeroValue30
 t25:=Tryz.underlying230
 a25:=Tryz.isAgg230
 z25:=Tryz.sizeOf230
 v25:=Tryz.zeroValue230
 t39:=Tryz.underlying86
 a39:=Tryz.isAgg86
 z39:=Tryz.sizeOf86
 v39:=Tryz.zeroValue86
 t45:=Tryz.underlying340
 a45:=Tryz.isAgg340
 z45:=Tryz.sizeOf340
 v45:=Tryz.zeroValue340
 t46:=Tryz.underlying341
 a46:=Tryz.isAgg341
 z46:=Tryz.sizeOf341
 v46:=Tryz.zeroValue341
 t50:=Tryz.underlying346
 a50:=Tryz.isAgg346
 z50:=Tryz.sizeOf346
 v50:=Tryz.zeroValue346
 t53:=Tryz.underlying85
 a53:=Tryz.isAgg85
 z53:=Tryz.sizeOf85
 v53:=Tryz.zeroValue85
 t55:=Tryz.underlying27
 a55:=Tryz.isAgg27
 z55:=Tryz.sizeOf27
 v55:=Tryz.zeroValue27
 t66:=Tryz.underlying385
 a66:=Tryz.isAgg385
 z66:=Tryz.sizeOf385
 v66:=Tryz.zeroValue385
 t70:=Tryz.underlying388
 a70:=Tryz.isAgg388
 z70:=Tryz.sizeOf388
 v70:=Tryz.zeroValue388
 t76:=Tryz.underlying411
 a76:=Tryz.isAgg411
 z76:=Tryz.sizeOf411
 v76:=Tryz.zeroValue411
 t77:=Tryz.underlying412
 a77:=Tryz.isAgg412
 z77:=Tryz.sizeOf412
 v77:=Tryz.zeroValue412 }
end Go.Proofs.YtmijcbfgfkeodaaGreatDoor.K
namespace Go.Proofs.YtmijcbfgfkeodaaGreatDoor.K
open Go.RowKit Go.Hop Go.Shelf
def cmpT (a b:ByteArray):Int:=if slt a b then -1 else if slt b a then 1 else 0
theorem gtr_is (a b:ByteArray):(!(Op.bytesLess a.toList b.toList || a.toList == b.toList))=slt b a:=by
 cases h1:slt a b with
 | true=>
   have h2:=slt_no h1
   unfold slt at h1
   rw[h1,h2];rfl
 | false=>
   have h1':=h1
   unfold slt at h1'
   rw[h1',Bool.false_or]
   cases h2:slt b a with
   | false=>
     have:=slt_tri h1 h2
     subst this
     simp
   | true=>
     have hne:a.toList≠b.toList:=fun e=>by
      have:=txt_eq.1 e
      rw[this,slt_irr] at h2;cases h2
     simp[hne]
theorem isNaN_any (w:World) (a:ByteArray):Calls Tryz.prog 210 #[.string a] w fun e w'=>e=.returned (.bool false)∧w=w':=by
 go_enter Tryz.func210,Tryz.ntmps210
 go_wp2_with fail
 go_ret
 exact⟨by simp,rfl⟩
theorem Compare_any (w:World) (a b:ByteArray):Calls Tryz.prog 136 #[.string a,.string b] w fun e w'=>e=.returned (.int .i64 (cmpT a b))∧w=w':=by
 have hg:=gtr_is a b
 unfold cmpT
 cases h1:slt a b with
 | true=>
   rw[if_pos rfl]
   unfold slt at h1
   go_enter Tryz.func136,Tryz.ntmps136
   go_wp2_with (go_at_call 210;refine (isNaN_any _ _).mono ?_;rintro e w' ⟨rfl,rfl⟩)
   go_ret
   exact⟨rfl,rfl⟩
 | false=>
   rw[if_neg (by simp)]
   unfold slt at h1
   cases h2:slt b a with
   | true=>
     rw[if_pos rfl]
     rw[h2] at hg
     go_enter Tryz.func136,Tryz.ntmps136
     go_wp2_with (go_at_call 210;refine (isNaN_any _ _).mono ?_;rintro e w' ⟨rfl,rfl⟩)
     all_goals first|(go_ret;exact⟨rfl,rfl⟩)|simp_all
   | false=>
     rw[if_neg (by simp)]
     rw[h2] at hg
     go_enter Tryz.func136,Tryz.ntmps136
     go_wp2_with (go_at_call 210;refine (isNaN_any _ _).mono ?_;rintro e w' ⟨rfl,rfl⟩)
     all_goals first|(go_ret;exact⟨rfl,rfl⟩)|simp_all
theorem cmp_any (x y:Dl) (W:World):Calls Tryz.prog 135 #[.agg #[.string x.1,.int .u64 (x.2:Int)],.agg #[.string y.1,.int .u64 (y.2:Int)]] W fun e w'=>e=.returned (.int .i64 (cmpT x.1 y.1))∧∃ q os',w'=Sort.grow (W.drewN q) os':=by
 have hcon:=fun W'=>Compare_any W' x.1 y.1
 generalize cmpT x.1 y.1=r at hcon ⊢
 go_enter Tryz.func135,Tryz.ntmps135
 go_wp2_with (go_at_call 136;refine (hcon _).mono ?_;rintro e w' ⟨rfl,rfl⟩)
 go_ret
 exact⟨rfl,0,_,by rw[Sort.alloc_eq_grow,Sort.alloc_eq_grow,Sort.grow_grow];rfl⟩
theorem ltOf_is (x y:Dl):Go.Proofs.ltOf (fun x y:Dl=>cmpT x.1 y.1) x y=slt x.1 y.1:=by
 unfold Go.Proofs.ltOf cmpT
 cases h1:slt x.1 y.1<;>cases h2:slt y.1 x.1<;>simp[h1,h2]
theorem swo:Sort.SWO (Go.Proofs.ltOf fun x y:Dl=>cmpT x.1 y.1) where
 irrefl x:=by rw[ltOf_is];exact slt_irr _
 trans x y z h k:=by rw[ltOf_is] at *;exact slt_tr h k
 ntrans x y z h k:=by
  rw[ltOf_is] at *
  cases hz:slt x.1 z.1 with
  | false=>rfl
  | true=>
    cases hzy:slt z.1 y.1 with
    | true=>rw[slt_tr hz hzy] at h;cases h
    | false=>have e:=slt_tri k hzy;rw[e,hz] at h;cases h
theorem cell_flat (l:List Dl) (j:Nat) (hj:j<l.length*2):(dcells l)[j]?=some (Sort.flatK dcell 2 l.toArray)[j]!:=by
 have h:=flat_get dcell 2 dcell_len l (j / 2) (j % 2) (by omega) (Nat.mod_lt _ (by omega))
 rw[show j / 2*2+j % 2=j by omega] at h
 unfold dcells
 rw[h,Sort.get_flatK dcell 2 l.toArray j (by simpa using hj)]
 have h2:j / 2<l.length:=by omega
 have h3:l.toArray[j / 2]! = l[j / 2]:=by simp[h2]
 rw[h3]
 have h4:j % 2<(dcell l[j / 2]).length:=by rw[dcell_len];exact Nat.mod_lt _ (by omega)
 rw[List.getElem?_eq_getElem h4]
 simp[h4]
theorem sort_any (w:World) (g c:Nat) (l:List Dl) (cur:Array Value) (hg:w.heap[g]?=some (.cells cur 29 (0,0))) (hcur:cur.toList.take (l.length*2)=dcells l) (hl:l.length<4611686018427387904) :
 Calls Tryz.prog 134 #[.slice (some ⟨g,0,none⟩) l.length c,.func (.func 135) #[] #[]] w fun e w'=>e=.returned (.tuple #[])∧∃ l':List Dl,l'.Perm l∧(∀ i j (hi:i<l'.length) (hj:j<l'.length),i<j→slt l'[j].1 l'[i].1=false)∧In w' (fun b=>b=g) 2 (some ⟨g,0,none⟩) l.length (dcells l')∧Just (fun b=>b=g) w w':=by
 have hgl:g<w.heap.size:=(Array.getElem?_eq_some_iff.1 hg).1
 have hH:Sort.HoldsK dcell 2 w g 0 l.toArray:=fun j hj=>by
  rw[Sort.size_flatK] at hj
  have hj':j<l.length*2:=by simpa using hj
  have hc:=cell_flat l j hj'
  rw[←hcur,List.getElem?_take_of_lt hj',Array.getElem?_toList] at hc
  refine⟨?_,?_⟩
  ·unfold World.cell?
   simp only[hg,Nat.zero_add]
   exact hc
  ·unfold World.frozen?
   simp only[hg]
   simp
 have eg:∀ args w,(callFunc 135 args).run Tryz.prog w=.ok (.enter 135 args) w:=fun args w=>by go_simp
 have hcon:=Go.Proofs.AnyQ.slices_SortFunc sortDl 2 Tryz.isAgg29 Tryz.sizeOf29 dcell dcell_len (fun x v hv=>by simp only[dcell,List.mem_cons,List.not_mem_nil,or_false] at hv;rcases hv with rfl|rfl<;>rfl) (fun x y:Dl=>cmpT x.1 y.1) swo 135 #[] g 0 c l.toArray w eg (fun m os dk _ x y=>cmp_any x y _) hH hgl (by simpa using hl)
 change Calls Tryz.prog 134 _ _ _ at hcon
 rw[List.size_toArray] at hcon
 refine hcon.mono ?_
 rintro e w' ⟨he,d',n,os,hp,hs,rfl⟩
 obtain⟨l',rfl⟩:∃ l':List Dl,d'=l'.toArray:=⟨d'.toList,by simp⟩
 have hll:l'.length=l.length:=by have:=hp.1;simpa using this
 have hH':=Go.Proofs.holdsK_sortWorldK dcell 2 w g 0 n l.toArray l'.toArray os hgl hH hp.1
 have hsz:=Go.Proofs.size_sortWorldK_c dcell 2 w g 0 n l'.toArray os
 refine⟨he,l',?_,fun i j hi hj hij=>?_,⟨by rw[dcells_len,hll],fun hn=>⟨_,rfl,rfl,Nat.lt_of_lt_of_le hgl hsz,fun j u hu=>?_⟩⟩,⟨rfl,rfl,rfl,hsz,fun b hb hbg=>?_⟩⟩
 ·have:=hp.2.2
  simp only[List.extract_toArray,List.extract_eq_take_drop,List.drop_zero,Nat.sub_zero] at this
  rwa [List.take_of_length_le (by omega),List.take_of_length_le (by omega)] at this
 ·have:=hs i j (Nat.zero_le _) hij (by omega)
  rw[ltOf_is] at this
  simpa [hi,hj] using this
 ·have hj:j<l'.length*2:=by
   have:=(List.getElem?_eq_some_iff.1 hu).1
   rwa [dcells_len] at this
  have h1:=(hH' j (by simpa [Sort.size_flatK] using hj)).1
  rw[Addr.add_lit,←hu,cell_flat l' j hj]
  exact h1
 ·have hb':b<(w.heap.modify g (Sort.onCells (Sort.putCells id 0 (Sort.flatK dcell 2 l'.toArray)))).size:=by simpa using hb
  show ((w.heap.modify g (Sort.onCells (Sort.putCells id 0 (Sort.flatK dcell 2 l'.toArray))))++os)[b]?=w.heap[b]?
  rw[Array.getElem?_append_left hb',Array.getElem?_modify,if_neg (fun e=>hbg e.symm)]
end Go.Proofs.YtmijcbfgfkeodaaGreatDoor.K
end
section
namespace Go.Proofs.YtmijcbfgfkeodaaGreatDoor.K
open Go.RowKit Go.Hop
theorem srt_mem {q:Sm} (hs:Srt q) {x:ByteArray} {v:Nat}:lk q x=some v↔(x,v)∈q:=⟨lk_mem,fun h=>srt_lk hs h⟩
theorem sorted_is {q l:Sm} (hq:Srt q) (hp:l.Perm q) (hs:∀ i j (hi:i<l.length) (hj:j<l.length),i<j→slt l[j].1 l[i].1=false):l=q:=by
 have hn:(q.map (·.1)).Nodup:=by
  unfold List.Nodup
  rw[List.pairwise_map]
  exact hq.imp fun h e=>by rw[e,slt_irr] at h;cases h
 have hnl:(l.map (·.1)).Nodup:=(hp.map (·.1)).nodup_iff.2 hn
 have hl:Srt l:=by
  refine List.pairwise_iff_getElem.2 fun i j hi hj hij=>?_
  cases h:slt l[i].1 l[j].1 with
  | true=>rfl
  | false=>
    have e:=slt_tri h (hs i j hi hj hij)
    have:=(List.pairwise_iff_getElem.1 hnl) i j (by simpa using hi) (by simpa using hj) hij
    simp only[List.getElem_map] at this
    exact absurd e this
 refine srt_ext hl hq fun x=>?_
 cases h1:lk l x with
 | some v=>exact ((srt_mem hq).2 (hp.mem_iff.1 ((srt_mem hl).1 h1))).symm
 | none=>
   cases h2:lk q x with
   | none=>rfl
   | some v=>rw[(srt_mem hl).2 (hp.mem_iff.2 ((srt_mem hq).1 h2))] at h1;cases h1
theorem perm_of {l q:List Dl} (h1:l.Nodup) (h2:q.Nodup) (h:∀ d,d∈l↔d∈q):l.Perm q:=(List.perm_ext_iff_of_nodup h1 h2).2 h
theorem clip_any (w:World) (A:Option Addr) (n c:Nat) (hn:n≤c) :
 Calls Tryz.prog 137 #[.slice A n c] w fun e w'=>e=.returned (.slice A n n)∧w=w':=by
 go_enter Tryz.func137,Tryz.ntmps137
 go_wp2_with fail
 go_ret
 exact⟨rfl,rfl⟩
set_option maxHeartbeats 1000000 in
theorem All_some (hnone:∀ w:World,Calls Tryz.prog 134 #[.slice none 0 0,.func (.func 135) #[] #[]] w fun e w'=>e=.returned (.tuple #[])∧w'=w) (w:World) (s:Nat) (q:Sm) (V:Nat→Prop) (h:SumsAt s q w V) (hq:q.length≤1048576) :
 Calls Tryz.prog 59 #[.pointer (some ⟨s,0,none⟩)] w fun e w'=>∃ A,e=.returned (.slice A q.length q.length)∧In w' (New w w') 2 A q.length (dcells q)∧Grow w w':=by
 obtain⟨h1,h2,b,h3,h4,hB0,hM0⟩:=h
 have c0:=hB0.cell 0
 obtain⟨w1,hrun,⟨left0,hsr0,hleft0⟩,hg1,hsz1⟩:=SMap.range smT hM0
 have hnd:q.Nodup:=h2.srt.imp fun h e=>by rw[e,slt_irr] at h;cases h
 obtain⟨r,HR⟩:∃ r:Nat,Hid (r=w.heap.size):=⟨_,rfl⟩
 go_enter Tryz.func59,Tryz.ntmps59
 go_wp2_with fail
 rw[←HR.out] at hsr0 ⊢
 clear hrun c0
 go_loopw [3] (fun o wr=>∃ (left:ByteArray→Bool) (cnt:Nat) (es:List Dl),Own wr (fun b=>New w wr b∧b≠r) 29 2 o es.length (dcells es)∧SRange Tryz.prog 9 27 .u64 wr b r q.length (fq q) left cnt∧es.Nodup∧(∀ d,d∈es↔d∈q∧left d.1=false)∧Grow w wr) (fun _ wr=>wr.rangeLeft b r)
 case atStart=>
  refine⟨left0,_,[],Own.nil,hsr0,List.nodup_nil,fun d=>⟨fun h=>absurd h List.not_mem_nil,fun ⟨hd,hl⟩=>?_⟩,hg1⟩
  have:(lk q d.1).isSome=true:=by rw[srt_lk h2.srt hd];rfl
  rw[hleft0 d.1 (h2.txt d hd),fq_some,this] at hl
  cases hl
 case round=>
  clear hsr0 hleft0 hg1
  obtain⟨left,cnt,es,hO,hsr,hnd2,hes,hgw⟩:=hrel
  obtain⟨A1,c1,rfl,hI1,hn1,hm1⟩:=hO.in_
  have hel:es.length≤q.length:=by
   have hp:=perm_of hnd2 (hnd.filter fun d => !left d.1) (fun d=>by rw[hes,List.mem_filter];simp)
   rw[hp.length_eq]
   exact List.length_filter_le _ _
  rcases hsr.next smT 0 with ⟨h0,hl0,hrun⟩|⟨x,v,w3,cnt3,hxl,hlx,hfx,hwv,hrun,hsr3,hlt,hj3,hen⟩
  ·have hperm:es.Perm q:=perm_of hnd2 hnd fun d=>by rw[hes,hl0];simp
   have hlen:=Lib.hid hperm.length_eq
   have hrl:=hsr.lt
   rcases hO.2 with ⟨hv,hn0⟩|⟨g,cap,cur,hv,hVg,hgc,hnc,hcm,hsz,htk⟩
   ·obtain rfl:es=[]:=List.eq_nil_of_length_eq_zero hn0
    obtain rfl:q=[]:=List.eq_nil_of_length_eq_zero hlen.out.symm
    injection hv with hv1 hv2 hv3
    subst hv1 hv3
    clear hO hI1
    go_wp2_with fail
    refine (hnone _).mono ?_
    rintro e w5 ⟨rfl,rfl⟩
    go_wp2_with fail
    refine (clip_any _ none 0 0 (Nat.le_refl _)).mono ?_
    rintro e w6 ⟨rfl,rfl⟩
    go_wp2_with fail
    go_ret
    exact⟨none,rfl,In.nil,hgw⟩
   ·injection hv with hv1 hv2 hv3
    subst hv1 hv3
    have hsort:=sort_any wr g c1 es cur hgc htk (by omega)
    clear hO hI1 hgc htk hcm hsz
    go_wp2_with fail
    refine hsort.mono ?_
    rintro e w5 ⟨rfl,l',hp,hs,hI,hj⟩
    obtain rfl:l'=q:=sorted_is h2.srt (hp.trans hperm) hs
    clear hsort
    go_wp2_with fail
    refine (clip_any _ (some ⟨g,0,none⟩) es.length c1 hn1).mono ?_
    rintro e w6 ⟨rfl,rfl⟩
    go_wp2_with fail
    go_ret
    have hs5:=hj.size
    refine⟨some ⟨g,0,none⟩,by first|rfl|(rw[hlen.out];rfl),?_,Below.trans hgw (hj.below (B:=w.heap.size) (fun b hb=>by rw[hb];exact hVg.1.1) hgw.size)⟩
    rw[hlen.out] at hI
    exact In.mono hI fun b hb=>by rw[hb];exact⟨hVg.1.1,Nat.lt_of_lt_of_le hVg.1.2 hs5⟩
  ·obtain⟨v',hv'⟩:∃ v',lk q x=some v':=by
    unfold fq at hfx
    cases hl:lk q x with
    | none=>rw[hl] at hfx;cases hfx
    | some v'=>exact⟨v',rfl⟩
   obtain rfl:v=(v':Int):=by unfold fq at hfx;rw[hv'] at hfx;injection hfx with hfx;exact hfx.symm
   have hmem:=(srt_mem h2.srt).1 hv'
   have hrw:w.heap.size≤r:=by rw[HR.out];exact Nat.le_refl _
   have hbr:b≠r:=hsr.ne.symm
   have hbl:=hM0.lt
   have hrl:=hsr.lt
   have hg3:Grow w w3:=Below.trans hgw (hj3.below (B:=w.heap.size) (fun b hb=>by rw[hb];exact hrw) hgw.size)
   have hs3:=hj3.size
   have hO3:Own w3 (fun b=>New w wr b∧b≠r) 29 2 (.slice A1 es.length c1) es.length (dcells es):=hO.keep fun b hb=>hj3.block b hb.1.2 hb.2
   have hmeas:w3.rangeLeft b r<wr.rangeLeft b r:=by rw[hsr3.left_eq,hsr.left_eq];exact hlt
   have hnot:(x,v') ∉ es:=fun h=>by have:=((hes _).1 h).2;rw[hlx] at this;cases this
   have hga:Grow w3 (w3.alloc (.cells #[.string x,.int .u64 (v':Int)] 29)):=(Below.refl _ _).alloc (Nat.le_refl _) _
   clear hO hI1 hfx hwv
   go_wp2_with (at_builtin;refine stay ?_)
   refine stay_out ?_
   refine wpList_own (V:=fun b=>New w wr b∧b≠r) deltaE _ rfl (.tmp 16) (.tmp 20) rfl (.slice A1 es.length c1) es.length (dcells es) rfl (hO3.grow (fun b hb=>by have:=hb.1.2;omega) hga) (w3.heap.size+1) (some ⟨w3.heap.size,0,none⟩) 1 1 (dcells [(x,v')]) rfl (reads_laid w3 _ 29 _ rfl _ rfl) (dcells_one _) (by omega) ?_
   intro v5 w5 hO5 hj5
   have hs5:=hj5.size
   simp at hs5
   have hg5:Grow w w5:=Below.trans (below_trans hg3 hga hg3.size) (hj5.below (B:=w.heap.size) (fun b hb=>hb.1.1) (by simp;omega))
   have hO6:Own w5 (fun b=>New w w5 b∧b≠r) 29 2 v5 (es++[(x,v')]).length (dcells (es++[(x,v')])):=by
    rw[List.length_append]
    have:dcells (es++[(x,v')])=dcells es++dcells [(x,v')]:=by unfold dcells;rw[List.flatMap_append]
    rw[this]
    refine hO5.mono fun b hb=>?_
    rcases hb with hb|hb
    ·exact⟨⟨hb.1.1,by have:=hb.1.2;omega⟩,hb.2⟩
    ·have h6:=hb.1
     simp at h6
     exact⟨⟨by omega,hb.2⟩,by omega⟩
   have hsr5:=(hsr3.grow hga).just hj5 (fun h=>by have:=h.1.1;omega) (fun h=>h.2 rfl)
   have hmeas5:w5.rangeLeft b r<wr.rangeLeft b r:=by rw[hsr5.left_eq,hsr.left_eq];exact hlt
   have hes5:∀ d,d∈es++[(x,v')]↔d∈q∧(left d.1 && decide (d.1≠x))=false:=fun d=>by
    rw[List.mem_append,List.mem_singleton,hes]
    constructor
    ·rintro (⟨h,hl⟩|rfl)
     ·exact⟨h,by rw[hl];rfl⟩
     ·exact⟨hmem,by simp⟩
    ·rintro ⟨h,hl⟩
     by_cases hdx:d.1=x
     ·right
      have h8:=srt_lk h2.srt h
      rw[hdx,hv'] at h8
      injection h8 with h8
      exact Prod.ext hdx h8.symm
     ·left
      refine⟨h,?_⟩
      simpa [hdx] using hl
   have hnd5:(es++[(x,v')]).Nodup:=List.nodup_append.2 ⟨hnd2,by simp,fun a ha c hc e=>by rw[List.mem_singleton.1 hc] at e;exact hnot (e▸ha)⟩
   clear hO5 hj5 hO3 hj3 hmeas hsr3 hes hnd2 hg3 hga
   generalize es++[(x,v')]=es5 at hO6 hes5 hnd5
   go_wp2_with fail
   go_roundw
   case rel=>exact⟨_,cnt3,es5,hO6,hsr5,hnd5,hes5,hg5⟩
   case measure=>exact hmeas5
theorem sort_none (w:World):Calls Tryz.prog 134 #[.slice none 0 0,.func (.func 135) #[] #[]] w fun e w'=>e=.returned (.tuple #[])∧w'=w:=
 Go.Proofs.AnyF.slices_SortFunc_none sortDl none 0 _ w
end Go.Proofs.YtmijcbfgfkeodaaGreatDoor.K
end
