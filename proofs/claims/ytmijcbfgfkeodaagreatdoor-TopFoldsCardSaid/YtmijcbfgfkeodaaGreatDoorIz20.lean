/- Mg5. -/
import Derived.Test.YtmijcbfgfkeodaaGreatDoorIz18
set_option linter.all false
set_option maxRecDepth 100000
set_option maxHeartbeats 2000000
open Go.Value renaming int → ae,slice → ai
open Go.IntKind renaming i64 → af,u64 → ah
open Go.Proofs.Tryz renaming prog → au
open List renaming setIfInBounds_toArray → aw,drop_succ_cons → ax,set_cons_zero → ay,set_cons_succ → az,drop_zero → aB,not_mem_nil → aE,mem_cons → aF
open Nat renaming lt_of_lt_of_le → aA
section
namespace Go.Proofs.YtmijcbfgfkeodaaGreatDoor
open Go.RowKit Go.Hop
theorem qd (w:World) (m:Nat) (q:K.Sm) (d9:List (Int×Value)) (gp:List (Key×Pl)) (e:En) (A:Option Addr) (c:Nat) (D V:Nat→Prop) (hV:∀ b,V b→b<w.heap.size) (hok:e.Ok) (hk:e.k=1) (hd:fV w D A e.ds.length e.ds) (hDl:∀ b,D b→b<w.heap.size) (j5:∀ b,D b→¬ V b) (F:Int) (M:Nat) (B:List Int) (hst:dx gp (e.ag,e.sh)=⟨F,M,B⟩) (hBl:B.length≤1048576) (hI:W.fu F M) (im:-9223372036854775808≤e.sq∧e.sq≤9223372036854775807) (hse:W.seen F M e.sq=false) (oj:∃ x:Int,(pX d9 e.ag).getD (ae af 0)=ae af x∧e.ep<x) (h:eA m q d9 gp w V) :
 Calls au 13 #[((m:Nat):Value),.agg (e.agg A c)] w fun en w'=>en=.returned (.tuple #[ae af 4,ae ah 0])∧eA m q d9 gp w' (Ext V w w')∧Just V w w':=by
 have sR:∀ (vs:Array Value) (w:World),(callFunc 54 vs).run au w=.ok (.enter 54 vs) w:=fun vs w=>by go_simp
 have Bf:∀ (vs:Array Value) (w:World),(callFunc 56 vs).run au w=.ok (.enter 56 vs) w:=fun vs w=>by go_simp
 have Fg:∀ (vs:Array Value) (w:World),(callFunc 55 vs).run au w=.ok (.enter 55 vs) w:=fun vs w=>by go_simp
 have hg0:=bN w (.cells (e.agg A c) 32)
 have du:=ct.made w 32 (e.agg A c)
 obtain⟨y,HY⟩:∃ y:Nat,Hid (y=w.heap.size):=⟨_,rfl⟩
 obtain⟨wa,dq⟩:∃ wa:World,Hid (wa=w.alloc (.cells (e.agg A c) 32)):=⟨_,rfl⟩
 rw[←dq.out] at hg0 du
 rw[←HY.out] at du
 have gN:=f8 wa e D A c hok (In.grow hd hg0)
 unfold En.agg at dq gN du ⊢
 have hk2:(e.k == 2)=false:=by rw[hk];rfl
 have hk3:decide (e.k=2)=false:=by rw[hk];rfl
 clear hk
 go_enter Tryz.func13,Tryz.ntmps13
 go_wp2_with fail
 rw[←dq.out,←HY.out]
 refine gN.mono ?_
 rintro en wb ⟨rfl,hgb⟩
 have hBb:=du.grow hgb
 have y0:=hBb.cell 0
 have y1:=hBb.cell 1
 have y2:=hBb.cell 2
 have rf:=l4 wb m q d9 gp V (fun b hb=>aA (hV b hb) (hg0.trans hgb).size) e.ag e.sh (eA.framed m q d9 gp w wb V h fun b hb=>(hg0.trans hgb).block b (hV b hb))
 rw[hst] at rf
 clear h
 go_wp2_with fail
 clear y0 y1 y2
 refine rf.mono ?_
 rintro en w0 ⟨s,bE,bS,p,g,v,dL,R,rfl,hO,hgc,U,hM0,hU⟩
 have hR:=hO.framed
 obtain⟨UB,ub,_⟩:=(Many.pick _ 6 _ rfl hM0).fst
 obtain⟨Ab,cb,rfl,hRb,_,_⟩:=Own.reads (show Own w0 UB 2 1 v B.length (lI B) from ub)
 obtain⟨nb,zC⟩:∃ nb:Nat,Hid (B.length=nb):=⟨_,Lib.hid rfl⟩
 rw[zC.out] at hM0 hRb hBl
 clear ub
 have hgd:Grow w w0:=(hg0.trans hgb).trans hgc
 have hyl:w.heap.size≤y∧y<wb.heap.size:=by have:=HY.out;have:=hBb.lt;omega
 have hsz0:=hgd.size
 have CY:=hgc.size
 have hSz:∀ b,New wb w0 b→w.heap.size≤b:=fun b hb=>by have:=hb.1;have:=(hg0.trans hgb).size;omega
 have hF:=de m s bE bS p g (.slice Ab nb cb) q d9 dL F M B hR
 have eP:=hF.cons (Cell.framed y 32 #[ae af e.k,ae af e.ag,ae af e.sh,ae af e.sq,ae af e.ep,.slice A e.ds.length c,.string e.se,ae af e.fr,ae af e.tg])
 have hS0:Solo (cB V w) (Many (Cell y 32 #[ae af e.k,ae af e.ag,ae af e.sh,ae af e.sq,ae af e.ep,.slice A e.ds.length c,.string e.se,ae af e.fr,ae af e.tg] :: dU m s bE bS p g (.slice Ab nb cb) q d9 dL F M B R)) w0:=
  Solo.my (U:=fun b=>b=y) (fun b hb => .inr al) hM0 (fun b hb=>(hU b hb).elim (fun h=>⟨.inl h,by have:=hV b h;omega⟩) (fun h=>⟨.inr (hSz b h),h.2⟩)) ⟨rfl,hBb.grow hgc⟩
   (fun b hb=>by rw[hb];exact⟨.inr hyl.1,by omega,fun h=>(hU y h).elim (fun h=>by have:=hV y h;omega) (fun h=>by have:=h.1;omega)⟩)
 have hnd:(dL.map Prod.fst).Nodup:=by
  obtain⟨_,hG,_⟩:=hS0.see 4 rfl
  exact jv hG
 have J0:=Just.bJ (V:=cB V w) hgd
 have hY0:=hS0.blk 0 rfl
 have hm0:=hS0.blk 1 rfl
 have hp0:=hS0.blk 5 rfl
 have jR:=hS0.blk 6 rfl
 have sS:∀ w1,Grow w0 w1→Calls au 54 #[((g:Nat):Value),ae af e.sq] w1 fun en w'=>en=.returned (.bool false)∧Grow w1 w':=fun w1 hg=>by
  have h:=W.gX w1 g F M e.sq (jR.grow hg) hI im
  rw[hse] at h
  exact h
 clear hRb
 go_wp2_with fail
 refine bL 19 91 [(7,.inl (.bool false))] rfl rfl am am am ?_ ?_
 ·intro x hx φ he
  simp only[aF,aE,or_false] at hx
  rcases hx with rfl<;>cases he
 intro ops' A' K' T hops hA' hK hT
 refine bP 31 (((p:Nat):Value)) ?_
 refine bQ 32 (.tmp 31) (((p:Nat):Value)) (((p:Nat):Value)) ?_
 refine bQ 33 (.tmp 32) (((p:Nat):Value)) (((p:Nat):Value)) ?_
 refine bI 34 (.tmp 33) (((p:Nat):Value)) (((g:Nat):Value)) (fun ρ h1 kk w1 (hg:Grow _ w1) hb hf=>by have c:=(hp0.grow hg).cell 0;go_simp) ?_
 refine bQ 35 (.tmp 3) (((y:Nat):Value)) (.pointer (some ⟨y,1,none⟩)) ?_
 refine bQ 36 (.tmp 35) (.pointer (some ⟨y,1,none⟩)) (.pointer (some ⟨y,1+2,none⟩)) ?_
 refine bI 37 (.tmp 36) (.pointer (some ⟨y,1+2,none⟩)) (ae af e.sq) (fun ρ h1 kk w1 (hg:Grow _ w1) hb hf=>by have c:=(hY0.grow hg).cell 3;go_simp) ?_
 refine cC 38 aj ak (bO aj) (.bool false) (by rw[hK.out];rfl) 54 _ _ aj [((g:Nat):Value),ae af e.sq] aj sR (fun kk w1 (hg:Grow _ w1) hb hf=>b_ aj (by exact (sS w1 hg))) ?_
 refine bP 39 (.bool false) ?_
 refine bU 40 (cx hops 8 true 39 false) ?_
 refine bU 41 (cx hops 8 true 39 false) ?_
 refine bU 42 (cx hops 8 true 39 false) ?_
 refine bU 43 (cx hops 8 true 39 false) ?_
 refine bU 44 (cx hops 8 true 39 false) ?_
 refine bU 45 (cx hops 8 true 39 false) ?_
 refine bU 46 (cx hops 8 true 39 false) ?_
 refine bU 47 (cx hops 8 true 39 false) ?_
 refine cG 48 false (.bool false) ?_
 refine bP 30 (.bool false) ?_
 refine ce (fun _ _ w1 (hg:Grow _ w1) _ bR=>hT _ _ ?_)
 clear hops hA' hK hT
 simp only[cj,Act.put,aw,ay,az,ax,aB]
 have kj:=hg
 have hS1:=hS0.grows eP kj
 have hp1:=hp0.grow kj
 have kf:=hY0.grow kj
 have lS:=jR.grow kj
 go_wp2_with fail
 refine bL 9 91 [(7,.inl (.bool false))] rfl rfl am am am ?_ ?_
 ·intro x hx φ he
  simp only[aF,aE,or_false] at hx
  rcases hx with rfl<;>cases he
 intro ops' A' K' T hops hA' hK hT
 refine bP 50 (((p:Nat):Value)) ?_
 refine bI 51 (.tmp 50) (((p:Nat):Value)) (((p:Nat):Value)) (fun ρ h1 kk w2 (hg:Grow _ w2) hb hf=>by go_simp) ?_
 refine bI 52 (.tmp 51) (((p:Nat):Value)) (((p:Nat):Value)) (fun ρ h1 kk w2 (hg:Grow _ w2) hb hf=>by go_simp) ?_
 refine bI 53 (.tmp 52) (((p:Nat):Value)) (((g:Nat):Value)) (fun ρ h1 kk w2 (hg:Grow _ w2) hb hf=>by have c:=(hp1.grow hg).cell 0;go_simp) ?_
 refine bI 54 (.tmp 3) (((y:Nat):Value)) (.pointer (some ⟨y,1,none⟩)) (fun ρ h1 kk w2 (hg:Grow _ w2) hb hf=>by go_simp) ?_
 refine bI 55 (.tmp 54) (.pointer (some ⟨y,1,none⟩)) (.pointer (some ⟨y,1+2,none⟩)) (fun ρ h1 kk w2 (hg:Grow _ w2) hb hf=>by go_simp) ?_
 refine bI 56 (.tmp 55) (.pointer (some ⟨y,1+2,none⟩)) (ae af e.sq) (fun ρ h1 kk w2 (hg:Grow _ w2) hb hf=>by have c:=(kf.grow hg).cell 3;go_simp) ?_
 refine cC 57 aj ak (bO aj) (.bool false) (by rw[hK.out];rfl) 54 _ _ aj [((g:Nat):Value),ae af e.sq] aj sR (fun kk w2 (hg:Grow _ w2) hb hf=>b_ aj (by exact (sS w2 (kj.trans hg)))) ?_
 refine bP 49 (.bool false) ?_
 refine ce (fun _ _ w2 (hg:Grow _ w2) _ bR=>hT _ _ ?_)
 clear hops hA' hK hT
 simp only[cj,Act.put,aw,ay,az,ax,aB]
 have yp:=hg
 have hS2:=hS1.grows eP yp
 obtain⟨x,hx,hxe⟩:=oj
 have hlt1:decide (e.ep<x)=true:=decide_eq_true al
 have hlk:∀ w1,Grow w2 w1→(Instr.lookup 114 (.map (some bE)) (ae af e.ag) false).run au w1=.ok (ae af x) w1:=fun w1 hg=>by
  obtain⟨U3,hG3,_⟩:=(hS2.grows eP hg).see 3 rfl
  have h:=cJ.look wJ (t:=114) (et:=2) am (zI w1) hG3 e.ag false
  rw[if_neg ak,hx] at h
  exact h
 have hm2:=hS2.blk 1 rfl
 have hY2:=hS2.blk 0 rfl
 go_wp2_with fail
 refine bL 12 91 [] rfl rfl am am am ?_ ?_
 ·intro x hx φ he
  cases hx
 intro ops' A' K' T hops hA' hK hT
 refine bI 59 (.tmp 3) (((y:Nat):Value)) (.pointer (some ⟨y,4,none⟩)) (fun ρ h1 kk w3 (hg:Grow _ w3) hb hf=>by go_simp) ?_
 refine bI 60 (.tmp 59) (.pointer (some ⟨y,4,none⟩)) (ae af e.ep) (fun ρ h1 kk w3 (hg:Grow _ w3) hb hf=>by have c:=(hY2.grow hg).cell 4;go_simp) ?_
 refine bP 61 (((m:Nat):Value)) ?_
 refine bI 62 (.tmp 61) (((m:Nat):Value)) (((m:Nat):Value)) (fun ρ h1 kk w3 (hg:Grow _ w3) hb hf=>by go_simp) ?_
 refine bI 63 (.tmp 62) (((m:Nat):Value)) (.pointer (some ⟨m,1,none⟩)) (fun ρ h1 kk w3 (hg:Grow _ w3) hb hf=>by go_simp) ?_
 refine bI 64 (.tmp 63) (.pointer (some ⟨m,1,none⟩)) (.map (some bE)) (fun ρ h1 kk w3 (hg:Grow _ w3) hb hf=>by have c:=(hm2.grow hg).cell 1;go_simp) ?_
 refine bI 65 (.tmp 3) (((y:Nat):Value)) (.pointer (some ⟨y,1,none⟩)) (fun ρ h1 kk w3 (hg:Grow _ w3) hb hf=>by go_simp) ?_
 refine bI 66 (.tmp 65) (.pointer (some ⟨y,1,none⟩)) (.pointer (some ⟨y,1+0,none⟩)) (fun ρ h1 kk w3 (hg:Grow _ w3) hb hf=>by go_simp) ?_
 refine bI 67 (.tmp 66) (.pointer (some ⟨y,1+0,none⟩)) (ae af e.ag) (fun ρ h1 kk w3 (hg:Grow _ w3) hb hf=>by have c:=(hY2.grow hg).cell 1;go_simp) ?_
 refine cm 68 (.tmp 64) (.tmp 67) (.map (some bE)) (ae af e.ag) (ae af x) (fun ρ h1 h2 kk w3 (hg:Grow _ w3) hb hf=>by have hl:=hlk w3 hg;go_simp) ?_
 refine cm 69 (.tmp 60) (.tmp 68) (ae af e.ep) (ae af x) (.bool true) (fun ρ h1 h2 kk w3 (hg:Grow _ w3) hb hf=>by go_simp;try exact hlt1) ?_
 refine bP 58 (.bool true) ?_
 refine ce (fun _ _ w3 (hg:Grow _ w3) _ bR=>hT _ _ ?_)
 clear hops hA' hK hT
 simp only[cj,Act.put,aw,ay,az,ax,aB]
 have CZ:=hg
 have dO:=hS2.grows eP CZ
 go_wp2_with fail
 go_ret2
 obtain⟨r1,r2⟩:=Solo.done (l:=dU m s bE bS p g (.slice Ab nb cb) q d9 dL F M B R) (dO.drop1) (((J0.trans (Just.bJ kj)).trans (Just.bJ yp)).trans (Just.bJ CZ)) hV
 exact⟨rfl,iI hO r1,r2⟩
theorem wV (w:World) (m:Nat) (q:K.Sm) (d9:List (Int×Value)) (gp:List (Key×Pl)) (e:En) (A:Option Addr) (c:Nat) (D V:Nat→Prop) (hV:∀ b,V b→b<w.heap.size) (hok:e.Ok) (hk:e.k=1) (hd:fV w D A e.ds.length e.ds) (hDl:∀ b,D b→b<w.heap.size) (j5:∀ b,D b→¬ V b) (F:Int) (M:Nat) (B:List Int) (hst:dx gp (e.ag,e.sh)=⟨F,M,B⟩) (hBl:B.length≤1048576) (hI:W.fu F M) (im:-9223372036854775808≤e.sq∧e.sq≤9223372036854775807) (hse:W.seen F M e.sq=false) (oj:∃ x:Int,(pX d9 e.ag).getD (ae af 0)=ae af x∧x≤e.ep) (hfa:W.far F e.sq=true) (h:eA m q d9 gp w V) :
 Calls au 13 #[((m:Nat):Value),.agg (e.agg A c)] w fun en w'=>en=.returned (.tuple #[ae af 5,ae ah 0])∧eA m q (dQ d9 e.ag (ae af e.ep)) gp w' (Ext V w w')∧Just V w w':=by
 have sR:∀ (vs:Array Value) (w:World),(callFunc 54 vs).run au w=.ok (.enter 54 vs) w:=fun vs w=>by go_simp
 have Bf:∀ (vs:Array Value) (w:World),(callFunc 56 vs).run au w=.ok (.enter 56 vs) w:=fun vs w=>by go_simp
 have Fg:∀ (vs:Array Value) (w:World),(callFunc 55 vs).run au w=.ok (.enter 55 vs) w:=fun vs w=>by go_simp
 have hg0:=bN w (.cells (e.agg A c) 32)
 have du:=ct.made w 32 (e.agg A c)
 obtain⟨y,HY⟩:∃ y:Nat,Hid (y=w.heap.size):=⟨_,rfl⟩
 obtain⟨wa,dq⟩:∃ wa:World,Hid (wa=w.alloc (.cells (e.agg A c) 32)):=⟨_,rfl⟩
 rw[←dq.out] at hg0 du
 rw[←HY.out] at du
 have gN:=f8 wa e D A c hok (In.grow hd hg0)
 unfold En.agg at dq gN du ⊢
 have hk2:(e.k == 2)=false:=by rw[hk];rfl
 have hk3:decide (e.k=2)=false:=by rw[hk];rfl
 clear hk
 go_enter Tryz.func13,Tryz.ntmps13
 go_wp2_with fail
 rw[←dq.out,←HY.out]
 refine gN.mono ?_
 rintro en wb ⟨rfl,hgb⟩
 have hBb:=du.grow hgb
 have y0:=hBb.cell 0
 have y1:=hBb.cell 1
 have y2:=hBb.cell 2
 have rf:=l4 wb m q d9 gp V (fun b hb=>aA (hV b hb) (hg0.trans hgb).size) e.ag e.sh (eA.framed m q d9 gp w wb V h fun b hb=>(hg0.trans hgb).block b (hV b hb))
 rw[hst] at rf
 clear h
 go_wp2_with fail
 clear y0 y1 y2
 refine rf.mono ?_
 rintro en w0 ⟨s,bE,bS,p,g,v,dL,R,rfl,hO,hgc,U,hM0,hU⟩
 have hR:=hO.framed
 obtain⟨UB,ub,_⟩:=(Many.pick _ 6 _ rfl hM0).fst
 obtain⟨Ab,cb,rfl,hRb,_,_⟩:=Own.reads (show Own w0 UB 2 1 v B.length (lI B) from ub)
 obtain⟨nb,zC⟩:∃ nb:Nat,Hid (B.length=nb):=⟨_,Lib.hid rfl⟩
 rw[zC.out] at hM0 hRb hBl
 clear ub
 have hgd:Grow w w0:=(hg0.trans hgb).trans hgc
 have hyl:w.heap.size≤y∧y<wb.heap.size:=by have:=HY.out;have:=hBb.lt;omega
 have hsz0:=hgd.size
 have CY:=hgc.size
 have hSz:∀ b,New wb w0 b→w.heap.size≤b:=fun b hb=>by have:=hb.1;have:=(hg0.trans hgb).size;omega
 have hF:=de m s bE bS p g (.slice Ab nb cb) q d9 dL F M B hR
 have eP:=hF.cons (Cell.framed y 32 #[ae af e.k,ae af e.ag,ae af e.sh,ae af e.sq,ae af e.ep,.slice A e.ds.length c,.string e.se,ae af e.fr,ae af e.tg])
 have hS0:Solo (cB V w) (Many (Cell y 32 #[ae af e.k,ae af e.ag,ae af e.sh,ae af e.sq,ae af e.ep,.slice A e.ds.length c,.string e.se,ae af e.fr,ae af e.tg] :: dU m s bE bS p g (.slice Ab nb cb) q d9 dL F M B R)) w0:=
  Solo.my (U:=fun b=>b=y) (fun b hb => .inr al) hM0 (fun b hb=>(hU b hb).elim (fun h=>⟨.inl h,by have:=hV b h;omega⟩) (fun h=>⟨.inr (hSz b h),h.2⟩)) ⟨rfl,hBb.grow hgc⟩
   (fun b hb=>by rw[hb];exact⟨.inr hyl.1,by omega,fun h=>(hU y h).elim (fun h=>by have:=hV y h;omega) (fun h=>by have:=h.1;omega)⟩)
 have hnd:(dL.map Prod.fst).Nodup:=by
  obtain⟨_,hG,_⟩:=hS0.see 4 rfl
  exact jv hG
 have J0:=Just.bJ (V:=cB V w) hgd
 have hY0:=hS0.blk 0 rfl
 have hm0:=hS0.blk 1 rfl
 have hp0:=hS0.blk 5 rfl
 have jR:=hS0.blk 6 rfl
 have sS:∀ w1,Grow w0 w1→Calls au 54 #[((g:Nat):Value),ae af e.sq] w1 fun en w'=>en=.returned (.bool false)∧Grow w1 w':=fun w1 hg=>by
  have h:=W.gX w1 g F M e.sq (jR.grow hg) hI im
  rw[hse] at h
  exact h
 clear hRb
 go_wp2_with fail
 refine bL 19 91 [(7,.inl (.bool false))] rfl rfl am am am ?_ ?_
 ·intro x hx φ he
  simp only[aF,aE,or_false] at hx
  rcases hx with rfl<;>cases he
 intro ops' A' K' T hops hA' hK hT
 refine bP 31 (((p:Nat):Value)) ?_
 refine bQ 32 (.tmp 31) (((p:Nat):Value)) (((p:Nat):Value)) ?_
 refine bQ 33 (.tmp 32) (((p:Nat):Value)) (((p:Nat):Value)) ?_
 refine bI 34 (.tmp 33) (((p:Nat):Value)) (((g:Nat):Value)) (fun ρ h1 kk w1 (hg:Grow _ w1) hb hf=>by have c:=(hp0.grow hg).cell 0;go_simp) ?_
 refine bQ 35 (.tmp 3) (((y:Nat):Value)) (.pointer (some ⟨y,1,none⟩)) ?_
 refine bQ 36 (.tmp 35) (.pointer (some ⟨y,1,none⟩)) (.pointer (some ⟨y,1+2,none⟩)) ?_
 refine bI 37 (.tmp 36) (.pointer (some ⟨y,1+2,none⟩)) (ae af e.sq) (fun ρ h1 kk w1 (hg:Grow _ w1) hb hf=>by have c:=(hY0.grow hg).cell 3;go_simp) ?_
 refine cC 38 aj ak (bO aj) (.bool false) (by rw[hK.out];rfl) 54 _ _ aj [((g:Nat):Value),ae af e.sq] aj sR (fun kk w1 (hg:Grow _ w1) hb hf=>b_ aj (by exact (sS w1 hg))) ?_
 refine bP 39 (.bool false) ?_
 refine bU 40 (cx hops 8 true 39 false) ?_
 refine bU 41 (cx hops 8 true 39 false) ?_
 refine bU 42 (cx hops 8 true 39 false) ?_
 refine bU 43 (cx hops 8 true 39 false) ?_
 refine bU 44 (cx hops 8 true 39 false) ?_
 refine bU 45 (cx hops 8 true 39 false) ?_
 refine bU 46 (cx hops 8 true 39 false) ?_
 refine bU 47 (cx hops 8 true 39 false) ?_
 refine cG 48 false (.bool false) ?_
 refine bP 30 (.bool false) ?_
 refine ce (fun _ _ w1 (hg:Grow _ w1) _ bR=>hT _ _ ?_)
 clear hops hA' hK hT
 simp only[cj,Act.put,aw,ay,az,ax,aB]
 have kj:=hg
 have hS1:=hS0.grows eP kj
 have hp1:=hp0.grow kj
 have kf:=hY0.grow kj
 have lS:=jR.grow kj
 go_wp2_with fail
 refine bL 9 91 [(7,.inl (.bool false))] rfl rfl am am am ?_ ?_
 ·intro x hx φ he
  simp only[aF,aE,or_false] at hx
  rcases hx with rfl<;>cases he
 intro ops' A' K' T hops hA' hK hT
 refine bP 50 (((p:Nat):Value)) ?_
 refine bI 51 (.tmp 50) (((p:Nat):Value)) (((p:Nat):Value)) (fun ρ h1 kk w2 (hg:Grow _ w2) hb hf=>by go_simp) ?_
 refine bI 52 (.tmp 51) (((p:Nat):Value)) (((p:Nat):Value)) (fun ρ h1 kk w2 (hg:Grow _ w2) hb hf=>by go_simp) ?_
 refine bI 53 (.tmp 52) (((p:Nat):Value)) (((g:Nat):Value)) (fun ρ h1 kk w2 (hg:Grow _ w2) hb hf=>by have c:=(hp1.grow hg).cell 0;go_simp) ?_
 refine bI 54 (.tmp 3) (((y:Nat):Value)) (.pointer (some ⟨y,1,none⟩)) (fun ρ h1 kk w2 (hg:Grow _ w2) hb hf=>by go_simp) ?_
 refine bI 55 (.tmp 54) (.pointer (some ⟨y,1,none⟩)) (.pointer (some ⟨y,1+2,none⟩)) (fun ρ h1 kk w2 (hg:Grow _ w2) hb hf=>by go_simp) ?_
 refine bI 56 (.tmp 55) (.pointer (some ⟨y,1+2,none⟩)) (ae af e.sq) (fun ρ h1 kk w2 (hg:Grow _ w2) hb hf=>by have c:=(kf.grow hg).cell 3;go_simp) ?_
 refine cC 57 aj ak (bO aj) (.bool false) (by rw[hK.out];rfl) 54 _ _ aj [((g:Nat):Value),ae af e.sq] aj sR (fun kk w2 (hg:Grow _ w2) hb hf=>b_ aj (by exact (sS w2 (kj.trans hg)))) ?_
 refine bP 49 (.bool false) ?_
 refine ce (fun _ _ w2 (hg:Grow _ w2) _ bR=>hT _ _ ?_)
 clear hops hA' hK hT
 simp only[cj,Act.put,aw,ay,az,ax,aB]
 have yp:=hg
 have hS2:=hS1.grows eP yp
 obtain⟨x,hx,hxe⟩:=oj
 have hlt1:decide (e.ep<x)=false:=decide_eq_false al
 have hlk:∀ w1,Grow w2 w1→(Instr.lookup 114 (.map (some bE)) (ae af e.ag) false).run au w1=.ok (ae af x) w1:=fun w1 hg=>by
  obtain⟨U3,hG3,_⟩:=(hS2.grows eP hg).see 3 rfl
  have h:=cJ.look wJ (t:=114) (et:=2) am (zI w1) hG3 e.ag false
  rw[if_neg ak,hx] at h
  exact h
 have hm2:=hS2.blk 1 rfl
 have hY2:=hS2.blk 0 rfl
 go_wp2_with fail
 refine bL 12 91 [] rfl rfl am am am ?_ ?_
 ·intro x hx φ he
  cases hx
 intro ops' A' K' T hops hA' hK hT
 refine bI 59 (.tmp 3) (((y:Nat):Value)) (.pointer (some ⟨y,4,none⟩)) (fun ρ h1 kk w3 (hg:Grow _ w3) hb hf=>by go_simp) ?_
 refine bI 60 (.tmp 59) (.pointer (some ⟨y,4,none⟩)) (ae af e.ep) (fun ρ h1 kk w3 (hg:Grow _ w3) hb hf=>by have c:=(hY2.grow hg).cell 4;go_simp) ?_
 refine bP 61 (((m:Nat):Value)) ?_
 refine bI 62 (.tmp 61) (((m:Nat):Value)) (((m:Nat):Value)) (fun ρ h1 kk w3 (hg:Grow _ w3) hb hf=>by go_simp) ?_
 refine bI 63 (.tmp 62) (((m:Nat):Value)) (.pointer (some ⟨m,1,none⟩)) (fun ρ h1 kk w3 (hg:Grow _ w3) hb hf=>by go_simp) ?_
 refine bI 64 (.tmp 63) (.pointer (some ⟨m,1,none⟩)) (.map (some bE)) (fun ρ h1 kk w3 (hg:Grow _ w3) hb hf=>by have c:=(hm2.grow hg).cell 1;go_simp) ?_
 refine bI 65 (.tmp 3) (((y:Nat):Value)) (.pointer (some ⟨y,1,none⟩)) (fun ρ h1 kk w3 (hg:Grow _ w3) hb hf=>by go_simp) ?_
 refine bI 66 (.tmp 65) (.pointer (some ⟨y,1,none⟩)) (.pointer (some ⟨y,1+0,none⟩)) (fun ρ h1 kk w3 (hg:Grow _ w3) hb hf=>by go_simp) ?_
 refine bI 67 (.tmp 66) (.pointer (some ⟨y,1+0,none⟩)) (ae af e.ag) (fun ρ h1 kk w3 (hg:Grow _ w3) hb hf=>by have c:=(hY2.grow hg).cell 1;go_simp) ?_
 refine cm 68 (.tmp 64) (.tmp 67) (.map (some bE)) (ae af e.ag) (ae af x) (fun ρ h1 h2 kk w3 (hg:Grow _ w3) hb hf=>by have hl:=hlk w3 hg;go_simp) ?_
 refine cm 69 (.tmp 60) (.tmp 68) (ae af e.ep) (ae af x) (.bool false) (fun ρ h1 h2 kk w3 (hg:Grow _ w3) hb hf=>by go_simp;try exact hlt1) ?_
 refine bP 58 (.bool false) ?_
 refine ce (fun _ _ w3 (hg:Grow _ w3) _ bR=>hT _ _ ?_)
 clear hops hA' hK hT
 simp only[cj,Act.put,aw,ay,az,ax,aB]
 have CZ:=hg
 have dO:=hS2.grows eP CZ
 have B_:=dO.blk 1 rfl
 have kg:=dO.blk 0 rfl
 clear hlk
 go_wp2_with fail
 refine bL 9 91 [] rfl rfl am am am ?_ ?_
 ·intro x hx φ he
  cases hx
 intro ops' A' K' T hops hA' hK hT
 refine bP 70 (((m:Nat):Value)) ?_
 refine bI 71 (.tmp 70) (((m:Nat):Value)) (((m:Nat):Value)) (fun ρ h1 kk w4 (hg:Grow _ w4) hb hf=>by go_simp) ?_
 refine bI 72 (.tmp 71) (((m:Nat):Value)) (.pointer (some ⟨m,1,none⟩)) (fun ρ h1 kk w4 (hg:Grow _ w4) hb hf=>by go_simp) ?_
 refine bI 73 (.tmp 72) (.pointer (some ⟨m,1,none⟩)) (.map (some bE)) (fun ρ h1 kk w4 (hg:Grow _ w4) hb hf=>by have c:=(B_.grow hg).cell 1;go_simp) ?_
 refine bI 74 (.tmp 3) (((y:Nat):Value)) (.pointer (some ⟨y,1,none⟩)) (fun ρ h1 kk w4 (hg:Grow _ w4) hb hf=>by go_simp) ?_
 refine bI 75 (.tmp 74) (.pointer (some ⟨y,1,none⟩)) (.pointer (some ⟨y,1+0,none⟩)) (fun ρ h1 kk w4 (hg:Grow _ w4) hb hf=>by go_simp) ?_
 refine bI 76 (.tmp 75) (.pointer (some ⟨y,1+0,none⟩)) (ae af e.ag) (fun ρ h1 kk w4 (hg:Grow _ w4) hb hf=>by have c:=(kg.grow hg).cell 1;go_simp) ?_
 refine bI 77 (.tmp 3) (((y:Nat):Value)) (.pointer (some ⟨y,4,none⟩)) (fun ρ h1 kk w4 (hg:Grow _ w4) hb hf=>by go_simp) ?_
 refine bI 78 (.tmp 77) (.pointer (some ⟨y,4,none⟩)) (ae af e.ep) (fun ρ h1 kk w4 (hg:Grow _ w4) hb hf=>by have c:=(kg.grow hg).cell 4;go_simp) ?_
 refine ce (fun _ _ w4 (hg:Grow _ w4) _ bR=>hT _ _ ?_)
 clear hops hA' hK hT
 simp only[cj,Act.put,aw,ay,az,ax,aB]
 have Gt:=hg
 have ev:=dO.grows eP Gt
 obtain⟨w5,hrun,hS5,dY⟩:=ev.qb (φ:=fun w'=>(Instr.mapUpdate 114 (.map (some bE)) (ae af e.ag) (ae af e.ep)).run au w4=.ok () w') 3 rfl eP (fun U hU ey=>by
  obtain⟨w',h1,h2,h3⟩:=cJ.put wJ (t:=114) (et:=2) am hU e.ag (ae af e.ep)
  exact⟨w',h1,h2,h3.imp fun b hb=>hb▸hU.1⟩)
 obtain⟨iV,HE⟩:∃ iV:List (Int×Value),Hid (iV=dQ d9 e.ag (ae af e.ep)):=⟨_,rfl⟩
 rw[←HE.out] at hS5
 have hS5:Solo (cB V w) (Many (Cell y 32 #[ae af e.k,ae af e.ag,ae af e.sh,ae af e.sq,ae af e.ep,.slice A e.ds.length c,.string e.se,ae af e.fr,ae af e.tg] :: dU m s bE bS p g (.slice Ab nb cb) q iV dL F M B R)) w5:=hS5
 have iU:=(de m s bE bS p g (.slice Ab nb cb) q iV dL F M B hR).cons (Cell.framed y 32 #[ae af e.k,ae af e.ag,ae af e.sh,ae af e.sq,ae af e.ep,.slice A e.ds.length c,.string e.se,ae af e.fr,ae af e.tg])
 have J5:Just (cB V w) w w5:=((((J0.trans (Just.bJ kj)).trans (Just.bJ yp)).trans (Just.bJ CZ)).trans (Just.bJ Gt)).trans dY
 clear B_ hm2 hY2 kg hp0 hY0 jR hm0 lS hp1 kf
 have KC:=hS5.blk 5 rfl
 have kX:=hS5.blk 0 rfl
 have hg5:=hS5.blk 6 rfl
 have mw:∀ w1,Grow w5 w1→Calls au 56 #[((g:Nat):Value),ae af e.sq] w1 fun en w'=>en=.returned (.bool true)∧Grow w1 w':=fun w1 hg=>by
  have h:=W.kK w1 g F M e.sq _ (hg5.grow hg) ⟨by have:=hI.lo;omega,hI.hi⟩ im hfa
  exact h.mono fun _ _ ⟨h1,h2⟩=>⟨h1,h2▸Grow.refl _⟩
 go_wp2_with fail
 clear hrun
 refine bL 8 91 [(7,.inl (.bool true))] rfl rfl am am am ?_ ?_
 ·intro x hx φ he
  simp only[aF,aE,or_false] at hx
  rcases hx with rfl<;>cases he
 intro ops' A' K' T hops hA' hK hT
 refine bP 79 (((p:Nat):Value)) ?_
 refine bI 80 (.tmp 79) (((p:Nat):Value)) (((p:Nat):Value)) (fun ρ h1 kk w6 (hg:Grow _ w6) hb hf=>by go_simp) ?_
 refine bI 81 (.tmp 80) (((p:Nat):Value)) (((p:Nat):Value)) (fun ρ h1 kk w6 (hg:Grow _ w6) hb hf=>by go_simp) ?_
 refine bI 82 (.tmp 81) (((p:Nat):Value)) (((g:Nat):Value)) (fun ρ h1 kk w6 (hg:Grow _ w6) hb hf=>by have c:=(KC.grow hg).cell 0;go_simp) ?_
 refine bI 83 (.tmp 3) (((y:Nat):Value)) (.pointer (some ⟨y,1,none⟩)) (fun ρ h1 kk w6 (hg:Grow _ w6) hb hf=>by go_simp) ?_
 refine bI 84 (.tmp 83) (.pointer (some ⟨y,1,none⟩)) (.pointer (some ⟨y,1+2,none⟩)) (fun ρ h1 kk w6 (hg:Grow _ w6) hb hf=>by go_simp) ?_
 refine bI 85 (.tmp 84) (.pointer (some ⟨y,1+2,none⟩)) (ae af e.sq) (fun ρ h1 kk w6 (hg:Grow _ w6) hb hf=>by have c:=(kX.grow hg).cell 3;go_simp) ?_
 refine cC 86 aj ak (bO aj) (.bool true) (by rw[hK.out];rfl) 56 _ _ aj [((g:Nat):Value),ae af e.sq] aj Bf (fun kk w6 (hg:Grow _ w6) hb hf=>b_ aj (by exact (mw w6 hg))) ?_
 refine ce (fun _ _ w6 (hg:Grow _ w6) _ bR=>hT _ _ ?_)
 clear hops hA' hK hT
 simp only[cj,Act.put,aw,ay,az,ax,aB]
 have Gu:=hg
 have eC:=hS5.grows iU Gu
 go_wp2_with fail
 go_ret2
 obtain⟨r1,r2⟩:=Solo.done (l:=dU m s bE bS p g (.slice Ab nb cb) q iV dL F M B R) (eC.drop1) (J5.trans (Just.bJ Gu)) hV
 rw[←HE.out]
 exact⟨rfl,iI hO r1,r2⟩
end Go.Proofs.YtmijcbfgfkeodaaGreatDoor
end
