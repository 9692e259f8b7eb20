/- Mg6, Mg7, Bk1. -/
import Derived.Test.YtmijcbfgfkeodaaGreatDoorIz19
import Derived.Test.YtmijcbfgfkeodaaGreatDoorIz20
set_option linter.all false
set_option maxRecDepth 100000
set_option maxHeartbeats 2000000
open Go.Value renaming int → ae,slice → ai
open Go.IntKind renaming i64 → af,u64 → ah
open Go.Proofs.Tryz renaming prog → au
open List renaming setIfInBounds_toArray → aw,drop_succ_cons → ax,set_cons_zero → ay,set_cons_succ → az,drop_zero → aB,length_append → aD,not_mem_nil → aE,mem_cons → aF,take_succ_eq_append_getElem → aI,length_take → aK,length_cons → aL,append_assoc → aM,take_of_length_le → aN,getElem_mem → aO,length_singleton → aT,flatMap_cons → aU,flatMap_append → bd,mem_of_mem_take → bp
open Nat renaming lt_of_lt_of_le → aA,le_refl → aC,le_trans → aH,zero_le → aZ,mul_one → bC,min_eq_left → bF
section
namespace Go.Proofs.YtmijcbfgfkeodaaGreatDoor
open Go.RowKit Go.Hop
def N9 (b:Bool) (gp:List (Key×Pl)) (k:Key) (x:Pl):List (Key×Pl):=if b then eX gp k x else gp
def Na (b:Bool) (dL:List (Key×Value)) (k:Key) (v:Value):List (Key×Value):=if b then dQ dL k v else dL
theorem jS (w:World) (m:Nat) (q:K.Sm) (d9:List (Int×Value)) (gp:List (Key×Pl)) (e:En) (A:Option Addr) (c:Nat) (D V:Nat→Prop) (hV:∀ b,V b→b<w.heap.size) (hok:e.Ok) (hk:e.k=1) (hd:fV w D A e.ds.length e.ds) (hDl:∀ b,D b→b<w.heap.size) (j5:∀ b,D b→¬ V b) (F:Int) (M:Nat) (B:List Int) (hst:dx gp (e.ag,e.sh)=⟨F,M,B⟩) (hBl:B.length≤1048576) (hI:W.fu F M) (im:-9223372036854775808≤e.sq∧e.sq≤9223372036854775807) (hse:W.seen F M e.sq=false) (oj:∃ x:Int,(pX d9 e.ag).getD (ae af 0)=ae af x∧x≤e.ep) (hfa:W.far F e.sq=false) (code:Int) (q':K.Sm) (b:Bool) (F':Int) (M':Nat) (B':List Int) (hb:b=false→F'=F∧M'=M∧B'=B)
 (hc:∀ (w6:World) (s bE bS p g:Nat) (Ab:Option Addr) (nb cb:Nat) (dL:List (Key×Value)) (R:cg) (U:Nat→Prop),B.length=nb→Framed R→Many (dU m s bE bS p g (.slice Ab nb cb) q (dQ d9 e.ag (ae af e.ep)) dL F M B R) w6 U→(∀ b,U b→b<w6.heap.size)→fV w6 D A e.ds.length e.ds→(∀ b,D b→b<w6.heap.size)→(∀ b,D b→¬ U b)→
  Calls au 57 #[((m:Nat):Value),((p:Nat):Value),.agg (e.agg A c)] w6 fun en w'=>en=.returned (ae af code)∧(∃ v,Many (dU m s bE bS p g v q' (dQ d9 e.ag (ae af e.ep)) (Na b dL (e.ag,e.sh) (((p:Nat):Value))) F' M' B' R) w' (Ext U w6 w'))∧Just U w6 w') (h:eA m q d9 gp w V) :
 Calls au 13 #[((m:Nat):Value),.agg (e.agg A c)] w fun en w'=>en=.returned (.tuple #[ae af code,ae ah 0])∧eA m q' (dQ d9 e.ag (ae af e.ep)) (N9 b gp (e.ag,e.sh) ⟨F',M',B'⟩) w' (Ext V w w')∧Just V w w':=by
 have sR:∀ (vs:Array Value) (w:World),(callFunc 54 vs).run au w=.ok (.enter 54 vs) w:=fun vs w=>by go_simp
 have Bf:∀ (vs:Array Value) (w:World),(callFunc 56 vs).run au w=.ok (.enter 56 vs) w:=fun vs w=>by go_simp
 have Fg:∀ (vs:Array Value) (w:World),(callFunc 55 vs).run au w=.ok (.enter 55 vs) w:=fun vs w=>by go_simp
 have hg0:=bN w (.cells (e.agg A c) 32)
 have du:=ct.made w 32 (e.agg A c)
 obtain⟨y,HY⟩:∃ y:Nat,Hid (y=w.heap.size):=⟨_,rfl⟩
 obtain⟨wa,dq⟩:∃ wa:World,Hid (wa=w.alloc (.cells (e.agg A c) 32)):=⟨_,rfl⟩
 rw[←dq.out] at hg0 du
 rw[←HY.out] at du
 have gN:=f8 wa e D A c hok (In.grow hd hg0)
 unfold En.agg at dq gN du ⊢
 have hk2:(e.k == 2)=false:=by rw[hk];rfl
 have hk3:decide (e.k=2)=false:=by rw[hk];rfl
 clear hk
 go_enter Tryz.func13,Tryz.ntmps13
 go_wp2_with fail
 rw[←dq.out,←HY.out]
 refine gN.mono ?_
 rintro en wb ⟨rfl,hgb⟩
 have hBb:=du.grow hgb
 have y0:=hBb.cell 0
 have y1:=hBb.cell 1
 have y2:=hBb.cell 2
 have rf:=l4 wb m q d9 gp V (fun b hb=>aA (hV b hb) (hg0.trans hgb).size) e.ag e.sh (eA.framed m q d9 gp w wb V h fun b hb=>(hg0.trans hgb).block b (hV b hb))
 rw[hst] at rf
 clear h
 go_wp2_with fail
 clear y0 y1 y2
 refine rf.mono ?_
 rintro en w0 ⟨s,bE,bS,p,g,v,dL,R,rfl,hO,hgc,U,hM0,hU⟩
 have hR:=hO.framed
 obtain⟨UB,ub,_⟩:=(Many.pick _ 6 _ rfl hM0).fst
 obtain⟨Ab,cb,rfl,hRb,_,_⟩:=Own.reads (show Own w0 UB 2 1 v B.length (lI B) from ub)
 obtain⟨nb,zC⟩:∃ nb:Nat,Hid (B.length=nb):=⟨_,Lib.hid rfl⟩
 rw[zC.out] at hM0 hRb hBl
 clear ub
 have hgd:Grow w w0:=(hg0.trans hgb).trans hgc
 have hyl:w.heap.size≤y∧y<wb.heap.size:=by have:=HY.out;have:=hBb.lt;omega
 have hsz0:=hgd.size
 have CY:=hgc.size
 have hSz:∀ b,New wb w0 b→w.heap.size≤b:=fun b hb=>by have:=hb.1;have:=(hg0.trans hgb).size;omega
 have hF:=de m s bE bS p g (.slice Ab nb cb) q d9 dL F M B hR
 have eP:=hF.cons (Cell.framed y 32 #[ae af e.k,ae af e.ag,ae af e.sh,ae af e.sq,ae af e.ep,.slice A e.ds.length c,.string e.se,ae af e.fr,ae af e.tg])
 have hS0:Solo (cB V w) (Many (Cell y 32 #[ae af e.k,ae af e.ag,ae af e.sh,ae af e.sq,ae af e.ep,.slice A e.ds.length c,.string e.se,ae af e.fr,ae af e.tg] :: dU m s bE bS p g (.slice Ab nb cb) q d9 dL F M B R)) w0:=
  Solo.my (U:=fun b=>b=y) (fun b hb => .inr al) hM0 (fun b hb=>(hU b hb).elim (fun h=>⟨.inl h,by have:=hV b h;omega⟩) (fun h=>⟨.inr (hSz b h),h.2⟩)) ⟨rfl,hBb.grow hgc⟩
   (fun b hb=>by rw[hb];exact⟨.inr hyl.1,by omega,fun h=>(hU y h).elim (fun h=>by have:=hV y h;omega) (fun h=>by have:=h.1;omega)⟩)
 have hnd:(dL.map Prod.fst).Nodup:=by
  obtain⟨_,hG,_⟩:=hS0.see 4 rfl
  exact jv hG
 have J0:=Just.bJ (V:=cB V w) hgd
 have hY0:=hS0.blk 0 rfl
 have hm0:=hS0.blk 1 rfl
 have hp0:=hS0.blk 5 rfl
 have jR:=hS0.blk 6 rfl
 have sS:∀ w1,Grow w0 w1→Calls au 54 #[((g:Nat):Value),ae af e.sq] w1 fun en w'=>en=.returned (.bool false)∧Grow w1 w':=fun w1 hg=>by
  have h:=W.gX w1 g F M e.sq (jR.grow hg) hI im
  rw[hse] at h
  exact h
 clear hRb
 go_wp2_with fail
 refine bL 19 91 [(7,.inl (.bool false))] rfl rfl am am am ?_ ?_
 ·intro x hx φ he
  simp only[aF,aE,or_false] at hx
  rcases hx with rfl<;>cases he
 intro ops' A' K' T hops hA' hK hT
 refine bP 31 (((p:Nat):Value)) ?_
 refine bQ 32 (.tmp 31) (((p:Nat):Value)) (((p:Nat):Value)) ?_
 refine bQ 33 (.tmp 32) (((p:Nat):Value)) (((p:Nat):Value)) ?_
 refine bI 34 (.tmp 33) (((p:Nat):Value)) (((g:Nat):Value)) (fun ρ h1 kk w1 (hg:Grow _ w1) hb hf=>by have c:=(hp0.grow hg).cell 0;go_simp) ?_
 refine bQ 35 (.tmp 3) (((y:Nat):Value)) (.pointer (some ⟨y,1,none⟩)) ?_
 refine bQ 36 (.tmp 35) (.pointer (some ⟨y,1,none⟩)) (.pointer (some ⟨y,1+2,none⟩)) ?_
 refine bI 37 (.tmp 36) (.pointer (some ⟨y,1+2,none⟩)) (ae af e.sq) (fun ρ h1 kk w1 (hg:Grow _ w1) hb hf=>by have c:=(hY0.grow hg).cell 3;go_simp) ?_
 refine cC 38 aj ak (bO aj) (.bool false) (by rw[hK.out];rfl) 54 _ _ aj [((g:Nat):Value),ae af e.sq] aj sR (fun kk w1 (hg:Grow _ w1) hb hf=>b_ aj (by exact (sS w1 hg))) ?_
 refine bP 39 (.bool false) ?_
 refine bU 40 (cx hops 8 true 39 false) ?_
 refine bU 41 (cx hops 8 true 39 false) ?_
 refine bU 42 (cx hops 8 true 39 false) ?_
 refine bU 43 (cx hops 8 true 39 false) ?_
 refine bU 44 (cx hops 8 true 39 false) ?_
 refine bU 45 (cx hops 8 true 39 false) ?_
 refine bU 46 (cx hops 8 true 39 false) ?_
 refine bU 47 (cx hops 8 true 39 false) ?_
 refine cG 48 false (.bool false) ?_
 refine bP 30 (.bool false) ?_
 refine ce (fun _ _ w1 (hg:Grow _ w1) _ bR=>hT _ _ ?_)
 clear hops hA' hK hT
 simp only[cj,Act.put,aw,ay,az,ax,aB]
 have kj:=hg
 have hS1:=hS0.grows eP kj
 have hp1:=hp0.grow kj
 have kf:=hY0.grow kj
 have lS:=jR.grow kj
 go_wp2_with fail
 refine bL 9 91 [(7,.inl (.bool false))] rfl rfl am am am ?_ ?_
 ·intro x hx φ he
  simp only[aF,aE,or_false] at hx
  rcases hx with rfl<;>cases he
 intro ops' A' K' T hops hA' hK hT
 refine bP 50 (((p:Nat):Value)) ?_
 refine bI 51 (.tmp 50) (((p:Nat):Value)) (((p:Nat):Value)) (fun ρ h1 kk w2 (hg:Grow _ w2) hb hf=>by go_simp) ?_
 refine bI 52 (.tmp 51) (((p:Nat):Value)) (((p:Nat):Value)) (fun ρ h1 kk w2 (hg:Grow _ w2) hb hf=>by go_simp) ?_
 refine bI 53 (.tmp 52) (((p:Nat):Value)) (((g:Nat):Value)) (fun ρ h1 kk w2 (hg:Grow _ w2) hb hf=>by have c:=(hp1.grow hg).cell 0;go_simp) ?_
 refine bI 54 (.tmp 3) (((y:Nat):Value)) (.pointer (some ⟨y,1,none⟩)) (fun ρ h1 kk w2 (hg:Grow _ w2) hb hf=>by go_simp) ?_
 refine bI 55 (.tmp 54) (.pointer (some ⟨y,1,none⟩)) (.pointer (some ⟨y,1+2,none⟩)) (fun ρ h1 kk w2 (hg:Grow _ w2) hb hf=>by go_simp) ?_
 refine bI 56 (.tmp 55) (.pointer (some ⟨y,1+2,none⟩)) (ae af e.sq) (fun ρ h1 kk w2 (hg:Grow _ w2) hb hf=>by have c:=(kf.grow hg).cell 3;go_simp) ?_
 refine cC 57 aj ak (bO aj) (.bool false) (by rw[hK.out];rfl) 54 _ _ aj [((g:Nat):Value),ae af e.sq] aj sR (fun kk w2 (hg:Grow _ w2) hb hf=>b_ aj (by exact (sS w2 (kj.trans hg)))) ?_
 refine bP 49 (.bool false) ?_
 refine ce (fun _ _ w2 (hg:Grow _ w2) _ bR=>hT _ _ ?_)
 clear hops hA' hK hT
 simp only[cj,Act.put,aw,ay,az,ax,aB]
 have yp:=hg
 have hS2:=hS1.grows eP yp
 obtain⟨x,hx,hxe⟩:=oj
 have hlt1:decide (e.ep<x)=false:=decide_eq_false al
 have hlk:∀ w1,Grow w2 w1→(Instr.lookup 114 (.map (some bE)) (ae af e.ag) false).run au w1=.ok (ae af x) w1:=fun w1 hg=>by
  obtain⟨U3,hG3,_⟩:=(hS2.grows eP hg).see 3 rfl
  have h:=cJ.look wJ (t:=114) (et:=2) am (zI w1) hG3 e.ag false
  rw[if_neg ak,hx] at h
  exact h
 have hm2:=hS2.blk 1 rfl
 have hY2:=hS2.blk 0 rfl
 go_wp2_with fail
 refine bL 12 91 [] rfl rfl am am am ?_ ?_
 ·intro x hx φ he
  cases hx
 intro ops' A' K' T hops hA' hK hT
 refine bI 59 (.tmp 3) (((y:Nat):Value)) (.pointer (some ⟨y,4,none⟩)) (fun ρ h1 kk w3 (hg:Grow _ w3) hb hf=>by go_simp) ?_
 refine bI 60 (.tmp 59) (.pointer (some ⟨y,4,none⟩)) (ae af e.ep) (fun ρ h1 kk w3 (hg:Grow _ w3) hb hf=>by have c:=(hY2.grow hg).cell 4;go_simp) ?_
 refine bP 61 (((m:Nat):Value)) ?_
 refine bI 62 (.tmp 61) (((m:Nat):Value)) (((m:Nat):Value)) (fun ρ h1 kk w3 (hg:Grow _ w3) hb hf=>by go_simp) ?_
 refine bI 63 (.tmp 62) (((m:Nat):Value)) (.pointer (some ⟨m,1,none⟩)) (fun ρ h1 kk w3 (hg:Grow _ w3) hb hf=>by go_simp) ?_
 refine bI 64 (.tmp 63) (.pointer (some ⟨m,1,none⟩)) (.map (some bE)) (fun ρ h1 kk w3 (hg:Grow _ w3) hb hf=>by have c:=(hm2.grow hg).cell 1;go_simp) ?_
 refine bI 65 (.tmp 3) (((y:Nat):Value)) (.pointer (some ⟨y,1,none⟩)) (fun ρ h1 kk w3 (hg:Grow _ w3) hb hf=>by go_simp) ?_
 refine bI 66 (.tmp 65) (.pointer (some ⟨y,1,none⟩)) (.pointer (some ⟨y,1+0,none⟩)) (fun ρ h1 kk w3 (hg:Grow _ w3) hb hf=>by go_simp) ?_
 refine bI 67 (.tmp 66) (.pointer (some ⟨y,1+0,none⟩)) (ae af e.ag) (fun ρ h1 kk w3 (hg:Grow _ w3) hb hf=>by have c:=(hY2.grow hg).cell 1;go_simp) ?_
 refine cm 68 (.tmp 64) (.tmp 67) (.map (some bE)) (ae af e.ag) (ae af x) (fun ρ h1 h2 kk w3 (hg:Grow _ w3) hb hf=>by have hl:=hlk w3 hg;go_simp) ?_
 refine cm 69 (.tmp 60) (.tmp 68) (ae af e.ep) (ae af x) (.bool false) (fun ρ h1 h2 kk w3 (hg:Grow _ w3) hb hf=>by go_simp;try exact hlt1) ?_
 refine bP 58 (.bool false) ?_
 refine ce (fun _ _ w3 (hg:Grow _ w3) _ bR=>hT _ _ ?_)
 clear hops hA' hK hT
 simp only[cj,Act.put,aw,ay,az,ax,aB]
 have CZ:=hg
 have dO:=hS2.grows eP CZ
 have B_:=dO.blk 1 rfl
 have kg:=dO.blk 0 rfl
 clear hlk
 go_wp2_with fail
 refine bL 9 91 [] rfl rfl am am am ?_ ?_
 ·intro x hx φ he
  cases hx
 intro ops' A' K' T hops hA' hK hT
 refine bP 70 (((m:Nat):Value)) ?_
 refine bI 71 (.tmp 70) (((m:Nat):Value)) (((m:Nat):Value)) (fun ρ h1 kk w4 (hg:Grow _ w4) hb hf=>by go_simp) ?_
 refine bI 72 (.tmp 71) (((m:Nat):Value)) (.pointer (some ⟨m,1,none⟩)) (fun ρ h1 kk w4 (hg:Grow _ w4) hb hf=>by go_simp) ?_
 refine bI 73 (.tmp 72) (.pointer (some ⟨m,1,none⟩)) (.map (some bE)) (fun ρ h1 kk w4 (hg:Grow _ w4) hb hf=>by have c:=(B_.grow hg).cell 1;go_simp) ?_
 refine bI 74 (.tmp 3) (((y:Nat):Value)) (.pointer (some ⟨y,1,none⟩)) (fun ρ h1 kk w4 (hg:Grow _ w4) hb hf=>by go_simp) ?_
 refine bI 75 (.tmp 74) (.pointer (some ⟨y,1,none⟩)) (.pointer (some ⟨y,1+0,none⟩)) (fun ρ h1 kk w4 (hg:Grow _ w4) hb hf=>by go_simp) ?_
 refine bI 76 (.tmp 75) (.pointer (some ⟨y,1+0,none⟩)) (ae af e.ag) (fun ρ h1 kk w4 (hg:Grow _ w4) hb hf=>by have c:=(kg.grow hg).cell 1;go_simp) ?_
 refine bI 77 (.tmp 3) (((y:Nat):Value)) (.pointer (some ⟨y,4,none⟩)) (fun ρ h1 kk w4 (hg:Grow _ w4) hb hf=>by go_simp) ?_
 refine bI 78 (.tmp 77) (.pointer (some ⟨y,4,none⟩)) (ae af e.ep) (fun ρ h1 kk w4 (hg:Grow _ w4) hb hf=>by have c:=(kg.grow hg).cell 4;go_simp) ?_
 refine ce (fun _ _ w4 (hg:Grow _ w4) _ bR=>hT _ _ ?_)
 clear hops hA' hK hT
 simp only[cj,Act.put,aw,ay,az,ax,aB]
 have Gt:=hg
 have ev:=dO.grows eP Gt
 obtain⟨w5,hrun,hS5,dY⟩:=ev.qb (φ:=fun w'=>(Instr.mapUpdate 114 (.map (some bE)) (ae af e.ag) (ae af e.ep)).run au w4=.ok () w') 3 rfl eP (fun U hU ey=>by
  obtain⟨w',h1,h2,h3⟩:=cJ.put wJ (t:=114) (et:=2) am hU e.ag (ae af e.ep)
  exact⟨w',h1,h2,h3.imp fun b hb=>hb▸hU.1⟩)
 obtain⟨iV,HE⟩:∃ iV:List (Int×Value),Hid (iV=dQ d9 e.ag (ae af e.ep)):=⟨_,rfl⟩
 rw[←HE.out] at hS5
 have hS5:Solo (cB V w) (Many (Cell y 32 #[ae af e.k,ae af e.ag,ae af e.sh,ae af e.sq,ae af e.ep,.slice A e.ds.length c,.string e.se,ae af e.fr,ae af e.tg] :: dU m s bE bS p g (.slice Ab nb cb) q iV dL F M B R)) w5:=hS5
 have iU:=(de m s bE bS p g (.slice Ab nb cb) q iV dL F M B hR).cons (Cell.framed y 32 #[ae af e.k,ae af e.ag,ae af e.sh,ae af e.sq,ae af e.ep,.slice A e.ds.length c,.string e.se,ae af e.fr,ae af e.tg])
 have J5:Just (cB V w) w w5:=((((J0.trans (Just.bJ kj)).trans (Just.bJ yp)).trans (Just.bJ CZ)).trans (Just.bJ Gt)).trans dY
 clear B_ hm2 hY2 kg hp0 hY0 jR hm0 lS hp1 kf
 have KC:=hS5.blk 5 rfl
 have kX:=hS5.blk 0 rfl
 have hg5:=hS5.blk 6 rfl
 have mw:∀ w1,Grow w5 w1→Calls au 56 #[((g:Nat):Value),ae af e.sq] w1 fun en w'=>en=.returned (.bool false)∧Grow w1 w':=fun w1 hg=>by
  have h:=W.kK w1 g F M e.sq _ (hg5.grow hg) ⟨by have:=hI.lo;omega,hI.hi⟩ im hfa
  exact h.mono fun _ _ ⟨h1,h2⟩=>⟨h1,h2▸Grow.refl _⟩
 go_wp2_with fail
 clear hrun
 refine bL 8 91 [(7,.inl (.bool false))] rfl rfl am am am ?_ ?_
 ·intro x hx φ he
  simp only[aF,aE,or_false] at hx
  rcases hx with rfl<;>cases he
 intro ops' A' K' T hops hA' hK hT
 refine bP 79 (((p:Nat):Value)) ?_
 refine bI 80 (.tmp 79) (((p:Nat):Value)) (((p:Nat):Value)) (fun ρ h1 kk w6 (hg:Grow _ w6) hb hf=>by go_simp) ?_
 refine bI 81 (.tmp 80) (((p:Nat):Value)) (((p:Nat):Value)) (fun ρ h1 kk w6 (hg:Grow _ w6) hb hf=>by go_simp) ?_
 refine bI 82 (.tmp 81) (((p:Nat):Value)) (((g:Nat):Value)) (fun ρ h1 kk w6 (hg:Grow _ w6) hb hf=>by have c:=(KC.grow hg).cell 0;go_simp) ?_
 refine bI 83 (.tmp 3) (((y:Nat):Value)) (.pointer (some ⟨y,1,none⟩)) (fun ρ h1 kk w6 (hg:Grow _ w6) hb hf=>by go_simp) ?_
 refine bI 84 (.tmp 83) (.pointer (some ⟨y,1,none⟩)) (.pointer (some ⟨y,1+2,none⟩)) (fun ρ h1 kk w6 (hg:Grow _ w6) hb hf=>by go_simp) ?_
 refine bI 85 (.tmp 84) (.pointer (some ⟨y,1+2,none⟩)) (ae af e.sq) (fun ρ h1 kk w6 (hg:Grow _ w6) hb hf=>by have c:=(kX.grow hg).cell 3;go_simp) ?_
 refine cC 86 aj ak (bO aj) (.bool false) (by rw[hK.out];rfl) 56 _ _ aj [((g:Nat):Value),ae af e.sq] aj Bf (fun kk w6 (hg:Grow _ w6) hb hf=>b_ aj (by exact (mw w6 hg))) ?_
 refine ce (fun _ _ w6 (hg:Grow _ w6) _ bR=>hT _ _ ?_)
 clear hops hA' hK hT
 simp only[cj,Act.put,aw,ay,az,ax,aB]
 have Gu:=hg
 have eC:=hS5.grows iU Gu
 have pT:=eC.blk 0 rfl
 have J6:=J5.trans (Just.bJ Gu)
 have hd6:fV w6 D A e.ds.length e.ds:=In.just hd J6 fun b hb hl=>hl.elim (j5 b hb) (fun h=>by have:=hDl b hb;omega)
 have gB:Solo (cB V w) (Many (Many (dU m s bE bS p g (.slice Ab nb cb) q iV dL F M B R) :: [Cell y 32 #[ae af e.k,ae af e.ag,ae af e.sh,ae af e.sq,ae af e.ep,.slice A e.ds.length c,.string e.se,ae af e.fr,ae af e.tg]])) w6:=Solo.eG (eC.perm (List.perm_append_singleton _ _).symm)
 have wW:bM (Many (dU m s bE bS p g (.slice Ab nb cb) q iV dL F M B R) :: [Cell y 32 #[ae af e.k,ae af e.ag,ae af e.sh,ae af e.sq,ae af e.ep,.slice A e.ds.length c,.string e.se,ae af e.fr,ae af e.tg]]):=(bM.nil.cons (Cell.framed _ _ _)).cons (Many.framed _ (de m s bE bS p g (.slice Ab nb cb) q iV dL F M B hR))
 have Ph:=J6.size
 obtain⟨UM,Pj,KD,Nb⟩:=Solo.P9 (S:=Many (dU m s bE bS p g (.slice Ab nb cb) q iV dL F M B R)) 0 rfl wW gB
 rw[HE.out] at Pj
 have hcall:=hc w6 s bE bS p g Ab nb cb dL R UM zC.out hR Pj (fun b hb=>(KD b hb).2) hd6 (fun b hb=>by have:=hDl b hb;omega) (fun b hb hu=>(KD b hu).1.elim (j5 b hb) (fun h=>by have:=hDl b hb;omega))
 clear hc
 unfold En.agg at hcall
 have y0:=pT.cell 0
 have y1:=pT.cell 1
 have y2:=pT.cell 2
 have y3:=pT.cell 3
 have y4:=pT.cell 4
 have y5:=pT.cell 5
 have y6:=pT.cell 6
 have y7:=pT.cell 7
 have y8:=pT.cell 8
 go_wp2_with fail
 clear y0 y1 y2 y3 y4 y5 y6 y7 y8
 refine hcall.mono ?_
 rintro en w7 ⟨rfl,⟨v7,h7⟩,nn⟩
 obtain⟨u9,Gm⟩:=Nb _ w7 h7 nn
 go_wp2_with fail
 go_ret2
 have iq:=(Solo.flat u9).perm (List.perm_append_singleton _ _)
 obtain⟨r1,r2⟩:=Solo.done iq.drop1 (J6.trans Gm) hV
 refine⟨rfl,?_,r2⟩
 cases b with
 | true=>exact zy hO hnd r1
 | false=>
   obtain⟨rfl,rfl,rfl⟩:=hb rfl
   exact iI (x:=⟨_,_,_⟩) (dL:=dL) hO r1
theorem uc (w:World) (m:Nat) (q:K.Sm) (d9:List (Int×Value)) (gp:List (Key×Pl)) (e:En) (A:Option Addr) (c:Nat) (D V:Nat→Prop) (hV:∀ b,V b→b<w.heap.size) (hok:e.Ok) (hk:e.k=2) (hse:e.se.size≤maxLen) (hd:fV w D A e.ds.length e.ds) (h:eA m q d9 gp w V) :
 Calls au 13 #[((m:Nat):Value),.agg (e.agg A c)] w fun en w'=>en=.returned (.tuple #[ae af 8,ae ah ((K.gt q e.se:Nat):Int)])∧eA m q d9 gp w' (Ext V w w')∧Just V w w':=by
 have QT:∀ (vs:Array Value) (w:World),(callFunc 52 vs).run au w=.ok (.enter 52 vs) w:=fun vs w=>by go_simp
 have hg0:=bN w (.cells (e.agg A c) 32)
 have du:=ct.made w 32 (e.agg A c)
 obtain⟨y,HY⟩:∃ y:Nat,Hid (y=w.heap.size):=⟨_,rfl⟩
 obtain⟨wa,dq⟩:∃ wa:World,Hid (wa=w.alloc (.cells (e.agg A c) 32)):=⟨_,rfl⟩
 rw[←dq.out] at hg0 du
 rw[←HY.out] at du
 have gN:=f8 wa e D A c hok (In.grow hd hg0)
 unfold En.agg at dq gN du ⊢
 have hk2:(e.k == 2)=true:=by rw[hk];rfl
 have hk3:decide (e.k=2)=true:=by rw[hk];rfl
 obtain⟨N,HN⟩:∃ N:Nat,Hid (N=K.gt q e.se):=⟨_,rfl⟩
 have hF:=eA.framed m q d9 gp
 have h0:=h
 obtain⟨s,bE,bS,L,rfl,h⟩:=h
 obtain⟨U0,hm0,KE⟩:=(Many.pick _ 0 _ rfl h).fst
 obtain⟨U1,hs0,nN⟩:=(Many.pick _ 1 _ rfl h).fst
 have JK:=hm0.2
 have hml:=hV m (KE m hm0.1)
 clear hk h
 go_enter Tryz.func13,Tryz.ntmps13
 go_wp2_with fail
 rw[←dq.out,←HY.out]
 refine gN.mono ?_
 rintro en wb ⟨rfl,hgb⟩
 have hBb:=du.grow hgb
 have hmb:=JK.grow (hg0.trans hgb)
 have Nc:∀ w1,Grow wb w1→Calls au 52 #[((s:Nat):Value),.string e.se] w1 fun en w'=>en=.returned (ae ah (N:Int))∧Grow w1 w':=fun w1 hg=>by
  have h1:=K.m0 w1 s q U1 (K.ek.framed s q w w1 U1 hs0 fun b hb=>((hg0.trans hgb).trans hg).block b (hV b (nN b hb))) e.se hse
  rw[←HN.out] at h1
  exact h1.mono fun _ _ ⟨a,b⟩=>⟨a,b▸Grow.refl _⟩
 have y0:=hBb.cell 0
 have y1:=hBb.cell 1
 have y2:=hBb.cell 2
 go_wp2_with fail
 clear y0 y1 y2
 refine bL 9 91 [(6,.inl (ae ah (N:Int)))] rfl rfl am am am ?_ ?_
 ·intro x hx φ he
  simp only[aF,aE,or_false] at hx
  rcases hx with rfl<;>cases he
 intro ops' A' K' T hops hA' hK hT
 refine bP 15 (((m:Nat):Value)) ?_
 refine bQ 16 (.tmp 15) (((m:Nat):Value)) (((m:Nat):Value)) ?_
 refine bQ 17 (.tmp 16) (((m:Nat):Value)) (((m:Nat):Value)) ?_
 refine bI 18 (.tmp 17) (((m:Nat):Value)) (((s:Nat):Value)) (fun ρ h1 kk w1 (hg:Grow _ w1) hb hf=>by have c:=(hmb.grow hg).cell 0;go_simp) ?_
 refine bQ 19 (.tmp 3) (((y:Nat):Value)) (.pointer (some ⟨y,6,none⟩)) ?_
 refine bI 20 (.tmp 19) (.pointer (some ⟨y,6,none⟩)) (.string e.se) (fun ρ h1 kk w1 (hg:Grow _ w1) hb hf=>by have c:=(hBb.grow hg).cell 6;go_simp) ?_
 refine cC 21 aj ak (bO aj) (ae ah (N:Int)) (by rw[hK.out];rfl) 52 _ _ aj [((s:Nat):Value),.string e.se] aj QT (fun kk w1 (hg:Grow _ w1) hb hf=>b_ aj (by exact (Nc w1 hg))) ?_
 refine bP 4 (ae af 8) ?_
 refine bP 5 (ae ah (N:Int)) ?_
 refine ce (fun _ _ w1 (hg:Grow _ w1) _ bR=>hT _ _ ?_)
 clear hops hA' hK hT
 simp only[cj,Act.put,aw,ay,az,ax,aB]
 go_wp2_with fail
 go_ret2
 have hgA:=(hg0.trans hgb).trans hg
 rw[←HN.out]
 exact⟨rfl,(hF w w1 V h0 fun b hb=>hgA.block b (hV b hb)).elim fun s h=>eA.wide m q d9 (ju L) w1 V _ (fun b hb => .inl hb) ⟨s,h⟩,Just.bJ hgA⟩
def ud (l:List (Int×Int)):List (Int×Value):=l.map fun a=>(a.1,ae af a.2)
def yq (l:List (Int×Int)) (k:Int):Int:=((l.find? fun a=>decide (a.1=k)).map (·.2)).getD 0
def rh (l:List (Int×Int)) (k n:Int):List (Int×Int):=if k∈l.map Prod.fst then l.map (fun a=>if a.1=k then (k,n) else a) else l++[(k,n)]
theorem yr (l:List (Int×Int)) (k:Int):(pX (ud l) k).getD (ae af 0)=ae af (yq l k):=by
 unfold pX ud yq
 rw[List.find?_map]
 show Option.getD (Option.map _ (Option.map _ (l.find? fun a=>decide (a.1=k)))) _=_
 cases l.find? fun a=>decide (a.1=k)<;>rfl
theorem ot (l:List (Int×Int)) (k n:Int):dQ (ud l) k (ae af n)=ud (rh l k n):=by
 unfold dQ rh ud
 have e:(l.map fun a=>((a.1,Value.int .i64 a.2):Int×Value)).map Prod.fst=l.map Prod.fst:=by simp
 rw[e]
 by_cases h:k∈l.map Prod.fst
 ·rw[if_pos h,if_pos h,List.map_map,List.map_map]
  refine List.map_congr_left fun a _=>?_
  by_cases h2:a.1=k<;>simp[h2]
 ·rw[if_neg h,if_neg h]
  simp
structure fl where
 q:K.Sm
 d9:List (Int×Int)
 pl:List (Key×Pl)
def fl.new:fl:=⟨[],[],[]⟩
def fl.at_ (x:fl) (e:En):Pl:=dx x.pl (e.ag,e.sh)
def eh (x:fl) (e:En):Int×Nat×fl:=
 if e.k=2 then (8,K.gt x.q e.se,x) else
 if W.seen (x.at_ e).F (x.at_ e).M e.sq then (if e.sq∈(x.at_ e).B then (3,0,x) else (2,0,x)) else
 if e.ep<yq x.d9 e.ag then (4,0,x) else
 if W.far (x.at_ e).F e.sq then (5,0,⟨x.q,rh x.d9 e.ag e.ep,x.pl⟩) else
 if K.i3 x.q e.ds=0 then (1,0,⟨K.fP x.q e.ds,rh x.d9 e.ag e.ep,eX x.pl (e.ag,e.sh) ⟨(W.dm (x.at_ e).F (x.at_ e).M e.sq).1,(W.dm (x.at_ e).F (x.at_ e).M e.sq).2,(x.at_ e).B⟩⟩) else
 if (x.at_ e).B.length<8 then (3,0,⟨x.q,rh x.d9 e.ag e.ep,eX x.pl (e.ag,e.sh) ⟨(W.dm (x.at_ e).F (x.at_ e).M e.sq).1,(W.dm (x.at_ e).F (x.at_ e).M e.sq).2,nG ((x.at_ e).B++[e.sq])⟩⟩) else
 (5,0,⟨x.q,rh x.d9 e.ag e.ep,x.pl⟩)
def eQ (m:Nat) (x:fl):cg:=eA m x.q (ud x.d9) x.pl
theorem eQ.framed (m:Nat) (x:fl):Framed (eQ m x):=eA.framed _ _ _ _
theorem eQ.wide (m:Nat) (x:fl):E_ (eQ m x):=eA.wide _ _ _ _
structure nq (n:Nat) (x:fl):Prop where
 q:x.q.length≤n
 win:∀ k,W.fu (dx x.pl k).F (dx x.pl k).M
 bad:∀ k,(dx x.pl k).B.length≤8
theorem nq.new:nq 0 fl.new:=⟨aC _,fun k=>W.fu.none,fun k=>aZ _⟩
theorem nq.more {n n':Nat} {x:fl} (h:nq n x) (hn:n≤n'):nq n' x:=⟨aH h.q hn,h.win,h.bad⟩
theorem nq.put {n:Nat} {x:fl} (h:nq n x) {q:K.Sm} {d9:List (Int×Int)} (k:Key) (y:Pl) (hq:q.length≤n) (hw:W.fu y.F y.M) (hb:y.B.length≤8):nq n ⟨q,d9,eX x.pl k y⟩:=
 ⟨hq,fun k'=>by
  show W.fu (dx (eX x.pl k y) k').F (dx (eX x.pl k y) k').M
  rw[gg];split
  ·exact hw
  ·exact h.win k',fun k'=>by
  show (dx (eX x.pl k y) k').B.length≤8
  rw[gg];split
  ·exact hb
  ·exact h.bad k'⟩
theorem C_ (q:K.Sm) (l:List Dl):(K.fP q l).length≤q.length+l.length:=by
 unfold K.fP
 split
 ·exact K.oe l q
 ·omega
theorem nq.step {n:Nat} {x:fl} (h:nq n x) (e:En) (im:e.sq≤9223372036854775807):nq (n+e.ds.length) (eh x e).2.2:=by
 have h':nq (n+e.ds.length) x:=h.more al
 have hw:=(h.win (e.ag,e.sh)).add im
 have hb:=h.bad (e.ag,e.sh)
 unfold eh
 split
 ·exact h'
 split
 ·split<;>exact h'
 split
 ·exact h'
 split
 ·exact⟨h'.q,h'.win,h'.bad⟩
 split
 ·exact h'.put _ _ (aH (C_ _ _) (by have:=h.q;omega)) hw hb
 split
 ·rename_i h8
  exact h'.put _ _ h'.q hw (by rw[yo,aD,aT];omega)
 ·exact⟨h'.q,h'.win,h'.bad⟩
theorem zE {e:En} (hok:e.Ok) (hk:e.k≠2):e.k=1∧(∀ d∈e.ds,d.1.size≤maxLen∧d.2≤K.kc)∧e.ds.length≤1048576 ∧ -9223372036854775808≤e.sq∧e.sq≤9223372036854775807:=by
 rcases hok.2 with h|h
 ·refine⟨h.1,?_⟩
  obtain⟨_,_,_,_,h5,_,h7,h8⟩:=h
  exact⟨fun d hd=>by obtain⟨_,b,_,s⟩:=h8 d hd;exact⟨by unfold maxLen;omega,by unfold K.kc;omega⟩,by omega,by omega,by omega⟩
 ·exact absurd h.1 hk
theorem ri (w:World) (m:Nat) (x:fl) (n:Nat) (e:En) (A:Option Addr) (c:Nat) (D V:Nat→Prop) (hV:∀ b,V b→b<w.heap.size) (hok:e.Ok) (hse:e.se.size≤maxLen) (hd:fV w D A e.ds.length e.ds) (hDl:∀ b,D b→b<w.heap.size) (j5:∀ b,D b→¬ V b) (hx:nq n x) (hn:n≤1048576) (h:eQ m x w V) :
 Calls au 13 #[((m:Nat):Value),.agg (e.agg A c)] w fun en w'=>en=.returned (.tuple #[ae af (eh x e).1,ae ah ((eh x e).2.1:Nat)])∧eQ m (eh x e).2.2 w' (Ext V w w')∧Just V w w':=by
 obtain⟨q,d9,pl⟩:=x
 have hh:eA m q (ud d9) pl w V:=h
 by_cases hk:e.k=2
 ·have es:eh ⟨q,d9,pl⟩ e=(8,K.gt q e.se,⟨q,d9,pl⟩):=by unfold eh;rw[if_pos hk]
  rw[es]
  exact uc w m q (ud d9) pl e A c D V hV hok hk hse hd hh
 obtain⟨hk1,hsz,hn1,im⟩:=zE hok hk
 have hI:W.fu (dx pl (e.ag,e.sh)).F (dx pl (e.ag,e.sh)).M:=hx.win _
 have hBl:(dx pl (e.ag,e.sh)).B.length≤8:=hx.bad _
 have hq:q.length≤1048576:=aH hx.q hn
 have QU:(⟨q,d9,pl⟩:fl).at_ e=dx pl (e.ag,e.sh):=rfl
 unfold eh
 rw[if_neg hk,QU]
 generalize hst:dx pl (e.ag,e.sh)=p at hI hBl
 obtain⟨F,M,B⟩:=p
 dsimp only at hI hBl ⊢
 have hB1:B.length≤1048576:=by omega
 cases wX:W.seen F M e.sq with
 | true=>
   rw[if_pos rfl]
   by_cases hb:e.sq∈B
   ·rw[if_pos hb]
    exact ua w m q (ud d9) pl e A c D V hV hok hk1 hd hDl j5 F M B hst hB1 hI im wX hb hh
   ·rw[if_neg hb]
    exact wU w m q (ud d9) pl e A c D V hV hok hk1 hd hDl j5 F M B hst hB1 hI im wX hb hh
 | false=>
   rw[if_neg ak]
   by_cases hf:e.ep<yq d9 e.ag
   ·rw[if_pos hf]
    exact qd w m q (ud d9) pl e A c D V hV hok hk1 hd hDl j5 F M B hst hB1 hI im wX ⟨_,yr d9 e.ag,hf⟩ hh
   rw[if_neg hf]
   have oj:∃ x:Int,(pX (ud d9) e.ag).getD (ae af 0)=ae af x∧x≤e.ep:=⟨_,yr d9 e.ag,by omega⟩
   cases hfa:W.far F e.sq with
   | true=>
     rw[if_pos rfl]
     have h1:=wV w m q (ud d9) pl e A c D V hV hok hk1 hd hDl j5 F M B hst hB1 hI im wX oj hfa hh
     rw[ot] at h1
     exact h1
   | false=>
     rw[if_neg ak]
     by_cases hm:K.i3 q e.ds=0
     ·rw[if_pos hm]
      have h1:=jS w m q (ud d9) pl e A c D V hV hok hk1 hd hDl j5 F M B hst hB1 hI im wX oj hfa 1 (K.fP q e.ds) true (W.dm F M e.sq).1 (W.dm F M e.sq).2 B (fun h=>by cases h)
       (fun w6 s bE bS p g Ab nb cb dL R U hnb hR hM hU hd6 hD6 KF=>(wN w6 m s bE bS p g Ab nb cb q _ dL F M B R hR e A c D U hM hU hd6 hD6 KF hsz hn1 hq hI im hm).mono fun en w' ⟨a,b,c⟩=>⟨a,⟨_,b⟩,c⟩) hh
      rw[ot] at h1
      exact h1
     rw[if_neg hm]
     by_cases h8:B.length<8
     ·rw[if_pos h8]
      have h1:=jS w m q (ud d9) pl e A c D V hV hok hk1 hd hDl j5 F M B hst hB1 hI im wX oj hfa 3 q true (W.dm F M e.sq).1 (W.dm F M e.sq).2 (nG (B++[e.sq])) (fun h=>by cases h)
       (fun w6 s bE bS p g Ab nb cb dL R U hnb hR hM hU hd6 hD6 KF=>wR w6 m s bE bS p g Ab nb cb q _ dL F M B R hR e A c D U hM hU hd6 hD6 KF hsz hn1 hq hI im hm al hnb) hh
      rw[ot] at h1
      exact h1
     ·rw[if_neg h8]
      have h1:=jS w m q (ud d9) pl e A c D V hV hok hk1 hd hDl j5 F M B hst hB1 hI im wX oj hfa 5 q false F M B (fun _=>⟨rfl,rfl,rfl⟩)
       (fun w6 s bE bS p g Ab nb cb dL R U hnb hR hM hU hd6 hD6 KF=>(u7 w6 m s bE bS p g Ab nb cb q _ dL F M B R hR e A c D U hM hU hd6 hD6 KF hsz hn1 hq hI im hm al).mono fun en w' ⟨a,b,c⟩=>⟨a,⟨_,b⟩,c⟩) hh
      rw[ot] at h1
      exact h1
end Go.Proofs.YtmijcbfgfkeodaaGreatDoor
end
section
namespace Go.Proofs.YtmijcbfgfkeodaaGreatDoor
open Go.RowKit Go.Hop V
def eI (k:Nat) (ns:List Nat):List UInt8:=enc k++ns.flatMap enc
theorem pv:∀ (ns:List Nat),(∀ x∈ns,x<18446744073709551616)→(ns.flatMap enc).length≤ns.length*10
 | [],_=>by simp
 | x :: ns,h=>by
   have:=pv ns fun y hy=>h y (by simp[hy])
   have:=cZ (h x (by simp))
   simp only[aU,aD,aL]
   omega
theorem jT (w:World) (k:Nat) (A:Option Addr) (n c:Nat) (ns:List Nat) (D:Nat→Prop) (h:In w D 1 A n (ns.map fun (x:Nat) => ae af (x:Int))) (hk:k<18446744073709551616) (hn:n≤8) (hs:∀ x∈ns,x≤9223372036854775807) :
 Calls au 150 #[ae ah (k:Int),.slice A n c] w fun e w'=>∃ v,e=.returned v∧Grow w w'∧bZ (eI k ns) v w':=by
 have hln:ns.length=n:=by have:=h.1;simpa using this
 have hP:=fy w _ [] k (nK w) (by simp) hk
 go_enter Tryz.func150,Tryz.ntmps150
 go_wp2_with fail
 refine hP.mono ?_
 rintro e w1 ⟨v1,rfl,hg1,hI1⟩
 have hk10:=cZ hk
 go_wp2_with fail
 go_loopw [5,12] (fun v i wr=>∃ j:Nat,j≤n∧i=ae af (j:Int)∧bZ (eI k (ns.take j)) v wr∧Grow w wr) (fun _ i _=>n-(intOf i).toNat)
 case atStart=>exact⟨0,by omega,rfl,by simpa [eI] using hI1,hg1⟩
 case round=>
  obtain⟨j,hjn,rfl,hB,hgr⟩:=hrel
  by_cases hj:j<n
  ·obtain⟨ad,hA,hD,hlt,hc⟩:=(h.grow hgr).2 al
   subst hA
   have hq:j<ns.length:=by omega
   have e0:=hc j (ae af (ns[j]:Int)) (by simp[hq])
   have e1:wr.cell? (ad.add (j*1))=some (ae af (ns[j]:Int)):=by rw[bC];exact e0
   have hsn:ns.take (j+1)=ns.take j++[ns[j]]:=aI hq
   have HS:=Lib.hid hsn
   have hsm:=hs _ (aO hq)
   have hl:=pv (ns.take j) fun x hx=>by have:=hs x (bp hx);omega
   rw[aK,bF al] at hl
   clear hsn hc
   generalize ns[j]=x at e0 e1 hsm HS
   have hx:IntKind.u64.wrap (x:Int)=(x:Int):=by rw[wrap_u64];omega
   have hL0:(eI k (ns.take j)).length≤1099511627776:=by unfold eI;rw[aD];omega
   have HL:=Lib.hid hl
   clear hl
   have hP:=fy wr u5 _ x hB hL0 al
   go_wp2_with fail
   refine hP.mono ?_
   rintro e w2 ⟨v2,rfl,hg2,hI2⟩
   have H2:bZ (eI k (ns.take (j+1))) v2 w2:=by
    rw[HS.out]
    unfold eI at hI2 ⊢
    rw[bd,List.flatMap_singleton,←aM]
    exact hI2
   go_wp2_with fail
   go_roundw
   case rel=>exact⟨j+1,by omega,by go_num,H2,hgr.trans hg2⟩
   case measure=>simp[intOf];omega
  ·obtain rfl:j=n:=by omega
   rw[aN al] at hB
   go_wp2_with fail
   go_ret
   exact⟨_,rfl,hgr,hB⟩
theorem wY (w:World) (n:Nat) (hn:n≤9223372036854775807):Calls au 69 #[ae af (n:Int)] w fun e w'=>∃ v,e=.returned v∧Grow w w'∧bZ (eI 1 [n]) v w':=by
 have hga:=bN w (.cells #[ae af (n:Int)] 2)
 have hB:=ct.made w 2 #[ae af (n:Int)]
 have hR:=jT _ 1 (some ⟨w.heap.size,0,none⟩) 1 1 [n] (fun b=>b=w.heap.size) (hB.fw (size:=1) (n:=1) rfl) ak ak (by intro x hx;simp only[aF,aE,or_false] at hx;omega)
 go_enter Tryz.func69,Tryz.ntmps69
 go_wp2_with fail
 refine hR.mono ?_
 rintro e w1 ⟨v,rfl,hg,hI⟩
 go_wp2_with fail
 go_ret
 exact⟨v,rfl,hga.trans hg,hI⟩
theorem zF (w:World) (k n:Nat) (hk:k≤9223372036854775807) (hn:n≤9223372036854775807):Calls au 347 #[ae af (k:Int),ae af (n:Int)] w fun e w'=>∃ v,e=.returned v∧Grow w w'∧bZ (eI 5 [k,n]) v w':=by
 have hga:=bN w (.cells #[ae af (k:Int),ae af (n:Int)] 2)
 have hB:=ct.made w 2 #[ae af (k:Int),ae af (n:Int)]
 have hR:=jT _ 5 (some ⟨w.heap.size,0,none⟩) 2 2 [k,n] (fun b=>b=w.heap.size) (hB.fw (size:=1) (n:=2) rfl) ak ak (by intro x hx;simp only[aF,aE,or_false] at hx;omega)
 go_enter Tryz.func347,Tryz.ntmps347
 go_wp2_with fail
 refine hR.mono ?_
 rintro e w1 ⟨v,rfl,hg,hI⟩
 go_wp2_with fail
 go_ret
 exact⟨v,rfl,hga.trans hg,hI⟩
end Go.Proofs.YtmijcbfgfkeodaaGreatDoor
end
