/- Vo3, Vo4, Vo5, Wiplain. -/
import Derived.Test.YtmijcbfgfkeodaaGreatDoorIz15
set_option linter.all false
set_option maxRecDepth 100000
set_option maxHeartbeats 2000000
open Go.Value renaming int → ae,slice → ai
open Go.IntKind renaming i64 → af,u64 → ah
open Go.Proofs.Tryz renaming prog → au
open List renaming setIfInBounds_toArray → aw,drop_succ_cons → ax,set_cons_zero → ay,set_cons_succ → az,drop_zero → aB,not_mem_nil → aE,mem_cons → aF,getElem_mem → aO,length_map → aP
open Nat renaming le_refl → aC,zero_le → aZ
open Bool renaming and_eq_true → aS
section
namespace Go.Proofs.YtmijcbfgfkeodaaGreatDoor
open Go.RowKit Go.Hop V
def dJ (s x d:Nat) (t h:Nat) (es:List En) (n:Int) (bs:List UInt8):cg:=fun w V=>∃ (A:Option Addr) (c:Nat) (q:List El),q.map El.e=es∧q.length≤c∧c≤maxLen∧Many [CH A q,Cell s 259 (si t h (.slice A q.length c) x),cU x d n bs bs.length] w V
theorem ii (A:Option Addr) (q:List El) (s x d:Nat) (cs:Array Value) (n:Int) (bs:List UInt8) (k:Nat):bM [CH A q,Cell s 259 cs,cU x d n bs k]:=((bM.nil.cons (cU.framed _ _ _ _ _)).cons (Cell.framed _ _ _)).cons (CH.framed _ _)
theorem dJ.framed (s x d:Nat) (t h:Nat) (es:List En) (n:Int) (bs:List UInt8):Framed (dJ s x d t h es n bs):=fun w w' V ⟨A,c,q,h1,h2,h3,h4⟩ hk=>⟨A,c,q,h1,h2,h3,Many.framed _ (ii _ _ _ _ _ _ _ _ _) w w' V h4 hk⟩
theorem dJ.cells {s x d:Nat} {t h:Nat} {es:List En} {n:Int} {bs:List UInt8} {w:World} {V:Nat→Prop} (hS:dJ s x d t h es n bs w V):∃ (A:Option Addr) (c:Nat) (q:List El),q.map El.e=es∧q.length≤c∧c≤maxLen∧(∃ D,lh w D A q)∧ct w s 259 (si t h (.slice A q.length c) x):=by
 obtain⟨A,c,q,h1,h2,h3,V1,V2,hE,⟨V3,V4,hB,_⟩,_⟩:=hS
 exact⟨A,c,q,h1,h2,h3,⟨V1,hE⟩,hB.2⟩
theorem rb (w:World) (s x d:Nat) (t h:Nat) (es:List En) (n:Int) (bs:List UInt8) (V:Nat→Prop) (hS:dJ s x d t h es n bs w V):Calls au 83 #[((s:Nat):Value)] w fun e w'=>e=.returned (ae af (t:Int))∧w=w':=by
 obtain⟨A,c,q,_,_,_,_,hB⟩:=hS.cells
 unfold si at hB
 have c0:=hB.cell 0
 go_enter Tryz.func83,Tryz.ntmps83
 go_wp2_with fail
 go_ret
 exact⟨rfl,rfl⟩
theorem CI (w:World) (s x d:Nat) (t h:Nat) (es:List En) (n:Int) (bs:List UInt8) (V:Nat→Prop) (hS:dJ s x d t h es n bs w V):Calls au 88 #[((s:Nat):Value)] w fun e w'=>e=.returned (ae af (h:Int))∧w=w':=by
 obtain⟨A,c,q,_,_,_,_,hB⟩:=hS.cells
 unfold si at hB
 have c0:=hB.cell 1
 go_enter Tryz.func88,Tryz.ntmps88
 go_wp2_with fail
 go_ret
 exact⟨rfl,rfl⟩
theorem pm (w:World) (s x d:Nat) (t h:Nat) (es:List En) (n:Int) (bs:List UInt8) (V:Nat→Prop) (hS:dJ s x d t h es n bs w V):Calls au 171 #[((s:Nat):Value)] w fun e w'=>e=.returned (ae af (es.length:Int))∧w=w':=by
 obtain⟨A,c,q,hq,_,_,_,hB⟩:=hS.cells
 have hl:es.length=q.length:=by rw[←hq,aP]
 unfold si at hB
 have c0:=hB.cell 2
 rw[hl]
 clear hl
 go_enter Tryz.func171,Tryz.ntmps171
 go_wp2_with fail
 go_ret
 exact⟨rfl,rfl⟩
theorem mr (w:World) (s x d:Nat) (t h:Nat) (es:List En) (n:Int) (bs:List UInt8) (V:Nat→Prop) (hS:dJ s x d t h es n bs w V) (hn:es.length≤1048576):Calls au 89 #[((s:Nat):Value)] w fun e w'=>∃ u,e=.returned u∧Gk es w u w'∧(∃ A',u=.slice A' es.length es.length)∧Grow w w':=by
 obtain⟨A,c,q,hq,_,_,⟨D,hE⟩,hB⟩:=hS.cells
 have hl:es.length=q.length:=by rw[←hq,aP]
 have hC:=iG w D A c q hE al
 rw[hq,←hl] at hC
 unfold si at hB
 rw[←hl] at hB
 have c0:=hB.cell 2
 clear hl
 go_enter Tryz.func89,Tryz.ntmps89
 go_wp2_with fail
 refine hC.mono ?_
 rintro e w1 ⟨u,rfl,hI,hu,hg⟩
 go_wp2_with fail
 go_ret
 exact⟨u,rfl,hI,hu,hg⟩
theorem tZ (w:World) (s x d:Nat) (t h TE:Nat) (es:List En) (n:Int) (bs:List UInt8) (P7:t<TE) (hte:TE≤9223372036854775807) (P6:h≤9223372036854775807) (hok:∀ e∈es,e.Ok) (hn:es.length≤1024) (hn0:0≤n∧n≤1099511627776) (hroom:Room bs (ec TE h es)) :
 Turns au 84 #[((s:Nat):Value),ae af (TE:Int)] (fun e=>e=.returned (.bool true)) (dJ s x d t h es n bs) (dJ s x d TE h es (n+1) (bs++frame (ec TE h es))) w:=by
 rintro V ⟨A,c,q,hq,hqc,hcm,hM⟩ hV
 subst hq
 rw[aP] at hn
 have mw:=ii A q s x d (si t h (.slice A q.length c) x) n bs bs.length
 obtain⟨_,_,_,⟨_,_,t_,_⟩,_⟩:=id hM
 have iT:ct w s 259 #[ae af (t:Int),ae af (h:Int),.slice A q.length c,((x:Nat):Value)]:=t_.2
 clear t_
 have dt:decide ((TE:Int) > (t:Int))=true:=decide_eq_true al
 have ht':(t:Int)<(TE:Int):=by omega
 have k166:∀ (vs:Array Value) (w:World),(callFunc 166 vs).run au w=.ok (.enter 166 vs) w:=fun vs w=>by go_simp
 go_enter Tryz.func84,Tryz.ntmps84
 go_wp2_with fail
 refine bL 21 28 [] rfl rfl am am am ?_ ?_
 ·intro x hx φ he
  cases hx
 intro ops' A' K' T hops hA' hK hT
 refine bP 5 (ae af (TE:Int)) ?_
 refine bP 6 (((s:Nat):Value)) ?_
 refine bQ 7 (.tmp 6) (((s:Nat):Value)) (((s:Nat):Value)) ?_
 refine bQ 8 (.tmp 7) (((s:Nat):Value)) (((s:Nat):Value)) ?_
 refine bQ 9 (.tmp 8) (((s:Nat):Value)) (((s:Nat):Value)) ?_
 refine bI 10 (.tmp 9) (((s:Nat):Value)) (ae af (t:Int)) (fun ρ h1 kk w1 (hg:Grow _ w1) hb hf=>by have c:=(iT.grow hg).cell 0;go_simp) ?_
 refine cm 11 (.tmp 5) (.tmp 10) (ae af (TE:Int)) (ae af (t:Int)) (.bool true) (fun ρ h1 h2 kk w1 (hg:Grow _ w1) hb hf=>by go_simp;try exact dt) ?_
 refine bP 12 (.bool true) ?_
 refine da 13 (cx hops 7 true 12 true) (((s:Nat):Value)) ?_
 refine da 14 (cx hops 7 true 12 true) (ae af (TE:Int)) ?_
 refine da 15 (cx hops 7 true 12 true) (((s:Nat):Value)) ?_
 refine bX 16 (cx hops 7 true 12 true) (.tmp 15) (((s:Nat):Value)) (((s:Nat):Value)) (fun ρ h1 kk w1 (hg:Grow _ w1) hb hf=>by go_simp) ?_
 refine bX 17 (cx hops 7 true 12 true) (.tmp 16) (((s:Nat):Value)) (((s:Nat):Value)) (fun ρ h1 kk w1 (hg:Grow _ w1) hb hf=>by go_simp) ?_
 refine bX 18 (cx hops 7 true 12 true) (.tmp 17) (((s:Nat):Value)) (.pointer (some ⟨s,1,none⟩)) (fun ρ h1 kk w1 (hg:Grow _ w1) hb hf=>by go_simp) ?_
 refine bX 19 (cx hops 7 true 12 true) (.tmp 18) (.pointer (some ⟨s,1,none⟩)) (ae af (h:Int)) (fun ρ h1 kk w1 (hg:Grow _ w1) hb hf=>by have c:=(iT.grow hg).cell 1;go_simp) ?_
 refine da 20 (cx hops 7 true 12 true) (((s:Nat):Value)) ?_
 refine bX 21 (cx hops 7 true 12 true) (.tmp 20) (((s:Nat):Value)) (((s:Nat):Value)) (fun ρ h1 kk w1 (hg:Grow _ w1) hb hf=>by go_simp) ?_
 refine bX 22 (cx hops 7 true 12 true) (.tmp 21) (((s:Nat):Value)) (((s:Nat):Value)) (fun ρ h1 kk w1 (hg:Grow _ w1) hb hf=>by go_simp) ?_
 refine bX 23 (cx hops 7 true 12 true) (.tmp 22) (((s:Nat):Value)) (.pointer (some ⟨s,2,none⟩)) (fun ρ h1 kk w1 (hg:Grow _ w1) hb hf=>by go_simp) ?_
 refine bX 24 (cx hops 7 true 12 true) (.tmp 23) (.pointer (some ⟨s,2,none⟩)) (.slice A q.length c) (fun ρ h1 kk w1 (hg:Grow _ w1) hb hf=>by have c:=(iT.grow hg).cell 2;go_simp) ?_
 refine mP 25 aj ak (dF hops 7 true aj 12 aj true aj) (by rw[hK.out];rfl) aj (.tmp 14) (.tmp 19) (.tmp 24) (ae af (TE:Int)) (ae af (h:Int)) (.slice A q.length c) aj aj aj (.agg #[ae af (TE:Int),ae af (h:Int),.slice A q.length c]) (fun ρ h1 h2 h3 kk w1 (hg:Grow _ w1) hb hf=>by go_simp) ?_
 refine ce (fun _ _ w1 (hg:Grow _ w1) _ bR=>hT _ _ ?_)
 clear hops hA' hK hT
 simp only[cj,Act.put,aw,ay,az,ax,aB]
 obtain⟨V1,V2,hE,hM1,hc1,hc2,C8⟩:=Many.framed _ mw w w1 V hM fun b hb=>hg.block b (hV b hb)
 have hs1:=hg.size
 have hk:=sj w1 s x d t h (.slice A q.length c) n bs TE h V1 A c q hte P6 hE (fun y hy=>hok _ (List.mem_map.2 ⟨y,hy,rfl⟩)) hn hn0 hroom V2 hM1 (fun b hb=>by have:=hV b (hc2 b hb);omega)
 go_wp2_with fail
 refine hk.mono ?_
 rintro e w2 ⟨rfl,hM2,hj2⟩
 go_wp2_with fail
 go_ret
 refine⟨rfl,⟨A,c,q,rfl,hqc,hcm,V1,Ext V2 w1 w2,hE.just hj2 (fun b hb hv=>C8 b hb hv),hM2,fun b hb => .inl (hc1 b hb),fun b hb=>?_,fun b hb hv=>?_⟩,(Just.bJ hg).trans (hj2.imp hc2)⟩
 ·rcases hb with hb|hb
  ·exact .inl (hc2 b hb)
  ·exact .inr ⟨by have:=hb.1;omega,hb.2⟩
 ·rcases hv with hv|hv
  ·exact C8 b hb hv
  ·have:=hV b (hc1 b hb);have:=hv.1;omega
def fR (B:Nat) (t:TypeId) (cs:Array Value) (u:Value) (w:World):Prop:=∃ g,u=((g:Nat):Value)∧ct w g t cs∧B≤g
theorem fS (B:Nat) (t:TypeId) (cs:Array Value):dv (fR B t cs):=fun u w w' ⟨g,e,h,hb⟩ hg=>⟨g,e,h.grow hg,hb⟩
theorem u1 (w:World) (ρ:Operand→Value) (o:Oper) (ho:o.op=.alloc 257):(execOp ρ o).run au w=.ok (.value (.pointer (some ⟨w.heap.size,0,none⟩))) (w.alloc (.cells #[ae af 0,ae af 0,ai none 0 0] 257)):=by
 obtain⟨dst,op,ty,pos,after,guard⟩:=o
 simp only at ho
 subst ho
 go_simp
theorem zr (w:World) (s x d:Nat) (t h TE:Nat) (es es':List En) (n:Int) (bs:List UInt8) (D:Nat→Prop) (A9:Option Addr) (c':Nat) (q':List El) (hq':lh w D A9 q') (hqe:q'.map El.e=es') (P7:t≤TE) (h1:1≤TE) (hlong:h<TE) (hte:TE≤9223372036854775807) (hok':∀ e∈es',e.Ok) (hn':es'.length≤128) (hn0:0≤n∧n≤1099511627776) (hroom:Room bs (ec TE TE es')) :
 Turns au 170 #[((s:Nat):Value),ae af (TE:Int),.slice A9 es'.length c'] (fun e=>e=.returned (.bool true)) (dJ s x d t h es n bs) (dJ s x d TE TE es' (n+1) (bs++frame (ec TE TE es'))) w:=by
 rintro V ⟨A,c,q,hq,hqc,hcm,hM⟩ hV
 have hl':es'.length=q'.length:=by rw[←hqe,aP]
 have hl0:es.length=q.length:=by rw[←hq,aP]
 clear hq
 have H_:∀ y∈q',y.e.Ok:=fun y hy=>hok' _ (by rw[←hqe];exact List.mem_map.2 ⟨y,hy,rfl⟩)
 rw[hl'] at hn' ⊢
 have mw:=ii A q s x d (si t h (.slice A q.length c) x) n bs bs.length
 obtain⟨_,_,_,⟨_,_,t_,_⟩,_⟩:=id hM
 have iT:ct w s 259 #[ae af (t:Int),ae af (h:Int),.slice A q.length c,((x:Nat):Value)]:=t_.2
 clear t_
 have d1:decide (TE<t)=false:=decide_eq_false al
 have d2:decide ((TE:Int)<1)=false:=decide_eq_false al
 have d3:decide ((q'.length:Int) > 128)=false:=decide_eq_false al
 have N1:decide ((128:Int)<(q'.length:Int))=false:=decide_eq_false al
 have dh:decide (h<TE)=true:=decide_eq_true al
 have k0:=iT.cell 0
 have k1:=iT.cell 1
 have k2:=iT.cell 2
 obtain⟨m,HM⟩:∃ m,Hid (m=q'.length):=⟨_,rfl⟩
 rw[←HM.out] at d3 N1 hn' ⊢
 go_enter Tryz.func170,Tryz.ntmps170
 go_wp2_with fail
 clear k0 k1 k2
 go_loopw [29] (fun i wr=>∃ k:Nat,k≤m∧i=ae af (k:Int)∧Grow w wr) (fun i _=>m-(intOf i).toNat)
 case atStart=>exact⟨0,by omega,rfl,Grow.refl _⟩
 case round=>
  obtain⟨k,hkn,rfl,hgr⟩:=hrel
  by_cases hk:k<m
  ·have hk2:k<q'.length:=by have:=HM.out;omega
   have hqr:=hq'.grow hgr
   obtain⟨ad,hkq,rfl,P8,Hl,e0,e1⟩:=hqr.1.iS al kG hk2
   have gy:=hqr.2 _ (aO hkq)
   have o2:=H_ _ (aO hkq)
   generalize q'[k]=b at gy e0 e1 o2
   have gN:=fun w1 (hg1:Grow wr w1)=>f8 w1 b.e D b.A b.c o2 (In.grow gy.1 hg1)
   obtain⟨⟨bk,ag,sh,sq,ep,ds,se,fr,tg⟩,Ab,cb⟩:=b
   dsimp only[El.cells,En.agg] at e0 e1 gN
   have e2:=e1 1 _ rfl
   have e3:=e1 2 _ rfl
   have e4:=e1 3 _ rfl
   have e5:=e1 4 _ rfl
   have e6:=e1 5 _ rfl
   have e7:=e1 6 _ rfl
   have e8:=e1 7 _ rfl
   have e1:=e1 0 _ rfl
   have e0:=e0 _ rfl
   have hga:=bN wr (.cells #[ae af bk,ae af ag,ae af sh,ae af sq,ae af ep,.slice Ab ds.length cb,.string se,ae af fr,ae af tg] 32)
   have gN:=gN _ hga
   clear gy o2 hqr
   go_wp2_with fail
   refine gN.mono ?_
   rintro e w2 ⟨rfl,hg2⟩
   go_wp2_with fail
   go_roundw
   case rel=>exact⟨k+1,by omega,by go_num,hgr.trans (hga.trans hg2)⟩
   case measure=>simp[intOf];omega
  ·obtain rfl:k=m:=by omega
   have hBr:=iT.grow hgr
   go_wp2_with fail
   refine bL 13 89 [(12,.inr (fun _=>fR wr.heap.size 257 #[ae af 0,ae af 0,ai none 0 0]))] rfl rfl am am am ?_ ?_
   ·intro x hx φ he
    simp only[aF,aE,or_false] at hx
    rcases hx with rfl<;>cases he
    all_goals first|exact ca (cn _)|exact ca (fS _ _ _)
   intro ops' A' K' T hops hA' hK hT
   refine bP 37 (ae af (TE:Int)) ?_
   refine bP 38 (((s:Nat):Value)) ?_
   refine bQ 39 (.tmp 38) (((s:Nat):Value)) (((s:Nat):Value)) ?_
   refine bQ 40 (.tmp 39) (((s:Nat):Value)) (((s:Nat):Value)) ?_
   refine bQ 41 (.tmp 40) (((s:Nat):Value)) (.pointer (some ⟨s,1,none⟩)) ?_
   refine bI 42 (.tmp 41) (.pointer (some ⟨s,1,none⟩)) (ae af (h:Int)) (fun ρ h1 kk w1 (hg:Grow _ w1) hb hf=>by have c:=(hBr.grow hg).cell 1;go_simp) ?_
   refine bP 43 (((s:Nat):Value)) ?_
   refine bQ 44 (.tmp 43) (((s:Nat):Value)) (((s:Nat):Value)) ?_
   refine bQ 45 (.tmp 44) (((s:Nat):Value)) (((s:Nat):Value)) ?_
   refine bQ 46 (.tmp 45) (((s:Nat):Value)) (.pointer (some ⟨s,2,none⟩)) ?_
   refine bI 47 (.tmp 46) (.pointer (some ⟨s,2,none⟩)) (.slice A q.length c) (fun ρ h1 kk w1 (hg:Grow _ w1) hb hf=>by have c:=(hBr.grow hg).cell 2;go_simp) ?_
   refine mP 48 aj ak (bO aj) (by rw[hK.out];rfl) aj (.tmp 37) (.tmp 42) (.tmp 47) (ae af (TE:Int)) (ae af (h:Int)) (.slice A q.length c) aj aj aj (.agg #[ae af (TE:Int),ae af (h:Int),.slice A q.length c]) (fun ρ h1 h2 h3 kk w1 (hg:Grow _ w1) hb hf=>by go_simp) ?_
   refine gH 9 aj ak (bO aj) (fun _=>fR wr.heap.size 257 #[ae af 0,ae af 0,ai none 0 0]) (by rw[hK.out];rfl) (fun kk w1 (hg:Grow _ w1) hb hf=>by refine cA (φ:=fun _=>fR wr.heap.size 257 #[ae af 0,ae af 0,ai none 0 0]) aj ?_;exact cF (u1 w1 _ _ rfl) ⟨bN w1 _,_,rfl,ct.made w1 _ _,hg.size⟩) (fun v9=>?_)
   refine ce (fun _ _ w1 (hg:Grow _ w1) _ bR=>hT _ _ ?_)
   clear hops hA' hK hT
   simp only[cj,Act.put,aw,ay,az,ax,aB]
   have hgx:=hgr.trans hg
   have hB1:=hBr.grow hg
   obtain⟨y,rfl,hY0,hy0⟩:fR wr.heap.size 257 #[ae af 0,ae af 0,ai none 0 0] v9 w1:=bR.1
   clear bR
   go_wp2_with (refine ch rfl 257 _ _ rfl _ rfl [ae af (TE:Int),ae af (h:Int),.slice A q.length c] rfl hY0 rfl rfl am ?_;intro wb hY hjb hsb;refine stay ?_)
   refine bV ?_
   have F7:w.heap.size≤y:=by have:=hgr.size;omega
   have oo:Below w.heap.size w1 wb:=hjb.below (B:=w.heap.size) (fun b hb=>by rw[hb];exact F7) hgx.size
   have hgb:Grow w wb:=Below.trans hgx oo
   have hB2:=iT.grow hgb
   have k1:=hB2.cell 1
   have k2:=hB2.cell 2
   have N2:=hq'.grow hgb
   have hC:=iG _ D A9 c' q' N2 (by have:=HM.out;omega)
   rw[←HM.out,hqe] at hC
   go_wp2_with fail
   clear k1 k2
   refine hC.mono ?_
   rintro e w2 ⟨u,rfl,hI,_,hg2⟩
   obtain⟨A2,c2,q2,rfl,hE2,pn,I1,hcm2⟩:=hI
   have hY2:=hY.grow hg2
   have kg:ct ((w2.setCell ⟨y,1,none⟩ (ae af (TE:Int))).setCell ⟨y,2,none⟩ (.slice A2 q2.length c2)) y 257 #[ae af (TE:Int),ae af (TE:Int),.slice A2 q2.length c2]:=(hY2.put 1 _).put 2 _
   have jY:=((Just.bJ (V:=fun b=>b=y) (Grow.refl w2)).put rfl 1 (ae af (TE:Int))).put (V:=fun b=>b=y) rfl 2 (.slice A2 q2.length c2)
   have y1:=hY2.cell 1
   have QP:=hY2.frozen 1
   have z2:=(hY2.put 1 (ae af (TE:Int))).cell 2
   have QQ:=(hY2.put 1 (ae af (TE:Int))).frozen 2
   have v0:=kg.cell 0
   have v1:=kg.cell 1
   have v2:=kg.cell 2
   have hgs:Grow w w2:=hgb.trans hg2
   obtain⟨V1,V2,hE,hM1,hc1,hc2,C8⟩:=Many.framed _ mw w w2 V hM fun b hb=>hgs.block b (hV b hb)
   have hF2:bM [Cell s 259 (si t h (.slice A q.length c) x),cU x d n bs bs.length]:=(bM.nil.cons (cU.framed _ _ _ _ _)).cons (Cell.framed _ _ _)
   have hs2:=hgs.size
   have JJ:=Many.framed _ hF2 w2 _ V2 hM1 fun b hb=>jY.block b (by have:=hV b (hc2 b hb);omega) (fun e=>by have:=hV b (hc2 b hb);omega)
   have zb:=hE2.just jY (fun b hb e=>by have:=hb.1;have:=hY.lt;omega)
   have hb2:∀ b,V2 b→b<w.heap.size:=fun b hb=>hV b (hc2 b hb)
   have hNew:∀ b,New wb w2 b→w.heap.size≤b∧b<w2.heap.size:=fun b hb=>by
    have:=hgb.size;exact⟨by have:=hb.1;omega,hb.2⟩
   obtain⟨w3,HW3⟩:∃ w3:World,Hid (w3=(w2.setCell ⟨y,1,none⟩ (ae af (TE:Int))).setCell ⟨y,2,none⟩ (.slice A2 q2.length c2)):=⟨_,rfl⟩
   have hs3:w3.heap.size=w2.heap.size:=by rw[HW3.out,dw,dw]
   have hk:=sj w3 s x d t h (.slice A q.length c) n bs TE TE (New wb w2) A2 c2 q2 hte hte (by rw[HW3.out];exact zb) (fun y hy=>hok' _ (by rw[←pn];exact List.mem_map.2 ⟨y,hy,rfl⟩)) (by have h5:q2.length=es'.length:=(by rw[←pn,aP]);have:=HM.out;omega) hn0 (by rw[pn];exact hroom) V2 (by rw[HW3.out];exact JJ) (fun b hb=>by have:=hb2 b hb;omega)
   rw[pn] at hk
   go_wp2_with fail
   rw[←HW3.out]
   refine hk.mono ?_
   rintro e w4 ⟨rfl,uZ,ko⟩
   go_wp2_with fail
   go_ret
   rw[←HW3.out] at zb jY
   have N3:Just (fun b=>V b∨w.heap.size≤b) w2 w3:=jY.imp fun b hb => .inr (by rw[hb];exact F7)
   have J:Just (fun b=>V b∨w.heap.size≤b) w w4:=((Just.bJ hgs).trans N3).trans (ko.imp fun b hb => .inl (hc2 b hb))
   have hs4:=ko.size
   refine⟨rfl,⟨A2,c2,q2,pn,I1,hcm2,New wb w2,Ext V2 w3 w4,zb.just ko (fun b hb hv=>by have:=hb2 b hv;have:=hNew b hb;omega),uZ,fun b hb => .inr ⟨(hNew b hb).1,by have:=(hNew b hb).2;omega⟩,fun b hb=>?_,fun b hb hv=>?_⟩,⟨J.os,J.tape,J.output,J.size,fun b hb hne=>J.block b hb fun h=>h.elim hne (fun h=>by omega)⟩⟩
   ·rcases hb with hb|hb
    ·exact .inl (hc2 b hb)
    ·exact .inr ⟨by have:=hb.1;omega,hb.2⟩
   ·rcases hv with hv|hv
    ·have:=hb2 b hv;have:=hNew b hb;omega
    ·have:=(hNew b hb).2;have:=hv.1;omega
theorem zt (w:World) (s x d:Nat) (t TE:Nat) (es es':List En) (n:Int) (bs:List UInt8) (D:Nat→Prop) (A9:Option Addr) (c':Nat) (q':List El) (hq':lh w D A9 q') (hqe:q'.map El.e=es') (P7:t≤TE) (h1:1≤TE) (hlong:es.length<es'.length) (hte:TE≤9223372036854775807) (hok':∀ e∈es',e.Ok) (hn':es'.length≤128) (hn0:0≤n∧n≤1099511627776) (hroom:Room bs (ec TE TE es')) :
 Turns au 170 #[((s:Nat):Value),ae af (TE:Int),.slice A9 es'.length c'] (fun e=>e=.returned (.bool true)) (dJ s x d t TE es n bs) (dJ s x d TE TE es' (n+1) (bs++frame (ec TE TE es'))) w:=by
 rintro V ⟨A,c,q,hq,hqc,hcm,hM⟩ hV
 have hl':es'.length=q'.length:=by rw[←hqe,aP]
 have hl0:es.length=q.length:=by rw[←hq,aP]
 clear hq
 have H_:∀ y∈q',y.e.Ok:=fun y hy=>hok' _ (by rw[←hqe];exact List.mem_map.2 ⟨y,hy,rfl⟩)
 rw[hl'] at hn' ⊢
 have mw:=ii A q s x d (si t TE (.slice A q.length c) x) n bs bs.length
 obtain⟨_,_,_,⟨_,_,t_,_⟩,_⟩:=id hM
 have iT:ct w s 259 #[ae af (t:Int),ae af (TE:Int),.slice A q.length c,((x:Nat):Value)]:=t_.2
 clear t_
 have d1:decide (TE<t)=false:=decide_eq_false al
 have d2:decide ((TE:Int)<1)=false:=decide_eq_false al
 have d3:decide ((q'.length:Int) > 128)=false:=decide_eq_false al
 have N1:decide ((128:Int)<(q'.length:Int))=false:=decide_eq_false al
 have dl:decide (q.length<q'.length)=true:=decide_eq_true al
 have k0:=iT.cell 0
 have k1:=iT.cell 1
 have k2:=iT.cell 2
 obtain⟨m,HM⟩:∃ m,Hid (m=q'.length):=⟨_,rfl⟩
 rw[←HM.out] at d3 N1 hn' dl ⊢
 go_enter Tryz.func170,Tryz.ntmps170
 go_wp2_with fail
 clear k0 k1 k2
 go_loopw [29] (fun i wr=>∃ k:Nat,k≤m∧i=ae af (k:Int)∧Grow w wr) (fun i _=>m-(intOf i).toNat)
 case atStart=>exact⟨0,by omega,rfl,Grow.refl _⟩
 case round=>
  obtain⟨k,hkn,rfl,hgr⟩:=hrel
  by_cases hk:k<m
  ·have hk2:k<q'.length:=by have:=HM.out;omega
   have hqr:=hq'.grow hgr
   obtain⟨ad,hkq,rfl,P8,Hl,e0,e1⟩:=hqr.1.iS al kG hk2
   have gy:=hqr.2 _ (aO hkq)
   have o2:=H_ _ (aO hkq)
   generalize q'[k]=b at gy e0 e1 o2
   have gN:=fun w1 (hg1:Grow wr w1)=>f8 w1 b.e D b.A b.c o2 (In.grow gy.1 hg1)
   obtain⟨⟨bk,ag,sh,sq,ep,ds,se,fr,tg⟩,Ab,cb⟩:=b
   dsimp only[El.cells,En.agg] at e0 e1 gN
   have e2:=e1 1 _ rfl
   have e3:=e1 2 _ rfl
   have e4:=e1 3 _ rfl
   have e5:=e1 4 _ rfl
   have e6:=e1 5 _ rfl
   have e7:=e1 6 _ rfl
   have e8:=e1 7 _ rfl
   have e1:=e1 0 _ rfl
   have e0:=e0 _ rfl
   have hga:=bN wr (.cells #[ae af bk,ae af ag,ae af sh,ae af sq,ae af ep,.slice Ab ds.length cb,.string se,ae af fr,ae af tg] 32)
   have gN:=gN _ hga
   clear gy o2 hqr
   go_wp2_with fail
   refine gN.mono ?_
   rintro e w2 ⟨rfl,hg2⟩
   go_wp2_with fail
   go_roundw
   case rel=>exact⟨k+1,by omega,by go_num,hgr.trans (hga.trans hg2)⟩
   case measure=>simp[intOf];omega
  ·obtain rfl:k=m:=by omega
   have hBr:=iT.grow hgr
   go_wp2_with fail
   refine bL 13 89 [(12,.inr (fun _=>fR wr.heap.size 257 #[ae af 0,ae af 0,ai none 0 0]))] rfl rfl am am am ?_ ?_
   ·intro x hx φ he
    simp only[aF,aE,or_false] at hx
    rcases hx with rfl<;>cases he
    all_goals first|exact ca (cn _)|exact ca (fS _ _ _)
   intro ops' A' K' T hops hA' hK hT
   refine bP 37 (ae af (TE:Int)) ?_
   refine bP 38 (((s:Nat):Value)) ?_
   refine bQ 39 (.tmp 38) (((s:Nat):Value)) (((s:Nat):Value)) ?_
   refine bQ 40 (.tmp 39) (((s:Nat):Value)) (((s:Nat):Value)) ?_
   refine bQ 41 (.tmp 40) (((s:Nat):Value)) (.pointer (some ⟨s,1,none⟩)) ?_
   refine bI 42 (.tmp 41) (.pointer (some ⟨s,1,none⟩)) (ae af (TE:Int)) (fun ρ h1 kk w1 (hg:Grow _ w1) hb hf=>by have c:=(hBr.grow hg).cell 1;go_simp) ?_
   refine bP 43 (((s:Nat):Value)) ?_
   refine bQ 44 (.tmp 43) (((s:Nat):Value)) (((s:Nat):Value)) ?_
   refine bQ 45 (.tmp 44) (((s:Nat):Value)) (((s:Nat):Value)) ?_
   refine bQ 46 (.tmp 45) (((s:Nat):Value)) (.pointer (some ⟨s,2,none⟩)) ?_
   refine bI 47 (.tmp 46) (.pointer (some ⟨s,2,none⟩)) (.slice A q.length c) (fun ρ h1 kk w1 (hg:Grow _ w1) hb hf=>by have c:=(hBr.grow hg).cell 2;go_simp) ?_
   refine mP 48 aj ak (bO aj) (by rw[hK.out];rfl) aj (.tmp 37) (.tmp 42) (.tmp 47) (ae af (TE:Int)) (ae af (TE:Int)) (.slice A q.length c) aj aj aj (.agg #[ae af (TE:Int),ae af (TE:Int),.slice A q.length c]) (fun ρ h1 h2 h3 kk w1 (hg:Grow _ w1) hb hf=>by go_simp) ?_
   refine gH 9 aj ak (bO aj) (fun _=>fR wr.heap.size 257 #[ae af 0,ae af 0,ai none 0 0]) (by rw[hK.out];rfl) (fun kk w1 (hg:Grow _ w1) hb hf=>by refine cA (φ:=fun _=>fR wr.heap.size 257 #[ae af 0,ae af 0,ai none 0 0]) aj ?_;exact cF (u1 w1 _ _ rfl) ⟨bN w1 _,_,rfl,ct.made w1 _ _,hg.size⟩) (fun v9=>?_)
   refine ce (fun _ _ w1 (hg:Grow _ w1) _ bR=>hT _ _ ?_)
   clear hops hA' hK hT
   simp only[cj,Act.put,aw,ay,az,ax,aB]
   have hgx:=hgr.trans hg
   have hB1:=hBr.grow hg
   obtain⟨y,rfl,hY0,hy0⟩:fR wr.heap.size 257 #[ae af 0,ae af 0,ai none 0 0] v9 w1:=bR.1
   clear bR
   go_wp2_with (refine ch rfl 257 _ _ rfl _ rfl [ae af (TE:Int),ae af (TE:Int),.slice A q.length c] rfl hY0 rfl rfl am ?_;intro wb hY hjb hsb;refine stay ?_)
   refine bV ?_
   have F7:w.heap.size≤y:=by have:=hgr.size;omega
   have oo:Below w.heap.size w1 wb:=hjb.below (B:=w.heap.size) (fun b hb=>by rw[hb];exact F7) hgx.size
   have hgb:Grow w wb:=Below.trans hgx oo
   have hB2:=iT.grow hgb
   have k1:=hB2.cell 1
   have k2:=hB2.cell 2
   have N2:=hq'.grow hgb
   have hC:=iG _ D A9 c' q' N2 (by have:=HM.out;omega)
   rw[←HM.out,hqe] at hC
   go_wp2_with fail
   clear k1 k2
   refine hC.mono ?_
   rintro e w2 ⟨u,rfl,hI,_,hg2⟩
   obtain⟨A2,c2,q2,rfl,hE2,pn,I1,hcm2⟩:=hI
   have hY2:=hY.grow hg2
   have kg:ct ((w2.setCell ⟨y,1,none⟩ (ae af (TE:Int))).setCell ⟨y,2,none⟩ (.slice A2 q2.length c2)) y 257 #[ae af (TE:Int),ae af (TE:Int),.slice A2 q2.length c2]:=(hY2.put 1 _).put 2 _
   have jY:=((Just.bJ (V:=fun b=>b=y) (Grow.refl w2)).put rfl 1 (ae af (TE:Int))).put (V:=fun b=>b=y) rfl 2 (.slice A2 q2.length c2)
   have y1:=hY2.cell 1
   have QP:=hY2.frozen 1
   have z2:=(hY2.put 1 (ae af (TE:Int))).cell 2
   have QQ:=(hY2.put 1 (ae af (TE:Int))).frozen 2
   have v0:=kg.cell 0
   have v1:=kg.cell 1
   have v2:=kg.cell 2
   have hgs:Grow w w2:=hgb.trans hg2
   obtain⟨V1,V2,hE,hM1,hc1,hc2,C8⟩:=Many.framed _ mw w w2 V hM fun b hb=>hgs.block b (hV b hb)
   have hF2:bM [Cell s 259 (si t TE (.slice A q.length c) x),cU x d n bs bs.length]:=(bM.nil.cons (cU.framed _ _ _ _ _)).cons (Cell.framed _ _ _)
   have hs2:=hgs.size
   have JJ:=Many.framed _ hF2 w2 _ V2 hM1 fun b hb=>jY.block b (by have:=hV b (hc2 b hb);omega) (fun e=>by have:=hV b (hc2 b hb);omega)
   have zb:=hE2.just jY (fun b hb e=>by have:=hb.1;have:=hY.lt;omega)
   have hb2:∀ b,V2 b→b<w.heap.size:=fun b hb=>hV b (hc2 b hb)
   have hNew:∀ b,New wb w2 b→w.heap.size≤b∧b<w2.heap.size:=fun b hb=>by
    have:=hgb.size;exact⟨by have:=hb.1;omega,hb.2⟩
   obtain⟨w3,HW3⟩:∃ w3:World,Hid (w3=(w2.setCell ⟨y,1,none⟩ (ae af (TE:Int))).setCell ⟨y,2,none⟩ (.slice A2 q2.length c2)):=⟨_,rfl⟩
   have hs3:w3.heap.size=w2.heap.size:=by rw[HW3.out,dw,dw]
   have hk:=sj w3 s x d t TE (.slice A q.length c) n bs TE TE (New wb w2) A2 c2 q2 hte hte (by rw[HW3.out];exact zb) (fun y hy=>hok' _ (by rw[←pn];exact List.mem_map.2 ⟨y,hy,rfl⟩)) (by have h5:q2.length=es'.length:=(by rw[←pn,aP]);have:=HM.out;omega) hn0 (by rw[pn];exact hroom) V2 (by rw[HW3.out];exact JJ) (fun b hb=>by have:=hb2 b hb;omega)
   rw[pn] at hk
   go_wp2_with fail
   rw[←HW3.out]
   refine hk.mono ?_
   rintro e w4 ⟨rfl,uZ,ko⟩
   go_wp2_with fail
   go_ret
   rw[←HW3.out] at zb jY
   have N3:Just (fun b=>V b∨w.heap.size≤b) w2 w3:=jY.imp fun b hb => .inr (by rw[hb];exact F7)
   have J:Just (fun b=>V b∨w.heap.size≤b) w w4:=((Just.bJ hgs).trans N3).trans (ko.imp fun b hb => .inl (hc2 b hb))
   have hs4:=ko.size
   refine⟨rfl,⟨A2,c2,q2,pn,I1,hcm2,New wb w2,Ext V2 w3 w4,zb.just ko (fun b hb hv=>by have:=hb2 b hv;have:=hNew b hb;omega),uZ,fun b hb => .inr ⟨(hNew b hb).1,by have:=(hNew b hb).2;omega⟩,fun b hb=>?_,fun b hb hv=>?_⟩,⟨J.os,J.tape,J.output,J.size,fun b hb hne=>J.block b hb fun h=>h.elim hne (fun h=>by omega)⟩⟩
   ·rcases hb with hb|hb
    ·exact .inl (hc2 b hb)
    ·exact .inr ⟨by have:=hb.1;omega,hb.2⟩
   ·rcases hv with hv|hv
    ·have:=hb2 b hv;have:=hNew b hb;omega
    ·have:=(hNew b hb).2;have:=hv.1;omega
theorem po:kJ [] [] 0:=⟨rfl,rfl,by simp,fun y _ hp=>by
 have h1:(frame y).length≤0:=hp.length_le
 have:=jP y
 omega⟩
theorem zu (w:World) (d:Nat) (V:Nat→Prop) (hD:cT 133 d [] 0 w V) (hV:∀ b,V b→b<w.heap.size) :
 Calls au 81 #[((d:Nat):Value)] w fun e w'=>∃ s x,e=.returned (((s:Nat):Value))∧dJ s x d 0 0 [] 0 [] w' (Ext V w w')∧Just V w w':=by
 have hO:=tW w d [] 0 V hD hV
 go_enter Tryz.func81,Tryz.ntmps81
 go_wp2_with fail
 refine hO.mono ?_
 rintro e w1 ⟨xs,j,x,u,hs,rfl,hX,hL,hj⟩
 obtain⟨rfl,rfl⟩:=hs.one po
 obtain⟨A1,c1,q1,rfl,hB1,hq1,N4,hcm1⟩:=hX
 have gS:q1.length=0:=by have:=congrArg List.length hq1;simpa using this
 rw[gS]
 have hL:cU x d 0 [] 0 w1 (Ext V w w1):=hL
 have hlt:∀ b,Ext V w w1 b→b<w1.heap.size:=fun b hb=>by
  rcases hb with hb|hb
  ·have:=hV b hb;have:=hj.size;omega
  ·exact hb.2
 have hga:=bN w1 (.cells #[ae af 0,ae af 0,ai none 0 0,((x:Nat):Value)] 259)
 have hSb:=ct.made w1 259 #[ae af 0,ae af 0,ai none 0 0,((x:Nat):Value)]
 have hL2:=cU.framed x d 0 [] 0 w1 _ _ hL fun b hb=>hga.block b (hlt b hb)
 obtain⟨s,HS⟩:∃ s:Nat,Hid (s=w1.heap.size):=⟨_,rfl⟩
 obtain⟨wa,HA⟩:∃ wa:World,Hid (wa=w1.alloc (.cells #[ae af 0,ae af 0,ai none 0 0,((x:Nat):Value)] 259)):=⟨_,rfl⟩
 rw[←HA.out] at hga hSb hL2
 rw[←HS.out] at hSb
 have hsa:wa.heap.size=s+1:=by rw[HA.out,HS.out];simp
 go_wp2_with fail
 rw[←HA.out,←HS.out]
 go_loopw [22] (fun i wr=>i=ae af 0∧wa=wr) (fun _ _=>0)
 case atStart=>exact⟨rfl,rfl⟩
 case round=>
  obtain⟨rfl,rfl⟩:=hrel
  go_wp2_with fail
  go_ret
  have hws:w.heap.size≤s:=by have:=HS.out;have:=hj.size;omega
  refine⟨s,x,rfl,⟨none,0,[],rfl,aC _,aZ _,fun _=>False,Ext V w wa,lh.nil,⟨fun b=>b=s,Ext V w w1,⟨rfl,hSb⟩,?_,fun b hb=>?_,fun b hb=>?_,fun b hb hv=>?_⟩,fun _ h=>h.elim,fun b hb=>hb,fun _ h=>h.elim⟩,hj.trans (Just.bJ hga)⟩
  ·exact⟨Ext V w w1,fun _=>False,hL2,trivial,fun b hb=>hb,fun _ h=>h.elim,fun _ _ h=>h⟩
  ·exact .inr ⟨by rw[hb];exact hws,by rw[hb];omega⟩
  ·rcases hb with hb|hb
   ·exact .inl hb
   ·exact .inr ⟨hb.1,by have:=hb.2;have:=HS.out;omega⟩
  ·have:=hlt b hv;have:=HS.out;omega
end Go.Proofs.YtmijcbfgfkeodaaGreatDoor
end
section
namespace Go.Proofs.YtmijcbfgfkeodaaGreatDoor.W
def far (F n:Int):Bool:=decide (F<n) && decide (64≤n-F-1)
def seen (F:Int) (M:Nat) (n:Int):Bool:=decide (n≤F) || (!far F n && M.testBit (n-F-1).toNat)
def strip:Nat→Int→Nat→Int×Nat
 | 0,F,M=>(F,M)
 | k+1,F,M=>if M % 2=1 then strip k (F+1) (M / 2) else (F,M)
def put (F:Int) (M:Nat) (n:Int):Int×Nat:=strip 64 F (M ||| 2 ^ (n-F-1).toNat)
structure fu (F:Int) (M:Nat):Prop where
 lo:0≤F
 hi:F≤9223372036854775807
 mask:M<18446744073709551616
 top:∀ i,M.testBit i=true→F+1+(i:Int)≤9223372036854775807
theorem fu.none:fu 0 0:=⟨by omega,by omega,by omega,fun i h=>by simp at h⟩
theorem fu.step {F:Int} {M:Nat} (h:fu F M) (ho:M % 2=1):fu (F+1) (M / 2):=by
 have h0:=h.top 0 (by rw[Nat.testBit_zero];simpa using ho)
 have:=h.lo;have:=h.mask
 refine⟨by omega,by omega,by omega,fun i hi=>?_⟩
 have:=h.top (i+1) (by rw[Nat.testBit_succ];exact hi)
 omega
theorem fu.strip:∀ (k:Nat) {F:Int} {M:Nat},fu F M→fu (strip k F M).1 (strip k F M).2
 | 0,_,_,h=>h
 | k+1,F,M,h=>by
   unfold Go.Proofs.YtmijcbfgfkeodaaGreatDoor.W.strip
   split
   ·rename_i ho;exact fu.strip k (h.step ho)
   ·exact h
theorem fu.put {F:Int} {M:Nat} (h:fu F M) {n:Int} (hn:n≤9223372036854775807) (h1:F<n) (h2:n-F-1<64):fu (put F M n).1 (put F M n).2:=by
 refine fu.strip 64 ⟨h.lo,h.hi,?_,fun i hi=>?_⟩
 ·exact Nat.or_lt_two_pow (n:=64) h.mask (Nat.pow_lt_pow_right al al)
 ·rw[Nat.testBit_or,Bool.or_eq_true] at hi
  rcases hi with hi|hi
  ·exact h.top i hi
  ·rw[Nat.testBit_two_pow] at hi
   have:(n-F-1).toNat=i:=by simpa using hi
   omega
def u2 (F:Int) (M:Nat) (n:Int):Bool := !(far F n || seen F M n)
def dm (F:Int) (M:Nat) (n:Int):Int×Nat:=if u2 F M n then Go.Proofs.YtmijcbfgfkeodaaGreatDoor.W.put F M n else (F,M)
theorem jQ {F:Int} {M:Nat} {n:Int} (h:u2 F M n=true):F<n∧n-F-1<64∧M.testBit (n-F-1).toNat=false:=by
 unfold u2 seen far at h
 simp only[Bool.not_eq_true',Bool.or_eq_false_iff,Bool.and_eq_false_iff,decide_eq_false_iff_not,Bool.not_eq_false'] at h
 obtain⟨h1,h2,h3⟩:=h
 have hlt:F<n:=by omega
 refine⟨hlt,by omega,?_⟩
 rcases h3 with h3|h3
 ·simp only[aS,decide_eq_true_eq] at h3;omega
 ·exact h3
theorem fu.add {F:Int} {M:Nat} (h:fu F M) {n:Int} (hn:n≤9223372036854775807):fu (dm F M n).1 (dm F M n).2:=by
 unfold dm
 split
 ·rename_i hb
  obtain⟨h1,h2,_⟩:=jQ hb
  exact h.put hn h1 h2
 ·exact h
end Go.Proofs.YtmijcbfgfkeodaaGreatDoor.W
end
