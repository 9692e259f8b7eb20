/- En3, En4, En5, Accb. -/
import Derived.Test.YtmijcbfgfkeodaaGreatDoorIz10
set_option linter.all false
set_option maxRecDepth 100000
set_option maxHeartbeats 2000000
open Go.Value renaming int → ae,slice → ai
open Go.IntKind renaming i64 → af,u64 → ah
open Go.Proofs.Tryz renaming prog → au
open List renaming setIfInBounds_toArray → aw,drop_succ_cons → ax,set_cons_zero → ay,set_cons_succ → az,drop_zero → aB,length_append → aD,not_mem_nil → aE,mem_cons → aF,take_succ_eq_append_getElem → aI,length_take → aK,length_cons → aL,append_assoc → aM,take_of_length_le → aN,getElem_mem → aO,length_singleton → aT,flatMap_cons → aU,map_append → aX,flatMap_append → bd,append_nil → bf,map_cons → bg,mem_of_mem_take → bp,length_nil → bu,flatMap_nil → bB
open Nat renaming lt_of_lt_of_le → aA,le_refl → aC,le_trans → aH,zero_le → aZ,mul_le_mul_right → bm,min_eq_left → bF
open Int renaming eq_ofNat_of_zero_le → aW,toNat_natCast → bv
section
namespace Go.Proofs.YtmijcbfgfkeodaaGreatDoor
open Go.RowKit Go.Hop
structure El where
 (e:En) (A:Option Addr) (c:Nat)
def El.cells (x:El):List Value:=(x.e.agg x.A x.c).toList
def fY (w:World) (D:Nat→Prop) (x:El):Prop:=fV w D x.A x.e.ds.length x.e.ds∧x.e.ds.length≤x.c∧x.c≤maxLen∧x.e.ds.length≤1048576
theorem kG (x:El):x.cells.length=9:=rfl
theorem lL (x:El):∀ u∈x.cells,u.oneCell'=true:=by
 intro u hu
 simp only[El.cells,En.agg,aF,aE,or_false] at hu
 rcases hu with rfl|rfl|rfl|rfl|rfl|rfl|rfl|rfl|rfl<;>rfl
theorem ol:eZ fY:=fun _ _ _ _ _ h hj hd=>⟨In.just h.1 hj hd,h.2⟩
theorem gV:iE fY:=fun _ _ _ _ h hd=>⟨In.mono h.1 hd,h.2⟩
theorem vT:(Tryz.prog.info? 32).map (fun i=>(i.zero,i.size,i.bytes))=some (some (.agg #[ae af 0,ae af 0,ae af 0,ae af 0,ae af 0,ai none 0 0,.string ⟨#[]⟩,ae af 0,ae af 0]),9,96):=by kernel_rfl
theorem lM:Elem au 39 32 9 96 (.agg #[ae af 0,ae af 0,ae af 0,ae af 0,ae af 0,ai none 0 0,.string ⟨#[]⟩,ae af 0,ae af 0]):=⟨Tryz.underlying39,info_parts vT,rfl,by decide,by decide⟩
def lh (w:World) (D:Nat→Prop) (A:Option Addr) (q:List El):Prop:=In w D 9 A q.length (q.flatMap El.cells)∧∀ x∈q,fY w D x
theorem lh.grow {w w':World} {D:Nat→Prop} {A:Option Addr} {q:List El} (h:lh w D A q) (hg:Grow w w'):lh w' D A q:=⟨h.1.grow hg,fun x hx=>ol _ _ _ _ _ (h.2 x hx) (Just.bJ (V:=fun _=>False) hg) fun _ _ h=>h⟩
theorem lh.just {w w':World} {D U:Nat→Prop} {A:Option Addr} {q:List El} (h:lh w D A q) (hj:Just U w w') (hd:∀ b,D b→¬ U b):lh w' D A q:=⟨h.1.just hj hd,fun x hx=>ol _ _ _ _ _ (h.2 x hx) hj hd⟩
theorem lh.mono {w:World} {D D':Nat→Prop} {A:Option Addr} {q:List El} (h:lh w D A q) (hd:∀ b,D b→D' b):lh w D' A q:=⟨h.1.mono hd,fun x hx=>gV _ _ _ _ (h.2 x hx) hd⟩
theorem lh.nil {w:World} {D:Nat→Prop} {A:Option Addr}:lh w D A []:=⟨In.nil,fun x hx=>absurd hx (by simp)⟩
def Gk (l:List En) (w0:World) (u:Value) (w:World):Prop:=∃ (A:Option Addr) (c:Nat) (q:List El),u=.slice A q.length c∧lh w (New w0 w) A q∧q.map El.e=l∧q.length≤c∧c≤maxLen
theorem tH (w:World) (V:Nat→Prop) (x:El) (h:fY w V x) :
 Calls au 175 #[.agg (x.e.agg x.A x.c)] w fun en w'=>∃ A',en=.returned (.agg (x.e.agg A' x.e.ds.length))∧fY w' (New w w') ⟨x.e,A',x.e.ds.length⟩∧Grow w w':=by
 obtain⟨⟨k,ag,sh,sq,ep,ds,se,fr,tg⟩,A,c⟩:=x
 obtain⟨hd,hle,hmx,hsm⟩:=h
 unfold En.agg
 dsimp only at hd hle hmx hsm ⊢
 obtain⟨n,HN⟩:∃ n,Hid (n=ds.length):=⟨_,rfl⟩
 rw[←HN.out] at hd hle hsm ⊢
 have hg0:=(bN w (.cells #[ae af k,ae af ag,ae af sh,ae af sq,ae af ep,.slice A n c,.string se,ae af fr,ae af tg] 32)).trans (bN _ (.cells #[ae af 0,ae af 0,ae af 0,ae af 0,ae af 0,ai none 0 0,.string ⟨#[]⟩,ae af 0,ae af 0] 32))
 have hB0:=(ct.made w 32 #[ae af k,ae af ag,ae af sh,ae af sq,ae af ep,.slice A n c,.string se,ae af fr,ae af tg]).alloc (.cells #[ae af 0,ae af 0,ae af 0,ae af 0,ae af 0,ai none 0 0,.string ⟨#[]⟩,ae af 0,ae af 0] 32)
 have hB1:=ct.made (w.alloc (.cells #[ae af k,ae af ag,ae af sh,ae af sq,ae af ep,.slice A n c,.string se,ae af fr,ae af tg] 32)) 32 #[ae af 0,ae af 0,ae af 0,ae af 0,ae af 0,ai none 0 0,.string ⟨#[]⟩,ae af 0,ae af 0]
 obtain⟨x,HX⟩:∃ x:Nat,Hid (x=w.heap.size):=⟨_,rfl⟩
 have hx1:(w.alloc (.cells #[ae af k,ae af ag,ae af sh,ae af sq,ae af ep,.slice A n c,.string se,ae af fr,ae af tg] 32)).heap.size=x+1:=by rw[HX.out];simp
 rw[hx1] at hB1
 rw[←HX.out] at hB0
 obtain⟨wa,HA⟩:∃ wa:World,Hid (wa=(w.alloc (.cells #[ae af k,ae af ag,ae af sh,ae af sq,ae af ep,.slice A n c,.string se,ae af fr,ae af tg] 32)).alloc (.cells #[ae af 0,ae af 0,ae af 0,ae af 0,ae af 0,ai none 0 0,.string ⟨#[]⟩,ae af 0,ae af 0] 32)):=⟨_,rfl⟩
 rw[←HA.out] at hB0 hB1 hg0
 have hsz:wa.heap.size=x+2:=by rw[HA.out,HX.out];simp
 go_enter Tryz.func175,Tryz.ntmps175
 go_wp2_with fail
 rw[←HA.out,←HX.out]
 refine (fF wa V A n c ds (In.grow hd hg0) al).mono ?_
 rintro e w1 ⟨A1,c1',rfl,hd1,hn1,hm1,hg1⟩
 go_wp2_with fail
 refine (iC w1 A1 n c1' hn1).mono ?_
 rintro e w2 ⟨rfl,rfl⟩
 have hC0:=hB0.grow hg1
 have Es:=hB1.grow hg1
 have hP:=hC0.put 5 (.slice A1 n n)
 have hD:=Es.far (p:=⟨x,5,none⟩) (show x+1≠x by omega) (.slice A1 n n)
 have f5:=hC0.frozen 5
 have d5:=hC0.cell 5
 have p0:=hP.cell 0
 have p1:=hP.cell 1
 have p2:=hP.cell 2
 have p3:=hP.cell 3
 have p4:=hP.cell 4
 have p5:=hP.cell 5
 have p6:=hP.cell 6
 have p7:=hP.cell 7
 have p8:=hP.cell 8
 have d0:=hD.cell 0
 have d1:=hD.cell 1
 have d2:=hD.cell 2
 have d3:=hD.cell 3
 have d4:=hD.cell 4
 have d5:=hD.cell 5
 have d6:=hD.cell 6
 have d7:=hD.cell 7
 have d8:=hD.cell 8
 have g0:=hD.frozen 0
 have g1:=hD.frozen 1
 have g2:=hD.frozen 2
 have g3:=hD.frozen 3
 have g4:=hD.frozen 4
 have g5:=hD.frozen 5
 have g6:=hD.frozen 6
 have g7:=hD.frozen 7
 have g8:=hD.frozen 8
 go_wp2_with fail
 change bodyPost _ _ _ _ _ (World.setCells (w1.setCell ⟨x,5,none⟩ (.slice A1 n n)) (x+1) 0 [ae af k,ae af ag,ae af sh,ae af sq,ae af ep,.slice A1 n n,.string se,ae af fr,ae af tg])
 have hE:=ct.all hD [ae af k,ae af ag,ae af sh,ae af sq,ae af ep,.slice A1 n n,.string se,ae af fr,ae af tg] rfl
 have hF:∀ i,(World.setCells (w1.setCell ⟨x,5,none⟩ (.slice A1 n n)) (x+1) 0 [ae af k,ae af ag,ae af sh,ae af sq,ae af ep,.slice A1 n n,.string se,ae af fr,ae af tg]).cell? ⟨(x+1),i,none⟩=#[ae af k,ae af ag,ae af sh,ae af sq,ae af ep,.slice A1 n n,.string se,ae af fr,ae af tg][i]?:=hE.cell
 have e0:=hF 0
 have e1:=hF 1
 have e2:=hF 2
 have e3:=hF 3
 have e4:=hF 4
 have e5:=hF 5
 have e6:=hF 6
 have e7:=hF 7
 have e8:=hF 8
 refine bodyPost_ret (v := .agg #[ae af k,ae af ag,ae af sh,ae af sq,ae af ep,.slice A1 n n,.string se,ae af fr,ae af tg]) (by simp[results,Tryz.results175,go_sem,e0,e1,e2,e3,e4,e5,e6,e7,e8]) rfl ?_
 have hj:Just (fun b=>b=x∨b=x+1) w1 ((w1.setCell ⟨x,5,none⟩ (.slice A1 n n)).setCells (x+1) 0 [ae af k,ae af ag,ae af sh,ae af sq,ae af ep,.slice A1 n n,.string se,ae af fr,ae af tg]):=
  ((Just.bJ (Grow.refl w1)).put (V:=fun b=>b=x∨b=x+1) (.inl rfl) 5 _).trans (Just.dj (dD _ _ _ _) (.inr rfl))
 have hgw:=Below.trans (hg0.trans hg1) (hj.below (B:=w.heap.size) (fun b hb=>by have:=HX.out;omega) (hg0.trans hg1).size)
 have hn:=HN.out
 subst hn
 refine⟨A1,rfl,⟨In.mono (V:=New wa w1) (In.just hd1 hj fun b hb=>by have:=hb.1;omega) fun b hb=>⟨by have:=hb.1;have:=hg0.size;omega,by have:=hb.2;simpa [setCells_size,dw] using this⟩,aC _,(show ds.length≤maxLen by unfold maxLen;omega),hsm⟩,hgw⟩
theorem tI (w:World) (A:Option Addr) (n c:Nat) (hn:n≤c) :
 Calls au 229 #[.slice A n c] w fun e w'=>e=.returned (.slice A n n)∧w=w':=by
 go_enter Tryz.func229,Tryz.ntmps229
 go_wp2_with fail
 go_ret
 exact⟨rfl,rfl⟩
theorem iG (w:World) (V:Nat→Prop) (A:Option Addr) (c:Nat) (q:List El) (h:lh w V A q) (hq:q.length≤1048576) :
 Calls au 168 #[.slice A q.length c] w fun e w'=>∃ u,e=.returned u∧Gk (q.map El.e) w u w'∧(∃ A',u=.slice A' q.length q.length)∧Grow w w':=by
 go_enter Tryz.func168,Tryz.ntmps168
 go_wp2_with fail
 go_loopw [3,8] (fun s i wr=>∃ (k:Nat) (q':List El),k≤q.length∧i=ae af k∧q'.length=k∧Acc 32 9 El.cells fY w s q' wr∧q'.map El.e=(q.take k).map El.e) (fun _ i _=>q.length-(intOf i).toNat)
 case atStart=>exact⟨0,[],by omega,rfl,rfl,Acc.nil w,by simp⟩
 case round=>
  obtain⟨k,q',hkn,rfl,gS,hA,habs⟩:=hrel
  have hg:=hA.base
  obtain⟨A1,c1,hsl⟩:=hA.slice
  rw[gS] at hsl
  subst hsl
  by_cases hk:k<q.length
  ·obtain⟨ad,hkq,rfl,hV,hB,e0,e1⟩:=(h.1.grow hg).iS al kG hk
   have gy:=(h.grow hg).2 q[k] (aO hkq)
   have hsn:q.take (k+1)=q.take k++[q[k]]:=aI hkq
   have HS:=Lib.hid hsn
   clear hsn
   generalize q[k]=b at gy e0 e1 HS
   have hcp:=fun w1 (hg1:Grow wr w1)=>tH w1 V b (ol _ _ _ _ _ gy (Just.bJ (V:=fun _=>False) hg1) fun _ _ h=>h)
   obtain⟨⟨bk,ag,sh,sq,ep,ds,se,fr,tg⟩,Ab,cb⟩:=b
   dsimp only[El.cells,En.agg] at e0 e1 hcp
   have e2:=e1 1 _ rfl
   have e3:=e1 2 _ rfl
   have e4:=e1 3 _ rfl
   have e5:=e1 4 _ rfl
   have e6:=e1 5 _ rfl
   have e7:=e1 6 _ rfl
   have e8:=e1 7 _ rfl
   have e1:=e1 0 _ rfl
   have e0:=e0 _ rfl
   have hga:=bN wr (.cells #[ae af bk,ae af ag,ae af sh,ae af sq,ae af ep,.slice Ab ds.length cb,.string se,ae af fr,ae af tg] 32)
   have hcp:=hcp _ hga
   clear gy
   go_wp2_with fail
   refine hcp.mono ?_
   rintro e w1 ⟨A2,rfl,hb2,hg1⟩
   go_wp2_with (at_builtin;refine stay ?_)
   refine bV ?_
   refine vS lM ol gV kG lL aj (.tmp 12) (.tmp 15) aj hA (hga.trans hg1) ⟨⟨bk,ag,sh,sq,ep,ds,se,fr,tg⟩,A2,ds.length⟩ (gV _ _ _ _ hb2 fun b hb=>⟨by have:=hb.1;simp at this;omega,hb.2⟩) al aj aj ?_
   intro v2 w2 hA2
   go_wp2_with fail
   go_roundw
   case rel=>exact⟨k+1,q'++[⟨⟨bk,ag,sh,sq,ep,ds,se,fr,tg⟩,A2,ds.length⟩],by omega,by go_num,by simp[gS],hA2,by rw[aX,habs,HS.out,aX];rfl⟩
   case measure=>simp[intOf];omega
  ·obtain rfl:k=q.length:=by omega
   have hD:=hA.done gV
   obtain⟨A3,c3,e3,h3,h4,h5,h6,h7⟩:=hD
   rw[gS] at e3 h5
   injection e3 with e3 e4 e5
   subst e3 e5
   go_wp2_with fail
   refine (tI wr A1 q.length c1 h5).mono ?_
   rintro e w2 ⟨rfl,rfl⟩
   go_wp2_with fail
   go_ret
   exact⟨.slice A1 q.length q.length,rfl,⟨A1,q.length,q',by rw[gS],⟨h3,h4⟩,by rw[habs,List.take_length],by omega,by unfold maxLen;omega⟩,⟨A1,rfl⟩,h7⟩
end Go.Proofs.YtmijcbfgfkeodaaGreatDoor
end
section
namespace Go.Proofs.YtmijcbfgfkeodaaGreatDoor
open Go.RowKit Go.Hop V
theorem fy (w:World) (u:Value) (l:List UInt8) (m:Nat) (h:bZ l u w) (hl:l.length≤1099511627776) (hm:m<18446744073709551616) :
 Calls au 219 #[u,ae ah (m:Int)] w fun e w'=>∃ v,e=.returned v∧Grow w w'∧bZ (l++enc m) v w':=by
 obtain⟨A,n,c,rfl,hb,_⟩:=h
 exact (rX w A n c l hb (by rw[←hb.len];exact hl) m hm).mono fun _ _ ⟨v,he,hO,hg⟩=>⟨v,he,hg,Own.isBytes hO⟩
theorem mf (w:World) (u:Value) (l:List UInt8) (s:ByteArray) (h:bZ l u w) (hl:l.length≤1099511627776) (hs:s.size≤1099511627776) :
 Calls au 221 #[u,.string s] w fun e w'=>∃ v,e=.returned v∧Grow w w'∧bZ (l++enc s.size++s.data.toList) v w':=by
 obtain⟨A,n,c,rfl,hb,_⟩:=h
 exact (oV w A n c l hb (by rw[←hb.len];exact hl) s hs).mono fun _ _ ⟨v,he,hO,hg⟩=>⟨v,he,hg,Own.isBytes hO⟩
theorem nK (w:World):bZ [] (ai none 0 0) w:=⟨none,0,0,rfl,Reads.nil,aC _,aZ _⟩
def dB (d:Dl):List UInt8:=enc d.1.size++d.1.data.toList++enc d.2
def lX (l:List Dl):List UInt8:=l.flatMap dB
def Small (d:Dl):Prop:=d.1.size≤1000∧d.2<18446744073709551616
theorem Hk {d:Dl} (h:Small d):(dB d).length≤1020:=by
 have h1:=cZ (n:=d.1.size) (by have:=h.1;omega)
 have h2:=cZ h.2
 have h3:d.1.data.toList.length=d.1.size:=rfl
 unfold dB
 rw[aD,aD,h3]
 have:=h.1
 omega
theorem mg:∀ (l:List Dl),(∀ d∈l,Small d)→(lX l).length≤l.length*1020
 | [],_=>by simp[lX]
 | d :: l,h=>by
   have h1:=mg l fun x hx=>h x (by simp[hx])
   have h2:=Hk (h d (by simp))
   rw[show lX (d :: l)=dB d++lX l from rfl,aD,aL]
   omega
theorem C6 (l:List Dl) (d:Dl):lX (l++[d])=lX l++dB d:=by simp[lX]
theorem ni (w:World) (u:Value) (l:List UInt8) (V:Nat→Prop) (A:Option Addr) (n c:Nat) (ds:List Dl) (hu:bZ l u w) (hl:l.length≤1048576) (hd:fV w V A n ds) (hn:n≤1048576) (hs:∀ d∈ds,Small d) :
 Calls au 154 #[u,.slice A n c] w fun e w'=>∃ v,e=.returned v∧Grow w w'∧bZ (l++lX ds) v w':=by
 have hln:=fV.len hd
 have Ms:∀ (vs:Array Value) (w:World),(callFunc 221 vs).run au w=.ok (.enter 221 vs) w:=fun vs w=>by go_simp
 have mh:∀ (vs:Array Value) (w:World),(callFunc 219 vs).run au w=.ok (.enter 219 vs) w:=fun vs w=>by go_simp
 go_enter Tryz.func154,Tryz.ntmps154
 go_wp2_with fail
 go_loopw [0,9] (fun v i wr=>∃ k:Nat,k≤n∧i=ae af (k:Int)∧bZ (l++lX (ds.take k)) v wr∧Grow w wr) (fun _ i _=>n-(intOf i).toNat)
 case atStart=>exact⟨0,by omega,rfl,by simpa [lX] using hu,Grow.refl _⟩
 case round=>
  obtain⟨k,hkn,rfl,hB,hgr⟩:=hrel
  by_cases hk:k<n
  ·obtain⟨ad,hq,rfl,f0,f1⟩:=gM (In.grow hd hgr) hk
   have e0:=f0 wr (Grow.refl _)
   have e1:=f1 wr (Grow.refl _)
   have hsn:ds.take (k+1)=ds.take k++[ds[k]]:=aI hq
   have hsm:=hs _ (aO hq)
   have HS:=Lib.hid hsn
   have hlb:=mg (ds.take k) fun d hd=>hs d (bp hd)
   rw[aK,bF al] at hlb
   clear hsn f0 f1
   generalize ds[k]=y at e0 e1 hsm HS
   obtain⟨s,x⟩:=y
   dsimp only[Small] at e0 e1 hsm
   have HL:=Lib.hid hlb
   clear hlb
   obtain⟨L0,Bc⟩:∃ L0,Hid (L0=l++lX (ds.take k)):=⟨_,rfl⟩
   rw[←Bc.out] at hB
   have hL0:L0.length≤1099511627776:=by rw[Bc.out,aD];have:=HL.out;have:=bm 1020 (show k≤1048576 by omega);omega
   obtain⟨b,O_⟩:∃ b,Hid (b=wr.heap.size):=⟨_,rfl⟩
   obtain⟨wa,HA⟩:∃ wa:World,Hid (wa=wr.alloc (.cells #[.string s,ae ah (x:Int)] 29)):=⟨_,rfl⟩
   have iT:=ct.made wr 29 #[.string s,ae ah (x:Int)]
   have hga:=bN wr (.cells #[.string s,ae ah (x:Int)] 29)
   rw[←HA.out] at iT hga
   rw[←O_.out] at iT
   have hBa:=hB.below hga
   go_wp2_with fail
   rw[←HA.out,←O_.out]
   refine bL 8 22 [(3,.inr (fun _=>bZ (L0++enc s.size++s.data.toList))),(6,.inr (fun _=>bZ (L0++enc s.size++s.data.toList++enc x)))] rfl rfl am am am ?_ ?_
   ·intro x hx φ he
    simp only[aF,aE,or_false] at hx
    rcases hx with rfl|rfl<;>cases he
    all_goals first|exact ca (cn _)|fail
   intro ops' A' K' T hops hA' hK hT
   refine bP 13 (u0) ?_
   refine bQ 14 (.tmp 6) (((b:Nat):Value)) (((b:Nat):Value)) ?_
   refine bI 15 (.tmp 14) (((b:Nat):Value)) (.string s) (fun ρ h1 kk w1 (hg:Grow _ w1) hb hf=>by have c:=(iT.grow hg).cell 0;go_simp) ?_
   refine cH 16 aj ak (bO aj) (fun _=>bZ (L0++enc s.size++s.data.toList)) (by rw[hK.out];rfl) 221 _ _ aj [u0,.string s] aj Ms (fun kk w1 (hg:Grow _ w1) hb hf=>cr (φ:=fun _=>bZ (L0++enc s.size++s.data.toList)) aj (by exact mf w1 u0 L0 s (hBa.below hg) hL0 al)) (fun v16=>?_)
   refine bQ 17 (.tmp 6) (((b:Nat):Value)) (.pointer (some ⟨b,1,none⟩)) ?_
   refine bI 18 (.tmp 17) (.pointer (some ⟨b,1,none⟩)) (ae ah (x:Int)) (fun ρ h1 kk w1 (hg:Grow _ w1) hb hf=>by have c:=(iT.grow hg).cell 1;go_simp) ?_
   refine cH 19 aj ak (bO aj) (fun _=>bZ (L0++enc s.size++s.data.toList++enc x)) (by rw[hK.out];rfl) 219 _ _ aj [v16,ae ah (x:Int)] aj mh (fun kk w1 (hg:Grow _ w1) hb hf=>cr (φ:=fun _=>bZ (L0++enc s.size++s.data.toList++enc x)) aj (by exact fy w1 v16 _ x (cy hf (by rw[hA'.out];kernel_rfl)) (by have:s.data.toList.length=s.size:=rfl;have:=cZ (n:=s.size) al;simp only[aD];have:=Bc.out;rw[Bc.out,aD];have:=HL.out;have:=bm 1020 (show k≤1048576 by omega);omega) hsm.2)) (fun v19=>?_)
   refine bP 0 (v19) ?_
   refine ce (fun _ _ w1 (hg:Grow _ w1) _ bR=>hT _ _ ?_)
   clear hops hA' hK hT
   simp only[cj,Act.put,aw,ay,az,ax,aB]
   have hE:=bR.1
   clear bR
   have hE2:bZ (l++lX (ds.take (k+1))) v19 w1:=by
    rw[HS.out,C6,←aM,←Bc.out]
    show bZ (L0++(enc s.size++s.data.toList++enc x)) v19 w1
    rw[←aM,←aM]
    exact hE
   go_wp2_with fail
   go_roundw
   case rel=>exact⟨k+1,by omega,by go_num,hE2,hgr.trans (hga.trans hg)⟩
   case measure=>simp[intOf];omega
  ·obtain rfl:k=n:=by omega
   rw[aN al] at hB
   go_wp2_with fail
   go_ret
   exact⟨_,rfl,hgr,hB⟩
def lY (e:En):List UInt8:=if e.k=2 then [UInt8.ofNat 2]++enc e.fr.toNat++enc e.tg.toNat++enc e.se.size++e.se.data.toList
 else [UInt8.ofNat 1]++enc e.fr.toNat++enc e.tg.toNat++([e.ag.toNat,e.sh.toNat,e.sq.toNat,e.ep.toNat,e.ds.length].flatMap enc)++lX e.ds
theorem mj:∀ (l:List Nat),(∀ n∈l,n<18446744073709551616)→(l.flatMap enc).length≤l.length*10
 | [],_=>by simp
 | n :: l,h=>by
   have h1:=mj l fun x hx=>h x (by simp[hx])
   have h2:=cZ (h n (by simp))
   rw[aU,aD,aL]
   omega
theorem s5 {e:En} (h:e.W):∀ d∈e.ds,Small d:=fun d hd=>by
 obtain⟨h1,h2,h3,h4⟩:=h.2.2.2.2.2.2.2 d hd
 exact⟨h4,by omega⟩
theorem F1 (w:World) (e:En) (V:Nat→Prop) (A:Option Addr) (c:Nat) (hok:e.Ok) (hr:e.R) (hd:fV w V A e.ds.length e.ds) :
 Calls au 288 #[.agg (e.agg A c)] w fun en w'=>∃ v,en=.returned (.tuple #[v,ae af 0])∧Grow w w'∧bZ (lY e) v w':=by
 obtain⟨⟨hfr,Bb⟩,_⟩:=id hok
 obtain⟨k,ag,sh,sq,ep,ds,se,fr,tg⟩:=e
 obtain⟨h1,h2,h3,h4,h5,h6,h7,hsz⟩:=hr
 simp only at h1 h2 h3 h4 h5 h6 hsz hfr Bb
 subst h1 h2 h3 h4 h5 h6
 obtain⟨F,rfl⟩:=aW hfr.1
 obtain⟨G,rfl⟩:=aW Bb.1
 unfold En.agg
 dsimp only[bu] at hd ⊢
 have mh:∀ (vs:Array Value) (w:World),(callFunc 219 vs).run au w=.ok (.enter 219 vs) w:=fun vs w=>by go_simp
 have hg0:=bN w (.cells #[ae af 2,ae af 0,ae af 0,ae af 0,ae af 0,.slice A 0 c,.string se,ae af (F:Int),ae af (G:Int)] 32)
 have hB:=ct.made w 32 #[ae af 2,ae af 0,ae af 0,ae af 0,ae af 0,.slice A 0 c,.string se,ae af (F:Int),ae af (G:Int)]
 obtain⟨x,HX⟩:∃ x:Nat,Hid (x=w.heap.size):=⟨_,rfl⟩
 obtain⟨wa,HA⟩:∃ wa:World,Hid (wa=w.alloc (.cells #[ae af 2,ae af 0,ae af 0,ae af 0,ae af 0,.slice A 0 c,.string se,ae af (F:Int),ae af (G:Int)] 32)):=⟨_,rfl⟩
 rw[←HA.out] at hB hg0
 rw[←HX.out] at hB
 have hx:x<wa.heap.size:=hB.lt
 have hR:=f8 wa _ V A c hok (In.grow hd hg0)
 unfold En.agg at hR
 dsimp only at hR
 have c0:=fun (w1:World) (hg:Grow wa w1)=>(hB.grow hg).cell 0
 go_enter Tryz.func288,Tryz.ntmps288
 go_wp2_with fail
 rw[←HA.out,←HX.out]
 refine hR.mono ?_
 rintro e w2 ⟨rfl,hg2⟩
 have iT:=hB.grow hg2
 have hgx:=hg0.trans hg2
 have wF:IntKind.u64.wrap (F:Int)=(F:Int):=by rw[wrap_u64];omega
 have wG:IntKind.u64.wrap (G:Int)=(G:Int):=by rw[wrap_u64];omega
 clear hR c0
 go_wp2_with fail
 refine bL 13 65 [(3,.inr (fun _=>bZ [UInt8.ofNat 2])),(7,.inr (fun _=>bZ ([UInt8.ofNat 2]++enc F))),(11,.inr (fun _=>bZ ([UInt8.ofNat 2]++enc F++enc G)))] rfl rfl am am am ?_ ?_
 ·intro x hx φ he
  simp only[aF,aE,or_false] at hx
  rcases hx with rfl|rfl|rfl<;>cases he
  all_goals first|exact ca (cn _)|fail
 intro ops' A' K' T hops hA' hK hT
 refine bQ 13 (.tmp 1) (((x:Nat):Value)) (((x:Nat):Value)) ?_
 refine bI 14 (.tmp 13) (((x:Nat):Value)) (ae af 2) (fun ρ h1 kk w1 (hg:Grow _ w1) hb hf=>by have c:=(iT.grow hg).cell 0;go_simp) ?_
 refine bI 15 (.tmp 14) (ae af 2) (.int .u8 2) (fun ρ h1 kk w1 (hg:Grow _ w1) hb hf=>by go_simp;try rfl) ?_
 refine fE 16 aj ak (bO aj) (fun _=>bZ [UInt8.ofNat 2]) (by rw[hK.out];rfl) (.tmp 15) (.int .u8 2) aj (fun ρ h1 kk w1 (hg:Grow _ w1) hb hf=>by refine cA (φ:=fun _=>bZ [UInt8.ofNat 2]) aj ?_;exact cF (w:=w1.alloc (.cells #[.int .u8 2] 5)) (by go_simp) ⟨bN w1 _,rH w1 #[.int .u8 2] 5 1 [UInt8.ofNat 2] rfl rfl ak⟩) (fun v16=>?_)
 refine bQ 17 (.tmp 1) (((x:Nat):Value)) (.pointer (some ⟨x,7,none⟩)) ?_
 refine bI 18 (.tmp 17) (.pointer (some ⟨x,7,none⟩)) (ae af (F:Int)) (fun ρ h1 kk w1 (hg:Grow _ w1) hb hf=>by have c:=(iT.grow hg).cell 7;go_simp) ?_
 refine bI 19 (.tmp 18) (ae af (F:Int)) (ae ah (F:Int)) (fun ρ h1 kk w1 (hg:Grow _ w1) hb hf=>by go_simp;try rfl) ?_
 refine cH 20 aj ak (bO aj) (fun _=>bZ ([UInt8.ofNat 2]++enc F)) (by rw[hK.out];rfl) 219 _ _ aj [v16,ae ah (F:Int)] aj mh (fun kk w1 (hg:Grow _ w1) hb hf=>cr (φ:=fun _=>bZ ([UInt8.ofNat 2]++enc F)) aj (by exact fy w1 v16 [UInt8.ofNat 2] F (cy hf (by rw[hA'.out];kernel_rfl)) (by simp) al)) (fun v20=>?_)
 refine bQ 21 (.tmp 1) (((x:Nat):Value)) (.pointer (some ⟨x,8,none⟩)) ?_
 refine bI 22 (.tmp 21) (.pointer (some ⟨x,8,none⟩)) (ae af (G:Int)) (fun ρ h1 kk w1 (hg:Grow _ w1) hb hf=>by have c:=(iT.grow hg).cell 8;go_simp) ?_
 refine bI 23 (.tmp 22) (ae af (G:Int)) (ae ah (G:Int)) (fun ρ h1 kk w1 (hg:Grow _ w1) hb hf=>by go_simp;try rfl) ?_
 refine cH 24 aj ak (bO aj) (fun _=>bZ ([UInt8.ofNat 2]++enc F++enc G)) (by rw[hK.out];rfl) 219 _ _ aj [v20,ae ah (G:Int)] aj mh (fun kk w1 (hg:Grow _ w1) hb hf=>cr (φ:=fun _=>bZ ([UInt8.ofNat 2]++enc F++enc G)) aj (by exact fy w1 v20 ([UInt8.ofNat 2]++enc F) G (cy hf (by rw[hA'.out];kernel_rfl)) (by have:=cZ (n:=F) al;rw[aD];simp only[aT];omega) al)) (fun v24=>?_)
 refine bP 5 (v24) ?_
 refine ce (fun _ _ w1 (hg:Grow _ w1) _ bR=>hT _ _ ?_)
 clear hops hA' hK hT
 simp only[cj,Act.put,aw,ay,az,ax,aB]
 have hE:=bR.1
 clear bR
 have c0:=(iT.grow hg).cell 0
 have c6:=(iT.grow hg).cell 6
 have hTx:=mf w1 v24 _ se hE (by have:=cZ (n:=F) al;have:=cZ (n:=G) al;simp only[aD,aT];omega) al
 go_wp2_with fail
 refine hTx.mono ?_
 rintro e w3 ⟨v3,rfl,hg3,zb⟩
 go_wp2_with fail
 go_ret2
 refine⟨v3,rfl,hgx.trans (hg.trans hg3),?_⟩
 unfold lY
 rw[if_pos rfl]
 simpa only[bv,aM] using zb
theorem F2 (w:World) (e:En) (V:Nat→Prop) (A:Option Addr) (c:Nat) (hok:e.Ok) (hr:e.W) (hd:fV w V A e.ds.length e.ds) :
 Calls au 288 #[.agg (e.agg A c)] w fun en w'=>∃ v,en=.returned (.tuple #[v,ae af 0])∧Grow w w'∧bZ (lY e) v w':=by
 obtain⟨⟨hfr,Bb⟩,_⟩:=id hok
 have hsm:=s5 hr
 obtain⟨k,ag,sh,sq,ep,ds,se,fr,tg⟩:=e
 obtain⟨h1,h2,h3,h4,h5,h6,h7,_⟩:=hr
 simp only at h1 h2 h3 h4 h5 h6 h7 hfr Bb hsm
 subst h1 h2
 obtain⟨F,rfl⟩:=aW hfr.1
 obtain⟨G,rfl⟩:=aW Bb.1
 obtain⟨AG,rfl⟩:=aW h3.1
 obtain⟨SH,rfl⟩:=aW h4.1
 obtain⟨SQ,rfl⟩:=aW (show 0≤sq by omega)
 obtain⟨EP,rfl⟩:=aW (show 0≤ep by omega)
 unfold En.agg
 dsimp only at hd ⊢
 have mh:∀ (vs:Array Value) (w:World),(callFunc 219 vs).run au w=.ok (.enter 219 vs) w:=fun vs w=>by go_simp
 have hg0:=bN w (.cells #[ae af 1,ae af (AG:Int),ae af (SH:Int),ae af (SQ:Int),ae af (EP:Int),.slice A ds.length c,.string ⟨#[]⟩,ae af (F:Int),ae af (G:Int)] 32)
 have hB:=ct.made w 32 #[ae af 1,ae af (AG:Int),ae af (SH:Int),ae af (SQ:Int),ae af (EP:Int),.slice A ds.length c,.string ⟨#[]⟩,ae af (F:Int),ae af (G:Int)]
 obtain⟨x,HX⟩:∃ x:Nat,Hid (x=w.heap.size):=⟨_,rfl⟩
 obtain⟨wa,HA⟩:∃ wa:World,Hid (wa=w.alloc (.cells #[ae af 1,ae af (AG:Int),ae af (SH:Int),ae af (SQ:Int),ae af (EP:Int),.slice A ds.length c,.string ⟨#[]⟩,ae af (F:Int),ae af (G:Int)] 32)):=⟨_,rfl⟩
 rw[←HA.out] at hB hg0
 rw[←HX.out] at hB
 have hx:x<wa.heap.size:=hB.lt
 have hR:=f8 wa _ V A c hok (In.grow hd hg0)
 unfold En.agg at hR
 dsimp only at hR
 have c0:=fun (w1:World) (hg:Grow wa w1)=>(hB.grow hg).cell 0
 go_enter Tryz.func288,Tryz.ntmps288
 go_wp2_with fail
 rw[←HA.out,←HX.out]
 refine hR.mono ?_
 rintro e w2 ⟨rfl,hg2⟩
 have iT:=hB.grow hg2
 have hgx:=hg0.trans hg2
 have wF:IntKind.u64.wrap (F:Int)=(F:Int):=by rw[wrap_u64];omega
 have wG:IntKind.u64.wrap (G:Int)=(G:Int):=by rw[wrap_u64];omega
 clear hR c0
 go_wp2_with fail
 refine bL 13 65 [(3,.inr (fun _=>bZ [UInt8.ofNat 1])),(7,.inr (fun _=>bZ ([UInt8.ofNat 1]++enc F))),(11,.inr (fun _=>bZ ([UInt8.ofNat 1]++enc F++enc G)))] rfl rfl am am am ?_ ?_
 ·intro x hx φ he
  simp only[aF,aE,or_false] at hx
  rcases hx with rfl|rfl|rfl<;>cases he
  all_goals first|exact ca (cn _)|fail
 intro ops' A' K' T hops hA' hK hT
 refine bQ 13 (.tmp 1) (((x:Nat):Value)) (((x:Nat):Value)) ?_
 refine bI 14 (.tmp 13) (((x:Nat):Value)) (ae af 1) (fun ρ h1 kk w1 (hg:Grow _ w1) hb hf=>by have c:=(iT.grow hg).cell 0;go_simp) ?_
 refine bI 15 (.tmp 14) (ae af 1) (.int .u8 1) (fun ρ h1 kk w1 (hg:Grow _ w1) hb hf=>by go_simp;try rfl) ?_
 refine fE 16 aj ak (bO aj) (fun _=>bZ [UInt8.ofNat 1]) (by rw[hK.out];rfl) (.tmp 15) (.int .u8 1) aj (fun ρ h1 kk w1 (hg:Grow _ w1) hb hf=>by refine cA (φ:=fun _=>bZ [UInt8.ofNat 1]) aj ?_;exact cF (w:=w1.alloc (.cells #[.int .u8 1] 5)) (by go_simp) ⟨bN w1 _,rH w1 #[.int .u8 1] 5 1 [UInt8.ofNat 1] rfl rfl ak⟩) (fun v16=>?_)
 refine bQ 17 (.tmp 1) (((x:Nat):Value)) (.pointer (some ⟨x,7,none⟩)) ?_
 refine bI 18 (.tmp 17) (.pointer (some ⟨x,7,none⟩)) (ae af (F:Int)) (fun ρ h1 kk w1 (hg:Grow _ w1) hb hf=>by have c:=(iT.grow hg).cell 7;go_simp) ?_
 refine bI 19 (.tmp 18) (ae af (F:Int)) (ae ah (F:Int)) (fun ρ h1 kk w1 (hg:Grow _ w1) hb hf=>by go_simp;try rfl) ?_
 refine cH 20 aj ak (bO aj) (fun _=>bZ ([UInt8.ofNat 1]++enc F)) (by rw[hK.out];rfl) 219 _ _ aj [v16,ae ah (F:Int)] aj mh (fun kk w1 (hg:Grow _ w1) hb hf=>cr (φ:=fun _=>bZ ([UInt8.ofNat 1]++enc F)) aj (by exact fy w1 v16 [UInt8.ofNat 1] F (cy hf (by rw[hA'.out];kernel_rfl)) (by simp) al)) (fun v20=>?_)
 refine bQ 21 (.tmp 1) (((x:Nat):Value)) (.pointer (some ⟨x,8,none⟩)) ?_
 refine bI 22 (.tmp 21) (.pointer (some ⟨x,8,none⟩)) (ae af (G:Int)) (fun ρ h1 kk w1 (hg:Grow _ w1) hb hf=>by have c:=(iT.grow hg).cell 8;go_simp) ?_
 refine bI 23 (.tmp 22) (ae af (G:Int)) (ae ah (G:Int)) (fun ρ h1 kk w1 (hg:Grow _ w1) hb hf=>by go_simp;try rfl) ?_
 refine cH 24 aj ak (bO aj) (fun _=>bZ ([UInt8.ofNat 1]++enc F++enc G)) (by rw[hK.out];rfl) 219 _ _ aj [v20,ae ah (G:Int)] aj mh (fun kk w1 (hg:Grow _ w1) hb hf=>cr (φ:=fun _=>bZ ([UInt8.ofNat 1]++enc F++enc G)) aj (by exact fy w1 v20 ([UInt8.ofNat 1]++enc F) G (cy hf (by rw[hA'.out];kernel_rfl)) (by have:=cZ (n:=F) al;rw[aD];simp only[aT];omega) al)) (fun v24=>?_)
 refine bP 5 (v24) ?_
 refine ce (fun _ _ w1 (hg:Grow _ w1) _ bR=>hT _ _ ?_)
 clear hops hA' hK hT
 simp only[cj,Act.put,aw,ay,az,ax,aB]
 have hE:=bR.1
 clear bR
 have pZ:=iT.grow hg
 have c0:=pZ.cell 0
 have c1:=pZ.cell 1
 have c2:=pZ.cell 2
 have c3:=pZ.cell 3
 have c4:=pZ.cell 4
 have c5:=pZ.cell 5
 have c6:=pZ.cell 6
 have c7:=pZ.cell 7
 have c8:=pZ.cell 8
 have wA:IntKind.u64.wrap (AG:Int)=(AG:Int):=by rw[wrap_u64];omega
 have wS:IntKind.u64.wrap (SH:Int)=(SH:Int):=by rw[wrap_u64];omega
 have wQ:IntKind.u64.wrap (SQ:Int)=(SQ:Int):=by rw[wrap_u64];omega
 have wE:IntKind.u64.wrap (EP:Int)=(EP:Int):=by rw[wrap_u64];omega
 have wD:IntKind.u64.wrap (ds.length:Int)=(ds.length:Int):=by rw[wrap_u64];omega
 obtain⟨L0,Bc⟩:∃ L0,Hid (L0=[UInt8.ofNat 1]++enc F++enc G):=⟨_,rfl⟩
 rw[←Bc.out] at hE
 have hL0:L0.length≤21:=by have:=cZ (n:=F) al;have:=cZ (n:=G) al;rw[Bc.out];simp only[aD,aT];omega
 obtain⟨N,HN⟩:∃ N:List Nat,Hid (N=[AG,SH,SQ,EP,ds.length]):=⟨_,rfl⟩
 have hN5:N.length=5:=by rw[HN.out];rfl
 have hNs:∀ n∈N,n<18446744073709551616:=by rw[HN.out];intro n hn;simp at hn;omega
 have hgn:=bN w1 (.cells #[ae ah (AG:Int),ae ah (SH:Int),ae ah (SQ:Int),ae ah (EP:Int),ae ah (ds.length:Int)] 27)
 have hNb:=ct.made w1 27 #[ae ah (AG:Int),ae ah (SH:Int),ae ah (SQ:Int),ae ah (EP:Int),ae ah (ds.length:Int)]
 obtain⟨y,HY⟩:∃ y:Nat,Hid (y=w1.heap.size):=⟨_,rfl⟩
 obtain⟨wb,HB⟩:∃ wb:World,Hid (wb=w1.alloc (.cells #[ae ah (AG:Int),ae ah (SH:Int),ae ah (SQ:Int),ae ah (EP:Int),ae ah (ds.length:Int)] 27)):=⟨_,rfl⟩
 rw[←HB.out] at hNb hgn
 rw[←HY.out] at hNb
 have Qr:=hE.below hgn
 have hNc:∀ (wr:World),Grow wb wr→∀ k,(hk:k<N.length)→wr.cell? ⟨y,k,none⟩=some (ae ah (N[k]:Int)):=fun wr hgr k hk=>by
  rw[(hNb.grow hgr).cell k]
  subst_eqs
  have h5:k<5:=by omega
  have hN:=HN.out
  subst hN
  match k,h5 with
  | 0,_=>rfl
  | 1,_=>rfl
  | 2,_=>rfl
  | 3,_=>rfl
  | 4,_=>rfl
 have Hl:=pZ.grow hgn
 have hga:=hgx.trans (hg.trans hgn)
 go_wp2_with fail
 rw[←HB.out,←HY.out]
 clear c0 c1 c2 c3 c4 c5 c6 c7 c8
 go_loopw [5,53] (fun v i wr=>∃ k:Nat,k≤5∧i=ae af (k:Int)∧bZ (L0++(N.take k).flatMap enc) v wr∧Grow wb wr) (fun _ i _=>5-(intOf i).toNat)
 case atStart=>exact⟨0,by omega,rfl,by simpa using Qr,Grow.refl _⟩
 case round=>
  obtain⟨k,hkn,rfl,hI,hgr⟩:=hrel
  by_cases hk:k<5
  ·have cN:=hNc wr hgr k al
   clear hNc
   have hkN:k<N.length:=by omega
   have hsn:N.take (k+1)=N.take k++[N[k]]:=aI hkN
   have hlt:=hNs _ (aO hkN)
   have HS:=Lib.hid hsn
   clear hsn
   generalize N[k]=m at cN hlt HS
   have hle:=mj (N.take k) fun n hn=>hNs n (bp hn)
   rw[aK] at hle
   have LS:=fy wr u5 _ m hI (by rw[aD];omega) hlt
   have hdk:decide ((k:Int)<5)=true:=decide_eq_true al
   go_wp2_with fail
   refine LS.mono ?_
   rintro e w3 ⟨v3,rfl,hg3,zb⟩
   go_wp2_with fail
   go_roundw
   case rel=>exact⟨k+1,by omega,by go_num,by rw[HS.out,bd,aU,bB,bf,←aM];exact zb,hgr.trans hg3⟩
   case measure=>simp[intOf];omega
  ·obtain rfl:k=5:=by omega
   have c5:=(Hl.grow hgr).cell 5
   rw[aN al] at hI
   have hle:=mj N hNs
   have Qt:=ni wr u5 _ V A ds.length c ds hI (by rw[aD];omega) (In.grow hd (hga.trans hgr)) al hsm
   go_wp2_with fail
   refine Qt.mono ?_
   rintro e w3 ⟨v3,rfl,hg3,zb⟩
   go_wp2_with fail
   go_ret2
   refine⟨v3,rfl,hga.trans (hgr.trans hg3),?_⟩
   unfold lY
   rw[if_neg (show ¬ (1:Int)=2 by decide)]
   dsimp only
   rw[bv,bv,bv,bv,bv,bv,←HN.out,←Bc.out]
   exact zb
theorem tJ (w:World) (e:En) (V:Nat→Prop) (A:Option Addr) (c:Nat) (hok:e.Ok) (hd:fV w V A e.ds.length e.ds) :
 Calls au 288 #[.agg (e.agg A c)] w fun en w'=>∃ v,en=.returned (.tuple #[v,ae af 0])∧Grow w w'∧bZ (lY e) v w':=
 hok.2.elim (fun h=>F2 w e V A c hok h hd) (fun h=>F1 w e V A c hok h hd)
end Go.Proofs.YtmijcbfgfkeodaaGreatDoor
end
section
namespace Go.Hop
open Go.RowKit
section
variable {α:Type} (e size:Nat) (cells:α→List Value) (good:World→(Nat→Prop)→α→Prop)
def lN (B:Nat) (v:Value) (q:List α) (w:World):Prop:=
 ∃ R D:Nat→Prop,Own w R e size v q.length (q.flatMap cells)∧(∀ b∈q,good w D b)∧(∀ b,R b→(B≤b∧b<w.heap.size)∧¬ D b)∧(∀ b,D b→B≤b∧b<w.heap.size)∧B≤w.heap.size
variable {e size cells good} {w w1 w':World} {B:Nat} {v:Value} {q:List α}
theorem lN.nil (h:B≤w.heap.size):lN e size cells good B (ai none 0 0) [] w:=⟨fun _=>False,fun _=>False,Own.nil,by simp,fun _ h=>h.elim,fun _ h=>h.elim,h⟩
theorem lN.just (hG:eZ good) (h:lN e size cells good B v q w) {U:Nat→Prop} (hj:Just U w w') (hU:∀ b,U b→b<B∨w.heap.size≤b):lN e size cells good B v q w':=by
 obtain⟨R,D,h1,h2,h3,h4,h5⟩:=h
 have hs:=hj.size
 refine⟨R,D,h1.keep fun b hb=>hj.block b (h3 b hb).1.2 fun hu=>?_,fun b hb=>hG _ _ _ _ _ (h2 b hb) hj fun x hx hu=>?_,fun b hb=>⟨⟨(h3 b hb).1.1,aA (h3 b hb).1.2 hs⟩,(h3 b hb).2⟩,fun b hb=>⟨(h4 b hb).1,aA (h4 b hb).2 hs⟩,aH h5 hs⟩
 ·have:=(h3 b hb).1;have:=hU b hu;omega
 ·have:=h4 x hx;have:=hU x hu;omega
theorem lN.slice (h:lN e size cells good B v q w):∃ A c,v=.slice A q.length c:=by
 obtain⟨R,D,h1,_⟩:=h
 obtain⟨A,c,h1,_⟩:=h1.reads
 exact⟨A,c,h1⟩
theorem lN.done (hM:iE good) (h:lN e size cells good B v q w):∃ A c,v=.slice A q.length c∧In w (fun b=>B≤b∧b<w.heap.size) size A q.length (q.flatMap cells)∧(∀ b∈q,good w (fun b=>B≤b∧b<w.heap.size) b)∧q.length≤c∧c≤maxLen:=by
 obtain⟨R,D,h1,h2,h3,h4,h5⟩:=h
 obtain⟨A,c,rfl,h6,h7,h8⟩:=h1.fw
 exact⟨A,c,rfl,h6.mono fun b hb=>(h3 b hb).1,fun b hb=>hM _ _ _ _ (h2 b hb) h4,h7,h8⟩
theorem C7 {P:Program} {t bytes:Nat} {z:Value} (E:Elem P t e size bytes z) (hG:eZ good) (hM:iE good) (hl:∀ a,(cells a).length=size) (hone:∀ a,∀ u∈cells a,u.oneCell'=true)
 (h:lN e size cells good B v q w1) {b:α} {F:Nat→Prop} (hb:good w1 F b) (hF:∀ x,F x→B≤x∧x<w1.heap.size) (C8:∀ R D:Nat→Prop,Own w1 R e size v q.length (q.flatMap cells)→True) (hfr:∀ x,F x→∀ A c g,v=.slice (some ⟨g,A,none⟩) q.length c→x≠g) (hbytes:(q.length+1)*bytes≤140737488355328) (ty:TypeId) (c:Nat) :
 ∃ v' w',(Builtin.append_ #[t,t] ty #[v,.slice (some ⟨w1.heap.size,0,none⟩) 1 c]).run P (w1.alloc (.cells (cells b).toArray e))=.ok v' w'∧lN e size cells good B v' (q++[b]) w'∧Just (fun x=>B≤x) w1 w':=by
 obtain⟨R0,D,h1,h2,h3,h4,h5⟩:=h
 -- the row lies in one block at most
 obtain⟨R,h1,hR0,P0⟩:∃ R:Nat→Prop,Own w1 R e size v q.length (q.flatMap cells)∧(∀ x,R x→R0 x)∧∀ x,R x→¬ F x:=by
  obtain⟨ha,hb2|⟨g,cap,cur,hv,hV,r⟩⟩:=h1
  ·exact⟨fun _=>False,⟨ha,.inl hb2⟩,fun _ h=>h.elim,fun _ h=>h.elim⟩
  ·exact⟨fun x=>x=g,⟨ha,.inr ⟨g,cap,cur,hv,rfl,r⟩⟩,fun x hx=>hx▸hV,fun x hx hf=>hfr x hf 0 cap g hv hx⟩
 have h3:∀ x,R x→(B≤x∧x<w1.heap.size)∧¬ D x:=fun x hx=>h3 x (hR0 x hx)
 have hg2:Grow w1 (w1.alloc (.cells (cells b).toArray e)):=(Below.refl _ w1).alloc (aC _) _
 have hrd:Reads (w1.alloc (.cells (cells b).toArray e)) (w1.heap.size+1) size (some ⟨w1.heap.size,0,none⟩) 1 (cells b):=by
  have:=df w1 (cells b).toArray e (0,0) (n:=1) (size:=size) (by simp[hl]) _ rfl
  simpa using this
 obtain⟨v',w',hrun,hO,hj⟩:=iz E _ ty v q.length (q.flatMap cells) (h1.grows hg2) _ _ 1 c (cells b) hrd (hone b) hbytes
 have s2:(w1.alloc (.cells (cells b).toArray e)).heap.size=w1.heap.size+1:=di _ _
 have s3:=hj.size
 rw[s2] at s3
 have iF:∀ x,R x→x<w1.heap.size:=fun x hx=>(h3 x hx).1.2
 refine⟨v',w',hrun,⟨Ext R (w1.alloc (.cells (cells b).toArray e)) w',fun x=>D x∨F x,?_,fun a ha=>?_,fun x hx=>?_,fun x hx=>?_,by omega⟩,(Just.bJ hg2).trans (hj.imp fun x hx=>(h3 x hx).1.1)⟩
 ·rw[bd,aU,bB,bf,aD]
  exact hO
 ·rcases List.mem_append.1 ha with ha|ha
  ·exact hM _ D _ _ (hG _ _ _ R _ (hG _ _ _ _ _ (h2 a ha) (Just.bJ (V:=fun _=>False) hg2) (fun _ _ h=>h)) hj fun x hx hr=>(h3 x hr).2 hx) fun _ => .inl
  ·rw[List.mem_singleton.1 ha]
   exact hM _ F _ _ (hG _ _ _ R _ (hG _ _ _ _ _ hb (Just.bJ (V:=fun _=>False) hg2) (fun _ _ h=>h)) hj fun x hx hr=>P0 x hr hx) fun _ => .inr
 ·rcases hx with hx|⟨hx1,hx2⟩
  ·refine⟨⟨(h3 x hx).1.1,by have:=iF x hx;omega⟩,fun hd=>?_⟩
   rcases hd with hd|hd
   ·exact (h3 x hx).2 hd
   ·exact P0 x hx hd
  ·rw[s2] at hx1
   refine⟨⟨by omega,hx2⟩,fun hd=>?_⟩
   rcases hd with hd|hd
   ·have:=(h4 x hd).2;omega
   ·have:=(hF x hd).2;omega
 ·rcases hx with hx|hx
  ·exact⟨(h4 x hx).1,by have:=(h4 x hx).2;omega⟩
  ·exact⟨(hF x hx).1,by have:=(hF x hx).2;omega⟩
theorem tK {P:Program} {t bytes:Nat} {z:Value} (E:Elem P t e size bytes z) (hl:∀ a,(cells a).length=size) (hone:∀ a,∀ u∈cells a,u.oneCell'=true)
 {ops:Array Oper} {rest:List Oper} {o:Oper} {a:Act} {Q:Exit→Act→World→Prop} (hw:Region.wanted o (yielded ops a.tmps)=true) (s x:Operand)
 (ho:o.op=.call { callee := .builtin .append,args:=#[s,x],argTypes:=#[t,t] })
 (h:lN e size cells (fun _ _ _=>True) B v q w1) (b:α) (hbytes:(q.length+1)*bytes≤140737488355328)
 (hs:a.eval s=v) {c:Nat} (hx:a.eval x=.slice (some ⟨w1.heap.size,0,none⟩) 1 c)
 (k:∀ v' w',lN e size cells (fun _ _ _=>True) B v' (q++[b]) w'→Just (fun x=>B≤x) w1 w'→wpList P ops Q rest (a.put o.dst v') w'):wpList P ops Q (o :: rest) a (w1.alloc (.cells (cells b).toArray e)):=by
 obtain⟨v',w',hrun,hA,hj⟩:=C7 E nh qU hl hone h (b:=b) (F:=fun _=>False) trivial (fun _ h=>h.elim) (fun _ _ _=>trivial) (fun _ h=>h.elim) hbytes o.type c
 unfold wpList
 rw[if_pos hw]
 refine .inl ?_
 unfold Oper.wp execOp
 simp only[ho,resolve,invoke,builtin,Sem.run_bind,Sem.run_pure,Result.andThen_ok,List.map_toArray,bg,List.map_nil,hs,hx,hrun]
 exact k v' w' hA hj
end
end Go.Hop
end
