/- Nedlv, Wd1, Wd2, Agb. -/
import Derived.Test.YtmijcbfgfkeodaaGreatDoorIz35
set_option linter.all false
set_option maxRecDepth 100000
set_option maxHeartbeats 2000000
open Go.Value renaming int → ae,slice → ai
open Go.IntKind renaming i64 → af,u64 → ah
open Go.Proofs.Tryz renaming prog → au
open List renaming setIfInBounds_toArray → aw,drop_succ_cons → ax,set_cons_zero → ay,set_cons_succ → az,drop_zero → aB,not_mem_nil → aE,mem_cons → aF,length_cons → aL,getElem_mem → aO,length_map → aP,length_nil → bu
open Nat renaming lt_of_lt_of_le → aA,le_refl → aC,le_trans → aH
section
namespace Go.Proofs.YtmijcbfgfkeodaaGreatDoor.Ne
open Go.RowKit Go.Hop
theorem Deliver_no (w:World) (g:Nat) (nodes:Int) (l:List Lb) (P:Nat→Bool) (i:Int) (h:ic (l.length:Int) i=false) :
 Turns au 246 #[((g:Nat):Value),ae af i] (fun e=>e=.returned (.tuple #[.agg #[ae af 0,ae af 0,ai none 0 0],ae af 23])) (dy g nodes l P) (dy g nodes l P) w:=by
 intro V hQ hV
 obtain⟨A,c,q,HQ,HL,h64,hN,hInv,hB,hI,hnc,hcm⟩:=hQ.PL
 have hq:ic (q.length:Int) i=false:=by rw[←HL.out];exact h
 have hga:Grow w (w.alloc (.cells #[ae af 0,ae af 0,ai none 0 0] 211)):=(Below.refl w.heap.size w).alloc (aC _) _
 have gl:=ct.made w 211 #[ae af 0,ae af 0,ai none 0 0]
 obtain⟨x,HX⟩:∃ x:Nat,Hid (x=w.heap.size):=⟨_,rfl⟩
 obtain⟨wa,HA⟩:∃ wa:World,Hid (wa=w.alloc (.cells #[ae af 0,ae af 0,ai none 0 0] 211)):=⟨_,rfl⟩
 rw[←HA.out] at hga
 have hBx:ct wa x 211 #[ae af 0,ae af 0,ai none 0 0]:=by rw[HA.out,HX.out];exact gl
 have f0:=hBx.frozen 0
 have f1:=hBx.frozen 1
 have f2:=hBx.frozen 2
 have x0:=hBx.cell 0
 have x1:=hBx.cell 1
 have x2:=hBx.cell 2
 have hxw:w.heap.size≤x:=by have:=HX.out;omega
 go_enter Tryz.func246,Tryz.ntmps246
 go_wp2_with fail
 rw[←HA.out,←HX.out]
 go_wp2_with (go_at_call 248;refine (nB wa g nodes _ _ _ _ _ (hB.grow hga)).mono ?_;rintro e w2 ⟨rfl,hw2⟩;subst hw2)
 have hE:=((hBx.put 0 (ae af 0)).put 1 (ae af 0)).put 2 (ai none 0 0)
 have e0:=hE.cell 0
 have e1:=hE.cell 1
 have e2:=hE.cell 2
 have hj:Just (fun b=>b=x) wa (((wa.setCell ⟨x,0,none⟩ (ae af 0)).setCell ⟨x,1,none⟩ (ae af 0)).setCell ⟨x,2,none⟩ (ai none 0 0)):=
  (((Just.bJ (Grow.refl wa)).put (V:=fun b=>b=x) rfl 0 _).put rfl 1 _).put rfl 2 _
 have hgw:Grow w (((wa.setCell ⟨x,0,none⟩ (ae af 0)).setCell ⟨x,1,none⟩ (ae af 0)).setCell ⟨x,2,none⟩ (ai none 0 0)):=Below.trans hga (hj.below (B:=w.heap.size) (fun b hb=>by rw[hb];exact hxw) hga.size)
 refine bodyPost_ret (v := .tuple #[.agg #[ae af 0,ae af 0,ai none 0 0],ae af 23]) (by simp[results,Tryz.results246,go_sem,e0,e1,e2]) rfl ⟨rfl,dy.wide (dy.framed _ _ _ _ w _ V hQ fun b hb=>hgw.block b (hV b hb)) (fun _ => .inl),Just.bJ hgw⟩
def Taken (g:Nat) (nodes:Int) (l:List Lb) (P:Nat→Bool) (bs:List UInt8) (i:Option Addr×Nat×Nat):cg:=fun w V=>dy g nodes l P w V∧Bj w V i.1 i.2.1 bs∧i.2.1≤i.2.2∧i.2.2≤maxLen
theorem Taken.framed (g:Nat) (nodes:Int) (l:List Lb) (P:Nat→Bool) (bs:List UInt8) (i:Option Addr×Nat×Nat):Framed (Taken g nodes l P bs i):=fun w w' V h hk=>
 ⟨dy.framed g nodes l P w w' V h.1 hk,In.keep h.2.1 fun b hb _=>hk b hb,h.2.2⟩
theorem E4 {g:Nat} {nodes:Int} {l:List Lb} {P:Nat→Bool} {q:List Lt} (gS:q.map Lt.abs=l) (hN:1≤nodes∧nodes≤8) (hInv:∀ a∈l,M8 nodes a) {i:Nat} (hi:i<q.length) :
 ∃ (fa ta:Nat) (hl:i<l.length),q[i].f=(fa:Int)∧q[i].t=(ta:Int)∧fa<8∧ta<8∧l[i]=((fa:Int),(ta:Int),q[i].bs):=by
 subst gS
 have hl:i<(q.map Lt.abs).length:=by rw[aP];exact hi
 have h0:=hInv _ (aO hl)
 rw[List.getElem_map] at h0
 obtain⟨⟨a1,a2⟩,⟨a3,a4⟩⟩:=h0
 have a1:0≤q[i].f:=a1
 have a2:q[i].f<nodes:=a2
 have a3:0≤q[i].t:=a3
 have a4:q[i].t<nodes:=a4
 refine⟨q[i].f.toNat,q[i].t.toNat,hl,by omega,by omega,by omega,by omega,?_⟩
 rw[List.getElem_map]
 unfold Lt.abs
 rw[show ((q[i].f.toNat:Nat):Int)=q[i].f by omega,show ((q[i].t.toNat:Nat):Int)=q[i].t by omega]
theorem Deliver_cut (w:World) (g:Nat) (nodes:Int) (l:List Lb) (P:Nat→Bool) (i:Nat) (h:i<l.length) (hp0:P (l[i].1.toNat*8+l[i].2.1.toNat)=true) :
 Turns au 246 #[((g:Nat):Value),ae af (i:Int)] (fun e=>e=.returned (.tuple #[.agg #[ae af 0,ae af 0,ai none 0 0],ae af 26])) (dy g nodes l P) (dy g nodes l P) w:=by
 intro V hQ hV
 have hQ':=hQ
 obtain⟨h1,v,q,R,D,gS,h64,hN,hInv,hB,i6,h6,h7,h8⟩:=hQ
 obtain⟨A,c,rfl,hI,hnc,hcm⟩:=i6.fw
 have hi:i<q.length:=by rw[←gS,aP] at h;exact h
 have hq:ic (q.length:Int) (i:Int)=true:=rx al
 obtain⟨fa,ta,_,ef,et,hfa,Rw,hab⟩:=E4 (g:=g) (P:=P) gS hN hInv hi
 rw[hab] at hp0
 have hp:P (fa*8+ta)=true:=by simpa using hp0
 have hgR:¬ R g:=fun h=>(h7 g h).2.1 rfl
 obtain⟨ad,O5,rfl,_,_,e0,e12⟩:=hI.iS al nA hi
 have hin:=h6 _ (aO O5)
 have e0:=e0 _ rfl
 have e1:=e12 0 _ rfl
 have e2:=e12 1 _ rfl
 have yY:=Lib.hid gS
 clear e12 hab hp0 gS
 rw[ef] at e0
 rw[et] at e1
 have hbl:Bj w D q[i].A q[i].m q[i].bs:=hin.bs
 have AQ:=hin.le
 have FQ:=hin.max
 clear ef et hin
 generalize q[i].bs=bs at hbl
 generalize q[i].A=Ab at hbl e2
 generalize q[i].m=mb at hbl e2 AQ
 generalize q[i].c=cb at e2 AQ FQ
 have hga:Grow w (w.alloc (.cells #[ae af 0,ae af 0,ai none 0 0] 211)):=(Below.refl w.heap.size w).alloc (aC _) _
 have gl:=ct.made w 211 #[ae af 0,ae af 0,ai none 0 0]
 obtain⟨x,HX⟩:∃ x:Nat,Hid (x=w.heap.size):=⟨_,rfl⟩
 obtain⟨wa,HA⟩:∃ wa:World,Hid (wa=w.alloc (.cells #[ae af 0,ae af 0,ai none 0 0] 211)):=⟨_,rfl⟩
 have hwz:wa.heap.size=x+1:=by rw[HA.out,HX.out];simp
 have Rx:¬ (8:Int)≤(fa:Int):=by omega
 have Ry:¬ (8:Int)≤(ta:Int):=by omega
 rw[←HA.out] at hga
 have hBx:ct wa x 211 #[ae af 0,ae af 0,ai none 0 0]:=by rw[HA.out,HX.out];exact gl
 have hxw:w.heap.size≤x:=by have:=HX.out;omega
 have hgb:Grow wa (wa.alloc (.cells #[ae af (fa:Int),ae af (ta:Int),.slice Ab mb cb] 211)):=(Below.refl _ _).alloc (aC _) _
 have E5:=ct.made wa 211 #[ae af (fa:Int),ae af (ta:Int),.slice Ab mb cb]
 obtain⟨y,HY⟩:∃ y:Nat,Hid (y=wa.heap.size):=⟨_,rfl⟩
 obtain⟨wb,F6⟩:∃ wb:World,Hid (wb=wa.alloc (.cells #[ae af (fa:Int),ae af (ta:Int),.slice Ab mb cb] 211)):=⟨_,rfl⟩
 rw[←F6.out] at hgb
 have du:ct wb y 211 #[ae af (fa:Int),ae af (ta:Int),.slice Ab mb cb]:=by rw[F6.out,HY.out];exact E5
 have IZ:=hBx.grow hgb
 have AU:=hga.trans hgb
 have ou:=hB.grow AU
 have Ba:=(hga.cell (p:=ad.add (i*3)) (by rw[block_add];assumption)).trans e0
 have Gi:=(hga.cell (p:=⟨(ad.add (i*3)).block,(ad.add (i*3)).off+1,none⟩) (show (ad.add (i*3)).block<_ by rw[block_add];assumption)).trans e1
 have O6:=(hga.cell (p:=⟨(ad.add (i*3)).block,(ad.add (i*3)).off+2,none⟩) (show (ad.add (i*3)).block<_ by rw[block_add];assumption)).trans e2
 have c1:wa.cell? ⟨g,1,none⟩=some (.slice (some ad) q.length c):=(hB.grow hga).cell 1
 clear gl E5 e0 e1 e2
 go_enter Tryz.func246,Tryz.ntmps246
 go_wp2_with fail
 rw[←HA.out,←HX.out]
 go_wp2_with (go_at_call 248;refine (nB wa g nodes _ _ _ _ _ (hB.grow hga)).mono ?_;rintro e w2 ⟨rfl,hw2⟩;subst hw2)
 have hxy:x+1=y:=by rw[HY.out,hwz]
 rw[hxy,←F6.out]
 have F7:w.heap.size≤y:=by omega
 clear Ba Gi O6 c1 hxy hwz
 refine bL 10 42 [] rfl rfl am am am ?_ ?_
 ·intro x hx φ he
  cases hx
 intro ops' A' K' T hops hA' hK hT
 refine bP 19 (((g:Nat):Value)) ?_
 refine bQ 20 (.tmp 6) (((y:Nat):Value)) (((y:Nat):Value)) ?_
 refine bI 21 (.tmp 20) (((y:Nat):Value)) (ae af (fa:Int)) (fun ρ h1 kk w1 (hg:Grow _ w1) hb hf=>by have c:=(du.grow hg).cell 0;go_simp) ?_
 refine bQ 22 (.tmp 6) (((y:Nat):Value)) (.pointer (some ⟨y,1,none⟩)) ?_
 refine bI 23 (.tmp 22) (.pointer (some ⟨y,1,none⟩)) (ae af (ta:Int)) (fun ρ h1 kk w1 (hg:Grow _ w1) hb hf=>by have c:=(du.grow hg).cell 1;go_simp) ?_
 refine bQ 24 (.tmp 19) (((g:Nat):Value)) (((g:Nat):Value)) ?_
 refine bQ 25 (.tmp 24) (((g:Nat):Value)) (.pointer (some ⟨g,2,none⟩)) ?_
 refine cm 26 (.tmp 25) (.tmp 21) (.pointer (some ⟨g,2,none⟩)) (ae af (fa:Int)) (.pointer (some ⟨g,2+fa*8,none⟩)) (fun ρ h1 h2 kk w1 (hg:Grow _ w1) hb hf=>by go_simp) ?_
 refine cm 27 (.tmp 26) (.tmp 23) (.pointer (some ⟨g,2+fa*8,none⟩)) (ae af (ta:Int)) (.pointer (some ⟨g,2+fa*8+ta,none⟩)) (fun ρ h1 h2 kk w1 (hg:Grow _ w1) hb hf=>by go_simp) ?_
 refine bI 28 (.tmp 27) (.pointer (some ⟨g,2+fa*8+ta,none⟩)) (.bool true) (fun ρ h1 kk w1 (hg:Grow _ w1) hb hf=>by have c:=(ou.grow hg).cell (2+fa*8+ta);rw[Nat.add_assoc,DZ _ _ _ al,hp] at c;rw[←Nat.add_assoc] at c;go_simp) ?_
 refine ce (fun _ _ w1 (hg:Grow _ w1) _ bR=>hT _ _ ?_)
 clear hops hA' hK hT
 simp only[cj,Act.put,aw,ay,az,ax,aB]
 have hBx1:=IZ.grow hg
 have f0:=hBx1.frozen 0
 have f1:=hBx1.frozen 1
 have f2:=hBx1.frozen 2
 have x0:=hBx1.cell 0
 have x1:=hBx1.cell 1
 have x2:=hBx1.cell 2
 go_wp2_with fail
 have hE:=((hBx1.put 0 (ae af 0)).put 1 (ae af 0)).put 2 (ai none 0 0)
 have e0:=hE.cell 0
 have e1:=hE.cell 1
 have e2:=hE.cell 2
 have hj:Just (fun b=>b=x) w1 (((w1.setCell ⟨x,0,none⟩ (ae af 0)).setCell ⟨x,1,none⟩ (ae af 0)).setCell ⟨x,2,none⟩ (ai none 0 0)):=
  (((Just.bJ (Grow.refl w1)).put (V:=fun b=>b=x) rfl 0 _).put rfl 1 _).put rfl 2 _
 have hgw:Grow w (((w1.setCell ⟨x,0,none⟩ (ae af 0)).setCell ⟨x,1,none⟩ (ae af 0)).setCell ⟨x,2,none⟩ (ai none 0 0)):=Below.trans (AU.trans hg) (hj.below (B:=w.heap.size) (fun b hb=>by rw[hb];exact hxw) (AU.trans hg).size)
 refine bodyPost_ret (v := .tuple #[.agg #[ae af 0,ae af 0,ai none 0 0],ae af 26]) (by simp[results,Tryz.results246,go_sem,e0,e1,e2]) rfl ⟨rfl,dy.wide (dy.framed _ _ _ _ w _ V hQ' fun b hb=>hgw.block b (hV b hb)) (fun _ => .inl),Just.bJ hgw⟩
theorem nT (w:World) (g:Nat) (nodes:Int) (l:List Lb) (P:Nat→Bool) (i:Nat) (h:i<l.length) (hp0:P (l[i].1.toNat*8+l[i].2.1.toNat)=false) :
 ∀ V:Nat→Prop,dy g nodes l P w V→(∀ b,V b→b<w.heap.size)→Calls au 246 #[((g:Nat):Value),ae af (i:Int)] w fun e w'=>∃ j:Option Addr×Nat×Nat,e=.returned (.tuple #[.agg #[ae af l[i].1,ae af l[i].2.1,.slice j.1 j.2.1 j.2.2],ae af 0])∧Taken g nodes (minus l i) P l[i].2.2 j w' (Ext V w w')∧Just V w w':=by
 intro V hQ hV
 have hQ':=hQ
 obtain⟨h1,v,q,R,D,gS,h64,hN,hInv,hB,i6,h6,h7,h8⟩:=hQ
 obtain⟨A,c,rfl,hI,hnc,hcm⟩:=i6.fw
 have hi:i<q.length:=by rw[←gS,aP] at h;exact h
 have hq:ic (q.length:Int) (i:Int)=true:=rx al
 obtain⟨fa,ta,_,ef,et,hfa,Rw,hab⟩:=E4 (g:=g) (P:=P) gS hN hInv hi
 rw[hab] at hp0 ⊢
 have hp:P (fa*8+ta)=false:=by simpa using hp0
 have hgR:¬ R g:=fun h=>(h7 g h).2.1 rfl
 obtain⟨ad,O5,rfl,_,_,e0,e12⟩:=hI.iS al nA hi
 have hin:=h6 _ (aO O5)
 have e0:=e0 _ rfl
 have e1:=e12 0 _ rfl
 have e2:=e12 1 _ rfl
 have yY:=Lib.hid gS
 clear e12 hab hp0 gS
 rw[ef] at e0
 rw[et] at e1
 have hbl:Bj w D q[i].A q[i].m q[i].bs:=hin.bs
 have AQ:=hin.le
 have FQ:=hin.max
 clear ef et hin
 generalize q[i].bs=bs at hbl ⊢
 generalize q[i].A=Ab at hbl e2
 generalize q[i].m=mb at hbl e2 AQ
 generalize q[i].c=cb at e2 AQ FQ
 have hga:Grow w (w.alloc (.cells #[ae af 0,ae af 0,ai none 0 0] 211)):=(Below.refl w.heap.size w).alloc (aC _) _
 have gl:=ct.made w 211 #[ae af 0,ae af 0,ai none 0 0]
 obtain⟨x,HX⟩:∃ x:Nat,Hid (x=w.heap.size):=⟨_,rfl⟩
 obtain⟨wa,HA⟩:∃ wa:World,Hid (wa=w.alloc (.cells #[ae af 0,ae af 0,ai none 0 0] 211)):=⟨_,rfl⟩
 have hwz:wa.heap.size=x+1:=by rw[HA.out,HX.out];simp
 have Rx:¬ (8:Int)≤(fa:Int):=by omega
 have Ry:¬ (8:Int)≤(ta:Int):=by omega
 rw[←HA.out] at hga
 have hBx:ct wa x 211 #[ae af 0,ae af 0,ai none 0 0]:=by rw[HA.out,HX.out];exact gl
 have hxw:w.heap.size≤x:=by have:=HX.out;omega
 have hgb:Grow wa (wa.alloc (.cells #[ae af (fa:Int),ae af (ta:Int),.slice Ab mb cb] 211)):=(Below.refl _ _).alloc (aC _) _
 have E5:=ct.made wa 211 #[ae af (fa:Int),ae af (ta:Int),.slice Ab mb cb]
 obtain⟨y,HY⟩:∃ y:Nat,Hid (y=wa.heap.size):=⟨_,rfl⟩
 obtain⟨wb,F6⟩:∃ wb:World,Hid (wb=wa.alloc (.cells #[ae af (fa:Int),ae af (ta:Int),.slice Ab mb cb] 211)):=⟨_,rfl⟩
 rw[←F6.out] at hgb
 have du:ct wb y 211 #[ae af (fa:Int),ae af (ta:Int),.slice Ab mb cb]:=by rw[F6.out,HY.out];exact E5
 have IZ:=hBx.grow hgb
 have AU:=hga.trans hgb
 have ou:=hB.grow AU
 have Ba:=(hga.cell (p:=ad.add (i*3)) (by rw[block_add];assumption)).trans e0
 have Gi:=(hga.cell (p:=⟨(ad.add (i*3)).block,(ad.add (i*3)).off+1,none⟩) (show (ad.add (i*3)).block<_ by rw[block_add];assumption)).trans e1
 have O6:=(hga.cell (p:=⟨(ad.add (i*3)).block,(ad.add (i*3)).off+2,none⟩) (show (ad.add (i*3)).block<_ by rw[block_add];assumption)).trans e2
 have c1:wa.cell? ⟨g,1,none⟩=some (.slice (some ad) q.length c):=(hB.grow hga).cell 1
 clear gl E5 e0 e1 e2
 go_enter Tryz.func246,Tryz.ntmps246
 go_wp2_with fail
 rw[←HA.out,←HX.out]
 go_wp2_with (go_at_call 248;refine (nB wa g nodes _ _ _ _ _ (hB.grow hga)).mono ?_;rintro e w2 ⟨rfl,hw2⟩;subst hw2)
 have hxy:x+1=y:=by rw[HY.out,hwz]
 rw[hxy,←F6.out]
 have F7:w.heap.size≤y:=by omega
 clear Ba Gi O6 c1 hxy hwz
 refine bL 10 42 [] rfl rfl am am am ?_ ?_
 ·intro x hx φ he
  cases hx
 intro ops' A' K' T hops hA' hK hT
 refine bP 19 (((g:Nat):Value)) ?_
 refine bQ 20 (.tmp 6) (((y:Nat):Value)) (((y:Nat):Value)) ?_
 refine bI 21 (.tmp 20) (((y:Nat):Value)) (ae af (fa:Int)) (fun ρ h1 kk w1 (hg:Grow _ w1) hb hf=>by have c:=(du.grow hg).cell 0;go_simp) ?_
 refine bQ 22 (.tmp 6) (((y:Nat):Value)) (.pointer (some ⟨y,1,none⟩)) ?_
 refine bI 23 (.tmp 22) (.pointer (some ⟨y,1,none⟩)) (ae af (ta:Int)) (fun ρ h1 kk w1 (hg:Grow _ w1) hb hf=>by have c:=(du.grow hg).cell 1;go_simp) ?_
 refine bQ 24 (.tmp 19) (((g:Nat):Value)) (((g:Nat):Value)) ?_
 refine bQ 25 (.tmp 24) (((g:Nat):Value)) (.pointer (some ⟨g,2,none⟩)) ?_
 refine cm 26 (.tmp 25) (.tmp 21) (.pointer (some ⟨g,2,none⟩)) (ae af (fa:Int)) (.pointer (some ⟨g,2+fa*8,none⟩)) (fun ρ h1 h2 kk w1 (hg:Grow _ w1) hb hf=>by go_simp) ?_
 refine cm 27 (.tmp 26) (.tmp 23) (.pointer (some ⟨g,2+fa*8,none⟩)) (ae af (ta:Int)) (.pointer (some ⟨g,2+fa*8+ta,none⟩)) (fun ρ h1 h2 kk w1 (hg:Grow _ w1) hb hf=>by go_simp) ?_
 refine bI 28 (.tmp 27) (.pointer (some ⟨g,2+fa*8+ta,none⟩)) (.bool false) (fun ρ h1 kk w1 (hg:Grow _ w1) hb hf=>by have c:=(ou.grow hg).cell (2+fa*8+ta);rw[Nat.add_assoc,DZ _ _ _ al,hp] at c;rw[←Nat.add_assoc] at c;go_simp) ?_
 refine ce (fun _ _ w1 (hg:Grow _ w1) _ bR=>hT _ _ ?_)
 clear hops hA' hK hT
 simp only[cj,Act.put,aw,ay,az,ax,aB]
 have hg1:=AU.trans hg
 have hB1:=hB.grow hg1
 have c1:w1.cell? ⟨g,1,none⟩=some (.slice (some ad) q.length c):=hB1.cell 1
 go_wp2_with fail
 refine (lT w1 R (some ad) q.length c i _ (i6.grow hg1) hi al (FN q)).mono ?_
 rintro e w2 ⟨rfl,hR2,hj2⟩
 have hB2:=hj2.blk hB1 hgR
 have f1:=hB2.frozen 1
 have c2:w2.cell? ⟨g,1,none⟩=some (.slice (some ad) q.length c):=hB2.cell 1
 obtain⟨PN,hJ3⟩:=AP h1 yY.out h64 hN hInv hB1 (fun b hb=>(h6 b hb).grow hg1) h7 h8 hi hg1 hR2 hj2
 have hjs:=fh w2 g 1 (.slice (some ad) (q.length-1) c)
 have La:Bj (w2.setCell ⟨g,1,none⟩ (.slice (some ad) (q.length-1) c)) D Ab mb bs:=In.just (In.just (In.grow hbl hg1) hj2 fun b hb hr=>(h7 b hr).2.2 hb) hjs fun b hb e=>(h8 b hb).2 e
 have hgx:g≠x:=by have:=hB.lt;omega
 have oo:g≠y:=by have:=hB.lt;omega
 have Rz:¬ R x:=fun h=>by have:=hV x (h7 x h).1;omega
 have RA:¬ R y:=fun h=>by have:=hV y (h7 y h).1;omega
 have hBx3:=(hj2.blk (IZ.grow hg) Rz).far (p:=⟨g,1,none⟩) hgx.symm (.slice (some ad) (q.length-1) c)
 have xq:=(hj2.blk (du.grow hg) RA).far (p:=⟨g,1,none⟩) oo.symm (.slice (some ad) (q.length-1) c)
 have hs3:=dw w2 ⟨g,1,none⟩ (.slice (some ad) (q.length-1) c)
 obtain⟨w3,HW3⟩:∃ w3:World,Hid (w3=w2.setCell ⟨g,1,none⟩ (.slice (some ad) (q.length-1) c)):=⟨_,rfl⟩
 have y0:=xq.cell 0
 have y1:=xq.cell 1
 have y2:=xq.cell 2
 have x0:=hBx3.cell 0
 have x1:=hBx3.cell 1
 have x2:=hBx3.cell 2
 have f30:=hBx3.frozen 0
 have f31:=hBx3.frozen 1
 have f32:=hBx3.frozen 2
 go_wp2_with fail
 rw[←HW3.out] at PN hJ3 La hBx3 hs3 ⊢
 have hE:=((hBx3.put 0 (ae af (fa:Int))).put 1 (ae af (ta:Int))).put 2 (.slice Ab mb cb)
 have e0:=hE.cell 0
 have e1:=hE.cell 1
 have e2:=hE.cell 2
 have hj:Just (fun b=>b=x) w3 (((w3.setCell ⟨x,0,none⟩ (ae af (fa:Int))).setCell ⟨x,1,none⟩ (ae af (ta:Int))).setCell ⟨x,2,none⟩ (.slice Ab mb cb)):=
  (((Just.bJ (Grow.refl w3)).put (V:=fun b=>b=x) rfl 0 _).put rfl 1 _).put rfl 2 _
 have hsz:((((w3.setCell ⟨x,0,none⟩ (ae af (fa:Int))).setCell ⟨x,1,none⟩ (ae af (ta:Int))).setCell ⟨x,2,none⟩ (.slice Ab mb cb))).heap.size=w3.heap.size:=by rw[dw,dw,dw]
 refine bodyPost_ret (v := .tuple #[.agg #[ae af (fa:Int),ae af (ta:Int),.slice Ab mb cb],ae af 0]) (by simp[results,Tryz.results246,go_sem,e0,e1,e2]) rfl ⟨(Ab,mb,cb),rfl,⟨?_,?_,AQ,FQ⟩,?_⟩
 ·refine dy.wide (dy.framed _ _ _ _ w3 _ V PN fun b hb=>hj.block b ?_ fun h=>?_) fun _ => .inl
  ·have:=hV b hb;have:=hJ3.size;omega
  ·have:=hV b hb;rw[show b=x from h] at this;omega
 ·refine In.mono (V:=D) (In.just La hj fun b hb h=>?_) fun b hb => .inl (h8 b hb).1
  have:=hV b (h8 b hb).1;rw[show b=x from h] at this;omega
 ·exact⟨hj.os.trans hJ3.os,hj.tape.trans hJ3.tape,hj.output.trans hJ3.output,aH hJ3.size hj.size,fun k hk hv=>(hj.block k (aA hk hJ3.size) (fun h=>by rw[show k=x from h] at hk;omega)).trans (hJ3.block k hk hv)⟩
end Go.Proofs.YtmijcbfgfkeodaaGreatDoor.Ne
end
section
namespace Go.Proofs.YtmijcbfgfkeodaaGreatDoor
open Go.RowKit Go.Hop V
def gG (rs ij ds:Value) (g:Nat):Array Value:=#[rs,ij,ds,((g:Nat):Value)]
structure o5 where
 (g r a d0 d1:Nat) (rs ij ds:Value)
def cS (W:Nat) (q:o5) (L:List Ne.Lb) (RT AT:cg):List cg:=[Cell W 196 (gG q.rs q.ij q.ds q.g),cD 66 q.rs [q.r],cD 55 q.ij [q.a],cD 53 q.ds [q.d0,q.d1],Ne.dy q.g 2 L (fun _=>false),RT,AT]
def Wo (W:Nat) (L:List Ne.Lb) (R A:Nat→cg):cg:=fun w V=>∃ q:o5,Many (cS W q L (R q.r) (A q.a)) w V
theorem ci (W:Nat) (q:o5) (L:List Ne.Lb) (RT AT:cg) (hR:Framed RT) (hA:Framed AT):bM (cS W q L RT AT):=((((((bM.nil.cons hA).cons hR).cons (Ne.dy.framed _ _ _ _)).cons (cD.framed _ _ _)).cons (cD.framed _ _ _)).cons (cD.framed _ _ _)).cons (Cell.framed _ _ _)
theorem jb (w:World) (W g:Nat) (rs ij ds:Value) (r a d0 d1:Nat) (V1:Nat→Prop) (hB:ct w W 196 (gG rs ij ds g)) (hr:cD 66 rs [r] w V1):Calls au 42 #[((W:Nat):Value),ae af 0] w fun e w'=>e=.returned (((r:Nat):Value))∧w=w':=by
 unfold gG at hB
 obtain⟨b,cap,rfl,hc,hm,hb,hcell⟩:=hr.at (by simp)
 have e0:=hcell w (Grow.refl _) 0 (by simp)
 have c0:=hB.cell 0
 go_enter Tryz.func42,Tryz.ntmps42
 go_wp2_with fail
 go_ret
 exact⟨rfl,rfl⟩
theorem nU (w:World) (W g:Nat) (rs ij ds:Value) (r a d0 d1:Nat) (V1:Nat→Prop) (hB:ct w W 196 (gG rs ij ds g)) (hr:cD 66 rs [r] w V1):Calls au 42 #[((W:Nat):Value),ae af 1] w fun e w'=>e=.returned (.pointer none)∧w=w':=by
 unfold gG at hB
 obtain⟨b,cap,rfl,hc,hm,hb,hcell⟩:=hr.at (by simp)
 have c0:=hB.cell 0
 go_enter Tryz.func42,Tryz.ntmps42
 go_wp2_with fail
 go_ret
 exact⟨rfl,rfl⟩
theorem ry (w:World) (W g:Nat) (rs ij ds:Value) (r a d0 d1:Nat) (V1:Nat→Prop) (hB:ct w W 196 (gG rs ij ds g)) (ha:cD 55 ij [a] w V1):Calls au 108 #[((W:Nat):Value),ae af 0] w fun e w'=>e=.returned (((a:Nat):Value))∧w=w':=by
 unfold gG at hB
 obtain⟨b,cap,rfl,hc,hm,hb,hcell⟩:=ha.at (by simp)
 have e0:=hcell w (Grow.refl _) 0 (by simp)
 have c0:=hB.cell 1
 go_enter Tryz.func108,Tryz.ntmps108
 go_wp2_with fail
 go_ret
 exact⟨rfl,rfl⟩
theorem E6 (w:World) (W g:Nat) (rs ij ds:Value) (r a d0 d1:Nat) (V1:Nat→Prop) (hB:ct w W 196 (gG rs ij ds g)) (hd:cD 53 ds [d0,d1] w V1):Calls au 242 #[((W:Nat):Value),ae af 1] w fun e w'=>e=.returned (((d1:Nat):Value))∧w=w':=by
 unfold gG at hB
 obtain⟨b,cap,rfl,hc,hm,hb,hcell⟩:=hd.at (by simp)
 have e0:=hcell w (Grow.refl _) 1 (by simp)
 have c0:=hB.cell 2
 go_enter Tryz.func242,Tryz.ntmps242
 go_wp2_with fail
 go_ret
 exact⟨rfl,rfl⟩
theorem jy (w:World) (W g:Nat) (rs ij ds:Value) (hB:ct w W 196 (gG rs ij ds g)):Calls au 48 #[((W:Nat):Value)] w fun e w'=>e=.returned (((g:Nat):Value))∧w=w':=by
 unfold gG at hB
 have c0:=hB.cell 3
 go_enter Tryz.func48,Tryz.ntmps48
 go_wp2_with fail
 go_ret
 exact⟨rfl,rfl⟩
theorem sJ (w:World) (W g:Nat) (rs ij ds:Value) (r a d0 d1:Nat) (V1 V2:Nat→Prop) (hB:ct w W 196 (gG rs ij ds g)) (hr:cD 66 rs [r] w V1) (ha:cD 55 ij [a] w V2):Calls au 244 #[((W:Nat):Value),ae af 1] w fun e w'=>e=.returned (((a:Nat):Value))∧w=w':=by
 have hA:=ry w W g rs ij ds r a d0 d1 V2 hB ha
 unfold gG at hB
 obtain⟨b,cap,rfl,hc,hm,hb,hcell⟩:=hr.at (by simp)
 have c0:=hB.cell 0
 go_enter Tryz.func244,Tryz.ntmps244
 go_wp2_with fail
 refine hA.mono ?_
 rintro e w1 ⟨rfl,rfl⟩
 go_wp2_with fail
 go_ret
 exact⟨rfl,rfl⟩
theorem xv (w:World) (W:Nat) (node:Int):Calls au 202 #[((W:Nat):Value),ae af node,ai none 0 0] w fun e w'=>e=.returned (.tuple #[])∧w=w':=by
 go_enter Tryz.func202,Tryz.ntmps202
 go_wp2_with fail
 go_loopw [12] (fun i wr=>i=ae af 0∧w=wr) (fun _ _=>0)
 case atStart=>exact⟨rfl,rfl⟩
 case round=>
  obtain⟨rfl,rfl⟩:=hrel
  go_wp2_with fail
  go_end0
  exact⟨rfl,rfl⟩
theorem uJ (w:World) (W:Nat) (q:o5) (L:List Ne.Lb) (RT AT:cg) (iR:Framed RT) (kP:Framed AT) (from_ to:Int) (ms:List Value) (hms:ms.length=18) (h1:ms.all (fun v=>v.oneCell')=true) (u:Value) (B:Nat) (hO:dA B (ae af to :: ms) u w) (bs:List UInt8) (hbs:bs.length≤1048576) (du:∀ w1,Grow w w1→Calls au 252 #[.agg ms.toArray] w1 fun en w'=>∃ v,en=.returned (.tuple #[v,ae af 0])∧Grow w1 w'∧bZ bs v w') (hf:Ne.ic 2 from_=true) (ht:Ne.ic 2 to=true) (hl:L.length<64) (V:Nat→Prop) (hM:Many (cS W q L RT AT) w V) (hV:∀ b,V b→b<w.heap.size) :
 Calls au 202 #[((W:Nat):Value),ae af from_,u] w fun e w'=>e=.returned (.tuple #[])∧Many (cS W q (L++[(from_,to,bs)]) RT AT) w' (Ext V w w')∧Just V w w':=by
 have k250:∀ (vs:Array Value) (w:World),(callFunc 250 vs).run au w=.ok (.enter 250 vs) w:=fun vs w=>by go_simp
 obtain⟨Uo,O7,_⟩:=hO
 obtain⟨gr,cap,rfl,_,hgr,hcap,_,hrange⟩:=O7.range al
 have hF:=ci W q L RT AT iR kP
 go_enter Tryz.func202,Tryz.ntmps202
 go_wp2_with fail
 go_loopw [12] (fun i wr=>(i=ae af 0∧w=wr)∨(i=ae af 1∧Many (cS W q (L++[(from_,to,bs)]) RT AT) wr (Ext V w wr)∧Just V w wr)) (fun i _=>1-(intOf i).toNat)
 case atStart=>exact .inl ⟨rfl,rfl⟩
 case round=>
  rcases hrel with ⟨rfl,rfl⟩|⟨rfl,GD,sI⟩
  ·go_wp2_with (refine eL rfl 270 _ rfl gr 0 rfl (ae af to :: ms) hrange Tryz.underlying270 (by rw[aL,hms];kernel_rfl) ?_;refine stay ?_)
   refine bV ?_
   go_wp2_with (refine cK rfl (uw _ _ _ rfl) ?_;intro y w2 hB2 hg2 hz2 hs2;refine stay ?_)
   refine bV ?_
   go_wp2_with (refine ch rfl 270 _ _ rfl _ rfl (ae af to :: ms) rfl hB2 (by rw[aL,hms];rfl) (by rw[List.all_cons,h1];rfl) (by rw[show (ae af to :: ms).toArray.size=19 by simp[hms]];kernel_rfl) ?_;intro w3 hB3 hj3 hs3;refine stay ?_)
   refine bV ?_
   have hg3:Grow w w3:=Below.trans hg2 (hj3.below (B:=w.heap.size) (fun b hb=>by have e2:b=y:=hb;omega) al)
   have xq:=du w3 hg3
   go_wp2_with (refine eL rfl 73 _ rfl y 1 rfl ms (hB3.range 1 ms rfl) Tryz.underlying73 (by rw[hms];kernel_rfl) ?_)
   refine xq.mono ?_
   rintro e w4 ⟨v,rfl,hg4,⟨A,m,c,rfl,hBb,hmc,hcm⟩⟩
   have E7:=hg3.trans hg4
   have ev:Solo (cB V w4) (Many (cS W q L RT AT)) w4:=Solo.begin_ (Many.framed _ hF w w4 V hM fun b hb=>E7.block b (hV b hb)) fun b hb=>aA (hV b hb) E7.size
   have Lc:∀ b,V b→b<w4.heap.size:=fun b hb=>aA (hV b hb) E7.size
   have hw4:=ev.blk 0 rfl
   unfold gG at hw4
   have hy4:=hB3.grow hg4
   have hbl:=hBb.len
   go_wp2_with fail
   refine bL 9 35 [] rfl rfl am am am ?_ ?_
   ·intro x hx φ he
    cases hx
   intro ops' A' K' T hops hA' hK hT
   refine bP 24 (((W:Nat):Value)) ?_
   refine bI 25 (.tmp 24) (((W:Nat):Value)) (((W:Nat):Value)) (fun ρ h1 kk w5 (hg5:Grow _ w5) hb hf=>by go_simp) ?_
   refine bI 26 (.tmp 25) (((W:Nat):Value)) (.pointer (some ⟨W,3,none⟩)) (fun ρ h1 kk w5 (hg5:Grow _ w5) hb hf=>by go_simp) ?_
   refine bI 27 (.tmp 26) (.pointer (some ⟨W,3,none⟩)) (.pointer (some ⟨q.g,0,none⟩)) (fun ρ h1 kk w5 (hg5:Grow _ w5) hb hf=>by have c:=(hw4.grow hg5).cell 3;go_simp) ?_
   refine bP 28 (ae af from_) ?_
   refine bI 29 (.tmp 7) (((y:Nat):Value)) (((y:Nat):Value)) (fun ρ h1 kk w5 (hg5:Grow _ w5) hb hf=>by go_simp) ?_
   refine bI 30 (.tmp 29) (((y:Nat):Value)) (ae af to) (fun ρ h1 kk w5 (hg5:Grow _ w5) hb hf=>by have c:=(hy4.grow hg5).cell 0;go_simp) ?_
   refine bP 31 (.slice A m c) ?_
   refine mP 32 aj ak (bO aj) (by rw[hK.out];rfl) aj (.tmp 28) (.tmp 30) (.tmp 31) (ae af from_) (ae af to) (.slice A m c) aj aj aj (.agg #[ae af from_,ae af to,.slice A m c]) (fun ρ h1 h2 h3 kk w5 (hg5:Grow _ w5) hb hf=>by go_simp) ?_
   refine ce (fun _ _ w5 (hg5:Grow _ w5) _ bR=>hT _ _ ?_)
   clear hops hA' hK hT
   simp only[cj,Act.put,aw,ay,az,ax,aB]
   clear bR
   have hS5:=ev.grows hF hg5
   have O8:Ne.Bj w5 (fun b=>b<w5.heap.size) A m bs:=In.grow (V:=fun b=>b<w5.heap.size) ⟨hBb.1,fun hn=>by
    obtain⟨ad,e1,h2,h3⟩:=hBb.2 hn
    exact⟨ad,e1,aA h2 hg5.size,h2,h3⟩⟩ hg5
   have hSd:=hS5.at_ 4 rfl hF (Ne.FP w5 _ q.g 2 L (fun _=>false) from_ to A m c bs O8 hmc hcm al hf ht hl)
   go_wp2_with fail
   refine hSd.mono ?_
   rintro e w6 ⟨rfl,fI,eC⟩
   have eC:Solo (cB V w4) (Many (cS W q (L++[(from_,to,bs)]) RT AT)) w6:=eC
   obtain⟨r1,r2⟩:=Solo.done eC ((Just.bJ hg5).trans fI) Lc
   have hs4:=E7.size
   have r3:=Many.wide _ w6 (Ext V w4 w6) (Ext V w w6) (fun b hb=>hb.elim .inl fun h => .inr ⟨by have:=h.1;omega,h.2⟩) r1
   have r4:=(Just.bJ (V:=V) E7).trans r2
   go_wp2_with fail
   go_roundw
   case rel=>exact .inr ⟨rfl,r3,r4⟩
   case measure=>simp[intOf]
  ·go_wp2_with fail
   go_end0
   exact⟨rfl,GD,sI⟩
theorem rz (ts:Array TypeId) (ty:TypeId) (vs:Array Value):Builtin.delete_ ts ty vs=Builtin.delete_ ts 0 vs:=rfl
theorem xw (w:World) (g:Nat) (s:ByteArray) (x:Nat) (last:Int):Turns au 285 #[((g:Nat):Value),ae af 1] (fun e=>e=.returned (.bool true)) (Q.ck g [(1,[(s,x)])] last) (Q.ck g [] last) w:=Q.Fj w g [(1,[(s,x)])] last 1 true [] ⟨rfl,rfl⟩
theorem FR (w:World) (p:uq) (node:Nat) (now tag last:Int) (n:Int) (bs:List UInt8) (k:Nat) (ep:Int) (sl:Value) (fJ:List Dl) (k0:Int) (cu:Value) (s:ByteArray) (x:Nat) (tv:Value) (hn:0≤n∧n≤1099511627776) (hbs:bs.length≤1000000) (V:Nat→Prop) (hM:Many (iW p (cP p.st p.z ep sl fJ [(1,[(s,x)])] k0 cu) node 1 now tag last [] [(((node:Int),0,1),tv)] n bs k) w V) (hV:∀ b,V b→b<w.heap.size) :
 Calls au 306 #[.pointer (some ⟨p.a,0,none⟩),.agg #[ae af (node:Int),ae af 0,ae af 1]] w fun e w'=>e=.returned (.tuple #[])∧Many (iW p (cP p.st p.z ep sl fJ [] k0 cu) node 1 now tag last [] [] (n+1) (bs++frame (eI 5 [0,1])) k) w' (Ext V w w')∧Just V w w':=by
 have O9:∀ (vs:Array Value) (w:World),(callFunc 347 vs).run au w=.ok (.enter 347 vs) w:=fun vs w=>by go_simp
 have Pv:∀ (vs:Array Value) (w:World),(callFunc 71 vs).run au w=.ok (.enter 71 vs) w:=fun vs w=>by go_simp
 have k285:∀ (vs:Array Value) (w:World),(callFunc 285 vs).run au w=.ok (.enter 285 vs) w:=fun vs w=>by go_simp
 have hsl:=iL 5 [0,1] ak (by simp)
 have hfl:=eS (eI 5 [0,1]) (by simp only[aL,bu] at hsl;omega)
 simp only[aL,bu] at hsl
 have hS0:=Solo.begin_ hM hV
 have hS0:Solo (cB V w) (Many (eR p.st p.z ep sl fJ [(1,[(s,x)])] k0 cu++[Cell p.a 143 (ib p node 1 now tag last),cJ k_ p.bK [],cJ mL p.bT [(((node:Int),0,1),tv)],cU p.x p.d n bs k])) w:=Solo.flat hS0
 have dX:=bW (cV p.st p.z ep sl fJ [(1,[(s,x)])] k0 cu) (cE p cW cW.framed node 1 now tag last [] [(((node:Int),0,1),tv)] n bs k).tail
 have hga:=bN w (.cells #[ae af (node:Int),ae af 0,ae af 1] 26)
 have du:=ct.made w 26 #[ae af (node:Int),ae af 0,ae af 1]
 obtain⟨y,HY⟩:∃ y:Nat,Hid (y=w.heap.size):=⟨_,rfl⟩
 obtain⟨wa,dq⟩:∃ wa:World,Hid (wa=w.alloc (.cells #[ae af (node:Int),ae af 0,ae af 1] 26)):=⟨_,rfl⟩
 rw[←dq.out] at hga du
 rw[←HY.out] at du
 have ez:=hS0.join dX hga (R:=Cell y 26 #[ae af (node:Int),ae af 0,ae af 1]) (U:=fun b=>b=y) ⟨rfl,du⟩ (fun b hb=>by have:=HY.out;have:=du.lt;omega)
 have eP:=dX.cons (Cell.framed y 26 #[ae af (node:Int),ae af 0,ae af 1])
 have kf:=ez.blk 0 rfl
 have ha1:=ez.blk 7 rfl
 unfold ib at ha1
 clear du
 go_enter Tryz.func306,Tryz.ntmps306
 go_wp2_with fail
 rw[←dq.out,←HY.out]
 refine bL 9 52 [(8,.inr (fun _=>bZ (eI 5 [0,1])))] rfl rfl am am am ?_ ?_
 ·intro x hx φ he
  simp only[aF,aE,or_false] at hx
  rcases hx with rfl<;>cases he
  all_goals first|exact ca (cn _)|fail
 intro ops' A' K' T hops hA' hK hT
 refine bP 6 (.pointer (some ⟨p.a,0,none⟩)) ?_
 refine bQ 7 (.tmp 6) (.pointer (some ⟨p.a,0,none⟩)) (.pointer (some ⟨p.a,0,none⟩)) ?_
 refine bQ 8 (.tmp 7) (.pointer (some ⟨p.a,0,none⟩)) (.pointer (some ⟨p.a,2,none⟩)) ?_
 refine bI 9 (.tmp 8) (.pointer (some ⟨p.a,2,none⟩)) (.pointer (some ⟨p.x,0,none⟩)) (fun ρ h1 kk w1 (hg:Grow _ w1) hb hf=>by have c:=(ha1.grow hg).cell 2;go_simp) ?_
 refine bQ 10 (.tmp 3) (((y:Nat):Value)) (.pointer (some ⟨y,1,none⟩)) ?_
 refine bI 11 (.tmp 10) (.pointer (some ⟨y,1,none⟩)) (ae af 0) (fun ρ h1 kk w1 (hg:Grow _ w1) hb hf=>by have c:=(kf.grow hg).cell 1;go_simp) ?_
 refine bQ 12 (.tmp 3) (((y:Nat):Value)) (.pointer (some ⟨y,2,none⟩)) ?_
 refine bI 13 (.tmp 12) (.pointer (some ⟨y,2,none⟩)) (ae af 1) (fun ρ h1 kk w1 (hg:Grow _ w1) hb hf=>by have c:=(kf.grow hg).cell 2;go_simp) ?_
 refine cH 14 aj ak (bO aj) (fun _=>bZ (eI 5 [0,1])) (by rw[hK.out];rfl) 347 _ _ aj [ae af 0,ae af 1] aj O9 (fun kk w1 (hg:Grow _ w1) hb hf=>cr (φ:=fun _=>bZ (eI 5 [0,1])) aj (by exact zF w1 0 1 al al)) (fun v14=>?_)
 refine ce (fun _ _ w1 (hg:Grow _ w1) _ bR=>hT _ _ ?_)
 clear hops hA' hK hT
 simp only[cj,Act.put,aw,ay,az,ax,aB]
 have hI1:bZ (eI 5 [0,1]) v14 w1:=bR.1
 clear bR
 have hS1:=ez.grows eP hg
 have J1:=Just.bJ (V:=cB V w) (hga.trans hg)
 have hC:=hS1.at_ 10 rfl eP (lW w1 p.x p.d n bs (eI 5 [0,1]) k v14 hI1 hn al al)
 go_wp2_with fail
 refine hC.mono ?_
 rintro en w2 ⟨rfl,hj2,hS2⟩
 obtain⟨b2,HB2⟩:∃ b2:List UInt8,Hid (b2=bs++frame (eI 5 [0,1])):=⟨_,rfl⟩
 rw[←HB2.out] at hS2
 have hS2:Solo (cB V w) (Many (Cell y 26 #[ae af (node:Int),ae af 0,ae af 1] :: (eR p.st p.z ep sl fJ [(1,[(s,x)])] k0 cu++[Cell p.a 143 (ib p node 1 now tag last),cJ k_ p.bK [],cJ mL p.bT [(((node:Int),0,1),tv)],cU p.x p.d (n+1) b2 k]))) w2:=hS2
 have hF2:=(bW (cV p.st p.z ep sl fJ [(1,[(s,x)])] k0 cu) (cE p cW cW.framed node 1 now tag last [] [(((node:Int),0,1),tv)] (n+1) b2 k).tail).cons (Cell.framed y 26 #[ae af (node:Int),ae af 0,ae af 1])
 have J2:=J1.trans hj2
 have hY2:=hS2.blk 0 rfl
 have Ld:=hS2.blk 1 rfl
 have ha2:=hS2.blk 7 rfl
 unfold ov at Ld
 unfold ib at ha2
 go_wp2_with fail
 refine bL 12 52 [] rfl rfl am am am ?_ ?_
 ·intro x hx φ he
  cases hx
 intro ops' A' K' T hops hA' hK hT
 refine bP 16 (.pointer (some ⟨p.a,0,none⟩)) ?_
 refine bI 17 (.tmp 16) (.pointer (some ⟨p.a,0,none⟩)) (.pointer (some ⟨p.a,0,none⟩)) (fun ρ h1 kk w3 (hg3:Grow _ w3) hb hf=>by go_simp) ?_
 refine bI 18 (.tmp 17) (.pointer (some ⟨p.a,0,none⟩)) (.pointer (some ⟨p.a,3,none⟩)) (fun ρ h1 kk w3 (hg3:Grow _ w3) hb hf=>by go_simp) ?_
 refine bI 19 (.tmp 18) (.pointer (some ⟨p.a,3,none⟩)) (.pointer (some ⟨p.st,0,none⟩)) (fun ρ h1 kk w3 (hg3:Grow _ w3) hb hf=>by have c:=(ha2.grow hg3).cell 3;go_simp) ?_
 refine bI 20 (.tmp 3) (((y:Nat):Value)) (.pointer (some ⟨y,1,none⟩)) (fun ρ h1 kk w3 (hg3:Grow _ w3) hb hf=>by go_simp) ?_
 refine bI 21 (.tmp 20) (.pointer (some ⟨y,1,none⟩)) (ae af 0) (fun ρ h1 kk w3 (hg3:Grow _ w3) hb hf=>by have c:=(hY2.grow hg3).cell 1;go_simp) ?_
 refine bI 22 (.tmp 19) (.pointer (some ⟨p.st,0,none⟩)) (.pointer (some ⟨p.st,0,none⟩)) (fun ρ h1 kk w3 (hg3:Grow _ w3) hb hf=>by go_simp) ?_
 refine bI 23 (.tmp 22) (.pointer (some ⟨p.st,0,none⟩)) (.pointer (some ⟨p.st,3,none⟩)) (fun ρ h1 kk w3 (hg3:Grow _ w3) hb hf=>by go_simp) ?_
 refine cm 24 (.tmp 23) (.tmp 21) (.pointer (some ⟨p.st,3,none⟩)) (ae af 0) (.pointer (some ⟨p.st,3,none⟩)) (fun ρ h1 h2 kk w3 (hg3:Grow _ w3) hb hf=>by go_simp) ?_
 refine bI 25 (.tmp 24) (.pointer (some ⟨p.st,3,none⟩)) (.pointer (some ⟨p.z.a,0,none⟩)) (fun ρ h1 kk w3 (hg3:Grow _ w3) hb hf=>by have c:=(Ld.grow hg3).cell 3;go_simp) ?_
 refine bI 26 (.tmp 3) (((y:Nat):Value)) (.pointer (some ⟨y,2,none⟩)) (fun ρ h1 kk w3 (hg3:Grow _ w3) hb hf=>by go_simp) ?_
 refine bI 27 (.tmp 26) (.pointer (some ⟨y,2,none⟩)) (ae af 1) (fun ρ h1 kk w3 (hg3:Grow _ w3) hb hf=>by have c:=(hY2.grow hg3).cell 2;go_simp) ?_
 refine ce (fun _ _ w3 (hg3:Grow _ w3) _ bR=>hT _ _ ?_)
 clear hops hA' hK hT
 simp only[cj,Act.put,aw,ay,az,ax,aB]
 clear bR
 have dO:=hS2.grows hF2 hg3
 have J3:=J2.trans (Just.bJ hg3)
 have hQ:=dO.at_ 3 rfl hF2 (xw w3 p.z.a s x k0)
 go_wp2_with fail
 refine hQ.mono ?_
 rintro en w4 ⟨rfl,ko,ev⟩
 have ev:Solo (cB V w) (Many (Cell y 26 #[ae af (node:Int),ae af 0,ae af 1] :: (eR p.st p.z ep sl fJ [] k0 cu++[Cell p.a 143 (ib p node 1 now tag last),cJ k_ p.bK [],cJ mL p.bT [(((node:Int),0,1),tv)],cU p.x p.d (n+1) b2 k]))) w4:=ev
 have qc:=(bW (cV p.st p.z ep sl fJ [] k0 cu) (cE p cW cW.framed node 1 now tag last [] [(((node:Int),0,1),tv)] (n+1) b2 k).tail).cons (Cell.framed y 26 #[ae af (node:Int),ae af 0,ae af 1])
 have J4:=J3.trans ko
 have qX:=ev.blk 0 rfl
 have Ez:=ev.blk 7 rfl
 unfold ib at Ez
 go_wp2_with fail
 refine bL 5 52 [] rfl rfl am am am ?_ ?_
 ·intro x hx φ he
  cases hx
 intro ops' A' K' T hops hA' hK hT
 refine bP 29 (.pointer (some ⟨p.a,0,none⟩)) ?_
 refine bI 30 (.tmp 29) (.pointer (some ⟨p.a,0,none⟩)) (.pointer (some ⟨p.a,0,none⟩)) (fun ρ h1 kk w5 (hg5:Grow _ w5) hb hf=>by go_simp) ?_
 refine bI 31 (.tmp 30) (.pointer (some ⟨p.a,0,none⟩)) (.pointer (some ⟨p.a,7,none⟩)) (fun ρ h1 kk w5 (hg5:Grow _ w5) hb hf=>by go_simp) ?_
 refine bI 32 (.tmp 31) (.pointer (some ⟨p.a,7,none⟩)) (.map (some p.bT)) (fun ρ h1 kk w5 (hg5:Grow _ w5) hb hf=>by have c:=(Ez.grow hg5).cell 7;go_simp) ?_
 refine bI 33 (.tmp 3) (((y:Nat):Value)) (.agg #[ae af (node:Int),ae af 0,ae af 1]) (fun ρ h1 kk w5 (hg5:Grow _ w5) hb hf=>by have c0:=(qX.grow hg5).cell 0;have c1:=(qX.grow hg5).cell 1;have c2:=(qX.grow hg5).cell 2;go_simp) ?_
 refine ce (fun _ _ w5 (hg5:Grow _ w5) _ bR=>hT _ _ ?_)
 clear hops hA' hK hT
 simp only[cj,Act.put,aw,ay,az,ax,aB]
 clear bR
 have hS5:=ev.grows qc hg5
 have J5:=J4.trans (Just.bJ hg5)
 obtain⟨w6,hrun,eC,fI⟩:=hS5.qb (φ:=fun w'=>∀ ty,(Builtin.delete_ #[140,26] ty #[.map (some p.bT),.agg #[ae af (node:Int),ae af 0,ae af 1]]).run au w5=.ok (.tuple #[]) w') 9 rfl qc (fun U hU ey=>by
  obtain⟨w',h1,h2,h3⟩:=cJ.del Iy (t:=140) (et:=378) am hU ((node:Int),0,1) 0
  rw[tG] at h2
  exact⟨w',fun ty=>by rw[rz];exact h1,h2,h3.imp fun b hb=>hb▸hU.1⟩)
 have eC:Solo (cB V w) (Many (Cell y 26 #[ae af (node:Int),ae af 0,ae af 1] :: (eR p.st p.z ep sl fJ [] k0 cu++[Cell p.a 143 (ib p node 1 now tag last),cJ k_ p.bK [],cJ mL p.bT [],cU p.x p.d (n+1) b2 k]))) w6:=eC
 have xm:=(bW (cV p.st p.z ep sl fJ [] k0 cu) (cE p cW cW.framed node 1 now tag last [] [] (n+1) b2 k).tail).cons (Cell.framed y 26 #[ae af (node:Int),ae af 0,ae af 1])
 have J6:=J5.trans fI
 have IH:=eC.blk 7 rfl
 unfold ib at IH
 have k8:=IH.cell 8
 obtain⟨cl,hcl⟩:∃ cl,w6.heap[p.bK]?=some (.map #[] cl):=by
  obtain⟨U,hU,_⟩:=eC.see 8 rfl
  exact cJ.empty hU
 have RB:=cJ.Ai (P:=au) (t:=141) (kt:=2) (et:=26) am hcl
 have o1:=bN w6 (.mapIter (some p.bK) cl #[] cl)
 have Lf:(w6.alloc (.mapIter (some p.bK) cl #[] cl)).heap[w6.heap.size]?=some (.mapIter (some p.bK) cl #[] cl):=heap_alloc_new w6 _
 have hbl:p.bK<w6.heap.size:=(Array.getElem?_eq_some_iff.1 hcl).1
 have Lg:(w6.alloc (.mapIter (some p.bK) cl #[] cl)).heap[p.bK]?=some (.map #[] cl):=(o1.block p.bK hbl).trans hcl
 obtain⟨w7,PO⟩:∃ w7:World,Hid (w7=w6.alloc (.mapIter (some p.bK) cl #[] cl)):=⟨_,rfl⟩
 rw[←PO.out] at o1 Lf Lg
 have gB:=eC.grows xm o1
 obtain⟨r1,r2⟩:=Solo.done (Solo.eG gB.drop1) (J6.trans (Just.bJ o1)) hV
 rw[HB2.out] at r1
 obtain⟨z7,PP⟩:∃ z7:Nat,Hid (z7=w6.heap.size):=⟨_,rfl⟩
 rw[←PP.out] at Lf
 have hNx:=fun ty=>cJ.Dy (P:=au) ty Lf Lg
 rw[←PO.out,←PP.out] at RB
 go_wp2_with fail
 go_loopw [] (fun wr=>w7=wr) (fun _=>0)
 case atStart=>exact rfl
 case round=>
  obtain rfl:=hrel
  go_wp2_with fail
  go_end0
  exact⟨rfl,r1,r2⟩
end Go.Proofs.YtmijcbfgfkeodaaGreatDoor
end
