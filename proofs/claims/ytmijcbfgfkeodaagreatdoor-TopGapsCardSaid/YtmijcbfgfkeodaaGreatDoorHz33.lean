/- Nedlv, Wd1, Wd2. -/
import Derived.Test.YtmijcbfgfkeodaaGreatDoorHz32
set_option linter.all false
set_option maxRecDepth 100000
section
namespace Go.Proofs.YtmijcbfgfkeodaaGreatDoor.Ne
open Go.RowKit Go.Hop
theorem Deliver_no (w:World) (g:Nat) (nodes:Int) (l:List Lb) (P:Nat→Bool) (i:Int) (h:nodeB (l.length:Int) i=false) :
 Turns Tryz.prog 246 #[.pointer (some ⟨g,0,none⟩),.int .i64 i] (fun e=>e=.returned (.tuple #[.agg #[.int .i64 0,.int .i64 0,.slice none 0 0],.int .i64 23])) (NetAt g nodes l P) (NetAt g nodes l P) w:=by
 intro V hQ hV
 obtain⟨A,c,q,HQ,HL,h64,hN,hInv,hB,hI,hnc,hcm⟩:=hQ.lts
 have hq:nodeB (q.length:Int) i=false:=by rw[←HL.out];exact h
 have hga:Grow w (w.alloc (.cells #[.int .i64 0,.int .i64 0,.slice none 0 0] 211)):=(Below.refl w.heap.size w).alloc (Nat.le_refl _) _
 have hBx0:=Blk.made w 211 #[.int .i64 0,.int .i64 0,.slice none 0 0]
 obtain⟨x,HX⟩:∃ x:Nat,Hid (x=w.heap.size):=⟨_,rfl⟩
 obtain⟨wa,HA⟩:∃ wa:World,Hid (wa=w.alloc (.cells #[.int .i64 0,.int .i64 0,.slice none 0 0] 211)):=⟨_,rfl⟩
 rw[←HA.out] at hga
 have hBx:Blk wa x 211 #[.int .i64 0,.int .i64 0,.slice none 0 0]:=by rw[HA.out,HX.out];exact hBx0
 have f0:=hBx.frozen 0
 have f1:=hBx.frozen 1
 have f2:=hBx.frozen 2
 have x0:=hBx.cell 0
 have x1:=hBx.cell 1
 have x2:=hBx.cell 2
 have hxw:w.heap.size≤x:=by have:=HX.out;omega
 go_enter Tryz.func246,Tryz.ntmps246
 go_wp2_with fail
 rw[←HA.out,←HX.out]
 go_wp2_with (go_at_call 248;refine (there_any wa g nodes _ _ _ _ _ (hB.grow hga)).mono ?_;rintro e w2 ⟨rfl,hw2⟩;subst hw2)
 have hE:=((hBx.put 0 (.int .i64 0)).put 1 (.int .i64 0)).put 2 (.slice none 0 0)
 have e0:=hE.cell 0
 have e1:=hE.cell 1
 have e2:=hE.cell 2
 have hj:Just (fun b=>b=x) wa (((wa.setCell ⟨x,0,none⟩ (.int .i64 0)).setCell ⟨x,1,none⟩ (.int .i64 0)).setCell ⟨x,2,none⟩ (.slice none 0 0)):=
  (((Just.of_grow (Grow.refl wa)).put (V:=fun b=>b=x) rfl 0 _).put rfl 1 _).put rfl 2 _
 have hgw:Grow w (((wa.setCell ⟨x,0,none⟩ (.int .i64 0)).setCell ⟨x,1,none⟩ (.int .i64 0)).setCell ⟨x,2,none⟩ (.slice none 0 0)):=Below.trans hga (hj.below (B:=w.heap.size) (fun b hb=>by rw[hb];exact hxw) hga.size)
 refine bodyPost_ret (v := .tuple #[.agg #[.int .i64 0,.int .i64 0,.slice none 0 0],.int .i64 23]) (by simp[results,Tryz.results246,go_sem,e0,e1,e2]) rfl ⟨rfl,NetAt.wide (NetAt.framed _ _ _ _ w _ V hQ fun b hb=>hgw.block b (hV b hb)) (fun _ => .inl),Just.of_grow hgw⟩
def Taken (g:Nat) (nodes:Int) (l:List Lb) (P:Nat→Bool) (bs:List UInt8) (i:Option Addr×Nat×Nat):Thing:=fun w V=>NetAt g nodes l P w V∧BIn w V i.1 i.2.1 bs∧i.2.1≤i.2.2∧i.2.2≤maxLen
theorem Taken.framed (g:Nat) (nodes:Int) (l:List Lb) (P:Nat→Bool) (bs:List UInt8) (i:Option Addr×Nat×Nat):Framed (Taken g nodes l P bs i):=fun w w' V h hk=>
 ⟨NetAt.framed g nodes l P w w' V h.1 hk,In.keep h.2.1 fun b hb _=>hk b hb,h.2.2⟩
theorem net_at {g:Nat} {nodes:Int} {l:List Lb} {P:Nat→Bool} {q:List Lt} (hql:q.map Lt.abs=l) (hN:1≤nodes∧nodes≤8) (hInv:∀ a∈l,InN nodes a) {i:Nat} (hi:i<q.length) :
 ∃ (fa ta:Nat) (hl:i<l.length),q[i].f=(fa:Int)∧q[i].t=(ta:Int)∧fa<8∧ta<8∧l[i]=((fa:Int),(ta:Int),q[i].bs):=by
 subst hql
 have hl:i<(q.map Lt.abs).length:=by rw[List.length_map];exact hi
 have h0:=hInv _ (List.getElem_mem hl)
 rw[List.getElem_map] at h0
 obtain⟨⟨a1,a2⟩,⟨a3,a4⟩⟩:=h0
 have a1:0≤q[i].f:=a1
 have a2:q[i].f<nodes:=a2
 have a3:0≤q[i].t:=a3
 have a4:q[i].t<nodes:=a4
 refine⟨q[i].f.toNat,q[i].t.toNat,hl,by omega,by omega,by omega,by omega,?_⟩
 rw[List.getElem_map]
 unfold Lt.abs
 rw[show ((q[i].f.toNat:Nat):Int)=q[i].f by omega,show ((q[i].t.toNat:Nat):Int)=q[i].t by omega]
theorem Deliver_cut (w:World) (g:Nat) (nodes:Int) (l:List Lb) (P:Nat→Bool) (i:Nat) (h:i<l.length) (hp0:P (l[i].1.toNat*8+l[i].2.1.toNat)=true) :
 Turns Tryz.prog 246 #[.pointer (some ⟨g,0,none⟩),.int .i64 (i:Int)] (fun e=>e=.returned (.tuple #[.agg #[.int .i64 0,.int .i64 0,.slice none 0 0],.int .i64 26])) (NetAt g nodes l P) (NetAt g nodes l P) w:=by
 intro V hQ hV
 have hQ':=hQ
 obtain⟨h1,v,q,R,D,hql,h64,hN,hInv,hB,hRow,h6,h7,h8⟩:=hQ
 obtain⟨A,c,rfl,hI,hnc,hcm⟩:=hRow.in_
 have hi:i<q.length:=by rw[←hql,List.length_map] at h;exact h
 have hq:nodeB (q.length:Int) (i:Int)=true:=nodeB_yes (by omega)
 obtain⟨fa,ta,_,ef,et,hfa,hta,hab⟩:=net_at (g:=g) (P:=P) hql hN hInv hi
 rw[hab] at hp0
 have hp:P (fa*8+ta)=true:=by simpa using hp0
 have hgR:¬ R g:=fun h=>(h7 g h).2.1 rfl
 obtain⟨ad,hiq,rfl,_,_,e0,e12⟩:=hI.rec_ (by omega) lt_len hi
 have hin:=h6 _ (List.getElem_mem hiq)
 have e0:=e0 _ rfl
 have e1:=e12 0 _ rfl
 have e2:=e12 1 _ rfl
 have HQL:=Lib.hid hql
 clear e12 hab hp0 hql
 rw[ef] at e0
 rw[et] at e1
 have hbl:BIn w D q[i].A q[i].m q[i].bs:=hin.bs
 have hble:=hin.le
 have hbmx:=hin.max
 clear ef et hin
 generalize q[i].bs=bs at hbl
 generalize q[i].A=Ab at hbl e2
 generalize q[i].m=mb at hbl e2 hble
 generalize q[i].c=cb at e2 hble hbmx
 have hga:Grow w (w.alloc (.cells #[.int .i64 0,.int .i64 0,.slice none 0 0] 211)):=(Below.refl w.heap.size w).alloc (Nat.le_refl _) _
 have hBx0:=Blk.made w 211 #[.int .i64 0,.int .i64 0,.slice none 0 0]
 obtain⟨x,HX⟩:∃ x:Nat,Hid (x=w.heap.size):=⟨_,rfl⟩
 obtain⟨wa,HA⟩:∃ wa:World,Hid (wa=w.alloc (.cells #[.int .i64 0,.int .i64 0,.slice none 0 0] 211)):=⟨_,rfl⟩
 have hwz:wa.heap.size=x+1:=by rw[HA.out,HX.out];simp
 have fa8:¬ (8:Int)≤(fa:Int):=by omega
 have ta8:¬ (8:Int)≤(ta:Int):=by omega
 rw[←HA.out] at hga
 have hBx:Blk wa x 211 #[.int .i64 0,.int .i64 0,.slice none 0 0]:=by rw[HA.out,HX.out];exact hBx0
 have hxw:w.heap.size≤x:=by have:=HX.out;omega
 have hgb:Grow wa (wa.alloc (.cells #[.int .i64 (fa:Int),.int .i64 (ta:Int),.slice Ab mb cb] 211)):=(Below.refl _ _).alloc (Nat.le_refl _) _
 have hBy0:=Blk.made wa 211 #[.int .i64 (fa:Int),.int .i64 (ta:Int),.slice Ab mb cb]
 obtain⟨y,HY⟩:∃ y:Nat,Hid (y=wa.heap.size):=⟨_,rfl⟩
 obtain⟨wb,HWB⟩:∃ wb:World,Hid (wb=wa.alloc (.cells #[.int .i64 (fa:Int),.int .i64 (ta:Int),.slice Ab mb cb] 211)):=⟨_,rfl⟩
 rw[←HWB.out] at hgb
 have hBy:Blk wb y 211 #[.int .i64 (fa:Int),.int .i64 (ta:Int),.slice Ab mb cb]:=by rw[HWB.out,HY.out];exact hBy0
 have hBxb:=hBx.grow hgb
 have hgab:=hga.trans hgb
 have hBq:=hB.grow hgab
 have ce0:=(hga.cell (p:=ad.add (i*3)) (by rw[block_add];assumption)).trans e0
 have ce1:=(hga.cell (p:=⟨(ad.add (i*3)).block,(ad.add (i*3)).off+1,none⟩) (show (ad.add (i*3)).block<_ by rw[block_add];assumption)).trans e1
 have ce2:=(hga.cell (p:=⟨(ad.add (i*3)).block,(ad.add (i*3)).off+2,none⟩) (show (ad.add (i*3)).block<_ by rw[block_add];assumption)).trans e2
 have c1:wa.cell? ⟨g,1,none⟩=some (.slice (some ad) q.length c):=(hB.grow hga).cell 1
 clear hBx0 hBy0 e0 e1 e2
 go_enter Tryz.func246,Tryz.ntmps246
 go_wp2_with fail
 rw[←HA.out,←HX.out]
 go_wp2_with (go_at_call 248;refine (there_any wa g nodes _ _ _ _ _ (hB.grow hga)).mono ?_;rintro e w2 ⟨rfl,hw2⟩;subst hw2)
 have hxy:x+1=y:=by rw[HY.out,hwz]
 rw[hxy,←HWB.out]
 have hyw:w.heap.size≤y:=by omega
 clear ce0 ce1 ce2 c1 hxy hwz
 refine wp_region_flow 10 42 [] rfl rfl (by kernel_rfl) (by kernel_rfl) (by kernel_rfl) ?_ ?_
 ·intro x hx φ he
  cases hx
 intro ops' A' K' T hops hA' hK hT
 refine fl_mvN 19 (.pointer (some ⟨g,0,none⟩)) ?_
 refine fl_op1G 20 (.tmp 6) (.pointer (some ⟨y,0,none⟩)) (.pointer (some ⟨y,0,none⟩)) ?_
 refine fl_op1N 21 (.tmp 20) (.pointer (some ⟨y,0,none⟩)) (.int .i64 (fa:Int)) (fun ρ h1 kk w1 (hg:Grow _ w1) hb hf=>by have c:=(hBy.grow hg).cell 0;go_simp) ?_
 refine fl_op1G 22 (.tmp 6) (.pointer (some ⟨y,0,none⟩)) (.pointer (some ⟨y,1,none⟩)) ?_
 refine fl_op1N 23 (.tmp 22) (.pointer (some ⟨y,1,none⟩)) (.int .i64 (ta:Int)) (fun ρ h1 kk w1 (hg:Grow _ w1) hb hf=>by have c:=(hBy.grow hg).cell 1;go_simp) ?_
 refine fl_op1G 24 (.tmp 19) (.pointer (some ⟨g,0,none⟩)) (.pointer (some ⟨g,0,none⟩)) ?_
 refine fl_op1G 25 (.tmp 24) (.pointer (some ⟨g,0,none⟩)) (.pointer (some ⟨g,2,none⟩)) ?_
 refine fl_op2N 26 (.tmp 25) (.tmp 21) (.pointer (some ⟨g,2,none⟩)) (.int .i64 (fa:Int)) (.pointer (some ⟨g,2+fa*8,none⟩)) (fun ρ h1 h2 kk w1 (hg:Grow _ w1) hb hf=>by go_simp) ?_
 refine fl_op2N 27 (.tmp 26) (.tmp 23) (.pointer (some ⟨g,2+fa*8,none⟩)) (.int .i64 (ta:Int)) (.pointer (some ⟨g,2+fa*8+ta,none⟩)) (fun ρ h1 h2 kk w1 (hg:Grow _ w1) hb hf=>by go_simp) ?_
 refine fl_op1N 28 (.tmp 27) (.pointer (some ⟨g,2+fa*8+ta,none⟩)) (.bool true) (fun ρ h1 kk w1 (hg:Grow _ w1) hb hf=>by have c:=(hBq.grow hg).cell (2+fa*8+ta);rw[Nat.add_assoc,netc_p _ _ _ (by omega),hp] at c;rw[←Nat.add_assoc] at c;go_simp) ?_
 refine fl_end (fun _ _ w1 (hg:Grow _ w1) _ hfacts=>hT _ _ ?_)
 clear hops hA' hK hT
 simp only[putsL,Act.put,List.setIfInBounds_toArray,List.set_cons_zero,List.set_cons_succ,List.drop_succ_cons,List.drop_zero]
 have hBx1:=hBxb.grow hg
 have f0:=hBx1.frozen 0
 have f1:=hBx1.frozen 1
 have f2:=hBx1.frozen 2
 have x0:=hBx1.cell 0
 have x1:=hBx1.cell 1
 have x2:=hBx1.cell 2
 go_wp2_with fail
 have hE:=((hBx1.put 0 (.int .i64 0)).put 1 (.int .i64 0)).put 2 (.slice none 0 0)
 have e0:=hE.cell 0
 have e1:=hE.cell 1
 have e2:=hE.cell 2
 have hj:Just (fun b=>b=x) w1 (((w1.setCell ⟨x,0,none⟩ (.int .i64 0)).setCell ⟨x,1,none⟩ (.int .i64 0)).setCell ⟨x,2,none⟩ (.slice none 0 0)):=
  (((Just.of_grow (Grow.refl w1)).put (V:=fun b=>b=x) rfl 0 _).put rfl 1 _).put rfl 2 _
 have hgw:Grow w (((w1.setCell ⟨x,0,none⟩ (.int .i64 0)).setCell ⟨x,1,none⟩ (.int .i64 0)).setCell ⟨x,2,none⟩ (.slice none 0 0)):=Below.trans (hgab.trans hg) (hj.below (B:=w.heap.size) (fun b hb=>by rw[hb];exact hxw) (hgab.trans hg).size)
 refine bodyPost_ret (v := .tuple #[.agg #[.int .i64 0,.int .i64 0,.slice none 0 0],.int .i64 26]) (by simp[results,Tryz.results246,go_sem,e0,e1,e2]) rfl ⟨rfl,NetAt.wide (NetAt.framed _ _ _ _ w _ V hQ' fun b hb=>hgw.block b (hV b hb)) (fun _ => .inl),Just.of_grow hgw⟩
theorem Deliver_yes (w:World) (g:Nat) (nodes:Int) (l:List Lb) (P:Nat→Bool) (i:Nat) (h:i<l.length) (hp0:P (l[i].1.toNat*8+l[i].2.1.toNat)=false) :
 ∀ V:Nat→Prop,NetAt g nodes l P w V→(∀ b,V b→b<w.heap.size)→Calls Tryz.prog 246 #[.pointer (some ⟨g,0,none⟩),.int .i64 (i:Int)] w fun e w'=>∃ j:Option Addr×Nat×Nat,e=.returned (.tuple #[.agg #[.int .i64 l[i].1,.int .i64 l[i].2.1,.slice j.1 j.2.1 j.2.2],.int .i64 0])∧Taken g nodes (minus l i) P l[i].2.2 j w' (Ext V w w')∧Just V w w':=by
 intro V hQ hV
 have hQ':=hQ
 obtain⟨h1,v,q,R,D,hql,h64,hN,hInv,hB,hRow,h6,h7,h8⟩:=hQ
 obtain⟨A,c,rfl,hI,hnc,hcm⟩:=hRow.in_
 have hi:i<q.length:=by rw[←hql,List.length_map] at h;exact h
 have hq:nodeB (q.length:Int) (i:Int)=true:=nodeB_yes (by omega)
 obtain⟨fa,ta,_,ef,et,hfa,hta,hab⟩:=net_at (g:=g) (P:=P) hql hN hInv hi
 rw[hab] at hp0 ⊢
 have hp:P (fa*8+ta)=false:=by simpa using hp0
 have hgR:¬ R g:=fun h=>(h7 g h).2.1 rfl
 obtain⟨ad,hiq,rfl,_,_,e0,e12⟩:=hI.rec_ (by omega) lt_len hi
 have hin:=h6 _ (List.getElem_mem hiq)
 have e0:=e0 _ rfl
 have e1:=e12 0 _ rfl
 have e2:=e12 1 _ rfl
 have HQL:=Lib.hid hql
 clear e12 hab hp0 hql
 rw[ef] at e0
 rw[et] at e1
 have hbl:BIn w D q[i].A q[i].m q[i].bs:=hin.bs
 have hble:=hin.le
 have hbmx:=hin.max
 clear ef et hin
 generalize q[i].bs=bs at hbl ⊢
 generalize q[i].A=Ab at hbl e2
 generalize q[i].m=mb at hbl e2 hble
 generalize q[i].c=cb at e2 hble hbmx
 have hga:Grow w (w.alloc (.cells #[.int .i64 0,.int .i64 0,.slice none 0 0] 211)):=(Below.refl w.heap.size w).alloc (Nat.le_refl _) _
 have hBx0:=Blk.made w 211 #[.int .i64 0,.int .i64 0,.slice none 0 0]
 obtain⟨x,HX⟩:∃ x:Nat,Hid (x=w.heap.size):=⟨_,rfl⟩
 obtain⟨wa,HA⟩:∃ wa:World,Hid (wa=w.alloc (.cells #[.int .i64 0,.int .i64 0,.slice none 0 0] 211)):=⟨_,rfl⟩
 have hwz:wa.heap.size=x+1:=by rw[HA.out,HX.out];simp
 have fa8:¬ (8:Int)≤(fa:Int):=by omega
 have ta8:¬ (8:Int)≤(ta:Int):=by omega
 rw[←HA.out] at hga
 have hBx:Blk wa x 211 #[.int .i64 0,.int .i64 0,.slice none 0 0]:=by rw[HA.out,HX.out];exact hBx0
 have hxw:w.heap.size≤x:=by have:=HX.out;omega
 have hgb:Grow wa (wa.alloc (.cells #[.int .i64 (fa:Int),.int .i64 (ta:Int),.slice Ab mb cb] 211)):=(Below.refl _ _).alloc (Nat.le_refl _) _
 have hBy0:=Blk.made wa 211 #[.int .i64 (fa:Int),.int .i64 (ta:Int),.slice Ab mb cb]
 obtain⟨y,HY⟩:∃ y:Nat,Hid (y=wa.heap.size):=⟨_,rfl⟩
 obtain⟨wb,HWB⟩:∃ wb:World,Hid (wb=wa.alloc (.cells #[.int .i64 (fa:Int),.int .i64 (ta:Int),.slice Ab mb cb] 211)):=⟨_,rfl⟩
 rw[←HWB.out] at hgb
 have hBy:Blk wb y 211 #[.int .i64 (fa:Int),.int .i64 (ta:Int),.slice Ab mb cb]:=by rw[HWB.out,HY.out];exact hBy0
 have hBxb:=hBx.grow hgb
 have hgab:=hga.trans hgb
 have hBq:=hB.grow hgab
 have ce0:=(hga.cell (p:=ad.add (i*3)) (by rw[block_add];assumption)).trans e0
 have ce1:=(hga.cell (p:=⟨(ad.add (i*3)).block,(ad.add (i*3)).off+1,none⟩) (show (ad.add (i*3)).block<_ by rw[block_add];assumption)).trans e1
 have ce2:=(hga.cell (p:=⟨(ad.add (i*3)).block,(ad.add (i*3)).off+2,none⟩) (show (ad.add (i*3)).block<_ by rw[block_add];assumption)).trans e2
 have c1:wa.cell? ⟨g,1,none⟩=some (.slice (some ad) q.length c):=(hB.grow hga).cell 1
 clear hBx0 hBy0 e0 e1 e2
 go_enter Tryz.func246,Tryz.ntmps246
 go_wp2_with fail
 rw[←HA.out,←HX.out]
 go_wp2_with (go_at_call 248;refine (there_any wa g nodes _ _ _ _ _ (hB.grow hga)).mono ?_;rintro e w2 ⟨rfl,hw2⟩;subst hw2)
 have hxy:x+1=y:=by rw[HY.out,hwz]
 rw[hxy,←HWB.out]
 have hyw:w.heap.size≤y:=by omega
 clear ce0 ce1 ce2 c1 hxy hwz
 refine wp_region_flow 10 42 [] rfl rfl (by kernel_rfl) (by kernel_rfl) (by kernel_rfl) ?_ ?_
 ·intro x hx φ he
  cases hx
 intro ops' A' K' T hops hA' hK hT
 refine fl_mvN 19 (.pointer (some ⟨g,0,none⟩)) ?_
 refine fl_op1G 20 (.tmp 6) (.pointer (some ⟨y,0,none⟩)) (.pointer (some ⟨y,0,none⟩)) ?_
 refine fl_op1N 21 (.tmp 20) (.pointer (some ⟨y,0,none⟩)) (.int .i64 (fa:Int)) (fun ρ h1 kk w1 (hg:Grow _ w1) hb hf=>by have c:=(hBy.grow hg).cell 0;go_simp) ?_
 refine fl_op1G 22 (.tmp 6) (.pointer (some ⟨y,0,none⟩)) (.pointer (some ⟨y,1,none⟩)) ?_
 refine fl_op1N 23 (.tmp 22) (.pointer (some ⟨y,1,none⟩)) (.int .i64 (ta:Int)) (fun ρ h1 kk w1 (hg:Grow _ w1) hb hf=>by have c:=(hBy.grow hg).cell 1;go_simp) ?_
 refine fl_op1G 24 (.tmp 19) (.pointer (some ⟨g,0,none⟩)) (.pointer (some ⟨g,0,none⟩)) ?_
 refine fl_op1G 25 (.tmp 24) (.pointer (some ⟨g,0,none⟩)) (.pointer (some ⟨g,2,none⟩)) ?_
 refine fl_op2N 26 (.tmp 25) (.tmp 21) (.pointer (some ⟨g,2,none⟩)) (.int .i64 (fa:Int)) (.pointer (some ⟨g,2+fa*8,none⟩)) (fun ρ h1 h2 kk w1 (hg:Grow _ w1) hb hf=>by go_simp) ?_
 refine fl_op2N 27 (.tmp 26) (.tmp 23) (.pointer (some ⟨g,2+fa*8,none⟩)) (.int .i64 (ta:Int)) (.pointer (some ⟨g,2+fa*8+ta,none⟩)) (fun ρ h1 h2 kk w1 (hg:Grow _ w1) hb hf=>by go_simp) ?_
 refine fl_op1N 28 (.tmp 27) (.pointer (some ⟨g,2+fa*8+ta,none⟩)) (.bool false) (fun ρ h1 kk w1 (hg:Grow _ w1) hb hf=>by have c:=(hBq.grow hg).cell (2+fa*8+ta);rw[Nat.add_assoc,netc_p _ _ _ (by omega),hp] at c;rw[←Nat.add_assoc] at c;go_simp) ?_
 refine fl_end (fun _ _ w1 (hg:Grow _ w1) _ hfacts=>hT _ _ ?_)
 clear hops hA' hK hT
 simp only[putsL,Act.put,List.setIfInBounds_toArray,List.set_cons_zero,List.set_cons_succ,List.drop_succ_cons,List.drop_zero]
 have hg1:=hgab.trans hg
 have hB1:=hB.grow hg1
 have c1:w1.cell? ⟨g,1,none⟩=some (.slice (some ad) q.length c):=hB1.cell 1
 go_wp2_with fail
 refine (delete_any w1 R (some ad) q.length c i _ (hRow.grow hg1) hi (by omega) (lts_one q)).mono ?_
 rintro e w2 ⟨rfl,hR2,hj2⟩
 have hB2:=hj2.blk hB1 hgR
 have f1:=hB2.frozen 1
 have c2:w2.cell? ⟨g,1,none⟩=some (.slice (some ad) q.length c):=hB2.cell 1
 obtain⟨hN3,hJ3⟩:=net_minus h1 HQL.out h64 hN hInv hB1 (fun b hb=>(h6 b hb).grow hg1) h7 h8 hi hg1 hR2 hj2
 have hjs:=just_at w2 g 1 (.slice (some ad) (q.length-1) c)
 have hbl2:BIn (w2.setCell ⟨g,1,none⟩ (.slice (some ad) (q.length-1) c)) D Ab mb bs:=In.just (In.just (In.grow hbl hg1) hj2 fun b hb hr=>(h7 b hr).2.2 hb) hjs fun b hb e=>(h8 b hb).2 e
 have hgx:g≠x:=by have:=hB.lt;omega
 have hgy:g≠y:=by have:=hB.lt;omega
 have hxR:¬ R x:=fun h=>by have:=hV x (h7 x h).1;omega
 have hyR:¬ R y:=fun h=>by have:=hV y (h7 y h).1;omega
 have hBx3:=(hj2.blk (hBxb.grow hg) hxR).far (p:=⟨g,1,none⟩) hgx.symm (.slice (some ad) (q.length-1) c)
 have hBy3:=(hj2.blk (hBy.grow hg) hyR).far (p:=⟨g,1,none⟩) hgy.symm (.slice (some ad) (q.length-1) c)
 have hs3:=setCell_size w2 ⟨g,1,none⟩ (.slice (some ad) (q.length-1) c)
 obtain⟨w3,HW3⟩:∃ w3:World,Hid (w3=w2.setCell ⟨g,1,none⟩ (.slice (some ad) (q.length-1) c)):=⟨_,rfl⟩
 have y0:=hBy3.cell 0
 have y1:=hBy3.cell 1
 have y2:=hBy3.cell 2
 have x0:=hBx3.cell 0
 have x1:=hBx3.cell 1
 have x2:=hBx3.cell 2
 have f30:=hBx3.frozen 0
 have f31:=hBx3.frozen 1
 have f32:=hBx3.frozen 2
 go_wp2_with fail
 rw[←HW3.out] at hN3 hJ3 hbl2 hBx3 hs3 ⊢
 have hE:=((hBx3.put 0 (.int .i64 (fa:Int))).put 1 (.int .i64 (ta:Int))).put 2 (.slice Ab mb cb)
 have e0:=hE.cell 0
 have e1:=hE.cell 1
 have e2:=hE.cell 2
 have hj:Just (fun b=>b=x) w3 (((w3.setCell ⟨x,0,none⟩ (.int .i64 (fa:Int))).setCell ⟨x,1,none⟩ (.int .i64 (ta:Int))).setCell ⟨x,2,none⟩ (.slice Ab mb cb)):=
  (((Just.of_grow (Grow.refl w3)).put (V:=fun b=>b=x) rfl 0 _).put rfl 1 _).put rfl 2 _
 have hsz:((((w3.setCell ⟨x,0,none⟩ (.int .i64 (fa:Int))).setCell ⟨x,1,none⟩ (.int .i64 (ta:Int))).setCell ⟨x,2,none⟩ (.slice Ab mb cb))).heap.size=w3.heap.size:=by rw[setCell_size,setCell_size,setCell_size]
 refine bodyPost_ret (v := .tuple #[.agg #[.int .i64 (fa:Int),.int .i64 (ta:Int),.slice Ab mb cb],.int .i64 0]) (by simp[results,Tryz.results246,go_sem,e0,e1,e2]) rfl ⟨(Ab,mb,cb),rfl,⟨?_,?_,hble,hbmx⟩,?_⟩
 ·refine NetAt.wide (NetAt.framed _ _ _ _ w3 _ V hN3 fun b hb=>hj.block b ?_ fun h=>?_) fun _ => .inl
  ·have:=hV b hb;have:=hJ3.size;omega
  ·have:=hV b hb;rw[show b=x from h] at this;omega
 ·refine In.mono (V:=D) (In.just hbl2 hj fun b hb h=>?_) fun b hb => .inl (h8 b hb).1
  have:=hV b (h8 b hb).1;rw[show b=x from h] at this;omega
 ·exact⟨hj.os.trans hJ3.os,hj.tape.trans hJ3.tape,hj.output.trans hJ3.output,Nat.le_trans hJ3.size hj.size,fun k hk hv=>(hj.block k (Nat.lt_of_lt_of_le hk hJ3.size) (fun h=>by rw[show k=x from h] at hk;omega)).trans (hJ3.block k hk hv)⟩
end Go.Proofs.YtmijcbfgfkeodaaGreatDoor.Ne
end
section
namespace Go.Proofs.YtmijcbfgfkeodaaGreatDoor
open Go.RowKit Go.Hop Go.Proofs.YtmijcbfgfkeodaaGreatDoor.V
def wdC (rs ags ds:Value) (g:Nat):Array Value:=#[rs,ags,ds,.pointer (some ⟨g,0,none⟩)]
structure WoP where
 (g r a d0 d1:Nat) (rs ags ds:Value)
def woL (W:Nat) (q:WoP) (L:List Ne.Lb) (RT AT:Thing):List Thing:=[Cell W 196 (wdC q.rs q.ags q.ds q.g),PtrRow 66 q.rs [q.r],PtrRow 55 q.ags [q.a],PtrRow 53 q.ds [q.d0,q.d1],Ne.NetAt q.g 2 L (fun _=>false),RT,AT]
def Wo (W:Nat) (L:List Ne.Lb) (R A:Nat→Thing):Thing:=fun w V=>∃ q:WoP,Many (woL W q L (R q.r) (A q.a)) w V
theorem woL_framed (W:Nat) (q:WoP) (L:List Ne.Lb) (RT AT:Thing) (hR:Framed RT) (hA:Framed AT):AllFramed (woL W q L RT AT):=((((((AllFramed.nil.cons hA).cons hR).cons (Ne.NetAt.framed _ _ _ _)).cons (PtrRow.framed _ _ _)).cons (PtrRow.framed _ _ _)).cons (PtrRow.framed _ _ _)).cons (Cell.framed _ _ _)
theorem woReplica_0 (w:World) (W g:Nat) (rs ags ds:Value) (r a d0 d1:Nat) (V1:Nat→Prop) (hB:Blk w W 196 (wdC rs ags ds g)) (hr:PtrRow 66 rs [r] w V1):Calls Tryz.prog 42 #[.pointer (some ⟨W,0,none⟩),.int .i64 0] w fun e w'=>e=.returned (.pointer (some ⟨r,0,none⟩))∧w=w':=by
 unfold wdC at hB
 obtain⟨b,cap,rfl,hc,hm,hb,hcell⟩:=hr.at (by simp)
 have e0:=hcell w (Grow.refl _) 0 (by simp)
 have c0:=hB.cell 0
 go_enter Tryz.func42,Tryz.ntmps42
 go_wp2_with fail
 go_ret
 exact⟨rfl,rfl⟩
theorem woReplica_1 (w:World) (W g:Nat) (rs ags ds:Value) (r a d0 d1:Nat) (V1:Nat→Prop) (hB:Blk w W 196 (wdC rs ags ds g)) (hr:PtrRow 66 rs [r] w V1):Calls Tryz.prog 42 #[.pointer (some ⟨W,0,none⟩),.int .i64 1] w fun e w'=>e=.returned (.pointer none)∧w=w':=by
 unfold wdC at hB
 obtain⟨b,cap,rfl,hc,hm,hb,hcell⟩:=hr.at (by simp)
 have c0:=hB.cell 0
 go_enter Tryz.func42,Tryz.ntmps42
 go_wp2_with fail
 go_ret
 exact⟨rfl,rfl⟩
theorem woAgent_0 (w:World) (W g:Nat) (rs ags ds:Value) (r a d0 d1:Nat) (V1:Nat→Prop) (hB:Blk w W 196 (wdC rs ags ds g)) (ha:PtrRow 55 ags [a] w V1):Calls Tryz.prog 108 #[.pointer (some ⟨W,0,none⟩),.int .i64 0] w fun e w'=>e=.returned (.pointer (some ⟨a,0,none⟩))∧w=w':=by
 unfold wdC at hB
 obtain⟨b,cap,rfl,hc,hm,hb,hcell⟩:=ha.at (by simp)
 have e0:=hcell w (Grow.refl _) 0 (by simp)
 have c0:=hB.cell 1
 go_enter Tryz.func108,Tryz.ntmps108
 go_wp2_with fail
 go_ret
 exact⟨rfl,rfl⟩
theorem woDisk_1 (w:World) (W g:Nat) (rs ags ds:Value) (r a d0 d1:Nat) (V1:Nat→Prop) (hB:Blk w W 196 (wdC rs ags ds g)) (hd:PtrRow 53 ds [d0,d1] w V1):Calls Tryz.prog 242 #[.pointer (some ⟨W,0,none⟩),.int .i64 1] w fun e w'=>e=.returned (.pointer (some ⟨d1,0,none⟩))∧w=w':=by
 unfold wdC at hB
 obtain⟨b,cap,rfl,hc,hm,hb,hcell⟩:=hd.at (by simp)
 have e0:=hcell w (Grow.refl _) 1 (by simp)
 have c0:=hB.cell 2
 go_enter Tryz.func242,Tryz.ntmps242
 go_wp2_with fail
 go_ret
 exact⟨rfl,rfl⟩
theorem woNet_any (w:World) (W g:Nat) (rs ags ds:Value) (hB:Blk w W 196 (wdC rs ags ds g)):Calls Tryz.prog 48 #[.pointer (some ⟨W,0,none⟩)] w fun e w'=>e=.returned (.pointer (some ⟨g,0,none⟩))∧w=w':=by
 unfold wdC at hB
 have c0:=hB.cell 3
 go_enter Tryz.func48,Tryz.ntmps48
 go_wp2_with fail
 go_ret
 exact⟨rfl,rfl⟩
theorem woat_1 (w:World) (W g:Nat) (rs ags ds:Value) (r a d0 d1:Nat) (V1 V2:Nat→Prop) (hB:Blk w W 196 (wdC rs ags ds g)) (hr:PtrRow 66 rs [r] w V1) (ha:PtrRow 55 ags [a] w V2):Calls Tryz.prog 244 #[.pointer (some ⟨W,0,none⟩),.int .i64 1] w fun e w'=>e=.returned (.pointer (some ⟨a,0,none⟩))∧w=w':=by
 have hA:=woAgent_0 w W g rs ags ds r a d0 d1 V2 hB ha
 unfold wdC at hB
 obtain⟨b,cap,rfl,hc,hm,hb,hcell⟩:=hr.at (by simp)
 have c0:=hB.cell 0
 go_enter Tryz.func244,Tryz.ntmps244
 go_wp2_with fail
 refine hA.mono ?_
 rintro e w1 ⟨rfl,rfl⟩
 go_wp2_with fail
 go_ret
 exact⟨rfl,rfl⟩
theorem wosend_nil (w:World) (W:Nat) (node:Int):Calls Tryz.prog 202 #[.pointer (some ⟨W,0,none⟩),.int .i64 node,.slice none 0 0] w fun e w'=>e=.returned (.tuple #[])∧w=w':=by
 go_enter Tryz.func202,Tryz.ntmps202
 go_wp2_with fail
 go_loopw [12] (fun i wr=>i=.int .i64 0∧w=wr) (fun _ _=>0)
 case atStart=>exact⟨rfl,rfl⟩
 case round=>
  obtain⟨rfl,rfl⟩:=hrel
  go_wp2_with fail
  go_end0
  exact⟨rfl,rfl⟩
set_option maxHeartbeats 1000000 in
theorem wosend_1 (w:World) (W:Nat) (q:WoP) (L:List Ne.Lb) (RT AT:Thing) (hRT:Framed RT) (hAT:Framed AT) (from_ to:Int) (ms:List Value) (hms:ms.length=18) (h1:ms.all (fun v=>v.oneCell')=true) (u:Value) (B:Nat) (hO:OneMsg B (.int .i64 to :: ms) u w) (bs:List UInt8) (hbs:bs.length≤1048576) (hBy:∀ w1,Grow w w1→Calls Tryz.prog 252 #[.agg ms.toArray] w1 fun en w'=>∃ v,en=.returned (.tuple #[v,.int .i64 0])∧Grow w1 w'∧IsBytes bs v w') (hf:Ne.nodeB 2 from_=true) (ht:Ne.nodeB 2 to=true) (hl:L.length<64) (V:Nat→Prop) (hM:Many (woL W q L RT AT) w V) (hV:∀ b,V b→b<w.heap.size) :
 Calls Tryz.prog 202 #[.pointer (some ⟨W,0,none⟩),.int .i64 from_,u] w fun e w'=>e=.returned (.tuple #[])∧Many (woL W q (L++[(from_,to,bs)]) RT AT) w' (Ext V w w')∧Just V w w':=by
 have k250:∀ (vs:Array Value) (w:World),(callFunc 250 vs).run Tryz.prog w=.ok (.enter 250 vs) w:=fun vs w=>by go_simp
 obtain⟨Uo,hRo,_⟩:=hO
 obtain⟨gr,cap,rfl,_,hgr,hcap,_,hrange⟩:=hRo.range (by omega)
 have hF:=woL_framed W q L RT AT hRT hAT
 go_enter Tryz.func202,Tryz.ntmps202
 go_wp2_with fail
 go_loopw [12] (fun i wr=>(i=.int .i64 0∧w=wr)∨(i=.int .i64 1∧Many (woL W q (L++[(from_,to,bs)]) RT AT) wr (Ext V w wr)∧Just V w wr)) (fun i _=>1-(intOf i).toNat)
 case atStart=>exact .inl ⟨rfl,rfl⟩
 case round=>
  rcases hrel with ⟨rfl,rfl⟩|⟨rfl,hMf,hjf⟩
  ·go_wp2_with (refine wpList_load_rec rfl 270 _ rfl gr 0 rfl (.int .i64 to :: ms) hrange Tryz.underlying270 (by rw[List.length_cons,hms];kernel_rfl) ?_;refine stay ?_)
   refine stay_out ?_
   go_wp2_with (refine wpList_new rfl (run_alcS _ _ _ rfl) ?_;intro y w2 hB2 hg2 hz2 hs2;refine stay ?_)
   refine stay_out ?_
   go_wp2_with (refine wpList_fill rfl 270 _ _ rfl _ rfl (.int .i64 to :: ms) rfl hB2 (by rw[List.length_cons,hms];rfl) (by rw[List.all_cons,h1];rfl) (by rw[show (.int .i64 to :: ms).toArray.size=19 by simp[hms]];kernel_rfl) ?_;intro w3 hB3 hj3 hs3;refine stay ?_)
   refine stay_out ?_
   have hg3:Grow w w3:=Below.trans hg2 (hj3.below (B:=w.heap.size) (fun b hb=>by have e2:b=y:=hb;omega) (by omega))
   have hBy3:=hBy w3 hg3
   go_wp2_with (refine wpList_load_rec rfl 73 _ rfl y 1 rfl ms (hB3.range 1 ms rfl) Tryz.underlying73 (by rw[hms];kernel_rfl) ?_)
   refine hBy3.mono ?_
   rintro e w4 ⟨v,rfl,hg4,⟨A,m,c,rfl,hBb,hmc,hcm⟩⟩
   have hg04:=hg3.trans hg4
   have hS4:Solo (Lic V w4) (Many (woL W q L RT AT)) w4:=Solo.begin_ (Many.framed _ hF w w4 V hM fun b hb=>hg04.block b (hV b hb)) fun b hb=>Nat.lt_of_lt_of_le (hV b hb) hg04.size
   have hV4:∀ b,V b→b<w4.heap.size:=fun b hb=>Nat.lt_of_lt_of_le (hV b hb) hg04.size
   have hw4:=hS4.blk 0 rfl
   unfold wdC at hw4
   have hy4:=hB3.grow hg4
   have hbl:=hBb.len
   go_wp2_with fail
   refine wp_region_flow 9 35 [] rfl rfl (by kernel_rfl) (by kernel_rfl) (by kernel_rfl) ?_ ?_
   ·intro x hx φ he
    cases hx
   intro ops' A' K' T hops hA' hK hT
   refine fl_mvN 24 (.pointer (some ⟨W,0,none⟩)) ?_
   refine fl_op1N 25 (.tmp 24) (.pointer (some ⟨W,0,none⟩)) (.pointer (some ⟨W,0,none⟩)) (fun ρ h1 kk w5 (hg5:Grow _ w5) hb hf=>by go_simp) ?_
   refine fl_op1N 26 (.tmp 25) (.pointer (some ⟨W,0,none⟩)) (.pointer (some ⟨W,3,none⟩)) (fun ρ h1 kk w5 (hg5:Grow _ w5) hb hf=>by go_simp) ?_
   refine fl_op1N 27 (.tmp 26) (.pointer (some ⟨W,3,none⟩)) (.pointer (some ⟨q.g,0,none⟩)) (fun ρ h1 kk w5 (hg5:Grow _ w5) hb hf=>by have c:=(hw4.grow hg5).cell 3;go_simp) ?_
   refine fl_mvN 28 (.int .i64 from_) ?_
   refine fl_op1N 29 (.tmp 7) (.pointer (some ⟨y,0,none⟩)) (.pointer (some ⟨y,0,none⟩)) (fun ρ h1 kk w5 (hg5:Grow _ w5) hb hf=>by go_simp) ?_
   refine fl_op1N 30 (.tmp 29) (.pointer (some ⟨y,0,none⟩)) (.int .i64 to) (fun ρ h1 kk w5 (hg5:Grow _ w5) hb hf=>by have c:=(hy4.grow hg5).cell 0;go_simp) ?_
   refine fl_mvN 31 (.slice A m c) ?_
   refine fl_op3 32 (by rfl) (by decide) (wanted_none (by rfl)) (by rw[hK.out];rfl) (by rfl) (.tmp 28) (.tmp 30) (.tmp 31) (.int .i64 from_) (.int .i64 to) (.slice A m c) (by rfl) (by rfl) (by rfl) (.agg #[.int .i64 from_,.int .i64 to,.slice A m c]) (fun ρ h1 h2 h3 kk w5 (hg5:Grow _ w5) hb hf=>by go_simp) ?_
   refine fl_end (fun _ _ w5 (hg5:Grow _ w5) _ hfacts=>hT _ _ ?_)
   clear hops hA' hK hT
   simp only[putsL,Act.put,List.setIfInBounds_toArray,List.set_cons_zero,List.set_cons_succ,List.drop_succ_cons,List.drop_zero]
   clear hfacts
   have hS5:=hS4.grows hF hg5
   have hBb5:Ne.BIn w5 (fun b=>b<w5.heap.size) A m bs:=In.grow (V:=fun b=>b<w5.heap.size) ⟨hBb.1,fun hn=>by
    obtain⟨ad,e1,h2,h3⟩:=hBb.2 hn
    exact⟨ad,e1,Nat.lt_of_lt_of_le h2 hg5.size,h2,h3⟩⟩ hg5
   have hSd:=hS5.at_ 4 rfl hF (Ne.Send_ok w5 _ q.g 2 L (fun _=>false) from_ to A m c bs hBb5 hmc hcm (by omega) hf ht hl)
   go_wp2_with fail
   refine hSd.mono ?_
   rintro e w6 ⟨rfl,hj6,hS6⟩
   have hS6:Solo (Lic V w4) (Many (woL W q (L++[(from_,to,bs)]) RT AT)) w6:=hS6
   obtain⟨r1,r2⟩:=Solo.done hS6 ((Just.of_grow hg5).trans hj6) hV4
   have hs4:=hg04.size
   have r3:=Many.wide _ w6 (Ext V w4 w6) (Ext V w w6) (fun b hb=>hb.elim .inl fun h => .inr ⟨by have:=h.1;omega,h.2⟩) r1
   have r4:=(Just.of_grow (V:=V) hg04).trans r2
   go_wp2_with fail
   go_roundw
   case rel=>exact .inr ⟨rfl,r3,r4⟩
   case measure=>simp[intOf]
  ·go_wp2_with fail
   go_end0
   exact⟨rfl,hMf,hjf⟩
end Go.Proofs.YtmijcbfgfkeodaaGreatDoor
end
