/- Ma2, Ma3, Ma4, Ma5, Ma6, Ma7, Tf0, Wimem. -/
import Derived.Test.YtmijcbfgfkeodaaGreatDoorHz17
set_option linter.all false
set_option maxRecDepth 100000
section
namespace Go.Proofs.YtmijcbfgfkeodaaGreatDoor
open Go.RowKit Go.Hop
set_option maxHeartbeats 1000000 in
theorem macount_ack (w:World) (m s bE bS p g:Nat) (q:K.Sm) (eps:List (Int×Value)) (shs:List ((Int×Int)×Value)) (F:Int) (M:Nat) (e:En) (A:Option Addr) (c:Nat) (D V:Nat→Prop) (hM:Many (machL m s bE bS p g q eps shs F M) w V) (hV:∀ b,V b→b<w.heap.size) (hd:DIn w D A e.ds.length e.ds) (hDl:∀ b,D b→b<w.heap.size) (hDV:∀ b,D b→¬ V b) (hsz:∀ d∈e.ds,d.1.size≤maxLen∧d.2≤K.M64) (hn:e.ds.length≤1048576) (hq:q.length≤1048576) (hmay:K.mayE q e.ds=0) (hI:W.WInv F M) (hsq:-9223372036854775808≤e.sq∧e.sq≤9223372036854775807) (hsh:gput shs (e.ag,e.sh) (.pointer (some ⟨p,0,none⟩))=[((e.ag,e.sh),.pointer (some ⟨p,0,none⟩))]) :
 Calls Tryz.prog 57 #[.pointer (some ⟨m,0,none⟩),.pointer (some ⟨p,0,none⟩),.agg (e.agg A c)] w fun en w'=>en=.returned (.int .i64 1)∧Many (machL m s bE bS p g (K.addM q e.ds) eps [((e.ag,e.sh),.pointer (some ⟨p,0,none⟩))] (W.addS F M e.sq).1 (W.addS F M e.sq).2) w' (Ext V w w')∧Just V w w':=by
 have k131:∀ (vs:Array Value) (w:World),(callFunc 131 vs).run Tryz.prog w=.ok (.enter 131 vs) w:=fun vs w=>by go_simp
 have k133:∀ (vs:Array Value) (w:World),(callFunc 133 vs).run Tryz.prog w=.ok (.enter 133 vs) w:=fun vs w=>by go_simp
 have hF:=machL_framed m s bE bS p g q eps shs F M
 have hS:=Solo.begin_ hM hV
 have hg0:=grow_alloc w (.cells (e.agg A c) 32)
 have hBy:=Blk.made w 32 (e.agg A c)
 obtain⟨y,HY⟩:∃ y:Nat,Hid (y=w.heap.size):=⟨_,rfl⟩
 obtain⟨wa,HA_⟩:∃ wa:World,Hid (wa=w.alloc (.cells (e.agg A c) 32)):=⟨_,rfl⟩
 rw[←HA_.out] at hg0 hBy
 rw[←HY.out] at hBy
 unfold En.agg at HA_ ⊢
 have hSa:=hS.join hF hg0 (R:=Cell y 32 #[.int .i64 e.k,.int .i64 e.ag,.int .i64 e.sh,.int .i64 e.sq,.int .i64 e.ep,.slice A e.ds.length c,.string e.se,.int .i64 e.fr,.int .i64 e.tg]) (U:=fun b=>b=y) ⟨rfl,hBy⟩ (fun b hb=>by have:=HY.out;have:=hBy.lt;omega)
 have hFa:=hF.cons (Cell.framed y 32 #[.int .i64 e.k,.int .i64 e.ag,.int .i64 e.sh,.int .i64 e.sq,.int .i64 e.ep,.slice A e.ds.length c,.string e.se,.int .i64 e.fr,.int .i64 e.tg])
 have hY1:=hSa.blk 0 rfl
 have hm1:=hSa.blk 1 rfl
 have hp1:=hSa.blk 5 rfl
 clear hBy
 go_enter Tryz.func57,Tryz.ntmps57
 go_wp2_with fail
 rw[←HA_.out,←HY.out]
 refine wp_region_flow 6 60 [] rfl rfl (by kernel_rfl) (by kernel_rfl) (by kernel_rfl) ?_ ?_
 ·intro x hx φ he
  cases hx
 intro ops' A' K' T hops hA' hK hT
 refine fl_mvN 8 (.pointer (some ⟨m,0,none⟩)) ?_
 refine fl_op1G 9 (.tmp 8) (.pointer (some ⟨m,0,none⟩)) (.pointer (some ⟨m,0,none⟩)) ?_
 refine fl_op1G 10 (.tmp 9) (.pointer (some ⟨m,0,none⟩)) (.pointer (some ⟨m,0,none⟩)) ?_
 refine fl_op1N 11 (.tmp 10) (.pointer (some ⟨m,0,none⟩)) (.pointer (some ⟨s,0,none⟩)) (fun ρ h1 kk w1 (hg:Grow _ w1) hb hf=>by have c:=(hm1.grow hg).cell 0;go_simp) ?_
 refine fl_op1G 12 (.tmp 5) (.pointer (some ⟨y,0,none⟩)) (.pointer (some ⟨y,5,none⟩)) ?_
 refine fl_op1N 13 (.tmp 12) (.pointer (some ⟨y,5,none⟩)) (.slice A e.ds.length c) (fun ρ h1 kk w1 (hg:Grow _ w1) hb hf=>by have c:=(hY1.grow hg).cell 5;go_simp) ?_
 refine fl_end (fun _ _ w1 (hg:Grow _ w1) _ hfacts=>hT _ _ ?_)
 clear hops hA' hK hT
 simp only[putsL,Act.put,List.setIfInBounds_toArray,List.set_cons_zero,List.set_cons_succ,List.drop_succ_cons,List.drop_zero]
 have hS1:=hSa.grows hFa hg
 have J1:=Just.of_grow (V:=Lic V w) (hg0.trans hg)
 have hd1:=hd.grow (hg0.trans hg)
 have hcall:=hS1.atV 2 rfl hFa (fun U hU hUl hUp=>K.Add_any w1 s q U hU hUl A e.ds.length c e.ds D hd1 (fun b hb hu=>(hUp b hu).elim (hDV b hb) (fun h=>by have:=hDl b hb;omega)) hsz hn hq)
 rw[hmay] at hcall
 go_wp2_with fail
 refine hcall.mono ?_
 rintro en w2 ⟨rfl,hj2,hS2⟩
 obtain⟨q',HQ⟩:∃ q':K.Sm,Hid (q'=K.addM q e.ds):=⟨_,rfl⟩
 rw[←HQ.out] at hS2
 have hS2:Solo (Lic V w) (Many (Cell y 32 #[.int .i64 e.k,.int .i64 e.ag,.int .i64 e.sh,.int .i64 e.sq,.int .i64 e.ep,.slice A e.ds.length c,.string e.se,.int .i64 e.fr,.int .i64 e.tg] :: machL m s bE bS p g q' eps shs F M)) w2:=hS2
 have hFb:=(machL_framed m s bE bS p g q' eps shs F M).cons (Cell.framed y 32 #[.int .i64 e.k,.int .i64 e.ag,.int .i64 e.sh,.int .i64 e.sq,.int .i64 e.ep,.slice A e.ds.length c,.string e.se,.int .i64 e.fr,.int .i64 e.tg])
 have hY2:=hS2.blk 0 rfl
 have hp2:=hS2.blk 5 rfl
 have hd2:=hd1
 go_wp2_with fail
 refine wp_region_flow 7 60 [] rfl rfl (by kernel_rfl) (by kernel_rfl) (by kernel_rfl) ?_ ?_
 ·intro x hx φ he
  cases hx
 intro ops' A' K' T hops hA' hK hT
 refine fl_mvN 39 (.pointer (some ⟨p,0,none⟩)) ?_
 refine fl_op1N 40 (.tmp 39) (.pointer (some ⟨p,0,none⟩)) (.pointer (some ⟨p,0,none⟩)) (fun ρ h1 kk w3 (hgB:Grow _ w3) hb hf=>by go_simp) ?_
 refine fl_op1N 41 (.tmp 40) (.pointer (some ⟨p,0,none⟩)) (.pointer (some ⟨p,0,none⟩)) (fun ρ h1 kk w3 (hgB:Grow _ w3) hb hf=>by go_simp) ?_
 refine fl_op1N 42 (.tmp 41) (.pointer (some ⟨p,0,none⟩)) (.pointer (some ⟨g,0,none⟩)) (fun ρ h1 kk w3 (hgB:Grow _ w3) hb hf=>by have c:=(hp2.grow hgB).cell 0;go_simp) ?_
 refine fl_op1N 43 (.tmp 5) (.pointer (some ⟨y,0,none⟩)) (.pointer (some ⟨y,1,none⟩)) (fun ρ h1 kk w3 (hgB:Grow _ w3) hb hf=>by go_simp) ?_
 refine fl_op1N 44 (.tmp 43) (.pointer (some ⟨y,1,none⟩)) (.pointer (some ⟨y,1+2,none⟩)) (fun ρ h1 kk w3 (hgB:Grow _ w3) hb hf=>by go_simp) ?_
 refine fl_op1N 45 (.tmp 44) (.pointer (some ⟨y,1+2,none⟩)) (.int .i64 e.sq) (fun ρ h1 kk w3 (hgB:Grow _ w3) hb hf=>by have c:=(hY2.grow hgB).cell 3;go_simp) ?_
 refine fl_end (fun _ _ w3 (hgB:Grow _ w3) _ hfacts=>hT _ _ ?_)
 clear hops hA' hK hT
 simp only[putsL,Act.put,List.setIfInBounds_toArray,List.set_cons_zero,List.set_cons_succ,List.drop_succ_cons,List.drop_zero]
 have hS3:=hS2.grows hFb hgB
 have hc3:=hS3.atV (S':=Cell g 223 #[.int .i64 (W.addS F M e.sq).1,.int .u64 ((W.addS F M e.sq).2:Int)]) 6 rfl hFb (fun U hU hUl hUp=>(W.add_any w3 g F M e.sq hU.2 hI hsq).mono fun en w' ⟨h1,h2,h3⟩=>⟨h1,⟨.inl hU.1,h2⟩,Just.of_only h3 hU.1⟩)
 go_wp2_with fail
 refine hc3.mono ?_
 rintro en w4 ⟨rfl,hj4,hS4⟩
 have hS4:Solo (Lic V w) (Many (Cell y 32 #[.int .i64 e.k,.int .i64 e.ag,.int .i64 e.sh,.int .i64 e.sq,.int .i64 e.ep,.slice A e.ds.length c,.string e.se,.int .i64 e.fr,.int .i64 e.tg] :: machL m s bE bS p g q' eps shs (W.addS F M e.sq).1 (W.addS F M e.sq).2)) w4:=hS4
 obtain⟨F',HF⟩:∃ F':Int,Hid (F'=(W.addS F M e.sq).1):=⟨_,rfl⟩
 obtain⟨M',HM'⟩:∃ M':Nat,Hid (M'=(W.addS F M e.sq).2):=⟨_,rfl⟩
 rw[←HF.out,←HM'.out] at hS4
 have hFc:=(machL_framed m s bE bS p g q' eps shs F' M').cons (Cell.framed y 32 #[.int .i64 e.k,.int .i64 e.ag,.int .i64 e.sh,.int .i64 e.sq,.int .i64 e.ep,.slice A e.ds.length c,.string e.se,.int .i64 e.fr,.int .i64 e.tg])
 have hY4:=hS4.blk 0 rfl
 have hm4:=hS4.blk 1 rfl
 go_wp2_with fail
 refine wp_region_flow 12 60 [] rfl rfl (by kernel_rfl) (by kernel_rfl) (by kernel_rfl) ?_ ?_
 ·intro x hx φ he
  cases hx
 intro ops' A' K' T hops hA' hK hT
 refine fl_mvN 47 (.pointer (some ⟨m,0,none⟩)) ?_
 refine fl_op1N 48 (.tmp 47) (.pointer (some ⟨m,0,none⟩)) (.pointer (some ⟨m,0,none⟩)) (fun ρ h1 kk w5 (hgC:Grow _ w5) hb hf=>by go_simp) ?_
 refine fl_op1N 49 (.tmp 48) (.pointer (some ⟨m,0,none⟩)) (.pointer (some ⟨m,2,none⟩)) (fun ρ h1 kk w5 (hgC:Grow _ w5) hb hf=>by go_simp) ?_
 refine fl_op1N 50 (.tmp 49) (.pointer (some ⟨m,2,none⟩)) (.map (some bS)) (fun ρ h1 kk w5 (hgC:Grow _ w5) hb hf=>by have c:=(hm4.grow hgC).cell 2;go_simp) ?_
 refine fl_op1N 51 (.tmp 5) (.pointer (some ⟨y,0,none⟩)) (.pointer (some ⟨y,1,none⟩)) (fun ρ h1 kk w5 (hgC:Grow _ w5) hb hf=>by go_simp) ?_
 refine fl_op1N 52 (.tmp 51) (.pointer (some ⟨y,1,none⟩)) (.pointer (some ⟨y,1+0,none⟩)) (fun ρ h1 kk w5 (hgC:Grow _ w5) hb hf=>by go_simp) ?_
 refine fl_op1N 53 (.tmp 52) (.pointer (some ⟨y,1+0,none⟩)) (.int .i64 e.ag) (fun ρ h1 kk w5 (hgC:Grow _ w5) hb hf=>by have c:=(hY4.grow hgC).cell 1;go_simp) ?_
 refine fl_op1N 54 (.tmp 5) (.pointer (some ⟨y,0,none⟩)) (.pointer (some ⟨y,1,none⟩)) (fun ρ h1 kk w5 (hgC:Grow _ w5) hb hf=>by go_simp) ?_
 refine fl_op1N 55 (.tmp 54) (.pointer (some ⟨y,1,none⟩)) (.pointer (some ⟨y,1+1,none⟩)) (fun ρ h1 kk w5 (hgC:Grow _ w5) hb hf=>by go_simp) ?_
 refine fl_op1N 56 (.tmp 55) (.pointer (some ⟨y,1+1,none⟩)) (.int .i64 e.sh) (fun ρ h1 kk w5 (hgC:Grow _ w5) hb hf=>by have c:=(hY4.grow hgC).cell 2;go_simp) ?_
 refine fl_op2N 57 (.tmp 53) (.tmp 56) (.int .i64 e.ag) (.int .i64 e.sh) (.agg #[.int .i64 e.ag,.int .i64 e.sh]) (fun ρ h1 h2 kk w5 (hgC:Grow _ w5) hb hf=>by go_simp) ?_
 refine fl_mvN 58 (.pointer (some ⟨p,0,none⟩)) ?_
 refine fl_end (fun _ _ w5 (hgC:Grow _ w5) _ hfacts=>hT _ _ ?_)
 clear hops hA' hK hT
 simp only[putsL,Act.put,List.setIfInBounds_toArray,List.set_cons_zero,List.set_cons_succ,List.drop_succ_cons,List.drop_zero]
 have hS5:=hS4.grows hFc hgC
 obtain⟨w6,hrun,hS6,hj6⟩:=hS5.put_ (φ:=fun w'=>(Instr.mapUpdate 115 (.map (some bS)) (.agg #[.int .i64 e.ag,.int .i64 e.sh]) (.pointer (some ⟨p,0,none⟩))).run Tryz.prog w5=.ok () w') 4 rfl hFc (fun U hU hUl=>by
  obtain⟨w',h1,h2,h3⟩:=GMap.put keyP (t:=115) (et:=120) (by kernel_rfl) hU (e.ag,e.sh) (.pointer (some ⟨p,0,none⟩))
  exact⟨w',h1,h2,h3.imp fun b hb=>hb▸hU.1⟩)
 rw[hsh] at hS6
 go_wp2_with fail
 go_ret
 obtain⟨r1,r2⟩:=Solo.done (l:=machL m s bE bS p g q' eps [((e.ag,e.sh),.pointer (some ⟨p,0,none⟩))] F' M') hS6.drop1 (((J1.trans hj2).trans ((Just.of_grow hgB).trans hj4)).trans ((Just.of_grow hgC).trans hj6)) hV
 rw[←HQ.out,←HF.out,←HM'.out]
 exact⟨rfl,r1,r2⟩
set_option maxHeartbeats 1000000 in
theorem apply_ack (w:World) (m:Nat) (q:K.Sm) (eps:List (Int×Value)) (F:Int) (M:Nat) (e:En) (A:Option Addr) (c:Nat) (D V:Nat→Prop) (hV:∀ b,V b→b<w.heap.size) (hok:e.Ok) (hk:e.k=1) (hd:DIn w D A e.ds.length e.ds) (hDl:∀ b,D b→b<w.heap.size) (hDV:∀ b,D b→¬ V b) (hsz:∀ d∈e.ds,d.1.size≤maxLen∧d.2≤K.M64) (hn:e.ds.length≤1048576) (hq:q.length≤1048576) (hI:W.WInv F M) (hsq:-9223372036854775808≤e.sq∧e.sq≤9223372036854775807) (SH:Nat→List ((Int×Int)×Value)) (hse:W.seen F M e.sq=false) (hfa:W.far F e.sq=false) (hep:∃ x:Int,(glk eps e.ag).getD (.int .i64 0)=.int .i64 x∧x≤e.ep) (hmay:K.mayE q e.ds=0) (hshs:∀ p,SH p=[]∨∃ pp,SH p=[((e.ag,e.sh),pp)])
 (hof:∀ wa,Grow w wa→Calls Tryz.prog 53 #[.pointer (some ⟨m,0,none⟩),.int .i64 e.ag,.int .i64 e.sh] wa (fun en w'=>(∃ s bE bS p g,en=.returned (.pointer (some ⟨p,0,none⟩))∧Grow wa w'∧∃ U,Many (machL m s bE bS p g q eps (SH p) F M) w' U∧∀ b,U b→V b∨New wa w' b))) :
 Calls Tryz.prog 13 #[.pointer (some ⟨m,0,none⟩),.agg (e.agg A c)] w fun en w'=>en=.returned (.tuple #[.int .i64 1,.int .u64 0])∧(∃ s bE bS p g,Many (machL m s bE bS p g (K.addM q e.ds) (gput eps e.ag (.int .i64 e.ep)) [((e.ag,e.sh),.pointer (some ⟨p,0,none⟩))] (W.addS F M e.sq).1 (W.addS F M e.sq).2) w' (Ext V w w'))∧Just V w w':=by
 have k54:∀ (vs:Array Value) (w:World),(callFunc 54 vs).run Tryz.prog w=.ok (.enter 54 vs) w:=fun vs w=>by go_simp
 have k56:∀ (vs:Array Value) (w:World),(callFunc 56 vs).run Tryz.prog w=.ok (.enter 56 vs) w:=fun vs w=>by go_simp
 have k55:∀ (vs:Array Value) (w:World),(callFunc 55 vs).run Tryz.prog w=.ok (.enter 55 vs) w:=fun vs w=>by go_simp
 have hg0:=grow_alloc w (.cells (e.agg A c) 32)
 have hBy:=Blk.made w 32 (e.agg A c)
 obtain⟨y,HY⟩:∃ y:Nat,Hid (y=w.heap.size):=⟨_,rfl⟩
 obtain⟨wa,HA_⟩:∃ wa:World,Hid (wa=w.alloc (.cells (e.agg A c) 32)):=⟨_,rfl⟩
 rw[←HA_.out] at hg0 hBy
 rw[←HY.out] at hBy
 have hRt:=Right_ok wa e D A c hok (In.grow hd hg0)
 unfold En.agg at HA_ hRt hBy ⊢
 have hk2:(e.k == 2)=false:=by rw[hk];rfl
 have hk3:decide (e.k=2)=false:=by rw[hk];rfl
 clear hk
 go_enter Tryz.func13,Tryz.ntmps13
 go_wp2_with fail
 rw[←HA_.out,←HY.out]
 refine hRt.mono ?_
 rintro en wb ⟨rfl,hgb⟩
 have hBb:=hBy.grow hgb
 have y0:=hBb.cell 0
 have y1:=hBb.cell 1
 have y2:=hBb.cell 2
 have hOf:=hof wb (hg0.trans hgb)
 go_wp2_with fail
 clear y0 y1 y2
 refine hOf.mono ?_
 rintro en w0 ⟨s,bE,bS,p,g,rfl,hgc,U,hM0,hU⟩
 have hshs:=hshs p
 obtain⟨shs,HSH⟩:∃ shs:List ((Int×Int)×Value),Hid (shs=SH p):=⟨_,rfl⟩
 rw[←HSH.out] at hM0 hshs
 have hgd:Grow w w0:=(hg0.trans hgb).trans hgc
 have hyl:w.heap.size≤y∧y<wb.heap.size:=by have:=HY.out;have:=hBb.lt;omega
 have hsz0:=hgd.size
 have hszc:=hgc.size
 have hSz:∀ b,New wb w0 b→w.heap.size≤b:=fun b hb=>by have:=hb.1;have:=(hg0.trans hgb).size;omega
 have hF:=machL_framed m s bE bS p g q eps shs F M
 have hFa:=hF.cons (Cell.framed y 32 #[.int .i64 e.k,.int .i64 e.ag,.int .i64 e.sh,.int .i64 e.sq,.int .i64 e.ep,.slice A e.ds.length c,.string e.se,.int .i64 e.fr,.int .i64 e.tg])
 have hS0:Solo (Lic V w) (Many (Cell y 32 #[.int .i64 e.k,.int .i64 e.ag,.int .i64 e.sh,.int .i64 e.sq,.int .i64 e.ep,.slice A e.ds.length c,.string e.se,.int .i64 e.fr,.int .i64 e.tg] :: machL m s bE bS p g q eps shs F M)) w0:=
  Solo.cons_ (U:=fun b=>b=y) (fun b hb => .inr (by omega)) hM0 (fun b hb=>(hU b hb).elim (fun h=>⟨.inl h,by have:=hV b h;omega⟩) (fun h=>⟨.inr (hSz b h),h.2⟩)) ⟨rfl,hBb.grow hgc⟩
   (fun b hb=>by rw[hb];exact⟨.inr hyl.1,by omega,fun h=>(hU y h).elim (fun h=>by have:=hV y h;omega) (fun h=>by have:=h.1;omega)⟩)
 have J0:=Just.of_grow (V:=Lic V w) hgd
 have hY0:=hS0.blk 0 rfl
 have hm0:=hS0.blk 1 rfl
 have hp0:=hS0.blk 5 rfl
 have hg00:=hS0.blk 6 rfl
 have hSe:∀ w1,Grow w0 w1→Calls Tryz.prog 54 #[.pointer (some ⟨g,0,none⟩),.int .i64 e.sq] w1 fun en w'=>en=.returned (.bool false)∧Grow w1 w':=fun w1 hg=>by
  have h:=W.seen_any w1 g F M e.sq (hg00.grow hg) hI hsq
  rw[hse] at h
  exact h
 go_wp2_with fail
 refine wp_region_flow 19 91 [(7,.inl (.bool false))] rfl rfl (by kernel_rfl) (by kernel_rfl) (by kernel_rfl) ?_ ?_
 ·intro x hx φ he
  simp only[List.mem_cons,List.not_mem_nil,or_false] at hx
  rcases hx with rfl<;>cases he
 intro ops' A' K' T hops hA' hK hT
 refine fl_mvN 31 (.pointer (some ⟨p,0,none⟩)) ?_
 refine fl_op1G 32 (.tmp 31) (.pointer (some ⟨p,0,none⟩)) (.pointer (some ⟨p,0,none⟩)) ?_
 refine fl_op1G 33 (.tmp 32) (.pointer (some ⟨p,0,none⟩)) (.pointer (some ⟨p,0,none⟩)) ?_
 refine fl_op1N 34 (.tmp 33) (.pointer (some ⟨p,0,none⟩)) (.pointer (some ⟨g,0,none⟩)) (fun ρ h1 kk w1 (hg:Grow _ w1) hb hf=>by have c:=(hp0.grow hg).cell 0;go_simp) ?_
 refine fl_op1G 35 (.tmp 3) (.pointer (some ⟨y,0,none⟩)) (.pointer (some ⟨y,1,none⟩)) ?_
 refine fl_op1G 36 (.tmp 35) (.pointer (some ⟨y,1,none⟩)) (.pointer (some ⟨y,1+2,none⟩)) ?_
 refine fl_op1N 37 (.tmp 36) (.pointer (some ⟨y,1+2,none⟩)) (.int .i64 e.sq) (fun ρ h1 kk w1 (hg:Grow _ w1) hb hf=>by have c:=(hY0.grow hg).cell 3;go_simp) ?_
 refine fl_call 38 (by rfl) (by decide) (wanted_none (by rfl)) (.bool false) (by rw[hK.out];rfl) 54 _ _ (by rfl) [.pointer (some ⟨g,0,none⟩),.int .i64 e.sq] (by rfl) k54 (fun kk w1 (hg:Grow _ w1) hb hf=>calls_behind (by rfl) (by exact (hSe w1 hg))) ?_
 refine fl_mvN 39 (.bool false) ?_
 refine fl_skipW 40 (wif hops 8 true 39 false) ?_
 refine fl_skipW 41 (wif hops 8 true 39 false) ?_
 refine fl_skipW 42 (wif hops 8 true 39 false) ?_
 refine fl_skipW 43 (wif hops 8 true 39 false) ?_
 refine fl_skipW 44 (wif hops 8 true 39 false) ?_
 refine fl_skipW 45 (wif hops 8 true 39 false) ?_
 refine fl_skipW 46 (wif hops 8 true 39 false) ?_
 refine fl_skipW 47 (wif hops 8 true 39 false) ?_
 refine fl_pickN 48 false (.bool false) ?_
 refine fl_mvN 30 (.bool false) ?_
 refine fl_end (fun _ _ w1 (hg:Grow _ w1) _ hfacts=>hT _ _ ?_)
 clear hops hA' hK hT
 simp only[putsL,Act.put,List.setIfInBounds_toArray,List.set_cons_zero,List.set_cons_succ,List.drop_succ_cons,List.drop_zero]
 have hgE:=hg
 have hS1:=hS0.grows hFa hgE
 have hp1:=hp0.grow hgE
 have hY1:=hY0.grow hgE
 have hg10:=hg00.grow hgE
 go_wp2_with fail
 refine wp_region_flow 9 91 [(7,.inl (.bool false))] rfl rfl (by kernel_rfl) (by kernel_rfl) (by kernel_rfl) ?_ ?_
 ·intro x hx φ he
  simp only[List.mem_cons,List.not_mem_nil,or_false] at hx
  rcases hx with rfl<;>cases he
 intro ops' A' K' T hops hA' hK hT
 refine fl_mvN 50 (.pointer (some ⟨p,0,none⟩)) ?_
 refine fl_op1N 51 (.tmp 50) (.pointer (some ⟨p,0,none⟩)) (.pointer (some ⟨p,0,none⟩)) (fun ρ h1 kk w2 (hg:Grow _ w2) hb hf=>by go_simp) ?_
 refine fl_op1N 52 (.tmp 51) (.pointer (some ⟨p,0,none⟩)) (.pointer (some ⟨p,0,none⟩)) (fun ρ h1 kk w2 (hg:Grow _ w2) hb hf=>by go_simp) ?_
 refine fl_op1N 53 (.tmp 52) (.pointer (some ⟨p,0,none⟩)) (.pointer (some ⟨g,0,none⟩)) (fun ρ h1 kk w2 (hg:Grow _ w2) hb hf=>by have c:=(hp1.grow hg).cell 0;go_simp) ?_
 refine fl_op1N 54 (.tmp 3) (.pointer (some ⟨y,0,none⟩)) (.pointer (some ⟨y,1,none⟩)) (fun ρ h1 kk w2 (hg:Grow _ w2) hb hf=>by go_simp) ?_
 refine fl_op1N 55 (.tmp 54) (.pointer (some ⟨y,1,none⟩)) (.pointer (some ⟨y,1+2,none⟩)) (fun ρ h1 kk w2 (hg:Grow _ w2) hb hf=>by go_simp) ?_
 refine fl_op1N 56 (.tmp 55) (.pointer (some ⟨y,1+2,none⟩)) (.int .i64 e.sq) (fun ρ h1 kk w2 (hg:Grow _ w2) hb hf=>by have c:=(hY1.grow hg).cell 3;go_simp) ?_
 refine fl_call 57 (by rfl) (by decide) (wanted_none (by rfl)) (.bool false) (by rw[hK.out];rfl) 54 _ _ (by rfl) [.pointer (some ⟨g,0,none⟩),.int .i64 e.sq] (by rfl) k54 (fun kk w2 (hg:Grow _ w2) hb hf=>calls_behind (by rfl) (by exact (hSe w2 (hgE.trans hg)))) ?_
 refine fl_mvN 49 (.bool false) ?_
 refine fl_end (fun _ _ w2 (hg:Grow _ w2) _ hfacts=>hT _ _ ?_)
 clear hops hA' hK hT
 simp only[putsL,Act.put,List.setIfInBounds_toArray,List.set_cons_zero,List.set_cons_succ,List.drop_succ_cons,List.drop_zero]
 have hgF:=hg
 have hS2:=hS1.grows hFa hgF
 obtain⟨x,hx,hxe⟩:=hep
 have hlt1:decide (e.ep<x)=false:=decide_eq_false (by omega)
 have hlk:∀ w1,Grow w2 w1→(Instr.lookup 114 (.map (some bE)) (.int .i64 e.ag) false).run Tryz.prog w1=.ok (.int .i64 x) w1:=fun w1 hg=>by
  obtain⟨U3,hG3,_⟩:=(hS2.grows hFa hg).see 3 rfl
  have h:=GMap.look keyI (t:=114) (et:=2) (by kernel_rfl) (zI w1) hG3 e.ag false
  rw[if_neg (by decide),hx] at h
  exact h
 have hm2:=hS2.blk 1 rfl
 have hY2:=hS2.blk 0 rfl
 go_wp2_with fail
 refine wp_region_flow 12 91 [] rfl rfl (by kernel_rfl) (by kernel_rfl) (by kernel_rfl) ?_ ?_
 ·intro x hx φ he
  cases hx
 intro ops' A' K' T hops hA' hK hT
 refine fl_op1N 59 (.tmp 3) (.pointer (some ⟨y,0,none⟩)) (.pointer (some ⟨y,4,none⟩)) (fun ρ h1 kk w3 (hg:Grow _ w3) hb hf=>by go_simp) ?_
 refine fl_op1N 60 (.tmp 59) (.pointer (some ⟨y,4,none⟩)) (.int .i64 e.ep) (fun ρ h1 kk w3 (hg:Grow _ w3) hb hf=>by have c:=(hY2.grow hg).cell 4;go_simp) ?_
 refine fl_mvN 61 (.pointer (some ⟨m,0,none⟩)) ?_
 refine fl_op1N 62 (.tmp 61) (.pointer (some ⟨m,0,none⟩)) (.pointer (some ⟨m,0,none⟩)) (fun ρ h1 kk w3 (hg:Grow _ w3) hb hf=>by go_simp) ?_
 refine fl_op1N 63 (.tmp 62) (.pointer (some ⟨m,0,none⟩)) (.pointer (some ⟨m,1,none⟩)) (fun ρ h1 kk w3 (hg:Grow _ w3) hb hf=>by go_simp) ?_
 refine fl_op1N 64 (.tmp 63) (.pointer (some ⟨m,1,none⟩)) (.map (some bE)) (fun ρ h1 kk w3 (hg:Grow _ w3) hb hf=>by have c:=(hm2.grow hg).cell 1;go_simp) ?_
 refine fl_op1N 65 (.tmp 3) (.pointer (some ⟨y,0,none⟩)) (.pointer (some ⟨y,1,none⟩)) (fun ρ h1 kk w3 (hg:Grow _ w3) hb hf=>by go_simp) ?_
 refine fl_op1N 66 (.tmp 65) (.pointer (some ⟨y,1,none⟩)) (.pointer (some ⟨y,1+0,none⟩)) (fun ρ h1 kk w3 (hg:Grow _ w3) hb hf=>by go_simp) ?_
 refine fl_op1N 67 (.tmp 66) (.pointer (some ⟨y,1+0,none⟩)) (.int .i64 e.ag) (fun ρ h1 kk w3 (hg:Grow _ w3) hb hf=>by have c:=(hY2.grow hg).cell 1;go_simp) ?_
 refine fl_op2N 68 (.tmp 64) (.tmp 67) (.map (some bE)) (.int .i64 e.ag) (.int .i64 x) (fun ρ h1 h2 kk w3 (hg:Grow _ w3) hb hf=>by have hl:=hlk w3 hg;go_simp) ?_
 refine fl_op2N 69 (.tmp 60) (.tmp 68) (.int .i64 e.ep) (.int .i64 x) (.bool false) (fun ρ h1 h2 kk w3 (hg:Grow _ w3) hb hf=>by go_simp;try exact hlt1) ?_
 refine fl_mvN 58 (.bool false) ?_
 refine fl_end (fun _ _ w3 (hg:Grow _ w3) _ hfacts=>hT _ _ ?_)
 clear hops hA' hK hT
 simp only[putsL,Act.put,List.setIfInBounds_toArray,List.set_cons_zero,List.set_cons_succ,List.drop_succ_cons,List.drop_zero]
 have hgG:=hg
 have hS3:=hS2.grows hFa hgG
 have hm3:=hS3.blk 1 rfl
 have hY3:=hS3.blk 0 rfl
 clear hlk
 go_wp2_with fail
 refine wp_region_flow 9 91 [] rfl rfl (by kernel_rfl) (by kernel_rfl) (by kernel_rfl) ?_ ?_
 ·intro x hx φ he
  cases hx
 intro ops' A' K' T hops hA' hK hT
 refine fl_mvN 70 (.pointer (some ⟨m,0,none⟩)) ?_
 refine fl_op1N 71 (.tmp 70) (.pointer (some ⟨m,0,none⟩)) (.pointer (some ⟨m,0,none⟩)) (fun ρ h1 kk w4 (hg:Grow _ w4) hb hf=>by go_simp) ?_
 refine fl_op1N 72 (.tmp 71) (.pointer (some ⟨m,0,none⟩)) (.pointer (some ⟨m,1,none⟩)) (fun ρ h1 kk w4 (hg:Grow _ w4) hb hf=>by go_simp) ?_
 refine fl_op1N 73 (.tmp 72) (.pointer (some ⟨m,1,none⟩)) (.map (some bE)) (fun ρ h1 kk w4 (hg:Grow _ w4) hb hf=>by have c:=(hm3.grow hg).cell 1;go_simp) ?_
 refine fl_op1N 74 (.tmp 3) (.pointer (some ⟨y,0,none⟩)) (.pointer (some ⟨y,1,none⟩)) (fun ρ h1 kk w4 (hg:Grow _ w4) hb hf=>by go_simp) ?_
 refine fl_op1N 75 (.tmp 74) (.pointer (some ⟨y,1,none⟩)) (.pointer (some ⟨y,1+0,none⟩)) (fun ρ h1 kk w4 (hg:Grow _ w4) hb hf=>by go_simp) ?_
 refine fl_op1N 76 (.tmp 75) (.pointer (some ⟨y,1+0,none⟩)) (.int .i64 e.ag) (fun ρ h1 kk w4 (hg:Grow _ w4) hb hf=>by have c:=(hY3.grow hg).cell 1;go_simp) ?_
 refine fl_op1N 77 (.tmp 3) (.pointer (some ⟨y,0,none⟩)) (.pointer (some ⟨y,4,none⟩)) (fun ρ h1 kk w4 (hg:Grow _ w4) hb hf=>by go_simp) ?_
 refine fl_op1N 78 (.tmp 77) (.pointer (some ⟨y,4,none⟩)) (.int .i64 e.ep) (fun ρ h1 kk w4 (hg:Grow _ w4) hb hf=>by have c:=(hY3.grow hg).cell 4;go_simp) ?_
 refine fl_end (fun _ _ w4 (hg:Grow _ w4) _ hfacts=>hT _ _ ?_)
 clear hops hA' hK hT
 simp only[putsL,Act.put,List.setIfInBounds_toArray,List.set_cons_zero,List.set_cons_succ,List.drop_succ_cons,List.drop_zero]
 have hgH:=hg
 have hS4:=hS3.grows hFa hgH
 obtain⟨w5,hrun,hS5,hj5⟩:=hS4.put_ (φ:=fun w'=>(Instr.mapUpdate 114 (.map (some bE)) (.int .i64 e.ag) (.int .i64 e.ep)).run Tryz.prog w4=.ok () w') 3 rfl hFa (fun U hU hUl=>by
  obtain⟨w',h1,h2,h3⟩:=GMap.put keyI (t:=114) (et:=2) (by kernel_rfl) hU e.ag (.int .i64 e.ep)
  exact⟨w',h1,h2,h3.imp fun b hb=>hb▸hU.1⟩)
 obtain⟨eps',HE⟩:∃ eps':List (Int×Value),Hid (eps'=gput eps e.ag (.int .i64 e.ep)):=⟨_,rfl⟩
 rw[←HE.out] at hS5
 have hS5:Solo (Lic V w) (Many (Cell y 32 #[.int .i64 e.k,.int .i64 e.ag,.int .i64 e.sh,.int .i64 e.sq,.int .i64 e.ep,.slice A e.ds.length c,.string e.se,.int .i64 e.fr,.int .i64 e.tg] :: machL m s bE bS p g q eps' shs F M)) w5:=hS5
 have hFb:=(machL_framed m s bE bS p g q eps' shs F M).cons (Cell.framed y 32 #[.int .i64 e.k,.int .i64 e.ag,.int .i64 e.sh,.int .i64 e.sq,.int .i64 e.ep,.slice A e.ds.length c,.string e.se,.int .i64 e.fr,.int .i64 e.tg])
 have J5:Just (Lic V w) w w5:=((((J0.trans (Just.of_grow hgE)).trans (Just.of_grow hgF)).trans (Just.of_grow hgG)).trans (Just.of_grow hgH)).trans hj5
 clear hm3 hm2 hY2 hY3 hp0 hY0 hg00 hm0 hg10 hp1 hY1
 have hp5:=hS5.blk 5 rfl
 have hY5:=hS5.blk 0 rfl
 have hg5:=hS5.blk 6 rfl
 have hFr:∀ w1,Grow w5 w1→Calls Tryz.prog 56 #[.pointer (some ⟨g,0,none⟩),.int .i64 e.sq] w1 fun en w'=>en=.returned (.bool false)∧Grow w1 w':=fun w1 hg=>by
  have h:=W.far_is w1 g F M e.sq _ (hg5.grow hg) ⟨by have:=hI.lo;omega,hI.hi⟩ hsq hfa
  exact h.mono fun _ _ ⟨h1,h2⟩=>⟨h1,h2▸Grow.refl _⟩
 go_wp2_with fail
 clear hrun
 refine wp_region_flow 8 91 [(7,.inl (.bool false))] rfl rfl (by kernel_rfl) (by kernel_rfl) (by kernel_rfl) ?_ ?_
 ·intro x hx φ he
  simp only[List.mem_cons,List.not_mem_nil,or_false] at hx
  rcases hx with rfl<;>cases he
 intro ops' A' K' T hops hA' hK hT
 refine fl_mvN 79 (.pointer (some ⟨p,0,none⟩)) ?_
 refine fl_op1N 80 (.tmp 79) (.pointer (some ⟨p,0,none⟩)) (.pointer (some ⟨p,0,none⟩)) (fun ρ h1 kk w6 (hg:Grow _ w6) hb hf=>by go_simp) ?_
 refine fl_op1N 81 (.tmp 80) (.pointer (some ⟨p,0,none⟩)) (.pointer (some ⟨p,0,none⟩)) (fun ρ h1 kk w6 (hg:Grow _ w6) hb hf=>by go_simp) ?_
 refine fl_op1N 82 (.tmp 81) (.pointer (some ⟨p,0,none⟩)) (.pointer (some ⟨g,0,none⟩)) (fun ρ h1 kk w6 (hg:Grow _ w6) hb hf=>by have c:=(hp5.grow hg).cell 0;go_simp) ?_
 refine fl_op1N 83 (.tmp 3) (.pointer (some ⟨y,0,none⟩)) (.pointer (some ⟨y,1,none⟩)) (fun ρ h1 kk w6 (hg:Grow _ w6) hb hf=>by go_simp) ?_
 refine fl_op1N 84 (.tmp 83) (.pointer (some ⟨y,1,none⟩)) (.pointer (some ⟨y,1+2,none⟩)) (fun ρ h1 kk w6 (hg:Grow _ w6) hb hf=>by go_simp) ?_
 refine fl_op1N 85 (.tmp 84) (.pointer (some ⟨y,1+2,none⟩)) (.int .i64 e.sq) (fun ρ h1 kk w6 (hg:Grow _ w6) hb hf=>by have c:=(hY5.grow hg).cell 3;go_simp) ?_
 refine fl_call 86 (by rfl) (by decide) (wanted_none (by rfl)) (.bool false) (by rw[hK.out];rfl) 56 _ _ (by rfl) [.pointer (some ⟨g,0,none⟩),.int .i64 e.sq] (by rfl) k56 (fun kk w6 (hg:Grow _ w6) hb hf=>calls_behind (by rfl) (by exact (hFr w6 hg))) ?_
 refine fl_end (fun _ _ w6 (hg:Grow _ w6) _ hfacts=>hT _ _ ?_)
 clear hops hA' hK hT
 simp only[putsL,Act.put,List.setIfInBounds_toArray,List.set_cons_zero,List.set_cons_succ,List.drop_succ_cons,List.drop_zero]
 have hgI:=hg
 have hS6:=hS5.grows hFb hgI
 have hY6:=hS6.blk 0 rfl
 have J6:=J5.trans (Just.of_grow hgI)
 have hd6:DIn w6 D A e.ds.length e.ds:=In.just hd J6 fun b hb hl=>hl.elim (hDV b hb) (fun h=>by have:=hDl b hb;omega)
 have hsh6:gput shs (e.ag,e.sh) (.pointer (some ⟨p,0,none⟩))=[((e.ag,e.sh),.pointer (some ⟨p,0,none⟩))]:=by
  rcases hshs with rfl|⟨pp,rfl⟩
  ·simp[gput]
  ·exact gput_one _ _ _
 have hS7:Solo (Lic V w) (Many (Many (machL m s bE bS p g q eps' shs F M) :: [Cell y 32 #[.int .i64 e.k,.int .i64 e.ag,.int .i64 e.sh,.int .i64 e.sq,.int .i64 e.ep,.slice A e.ds.length c,.string e.se,.int .i64 e.fr,.int .i64 e.tg]])) w6:=Solo.unflat (hS6.perm (List.perm_append_singleton _ _).symm)
 have hF7:AllFramed (Many (machL m s bE bS p g q eps' shs F M) :: [Cell y 32 #[.int .i64 e.k,.int .i64 e.ag,.int .i64 e.sh,.int .i64 e.sq,.int .i64 e.ep,.slice A e.ds.length c,.string e.se,.int .i64 e.fr,.int .i64 e.tg]]):=(AllFramed.nil.cons (Cell.framed _ _ _)).cons (Many.framed _ (machL_framed _ _ _ _ _ _ _ _ _ _ _))
 have hw6:=J6.size
 have hcall:=hS7.atV 0 rfl hF7 fun U hU hUl hUp=>macount_ack w6 m s bE bS p g q eps' shs F M e A c D U hU hUl hd6 (fun b hb=>by have:=hDl b hb;omega) (fun b hb hu=>(hUp b hu).elim (hDV b hb) (fun h=>by have:=hDl b hb;omega)) hsz hn hq hmay hI hsq hsh6
 unfold En.agg at hcall
 have y0:=hY6.cell 0
 have y1:=hY6.cell 1
 have y2:=hY6.cell 2
 have y3:=hY6.cell 3
 have y4:=hY6.cell 4
 have y5:=hY6.cell 5
 have y6:=hY6.cell 6
 have y7:=hY6.cell 7
 have y8:=hY6.cell 8
 go_wp2_with fail
 clear y0 y1 y2 y3 y4 y5 y6 y7 y8
 refine hcall.mono ?_
 rintro en w7 ⟨rfl,hj7,hS8⟩
 go_wp2_with fail
 go_ret2
 have hS9:=(Solo.flat hS8).perm (List.perm_append_singleton _ _)
 obtain⟨r1,r2⟩:=Solo.done hS9.drop1 (J6.trans hj7) hV
 rw[←HE.out]
 exact⟨rfl,⟨s,bE,bS,p,g,r1⟩,r2⟩
theorem ok_sizes {e:En} (hok:e.Ok) (hk:e.k=1):(∀ d∈e.ds,d.1.size≤maxLen∧d.2≤K.M64)∧e.ds.length≤1048576 ∧ -9223372036854775808≤e.sq∧e.sq≤9223372036854775807:=by
 rcases hok.2 with h|h
 ·obtain⟨_,_,_,_,h5,_,h7,h8⟩:=h
  exact⟨fun d hd=>by obtain⟨_,b,_,s⟩:=h8 d hd;exact⟨by unfold maxLen;omega,by unfold K.M64;omega⟩,by omega,by omega,by omega⟩
 ·exact absurd (h.1.symm.trans hk) (by decide)
theorem mach_ack_0 (w:World) (m:Nat) (q:K.Sm) (eps:List (Int×Value)) (F:Int) (M:Nat) (e:En) (A:Option Addr) (c:Nat) (D V:Nat→Prop) (hV:∀ b,V b→b<w.heap.size) (hok:e.Ok) (hk:e.k=1) (hd:DIn w D A e.ds.length e.ds) (hDl:∀ b,D b→b<w.heap.size) (hDV:∀ b,D b→¬ V b) (hq:q.length≤1048576) (hse:W.seen 0 0 e.sq=false) (hfa:W.far 0 e.sq=false) (hep:∃ x:Int,(glk eps e.ag).getD (.int .i64 0)=.int .i64 x∧x≤e.ep) (hmay:K.mayE q e.ds=0) (h:MachAt m q eps none w V) :
 Calls Tryz.prog 13 #[.pointer (some ⟨m,0,none⟩),.agg (e.agg A c)] w fun en w'=>en=.returned (.tuple #[.int .i64 1,.int .u64 0])∧MachAt m (K.addM q e.ds) (gput eps e.ag (.int .i64 e.ep)) (some ((e.ag,e.sh),(W.addS 0 0 e.sq).1,(W.addS 0 0 e.sq).2)) w' (Ext V w w')∧Just V w w':=by
 obtain⟨hsz,hn,hsq⟩:=ok_sizes hok hk
 refine (apply_ack w m q eps 0 0 e A c D V hV hok hk hd hDl hDV hsz hn hq W.WInv.none hsq (fun _=>[]) hse hfa hep hmay (fun _ => .inl rfl) fun wa hg=>of_none wa m q eps V (fun b hb=>Nat.lt_of_lt_of_le (hV b hb) hg.size) e.ag e.sh (MachAt.framed _ _ _ _ w wa V h fun b hb=>hg.block b (hV b hb))).mono fun en w' ⟨h1,⟨s,bE,bS,p,g,h2⟩,h3⟩=>⟨h1,⟨s,bE,bS,p,g,h2⟩,h3⟩
theorem mach_ack_1 (w:World) (m:Nat) (q:K.Sm) (eps:List (Int×Value)) (F:Int) (M:Nat) (e:En) (A:Option Addr) (c:Nat) (D V:Nat→Prop) (hV:∀ b,V b→b<w.heap.size) (hok:e.Ok) (hk:e.k=1) (hd:DIn w D A e.ds.length e.ds) (hDl:∀ b,D b→b<w.heap.size) (hDV:∀ b,D b→¬ V b) (hq:q.length≤1048576) (hI:W.WInv F M) (hse:W.seen F M e.sq=false) (hfa:W.far F e.sq=false) (hep:∃ x:Int,(glk eps e.ag).getD (.int .i64 0)=.int .i64 x∧x≤e.ep) (hmay:K.mayE q e.ds=0) (h:MachAt m q eps (some ((e.ag,e.sh),F,M)) w V) :
 Calls Tryz.prog 13 #[.pointer (some ⟨m,0,none⟩),.agg (e.agg A c)] w fun en w'=>en=.returned (.tuple #[.int .i64 1,.int .u64 0])∧MachAt m (K.addM q e.ds) (gput eps e.ag (.int .i64 e.ep)) (some ((e.ag,e.sh),(W.addS F M e.sq).1,(W.addS F M e.sq).2)) w' (Ext V w w')∧Just V w w':=by
 obtain⟨hsz,hn,hsq⟩:=ok_sizes hok hk
 refine (apply_ack w m q eps F M e A c D V hV hok hk hd hDl hDV hsz hn hq hI hsq (fun p=>[((e.ag,e.sh),.pointer (some ⟨p,0,none⟩))]) hse hfa hep hmay (fun _ => .inr ⟨_,rfl⟩) fun wa hg=>of_some wa m q eps V e.ag e.sh F M (MachAt.framed _ _ _ _ w wa V h fun b hb=>hg.block b (hV b hb))).mono fun en w' ⟨h1,⟨s,bE,bS,p,g,h2⟩,h3⟩=>⟨h1,⟨s,bE,bS,p,g,h2⟩,h3⟩
theorem maFloor_one (w:World) (m:Nat) (q:K.Sm) (eps:List (Int×Value)) (ag sh F:Int) (M:Nat) (V:Nat→Prop) (h:MachAt m q eps (some ((ag,sh),F,M)) w V):Calls Tryz.prog 14 #[.pointer (some ⟨m,0,none⟩),.int .i64 ag,.int .i64 sh] w fun e w'=>e=.returned (.int .i64 F)∧Grow w w':=by
 have hO:=of_some w m q eps V ag sh F M h
 go_enter Tryz.func14,Tryz.ntmps14
 go_wp2_with fail
 refine hO.mono ?_
 rintro en w1 ⟨s,bE,bS,p,g,rfl,hg,U,hM,_⟩
 obtain⟨U4,hp0,_⟩:=(Many.pick _ 4 _ rfl hM).fst
 obtain⟨U5,hg0,_⟩:=(Many.pick _ 5 _ rfl hM).fst
 have c0:=hp0.2.cell 0
 have hF:=W.floor_any w1 g F M hg0.2
 go_wp2_with fail
 refine hF.mono ?_
 rintro en w2 ⟨rfl,rfl⟩
 go_wp2_with fail
 go_ret
 exact⟨rfl,hg⟩
theorem far_next (i:Int):W.far i (i+1)=false:=by
 unfold W.far
 have:decide (64≤i+1-i-1)=false:=decide_eq_false (by omega)
 rw[this,Bool.and_false]
theorem seen_next (i:Int):W.seen i 0 (i+1)=false:=by
 unfold W.seen
 have:decide (i+1≤i)=false:=decide_eq_false (by omega)
 rw[this,Nat.zero_testBit,Bool.and_false,Bool.false_or]
def tA1:ByteArray:=⟨#[97,61,49]⟩
def smA (n:Nat):K.Sm:=if n=0 then [] else [(tA1,n)]
theorem lk_smA (n:Nat):K.lk (smA n) tA1=if n=0 then none else some n:=by
 unfold smA
 by_cases h:n=0
 ·rw[if_pos h,if_pos h];rfl
 ·rw[if_neg h,if_neg h,K.lk_cons,if_pos rfl]
theorem gt_smA (n:Nat):K.gt (smA n) tA1=n:=by
 unfold K.gt
 rw[lk_smA]
 by_cases h:n=0
 ·rw[if_pos h,h];rfl
 ·rw[if_neg h];rfl
theorem smA_len (n:Nat):(smA n).length≤1:=by
 unfold smA
 split<;>simp
theorem add_smA (n v:Nat) (hv:1≤v):K.add (smA n) [(tA1,v)]=smA (n+v):=by
 rw[K.add_cons,K.add_nil,gt_smA]
 unfold K.put
 rw[lk_smA]
 by_cases h:n=0
 ·subst h
  simp[smA,K.cutA,K.cutB,Nat.ne_of_gt hv]
 ·simp[smA,h]
theorem mayE_smA (n v:Nat) (hn:n+v≤18446744073709551615):K.mayE (smA n) [(tA1,v)]=0:=by
 have hok:K.okRun (smA n) [] [(tA1,v)]=true:=by
  rw[K.okRun,K.okRun,Bool.and_true,decide_eq_true_eq,gt_smA]
  have:K.gt [] tA1=0:=rfl
  rw[this]
  show 0+v+n≤18446744073709551615
  omega
 have hnw:K.news (smA n) (K.add [] [(tA1,v)])≤1:=by
  unfold K.news
  refine Nat.le_trans (List.length_filter_le _ _) ?_
  show (K.put [] tA1 (K.gt [] tA1+v)).length≤1
  simp[K.put,K.lk_nil,K.cutA,K.cutB]
 have:=smA_len n
 unfold K.mayE
 rw[if_pos hok,if_neg (by omega)]
theorem addM_smA (n v:Nat) (hv:1≤v) (hn:n+v≤18446744073709551615):K.addM (smA n) [(tA1,v)]=smA (n+v):=by
 unfold K.addM
 rw[if_pos (mayE_smA n v hn),add_smA n v hv]
def enA (ag sq ep:Int) (v:Nat) (fr tg:Int):En:=⟨1,ag,0,sq,ep,[(tA1,v)],⟨#[]⟩,fr,tg⟩
theorem parse_A1:L.parseE tA1=0:=by decide +kernel
theorem enA_ok {ag sq ep:Int} {v:Nat} {fr tg:Int} (ha:0≤ag∧ag<8) (hs:1≤sq∧sq≤9223372036854775807) (he:1≤ep∧ep≤9223372036854775807) (hv:1≤v∧v≤18446744073709551615) (hf:0≤fr∧fr<8) (ht:0≤tg∧tg≤9223372036854775807):(enA ag sq ep v fr tg).Ok:=
 ⟨⟨hf,ht⟩,.inl ⟨rfl,rfl,ha,⟨Int.le_refl 0,show (0:Int)<4 by decide⟩,hs,he,⟨Nat.le_refl 1,show 1≤8 by decide⟩,fun d hd=>by
  have hd:d=(tA1,v):=by simpa [enA] using hd
  subst hd
  exact⟨hv.1,hv.2,parse_A1,show 3≤1000 by decide⟩⟩⟩
end Go.Proofs.YtmijcbfgfkeodaaGreatDoor
end
section
namespace Go.Proofs.YtmijcbfgfkeodaaGreatDoor.W
def mem (F:Int) (M:Nat) (x:Int):Bool:=decide (x≤F) || (decide (F<x) && M.testBit (x-F-1).toNat)
theorem mem_strip1 {F:Int} {M:Nat} (ho:M % 2=1) (x:Int):mem (F+1) (M / 2) x=mem F M x:=by
 unfold mem
 rw[Bool.eq_iff_iff]
 simp only[Bool.or_eq_true,Bool.and_eq_true,decide_eq_true_eq]
 rcases Int.lt_trichotomy x (F+1) with h|h|h
 ·constructor<;>intro _<;>left<;>omega
 ·constructor
  ·intro _
   right
   refine⟨by omega,?_⟩
   have:(x-F-1).toNat=0:=by omega
   rw[this,Nat.testBit_zero];simpa using ho
  ·intro _;left;omega
 ·have e:(x-F-1).toNat=(x-(F+1)-1).toNat+1:=by omega
  rw[e,Nat.testBit_succ]
  constructor
  ·rintro (h1|⟨_,h1⟩)
   ·omega
   ·exact .inr ⟨by omega,h1⟩
  ·rintro (h1|⟨_,h1⟩)
   ·omega
   ·exact .inr ⟨by omega,h1⟩
theorem mem_strip:∀ (k:Nat) (F:Int) (M:Nat) (x:Int),mem (strip k F M).1 (strip k F M).2 x=mem F M x
 | 0,F,M,x=>by unfold strip;rfl
 | k+1,F,M,x=>by
   unfold strip
   split
   ·rename_i ho
    rw[mem_strip k,mem_strip1 ho]
   ·rfl
theorem strip_even:∀ (k:Nat) (F:Int) (M:Nat),M<2 ^ k→(strip k F M).2 % 2=0
 | 0,F,M,h=>by unfold strip;simp at h;omega
 | k+1,F,M,h=>by
   unfold strip
   split
   ·exact strip_even k _ _ (by rw[Nat.pow_succ] at h;omega)
   ·omega
theorem mem_put {F:Int} {M:Nat} {n:Int} (h:F<n) (x:Int):mem (put F M n).1 (put F M n).2 x=(mem F M x || decide (x=n)):=by
 unfold put
 rw[mem_strip]
 unfold mem
 rw[Bool.eq_iff_iff]
 simp only[Nat.testBit_or,Nat.testBit_two_pow,Bool.or_eq_true,Bool.and_eq_true,decide_eq_true_eq]
 constructor
 ·rintro (h1|⟨h1,h2|h2⟩)
  ·exact .inl (.inl h1)
  ·exact .inl (.inr ⟨h1,h2⟩)
  ·exact .inr (by omega)
 ·rintro ((h1|⟨h1,h2⟩)|h1)
  ·exact .inl h1
  ·exact .inr ⟨h1,.inl h2⟩
  ·exact .inr ⟨by omega,.inr (by rw[h1])⟩
structure Low (k:Int) (F:Int) (M:Nat):Prop where
 inv:WInv F M
 top:∀ x,mem F M x=true→x≤k
 even:M % 2=0
theorem Low.none {k:Int} (hk:0≤k):Low k 0 0:=⟨WInv.none,fun x h=>by unfold mem at h;simp at h;omega,rfl⟩
theorem Low.floor {k F:Int} {M:Nat} (h:Low k F M):F≤k:=h.top F (by unfold mem;simp)
theorem Low.near {k F:Int} {M:Nat} (h:Low k F M) (hk:k≤60) {n:Int} (hn:n≤k+1):far F n=false:=by
 have:=h.inv.lo
 unfold far
 rw[Bool.and_eq_false_iff]
 exact .inr (decide_eq_false (by omega))
theorem Low.seen {k F:Int} {M:Nat} (h:Low k F M) (hk:k≤60) {n:Int} (hn:n≤k+1):seen F M n=mem F M n:=by
 unfold Go.Proofs.YtmijcbfgfkeodaaGreatDoor.W.seen mem
 rw[h.near hk hn]
 by_cases hF:n≤F
 ·rw[decide_eq_true hF];rfl
 ·rw[decide_eq_false hF,decide_eq_true (show F<n by omega)];rfl
theorem Low.addB {k F:Int} {M:Nat} (h:Low k F M) (hk:k≤60) {n:Int} (hn:n≤k+1):addB F M n=!mem F M n:=by
 unfold Go.Proofs.YtmijcbfgfkeodaaGreatDoor.W.addB
 rw[h.near hk hn,h.seen hk hn];rfl
theorem Low.add {k F:Int} {M:Nat} (h:Low k F M) (hk:k≤60) {n:Int} (hn:n≤k):Low k (addS F M n).1 (addS F M n).2∧∀ x,mem (addS F M n).1 (addS F M n).2 x=(mem F M x || decide (x=n)):=by
 unfold addS
 cases hb:Go.Proofs.YtmijcbfgfkeodaaGreatDoor.W.addB F M n with
 | false=>
   rw[if_neg Bool.false_ne_true]
   rw[h.addB hk (by omega)] at hb
   refine⟨h,fun x=>?_⟩
   by_cases hx:x=n
   ·subst hx
    have:mem F M x=true:=by simpa using hb
    rw[this];rfl
   ·rw[decide_eq_false hx,Bool.or_false]
 | true=>
   rw[if_pos rfl]
   obtain⟨h1,h2,_⟩:=addB_range hb
   have hm:=mem_put (M:=M) h1
   refine⟨⟨h.inv.put (by omega) h1 h2,fun x hx=>?_,?_⟩,hm⟩
   ·rw[hm,Bool.or_eq_true,decide_eq_true_eq] at hx
    rcases hx with hx|hx
    ·exact h.top x hx
    ·omega
   ·unfold put
    refine strip_even 64 _ _ ?_
    exact Nat.or_lt_two_pow (n:=64) h.inv.mask (Nat.pow_lt_pow_right (by omega) (by omega))
theorem Low.full {k F:Int} {M:Nat} (h:Low k F M) (hall:∀ x,1≤x→x≤k→mem F M x=true):F=k∧M=0:=by
 have h0:=h.inv.lo
 have hF:F=k:=by
  rcases Int.lt_or_eq_of_le h.floor with hlt|he
  ·exfalso
   have:=hall (F+1) (by omega) (by omega)
   unfold mem at this
   simp only[Bool.or_eq_true,Bool.and_eq_true,decide_eq_true_eq] at this
   rcases this with h1|⟨_,h1⟩
   ·omega
   ·rw[show (F+1-F-1).toNat=0 by omega,Nat.testBit_zero] at h1
    have:=h.even
    simp at h1;omega
  ·exact he
 refine⟨hF,Nat.eq_of_testBit_eq fun i=>?_⟩
 rw[Nat.zero_testBit]
 cases hi:M.testBit i with
 | false=>rfl
 | true=>
   have:=h.top (F+1+i) (by
    unfold mem
    rw[Bool.or_eq_true,Bool.and_eq_true]
    refine .inr ⟨decide_eq_true (by omega),?_⟩
    rw[show (F+1+(i:Int)-F-1).toNat=i by omega];exact hi)
   omega
end Go.Proofs.YtmijcbfgfkeodaaGreatDoor.W
end
