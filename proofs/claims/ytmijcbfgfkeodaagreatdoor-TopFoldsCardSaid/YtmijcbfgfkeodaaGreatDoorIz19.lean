/- Mg3, Mg4. -/
import Derived.Test.YtmijcbfgfkeodaaGreatDoorIz18
set_option linter.all false
set_option maxRecDepth 100000
set_option maxHeartbeats 2000000
open Go.Value renaming int → ae,slice → ai
open Go.IntKind renaming i64 → af,u64 → ah
open Go.Proofs.Tryz renaming prog → au
open List renaming setIfInBounds_toArray → aw,drop_succ_cons → ax,set_cons_zero → ay,set_cons_succ → az,drop_zero → aB,length_append → aD,not_mem_nil → aE,mem_cons → aF,length_singleton → aT,take_succ_cons → aV,map_cons → bg,take_zero → bw
open Nat renaming lt_of_lt_of_le → aA,le_refl → aC,le_trans → aH
section
namespace Go.Hop
open Go.RowKit
def zB (U:Nat→Prop) (w0:World) (e:TypeId) (size n:Nat) (xs:List Value) (u:Value) (w:World):Prop:=Own w (Ext U w0 w) e size u n xs
theorem ss (U:Nat→Prop) (w0:World) (e:TypeId) (size n:Nat) (xs:List Value):dv (zB U w0 e size n xs):=fun _ _ _ h hg=>(Own.grows h hg).mono fun _ hb=>hb.imp id fun h=>⟨h.1,aA h.2 hg.size⟩
theorem Own.drew {w:World} {V:Nat→Prop} {e:TypeId} {size n:Nat} {v:Value} {xs:List Value} (h:Own w V e size v n xs):Own w.drew V e size v n xs:=h
theorem wP {P:Program} {t e:TypeId} {size bytes:Nat} {z:Value} (E:Elem P t e size bytes z) {V:Nat→Prop} {w0 w:World} {o:Oper} {ρ:Operand→Value} {x y:Operand} {v:Value} {n:Nat} {xs:List Value} (hI:Own w V e size v n xs) (hx:ρ x=v) {A:Option Addr} {m c Bd:Nat} {news:List Value} (hy:ρ y=.slice A m c) (hr:Reads w Bd size A m news)
 (h1:∀ u∈news,u.oneCell'=true) (hbytes:(n+m)*bytes≤140737488355328) (h0:w0.heap.size≤w.heap.size) (ho:o.op=.call { callee := .builtin .append,args:=#[x,y],argTypes:=#[t,t] }) (k:Nat) :
 cz P (fun u w'=>Just V w w'∧Own w' V e size v n xs∧Once (zB V w0 e size (n+m) (xs++news)) (k+1) u w') ((execOp ρ o).run P w):=by
 obtain⟨v',w',hrun,h2,h3,h4⟩:=nY E w o.type v n xs hI Bd A m c news hr h1 hbytes
 refine cF (u:=v') (w:=w') ?_ ⟨h3,h4,show Own w' (Ext V w0 w') e size v' (n+m) (xs++news) from h2.mono fun b hb=>?_⟩
 ·unfold execOp
  simp only[ho,resolve,invoke,builtin,Sem.run_bind,Sem.run_pure,Result.andThen_ok,List.map_toArray,bg,List.map_nil,hx,hy,hrun]
 ·rcases hb with hb|hb
  ·exact .inl hb
  ·exact .inr ⟨aH h0 hb.1,hb.2⟩
end Go.Hop
namespace Go.Proofs.YtmijcbfgfkeodaaGreatDoor
open Go.RowKit Go.Hop
theorem CX {w:World} {n:Int} {o:Oper} {ρ:Operand→Value} {x:Operand} (hx:ρ x=ae af n) (ho:o.op=.buildSlice 52 1 #[(0,x)]) :
 cz au (fun u w'=>Grow w w'∧qK 1 1 [ae af n] u w') ((execOp ρ o).run au w):=by
 obtain⟨dst,op,ty,pos,after,guard⟩:=o
 simp only at ho
 subst ho
 have hg:Grow w (w.alloc (.cells #[ae af n] 2)):=(Below.refl _ w).alloc (aC _) _
 refine cF (u := .slice (some ⟨w.heap.size,0,none⟩) 1 1) (w:=w.alloc (.cells #[ae af n] 2)) (by go_simp) ⟨hg,some ⟨w.heap.size,0,none⟩,1,rfl,?_⟩
 exact Reads.more (df w #[ae af n] 2 (0,0) (n:=1) (size:=1) rfl _ rfl) (by simp)
theorem wR (w:World) (m s bE bS p g:Nat) (Ab:Option Addr) (nb cb:Nat) (q:K.Sm) (d9:List (Int×Value)) (dL:List (Key×Value)) (F:Int) (M:Nat) (B:List Int) (R:cg) (hR:Framed R) (e:En) (A:Option Addr) (c:Nat) (D V:Nat→Prop) (hM:Many (dU m s bE bS p g (.slice Ab nb cb) q d9 dL F M B R) w V) (hV:∀ b,V b→b<w.heap.size) (hd:fV w D A e.ds.length e.ds) (hDl:∀ b,D b→b<w.heap.size) (j5:∀ b,D b→¬ V b) (hsz:∀ d∈e.ds,d.1.size≤maxLen∧d.2≤K.kc) (hn:e.ds.length≤1048576) (hq:q.length≤1048576) (hI:W.fu F M) (im:-9223372036854775808≤e.sq∧e.sq≤9223372036854775807) (hmay:K.i3 q e.ds≠0) (hnb:nb<8) (hB:B.length=nb) :
 Calls au 57 #[((m:Nat):Value),((p:Nat):Value),.agg (e.agg A c)] w fun en w'=>en=.returned (ae af 3)∧(∃ v,Many (dU m s bE bS p g v q d9 (dQ dL (e.ag,e.sh) (((p:Nat):Value))) (W.dm F M e.sq).1 (W.dm F M e.sq).2 (nG (B++[e.sq])) R) w' (Ext V w w'))∧Just V w w':=by
 have I7:∀ (vs:Array Value) (w:World),(callFunc 131 vs).run au w=.ok (.enter 131 vs) w:=fun vs w=>by go_simp
 have I8:∀ (vs:Array Value) (w:World),(callFunc 133 vs).run au w=.ok (.enter 133 vs) w:=fun vs w=>by go_simp
 have Kz:∀ (vs:Array Value) (w:World),(callFunc 132 vs).run au w=.ok (.enter 132 vs) w:=fun vs w=>by go_simp
 have hF:=de m s bE bS p g (.slice Ab nb cb) q d9 dL F M B hR
 have hS:=Solo.begin_ hM hV
 have hg0:=bN w (.cells (e.agg A c) 32)
 have du:=ct.made w 32 (e.agg A c)
 obtain⟨y,HY⟩:∃ y:Nat,Hid (y=w.heap.size):=⟨_,rfl⟩
 obtain⟨wa,dq⟩:∃ wa:World,Hid (wa=w.alloc (.cells (e.agg A c) 32)):=⟨_,rfl⟩
 rw[←dq.out] at hg0 du
 rw[←HY.out] at du
 unfold En.agg at dq ⊢
 have ez:=hS.join hF hg0 (R:=Cell y 32 #[ae af e.k,ae af e.ag,ae af e.sh,ae af e.sq,ae af e.ep,.slice A e.ds.length c,.string e.se,ae af e.fr,ae af e.tg]) (U:=fun b=>b=y) ⟨rfl,du⟩ (fun b hb=>by have:=HY.out;have:=du.lt;omega)
 have eP:=hF.cons (Cell.framed y 32 #[ae af e.k,ae af e.ag,ae af e.sh,ae af e.sq,ae af e.ep,.slice A e.ds.length c,.string e.se,ae af e.fr,ae af e.tg])
 have kf:=ez.blk 0 rfl
 have hm1:=ez.blk 1 rfl
 clear du
 go_enter Tryz.func57,Tryz.ntmps57
 go_wp2_with fail
 rw[←dq.out,←HY.out]
 refine bL 6 60 [] rfl rfl am am am ?_ ?_
 ·intro x hx φ he
  cases hx
 intro ops' A' K' T hops hA' hK hT
 refine bP 8 (((m:Nat):Value)) ?_
 refine bQ 9 (.tmp 8) (((m:Nat):Value)) (((m:Nat):Value)) ?_
 refine bQ 10 (.tmp 9) (((m:Nat):Value)) (((m:Nat):Value)) ?_
 refine bI 11 (.tmp 10) (((m:Nat):Value)) (((s:Nat):Value)) (fun ρ h1 kk w1 (hg:Grow _ w1) hb hf=>by have c:=(hm1.grow hg).cell 0;go_simp) ?_
 refine bQ 12 (.tmp 5) (((y:Nat):Value)) (.pointer (some ⟨y,5,none⟩)) ?_
 refine bI 13 (.tmp 12) (.pointer (some ⟨y,5,none⟩)) (.slice A e.ds.length c) (fun ρ h1 kk w1 (hg:Grow _ w1) hb hf=>by have c:=(kf.grow hg).cell 5;go_simp) ?_
 refine ce (fun _ _ w1 (hg:Grow _ w1) _ bR=>hT _ _ ?_)
 clear hops hA' hK hT
 simp only[cj,Act.put,aw,ay,az,ax,aB]
 have hS1:=ez.grows eP hg
 have J1:=Just.bJ (V:=cB V w) (hg0.trans hg)
 have hd1:=hd.grow (hg0.trans hg)
 have hcall:=hS1.zw 2 rfl eP (fun U hU ey wO=>K.kV w1 s q U hU ey A e.ds.length c e.ds D hd1 (fun b hb hu=>(wO b hu).elim (j5 b hb) (fun h=>by have:=hDl b hb;omega)) hsz hn hq)
 have hadd:K.fP q e.ds=q:=by unfold K.fP;rw[if_neg hmay]
 rw[hadd] at hcall
 obtain⟨x,HX⟩:∃ x:Int,Hid (x=K.i3 q e.ds):=⟨_,rfl⟩
 rw[←HX.out] at hcall hmay
 have hx1:(x == 0)=false:=beq_eq_false_iff_ne.2 hmay
 have hx2:decide (x=0)=false:=decide_eq_false hmay
 have hx3:(x != 0)=true:=bne_iff_ne.2 hmay
 have hb1:decide ((8:Int)≤(nb:Int))=false:=decide_eq_false al
 go_wp2_with fail
 refine hcall.mono ?_
 rintro en w2 ⟨rfl,hj2,hS2⟩
 have hS2:Solo (cB V w) (Many (Cell y 32 #[ae af e.k,ae af e.ag,ae af e.sh,ae af e.sq,ae af e.ep,.slice A e.ds.length c,.string e.se,ae af e.fr,ae af e.tg] :: dU m s bE bS p g (.slice Ab nb cb) q d9 dL F M B R)) w2:=hS2
 have hp2:=hS2.blk 5 rfl
 have c1:=hp2.cell 1
 clear hmay
 have HB:=Lib.hid hB
 go_wp2_with fail
 obtain⟨U,hU,ey,JL⟩:=Solo.P9 (S:=o3 (.slice Ab nb cb) B) 7 rfl eP hS2
 have hU:Own w2 U 2 1 (.slice Ab nb cb) B.length (lI B):=hU
 rw[hB] at hU
 clear hB
 have Pb:∀ w3,Just U w2 w3→ct w3 p 124 #[((g:Nat):Value),.slice Ab nb cb]:=fun w3 hj=>(JL cW w3 trivial hj).1.blk 5 rfl
 have Pf:∀ w3,Just U w2 w3→ct w3 y 32 #[ae af e.k,ae af e.ag,ae af e.sh,ae af e.sq,ae af e.ep,.slice A e.ds.length c,.string e.se,ae af e.fr,ae af e.tg]:=fun w3 hj=>(JL cW w3 trivial hj).1.blk 0 rfl
 refine c_ rfl ?_
 refine er (qE U 2 1 (.slice Ab nb cb) nb (lI B) 9 []) Bt 0 12 60 [(8,.inr (Early (qK 1 1 [ae af e.sq]))),(9,.inr (Once (zB U w2 2 1 (nb+1) (lI B++[ae af e.sq]))))] rfl am am am ?_ (Just.bJ (Grow.refl _).drew) (Own.drew hU) ?_
 ·intro x hx φ he
  simp only[aF,aE,or_false] at hx
  rcases hx with rfl|rfl<;>cases he
  all_goals first|exact ca (cn _)|exact vl (ss _ _ _ _ _ _)|exact t8 (pV _ _ _)
 intro ops' A' K' T hops hA' hK hT
 refine bP 22 (((p:Nat):Value)) ?_
 refine bP 23 (((p:Nat):Value)) ?_
 refine bI 24 (.tmp 23) (((p:Nat):Value)) (((p:Nat):Value)) (fun ρ h1 kk w3 (hgA:Just U _ w3) hb hf=>by go_simp) ?_
 refine bI 25 (.tmp 24) (((p:Nat):Value)) (.pointer (some ⟨p,1,none⟩)) (fun ρ h1 kk w3 (hgA:Just U _ w3) hb hf=>by go_simp) ?_
 refine bI 26 (.tmp 25) (.pointer (some ⟨p,1,none⟩)) (.slice Ab nb cb) (fun ρ h1 kk w3 (hgA:Just U _ w3) hb hf=>by have c:=(Pb w3 hgA).cell 1;go_simp) ?_
 refine bI 27 (.tmp 5) (((y:Nat):Value)) (.pointer (some ⟨y,1,none⟩)) (fun ρ h1 kk w3 (hgA:Just U _ w3) hb hf=>by go_simp) ?_
 refine bI 28 (.tmp 27) (.pointer (some ⟨y,1,none⟩)) (.pointer (some ⟨y,1+2,none⟩)) (fun ρ h1 kk w3 (hgA:Just U _ w3) hb hf=>by go_simp) ?_
 refine bI 29 (.tmp 28) (.pointer (some ⟨y,1+2,none⟩)) (ae af e.sq) (fun ρ h1 kk w3 (hgA:Just U _ w3) hb hf=>by have c:=(Pf w3 hgA).cell 3;go_simp) ?_
 refine fE 30 aj ak (bO aj) (Early (qK 1 1 [ae af e.sq])) (by rw[hK.out];rfl) (.tmp 29) (ae af e.sq) aj (fun ρ h1 kk w3 (hgA:Just U _ w3) hb hf=>by refine cA (φ:=Early (qK 1 1 [ae af e.sq])) aj ?_;exact eN (CX (n:=e.sq) h1 rfl) fun u w2 h=>⟨h.1,Bu h.2⟩) (fun v30=>?_)
 refine gv 31 aj ak (bO aj) (Once (zB U w2 2 1 (nb+1) (lI B++[ae af e.sq]))) (by rw[hK.out];rfl) (.tmp 26) (.tmp 30) (.slice Ab nb cb) (v30) aj aj (fun ρ h1 h2 kk w3 (hgA:Just U _ w3) hb hf=>by obtain rfl:=cw 0 aj hb;have hI:=hb.1;refine jE (S:=(qE U 2 1 (.slice Ab nb cb) nb (lI B) 9 [])) (j:=9) (k:=0) (φ:=Once (zB U w2 2 1 (nb+1) (lI B++[ae af e.sq]))) 0 aj ?_;have q1:=(cy hf (by rw[hA'.out];kernel_rfl));have hr:qK 1 1 [ae af e.sq] v30 w3:=q1;obtain⟨A9,c9,QS,Mz⟩:=hr;rw[QS] at h2;exact wP N7 hI h1 h2 Mz (I6 [e.sq]) al hgA.size rfl 0) (fun v31=>?_)
 refine bI 32 (.tmp 22) (((p:Nat):Value)) (((p:Nat):Value)) (fun ρ h1 kk w3 (hgA:Just U _ w3) hb hf=>by go_simp) ?_
 refine bI 33 (.tmp 32) (((p:Nat):Value)) (.pointer (some ⟨p,1,none⟩)) (fun ρ h1 kk w3 (hgA:Just U _ w3) hb hf=>by go_simp) ?_
 refine ce (fun _ _ w3 (hgA:Just U _ w3) hend bR=>hT _ _ ?_)
 clear hops hA' hK hT
 simp only[cj,Act.put,aw,ay,az]
 have hO3:zB U w2 2 1 (nb+1) (lI B++[ae af e.sq]) v31 w3:=bR.1
 clear hend bR
 obtain⟨A3,c3,rfl,_,_,_⟩:=Own.reads hO3
 refine fM 12 13 am am ?_
 simp only[aV,bw,ax,aB]
 have KA:o3 (.slice A3 (nb+1) c3) (B++[e.sq]) w3 (Ext U w2 w3):=by
  have e1:lI B++[ae af e.sq]=lI (B++[e.sq]):=by simp[lI]
  have e2:nb+1=(B++[e.sq]).length:=by rw[aD,HB.out];rfl
  show Own w3 (Ext U w2 w3) 2 1 (.slice A3 (nb+1) c3) (B++[e.sq]).length (lI (B++[e.sq]))
  rw[←e2,←e1]
  exact hO3
 obtain⟨dO,J3⟩:=JL _ w3 KA hgA
 have dO:Solo (cB V w) (Many [Cell y 32 #[ae af e.k,ae af e.ag,ae af e.sh,ae af e.sq,ae af e.ep,.slice A e.ds.length c,.string e.se,ae af e.fr,ae af e.tg],Cell m 117 #[((s:Nat):Value),.map (some bE),.map (some bS)],K.ek s q,cJ k_ bE d9,cJ u_ bS dL,Cell p 124 #[((g:Nat):Value),.slice Ab nb cb],Cell g 223 #[ae af F,ae ah (M:Int)],o3 (.slice A3 (nb+1) c3) (B++[e.sq]),R]) w3:=dO
 have i9:bM [Cell y 32 #[ae af e.k,ae af e.ag,ae af e.sh,ae af e.sq,ae af e.ep,.slice A e.ds.length c,.string e.se,ae af e.fr,ae af e.tg],Cell m 117 #[((s:Nat):Value),.map (some bE),.map (some bS)],K.ek s q,cJ k_ bE d9,cJ u_ bS dL,Cell p 124 #[((g:Nat):Value),.slice Ab nb cb],Cell g 223 #[ae af F,ae ah (M:Int)],o3 (.slice A3 (nb+1) c3) (B++[e.sq]),R]:=((((((((bM.nil.cons hR).cons (o3.framed _ _)).cons (Cell.framed _ _ _)).cons (Cell.framed _ _ _)).cons (cJ.framed _ _)).cons (cJ.framed _ _)).cons (K.ek.framed _ _)).cons (Cell.framed _ _ _)).cons (Cell.framed _ _ _)
 have hp3:=dO.blk 5 rfl
 have c1:=hp3.cell 1
 have f1:=hp3.frozen 1
 have ev:Solo (cB V w) (Many (Cell y 32 #[ae af e.k,ae af e.ag,ae af e.sh,ae af e.sq,ae af e.ep,.slice A e.ds.length c,.string e.se,ae af e.fr,ae af e.tg] :: dU m s bE bS p g (.slice A3 (nb+1) c3) q d9 dL F M (B++[e.sq]) R)) (w3.setCell ⟨p,1,none⟩ (.slice A3 (nb+1) c3)):=Solo.puts (x:=p) (t:=124) (cs:=#[((g:Nat):Value),.slice Ab nb cb]) 5 rfl i9 dO 1 (.slice A3 (nb+1) c3)
 have J4:Just (cB V w) w (w3.setCell ⟨p,1,none⟩ (.slice A3 (nb+1) c3)):=((J1.trans hj2).trans J3).put (dO.ig 5 rfl).1 1 (.slice A3 (nb+1) c3)
 obtain⟨B2,HB2⟩:∃ B2:List Int,Hid (B2=B++[e.sq]):=⟨_,rfl⟩
 obtain⟨w4,Gs⟩:∃ w4:World,Hid (w4=w3.setCell ⟨p,1,none⟩ (.slice A3 (nb+1) c3)):=⟨_,rfl⟩
 rw[←HB2.out] at ev
 rw[←Gs.out] at ev J4
 have qc:=(de m s bE bS p g (.slice A3 (nb+1) c3) q d9 dL F M B2 hR).cons (Cell.framed y 32 #[ae af e.k,ae af e.ag,ae af e.sh,ae af e.sq,ae af e.ep,.slice A e.ds.length c,.string e.se,ae af e.fr,ae af e.tg])
 clear hp2 Pb Pf JL hO3 KA dO i9 hU ey kf hm1
 have Pg:=ev.blk 5 rfl
 have d1:=Pg.cell 1
 have N8:=ev.zw (S':=o3 (.slice A3 (nb+1) c3) (nG B2)) 7 rfl qc (fun U hU ey wO=>(zv w4 U (.slice A3 (nb+1) c3) B2 hU (by rw[HB2.out,aD,HB.out,aT];omega)).mono fun en w' ⟨h1,h2,h3⟩=>⟨h1,h2.mono fun _ h => .inl h,h3⟩)
 go_wp2_with fail
 refine eY ?_
 rw[←Gs.out]
 clear c1 f1 hp3
 go_wp2_with fail
 refine N8.mono ?_
 rintro en w5 ⟨rfl,dY,hS5⟩
 have hS5:Solo (cB V w) (Many (Cell y 32 #[ae af e.k,ae af e.ag,ae af e.sh,ae af e.sq,ae af e.ep,.slice A e.ds.length c,.string e.se,ae af e.fr,ae af e.tg] :: dU m s bE bS p g (.slice A3 (nb+1) c3) q d9 dL F M (nG B2) R)) w5:=hS5
 obtain⟨B3,HB3⟩:∃ B3:List Int,Hid (B3=nG B2):=⟨_,rfl⟩
 rw[←HB3.out] at hS5
 have iU:=(de m s bE bS p g (.slice A3 (nb+1) c3) q d9 dL F M B3 hR).cons (Cell.framed y 32 #[ae af e.k,ae af e.ag,ae af e.sh,ae af e.sq,ae af e.ep,.slice A e.ds.length c,.string e.se,ae af e.fr,ae af e.tg])
 clear d1 Pg
 have hp2:=hS5.blk 5 rfl
 have hY2:=hS5.blk 0 rfl
 go_wp2_with fail
 refine bL 7 60 [] rfl rfl am am am ?_ ?_
 ·intro x hx φ he
  cases hx
 intro ops' A' K' T hops hA' hK hT
 refine bP 39 (((p:Nat):Value)) ?_
 refine bI 40 (.tmp 39) (((p:Nat):Value)) (((p:Nat):Value)) (fun ρ h1 kk w7 (hgB:Grow _ w7) hb hf=>by go_simp) ?_
 refine bI 41 (.tmp 40) (((p:Nat):Value)) (((p:Nat):Value)) (fun ρ h1 kk w7 (hgB:Grow _ w7) hb hf=>by go_simp) ?_
 refine bI 42 (.tmp 41) (((p:Nat):Value)) (((g:Nat):Value)) (fun ρ h1 kk w7 (hgB:Grow _ w7) hb hf=>by have c:=(hp2.grow hgB).cell 0;go_simp) ?_
 refine bI 43 (.tmp 5) (((y:Nat):Value)) (.pointer (some ⟨y,1,none⟩)) (fun ρ h1 kk w7 (hgB:Grow _ w7) hb hf=>by go_simp) ?_
 refine bI 44 (.tmp 43) (.pointer (some ⟨y,1,none⟩)) (.pointer (some ⟨y,1+2,none⟩)) (fun ρ h1 kk w7 (hgB:Grow _ w7) hb hf=>by go_simp) ?_
 refine bI 45 (.tmp 44) (.pointer (some ⟨y,1+2,none⟩)) (ae af e.sq) (fun ρ h1 kk w7 (hgB:Grow _ w7) hb hf=>by have c:=(hY2.grow hgB).cell 3;go_simp) ?_
 refine ce (fun _ _ w7 (hgB:Grow _ w7) _ bR=>hT _ _ ?_)
 clear hops hA' hK hT
 simp only[cj,Act.put,aw,ay,az,ax,aB]
 have gB:=hS5.grows iU hgB
 have hc3:=gB.zw (S':=Cell g 223 #[ae af (W.dm F M e.sq).1,ae ah ((W.dm F M e.sq).2:Int)]) 6 rfl iU (fun U hU ey wO=>(W.sk w7 g F M e.sq hU.2 hI im).mono fun en w' ⟨h1,h2,h3⟩=>⟨h1,⟨.inl hU.1,h2⟩,Just.dj h3 hU.1⟩)
 go_wp2_with fail
 refine hc3.mono ?_
 rintro en w8 ⟨rfl,ko,u9⟩
 have u9:Solo (cB V w) (Many (Cell y 32 #[ae af e.k,ae af e.ag,ae af e.sh,ae af e.sq,ae af e.ep,.slice A e.ds.length c,.string e.se,ae af e.fr,ae af e.tg] :: dU m s bE bS p g (.slice A3 (nb+1) c3) q d9 dL (W.dm F M e.sq).1 (W.dm F M e.sq).2 B3 R)) w8:=u9
 obtain⟨F',HF⟩:∃ F':Int,Hid (F'=(W.dm F M e.sq).1):=⟨_,rfl⟩
 obtain⟨M',Gr⟩:∃ M':Nat,Hid (M'=(W.dm F M e.sq).2):=⟨_,rfl⟩
 rw[←HF.out,←Gr.out] at u9
 have Bg:=(de m s bE bS p g (.slice A3 (nb+1) c3) q d9 dL F' M' B3 hR).cons (Cell.framed y 32 #[ae af e.k,ae af e.ag,ae af e.sh,ae af e.sq,ae af e.ep,.slice A e.ds.length c,.string e.se,ae af e.fr,ae af e.tg])
 have qX:=u9.blk 0 rfl
 have JI:=u9.blk 1 rfl
 go_wp2_with fail
 refine bL 12 60 [] rfl rfl am am am ?_ ?_
 ·intro x hx φ he
  cases hx
 intro ops' A' K' T hops hA' hK hT
 refine bP 47 (((m:Nat):Value)) ?_
 refine bI 48 (.tmp 47) (((m:Nat):Value)) (((m:Nat):Value)) (fun ρ h1 kk w9 (iJ:Grow _ w9) hb hf=>by go_simp) ?_
 refine bI 49 (.tmp 48) (((m:Nat):Value)) (.pointer (some ⟨m,2,none⟩)) (fun ρ h1 kk w9 (iJ:Grow _ w9) hb hf=>by go_simp) ?_
 refine bI 50 (.tmp 49) (.pointer (some ⟨m,2,none⟩)) (.map (some bS)) (fun ρ h1 kk w9 (iJ:Grow _ w9) hb hf=>by have c:=(JI.grow iJ).cell 2;go_simp) ?_
 refine bI 51 (.tmp 5) (((y:Nat):Value)) (.pointer (some ⟨y,1,none⟩)) (fun ρ h1 kk w9 (iJ:Grow _ w9) hb hf=>by go_simp) ?_
 refine bI 52 (.tmp 51) (.pointer (some ⟨y,1,none⟩)) (.pointer (some ⟨y,1+0,none⟩)) (fun ρ h1 kk w9 (iJ:Grow _ w9) hb hf=>by go_simp) ?_
 refine bI 53 (.tmp 52) (.pointer (some ⟨y,1+0,none⟩)) (ae af e.ag) (fun ρ h1 kk w9 (iJ:Grow _ w9) hb hf=>by have c:=(qX.grow iJ).cell 1;go_simp) ?_
 refine bI 54 (.tmp 5) (((y:Nat):Value)) (.pointer (some ⟨y,1,none⟩)) (fun ρ h1 kk w9 (iJ:Grow _ w9) hb hf=>by go_simp) ?_
 refine bI 55 (.tmp 54) (.pointer (some ⟨y,1,none⟩)) (.pointer (some ⟨y,1+1,none⟩)) (fun ρ h1 kk w9 (iJ:Grow _ w9) hb hf=>by go_simp) ?_
 refine bI 56 (.tmp 55) (.pointer (some ⟨y,1+1,none⟩)) (ae af e.sh) (fun ρ h1 kk w9 (iJ:Grow _ w9) hb hf=>by have c:=(qX.grow iJ).cell 2;go_simp) ?_
 refine cm 57 (.tmp 53) (.tmp 56) (ae af e.ag) (ae af e.sh) (.agg #[ae af e.ag,ae af e.sh]) (fun ρ h1 h2 kk w9 (iJ:Grow _ w9) hb hf=>by go_simp) ?_
 refine bP 58 (((p:Nat):Value)) ?_
 refine ce (fun _ _ w9 (iJ:Grow _ w9) _ bR=>hT _ _ ?_)
 clear hops hA' hK hT
 simp only[cj,Act.put,aw,ay,az,ax,aB]
 have hS5:=u9.grows Bg iJ
 obtain⟨wA,hrun,eC,fI⟩:=hS5.qb (φ:=fun w'=>(Instr.mapUpdate 115 (.map (some bS)) (.agg #[ae af e.ag,ae af e.sh]) (((p:Nat):Value))).run au w9=.ok () w') 4 rfl Bg (fun U hU ey=>by
  obtain⟨w',h1,h2,h3⟩:=cJ.put CR (t:=115) (et:=120) am hU (e.ag,e.sh) (((p:Nat):Value))
  exact⟨w',h1,h2,h3.imp fun b hb=>hb▸hU.1⟩)
 go_wp2_with fail
 go_ret
 obtain⟨r1,r2⟩:=Solo.done (l:=dU m s bE bS p g (.slice A3 (nb+1) c3) q d9 (dQ dL (e.ag,e.sh) (((p:Nat):Value))) F' M' B3 R) eC.drop1 (((J4.trans dY).trans ((Just.bJ hgB).trans ko)).trans ((Just.bJ iJ).trans fI)) hV
 rw[HB2.out] at HB3
 rw[←HB3.out,←HF.out,←Gr.out]
 exact⟨rfl,⟨_,r1⟩,r2⟩
end Go.Proofs.YtmijcbfgfkeodaaGreatDoor
end
section
namespace Go.Proofs.YtmijcbfgfkeodaaGreatDoor
open Go.RowKit Go.Hop
theorem ua (w:World) (m:Nat) (q:K.Sm) (d9:List (Int×Value)) (gp:List (Key×Pl)) (e:En) (A:Option Addr) (c:Nat) (D V:Nat→Prop) (hV:∀ b,V b→b<w.heap.size) (hok:e.Ok) (hk:e.k=1) (hd:fV w D A e.ds.length e.ds) (hDl:∀ b,D b→b<w.heap.size) (j5:∀ b,D b→¬ V b) (F:Int) (M:Nat) (B:List Int) (hst:dx gp (e.ag,e.sh)=⟨F,M,B⟩) (hBl:B.length≤1048576) (hI:W.fu F M) (im:-9223372036854775808≤e.sq∧e.sq≤9223372036854775807) (hse:W.seen F M e.sq=true) (hbad:e.sq∈B) (h:eA m q d9 gp w V) :
 Calls au 13 #[((m:Nat):Value),.agg (e.agg A c)] w fun en w'=>en=.returned (.tuple #[ae af 3,ae ah 0])∧eA m q d9 gp w' (Ext V w w')∧Just V w w':=by
 have sR:∀ (vs:Array Value) (w:World),(callFunc 54 vs).run au w=.ok (.enter 54 vs) w:=fun vs w=>by go_simp
 have Bf:∀ (vs:Array Value) (w:World),(callFunc 56 vs).run au w=.ok (.enter 56 vs) w:=fun vs w=>by go_simp
 have Fg:∀ (vs:Array Value) (w:World),(callFunc 55 vs).run au w=.ok (.enter 55 vs) w:=fun vs w=>by go_simp
 have hg0:=bN w (.cells (e.agg A c) 32)
 have du:=ct.made w 32 (e.agg A c)
 obtain⟨y,HY⟩:∃ y:Nat,Hid (y=w.heap.size):=⟨_,rfl⟩
 obtain⟨wa,dq⟩:∃ wa:World,Hid (wa=w.alloc (.cells (e.agg A c) 32)):=⟨_,rfl⟩
 rw[←dq.out] at hg0 du
 rw[←HY.out] at du
 have gN:=f8 wa e D A c hok (In.grow hd hg0)
 unfold En.agg at dq gN du ⊢
 have hk2:(e.k == 2)=false:=by rw[hk];rfl
 have hk3:decide (e.k=2)=false:=by rw[hk];rfl
 clear hk
 go_enter Tryz.func13,Tryz.ntmps13
 go_wp2_with fail
 rw[←dq.out,←HY.out]
 refine gN.mono ?_
 rintro en wb ⟨rfl,hgb⟩
 have hBb:=du.grow hgb
 have y0:=hBb.cell 0
 have y1:=hBb.cell 1
 have y2:=hBb.cell 2
 have rf:=l4 wb m q d9 gp V (fun b hb=>aA (hV b hb) (hg0.trans hgb).size) e.ag e.sh (eA.framed m q d9 gp w wb V h fun b hb=>(hg0.trans hgb).block b (hV b hb))
 rw[hst] at rf
 clear h
 go_wp2_with fail
 clear y0 y1 y2
 refine rf.mono ?_
 rintro en w0 ⟨s,bE,bS,p,g,v,dL,R,rfl,hO,hgc,U,hM0,hU⟩
 have hR:=hO.framed
 obtain⟨UB,ub,_⟩:=(Many.pick _ 6 _ rfl hM0).fst
 obtain⟨Ab,cb,rfl,hRb,_,_⟩:=Own.reads (show Own w0 UB 2 1 v B.length (lI B) from ub)
 obtain⟨nb,zC⟩:∃ nb:Nat,Hid (B.length=nb):=⟨_,Lib.hid rfl⟩
 rw[zC.out] at hM0 hRb hBl
 clear ub
 have hgd:Grow w w0:=(hg0.trans hgb).trans hgc
 have hyl:w.heap.size≤y∧y<wb.heap.size:=by have:=HY.out;have:=hBb.lt;omega
 have hsz0:=hgd.size
 have CY:=hgc.size
 have hSz:∀ b,New wb w0 b→w.heap.size≤b:=fun b hb=>by have:=hb.1;have:=(hg0.trans hgb).size;omega
 have hF:=de m s bE bS p g (.slice Ab nb cb) q d9 dL F M B hR
 have eP:=hF.cons (Cell.framed y 32 #[ae af e.k,ae af e.ag,ae af e.sh,ae af e.sq,ae af e.ep,.slice A e.ds.length c,.string e.se,ae af e.fr,ae af e.tg])
 have hS0:Solo (cB V w) (Many (Cell y 32 #[ae af e.k,ae af e.ag,ae af e.sh,ae af e.sq,ae af e.ep,.slice A e.ds.length c,.string e.se,ae af e.fr,ae af e.tg] :: dU m s bE bS p g (.slice Ab nb cb) q d9 dL F M B R)) w0:=
  Solo.my (U:=fun b=>b=y) (fun b hb => .inr al) hM0 (fun b hb=>(hU b hb).elim (fun h=>⟨.inl h,by have:=hV b h;omega⟩) (fun h=>⟨.inr (hSz b h),h.2⟩)) ⟨rfl,hBb.grow hgc⟩
   (fun b hb=>by rw[hb];exact⟨.inr hyl.1,by omega,fun h=>(hU y h).elim (fun h=>by have:=hV y h;omega) (fun h=>by have:=h.1;omega)⟩)
 have hnd:(dL.map Prod.fst).Nodup:=by
  obtain⟨_,hG,_⟩:=hS0.see 4 rfl
  exact jv hG
 have J0:=Just.bJ (V:=cB V w) hgd
 have hY0:=hS0.blk 0 rfl
 have hm0:=hS0.blk 1 rfl
 have hp0:=hS0.blk 5 rfl
 have jR:=hS0.blk 6 rfl
 have KB:∀ w1,Grow w0 w1→Calls au 55 #[.slice Ab nb cb,ae af e.sq] w1 fun en w'=>en=.returned (.bool true)∧Grow w1 w':=fun w1 hg=>by
  have h:=nm w1 (fun b=>b<w0.heap.size) Ab nb cb B e.sq (In.grow (Reads.fw (V:=fun b=>b<w0.heap.size) hRb (aC _) fun _ h=>h) hg) hBl
  rw[decide_eq_true hbad] at h
  exact h
 have sS:∀ w1,Grow w0 w1→Calls au 54 #[((g:Nat):Value),ae af e.sq] w1 fun en w'=>en=.returned (.bool true)∧Grow w1 w':=fun w1 hg=>by
  have h:=W.gX w1 g F M e.sq (jR.grow hg) hI im
  rw[hse] at h
  exact h
 clear hRb
 go_wp2_with fail
 refine bL 19 91 [(7,.inl (.bool true)),(16,.inl (.bool true))] rfl rfl am am am ?_ ?_
 ·intro x hx φ he
  simp only[aF,aE,or_false] at hx
  rcases hx with rfl|rfl<;>cases he
 intro ops' A' K' T hops hA' hK hT
 refine bP 31 (((p:Nat):Value)) ?_
 refine bQ 32 (.tmp 31) (((p:Nat):Value)) (((p:Nat):Value)) ?_
 refine bQ 33 (.tmp 32) (((p:Nat):Value)) (((p:Nat):Value)) ?_
 refine bI 34 (.tmp 33) (((p:Nat):Value)) (((g:Nat):Value)) (fun ρ h1 kk w1 (hg:Grow _ w1) hb hf=>by have c:=(hp0.grow hg).cell 0;go_simp) ?_
 refine bQ 35 (.tmp 3) (((y:Nat):Value)) (.pointer (some ⟨y,1,none⟩)) ?_
 refine bQ 36 (.tmp 35) (.pointer (some ⟨y,1,none⟩)) (.pointer (some ⟨y,1+2,none⟩)) ?_
 refine bI 37 (.tmp 36) (.pointer (some ⟨y,1+2,none⟩)) (ae af e.sq) (fun ρ h1 kk w1 (hg:Grow _ w1) hb hf=>by have c:=(hY0.grow hg).cell 3;go_simp) ?_
 refine cC 38 aj ak (bO aj) (.bool true) (by rw[hK.out];rfl) 54 _ _ aj [((g:Nat):Value),ae af e.sq] aj sR (fun kk w1 (hg:Grow _ w1) hb hf=>b_ aj (by exact (sS w1 hg))) ?_
 refine bP 39 (.bool true) ?_
 refine da 40 (cx hops 8 true 39 true) (((p:Nat):Value)) ?_
 refine bX 41 (cx hops 8 true 39 true) (.tmp 40) (((p:Nat):Value)) (((p:Nat):Value)) (fun ρ h1 kk w1 (hg:Grow _ w1) hb hf=>by go_simp) ?_
 refine bX 42 (cx hops 8 true 39 true) (.tmp 41) (((p:Nat):Value)) (.pointer (some ⟨p,1,none⟩)) (fun ρ h1 kk w1 (hg:Grow _ w1) hb hf=>by go_simp) ?_
 refine bX 43 (cx hops 8 true 39 true) (.tmp 42) (.pointer (some ⟨p,1,none⟩)) (.slice Ab nb cb) (fun ρ h1 kk w1 (hg:Grow _ w1) hb hf=>by have c:=(hp0.grow hg).cell 1;go_simp) ?_
 refine bX 44 (cx hops 8 true 39 true) (.tmp 3) (((y:Nat):Value)) (.pointer (some ⟨y,1,none⟩)) (fun ρ h1 kk w1 (hg:Grow _ w1) hb hf=>by go_simp) ?_
 refine bX 45 (cx hops 8 true 39 true) (.tmp 44) (.pointer (some ⟨y,1,none⟩)) (.pointer (some ⟨y,1+2,none⟩)) (fun ρ h1 kk w1 (hg:Grow _ w1) hb hf=>by go_simp) ?_
 refine bX 46 (cx hops 8 true 39 true) (.tmp 45) (.pointer (some ⟨y,1+2,none⟩)) (ae af e.sq) (fun ρ h1 kk w1 (hg:Grow _ w1) hb hf=>by have c:=(hY0.grow hg).cell 3;go_simp) ?_
 refine cC 47 aj ak (dF hops 8 true aj 39 aj true aj) (.bool true) (by rw[hK.out];rfl) 55 _ _ aj [.slice Ab nb cb,ae af e.sq] aj Fg (fun kk w1 (hg:Grow _ w1) hb hf=>b_ aj (by exact (KB w1 hg))) ?_
 refine cG 48 true (.bool true) ?_
 refine bP 30 (.bool true) ?_
 refine ce (fun _ _ w1 (hg:Grow _ w1) _ bR=>hT _ _ ?_)
 clear hops hA' hK hT
 simp only[cj,Act.put,aw,ay,az,ax,aB]
 have kj:=hg
 have hS1:=hS0.grows eP kj
 go_wp2_with fail
 go_ret2
 obtain⟨r1,r2⟩:=Solo.done (l:=dU m s bE bS p g (.slice Ab nb cb) q d9 dL F M B R) (hS1.drop1) (J0.trans (Just.bJ kj)) hV
 exact⟨rfl,iI hO r1,r2⟩
theorem wU (w:World) (m:Nat) (q:K.Sm) (d9:List (Int×Value)) (gp:List (Key×Pl)) (e:En) (A:Option Addr) (c:Nat) (D V:Nat→Prop) (hV:∀ b,V b→b<w.heap.size) (hok:e.Ok) (hk:e.k=1) (hd:fV w D A e.ds.length e.ds) (hDl:∀ b,D b→b<w.heap.size) (j5:∀ b,D b→¬ V b) (F:Int) (M:Nat) (B:List Int) (hst:dx gp (e.ag,e.sh)=⟨F,M,B⟩) (hBl:B.length≤1048576) (hI:W.fu F M) (im:-9223372036854775808≤e.sq∧e.sq≤9223372036854775807) (hse:W.seen F M e.sq=true) (hbad:e.sq ∉ B) (h:eA m q d9 gp w V) :
 Calls au 13 #[((m:Nat):Value),.agg (e.agg A c)] w fun en w'=>en=.returned (.tuple #[ae af 2,ae ah 0])∧eA m q d9 gp w' (Ext V w w')∧Just V w w':=by
 have sR:∀ (vs:Array Value) (w:World),(callFunc 54 vs).run au w=.ok (.enter 54 vs) w:=fun vs w=>by go_simp
 have Bf:∀ (vs:Array Value) (w:World),(callFunc 56 vs).run au w=.ok (.enter 56 vs) w:=fun vs w=>by go_simp
 have Fg:∀ (vs:Array Value) (w:World),(callFunc 55 vs).run au w=.ok (.enter 55 vs) w:=fun vs w=>by go_simp
 have hg0:=bN w (.cells (e.agg A c) 32)
 have du:=ct.made w 32 (e.agg A c)
 obtain⟨y,HY⟩:∃ y:Nat,Hid (y=w.heap.size):=⟨_,rfl⟩
 obtain⟨wa,dq⟩:∃ wa:World,Hid (wa=w.alloc (.cells (e.agg A c) 32)):=⟨_,rfl⟩
 rw[←dq.out] at hg0 du
 rw[←HY.out] at du
 have gN:=f8 wa e D A c hok (In.grow hd hg0)
 unfold En.agg at dq gN du ⊢
 have hk2:(e.k == 2)=false:=by rw[hk];rfl
 have hk3:decide (e.k=2)=false:=by rw[hk];rfl
 clear hk
 go_enter Tryz.func13,Tryz.ntmps13
 go_wp2_with fail
 rw[←dq.out,←HY.out]
 refine gN.mono ?_
 rintro en wb ⟨rfl,hgb⟩
 have hBb:=du.grow hgb
 have y0:=hBb.cell 0
 have y1:=hBb.cell 1
 have y2:=hBb.cell 2
 have rf:=l4 wb m q d9 gp V (fun b hb=>aA (hV b hb) (hg0.trans hgb).size) e.ag e.sh (eA.framed m q d9 gp w wb V h fun b hb=>(hg0.trans hgb).block b (hV b hb))
 rw[hst] at rf
 clear h
 go_wp2_with fail
 clear y0 y1 y2
 refine rf.mono ?_
 rintro en w0 ⟨s,bE,bS,p,g,v,dL,R,rfl,hO,hgc,U,hM0,hU⟩
 have hR:=hO.framed
 obtain⟨UB,ub,_⟩:=(Many.pick _ 6 _ rfl hM0).fst
 obtain⟨Ab,cb,rfl,hRb,_,_⟩:=Own.reads (show Own w0 UB 2 1 v B.length (lI B) from ub)
 obtain⟨nb,zC⟩:∃ nb:Nat,Hid (B.length=nb):=⟨_,Lib.hid rfl⟩
 rw[zC.out] at hM0 hRb hBl
 clear ub
 have hgd:Grow w w0:=(hg0.trans hgb).trans hgc
 have hyl:w.heap.size≤y∧y<wb.heap.size:=by have:=HY.out;have:=hBb.lt;omega
 have hsz0:=hgd.size
 have CY:=hgc.size
 have hSz:∀ b,New wb w0 b→w.heap.size≤b:=fun b hb=>by have:=hb.1;have:=(hg0.trans hgb).size;omega
 have hF:=de m s bE bS p g (.slice Ab nb cb) q d9 dL F M B hR
 have eP:=hF.cons (Cell.framed y 32 #[ae af e.k,ae af e.ag,ae af e.sh,ae af e.sq,ae af e.ep,.slice A e.ds.length c,.string e.se,ae af e.fr,ae af e.tg])
 have hS0:Solo (cB V w) (Many (Cell y 32 #[ae af e.k,ae af e.ag,ae af e.sh,ae af e.sq,ae af e.ep,.slice A e.ds.length c,.string e.se,ae af e.fr,ae af e.tg] :: dU m s bE bS p g (.slice Ab nb cb) q d9 dL F M B R)) w0:=
  Solo.my (U:=fun b=>b=y) (fun b hb => .inr al) hM0 (fun b hb=>(hU b hb).elim (fun h=>⟨.inl h,by have:=hV b h;omega⟩) (fun h=>⟨.inr (hSz b h),h.2⟩)) ⟨rfl,hBb.grow hgc⟩
   (fun b hb=>by rw[hb];exact⟨.inr hyl.1,by omega,fun h=>(hU y h).elim (fun h=>by have:=hV y h;omega) (fun h=>by have:=h.1;omega)⟩)
 have hnd:(dL.map Prod.fst).Nodup:=by
  obtain⟨_,hG,_⟩:=hS0.see 4 rfl
  exact jv hG
 have J0:=Just.bJ (V:=cB V w) hgd
 have hY0:=hS0.blk 0 rfl
 have hm0:=hS0.blk 1 rfl
 have hp0:=hS0.blk 5 rfl
 have jR:=hS0.blk 6 rfl
 have KB:∀ w1,Grow w0 w1→Calls au 55 #[.slice Ab nb cb,ae af e.sq] w1 fun en w'=>en=.returned (.bool false)∧Grow w1 w':=fun w1 hg=>by
  have h:=nm w1 (fun b=>b<w0.heap.size) Ab nb cb B e.sq (In.grow (Reads.fw (V:=fun b=>b<w0.heap.size) hRb (aC _) fun _ h=>h) hg) hBl
  rw[decide_eq_false hbad] at h
  exact h
 have sS:∀ w1,Grow w0 w1→Calls au 54 #[((g:Nat):Value),ae af e.sq] w1 fun en w'=>en=.returned (.bool true)∧Grow w1 w':=fun w1 hg=>by
  have h:=W.gX w1 g F M e.sq (jR.grow hg) hI im
  rw[hse] at h
  exact h
 clear hRb
 go_wp2_with fail
 refine bL 19 91 [(7,.inl (.bool true)),(16,.inl (.bool false))] rfl rfl am am am ?_ ?_
 ·intro x hx φ he
  simp only[aF,aE,or_false] at hx
  rcases hx with rfl|rfl<;>cases he
 intro ops' A' K' T hops hA' hK hT
 refine bP 31 (((p:Nat):Value)) ?_
 refine bQ 32 (.tmp 31) (((p:Nat):Value)) (((p:Nat):Value)) ?_
 refine bQ 33 (.tmp 32) (((p:Nat):Value)) (((p:Nat):Value)) ?_
 refine bI 34 (.tmp 33) (((p:Nat):Value)) (((g:Nat):Value)) (fun ρ h1 kk w1 (hg:Grow _ w1) hb hf=>by have c:=(hp0.grow hg).cell 0;go_simp) ?_
 refine bQ 35 (.tmp 3) (((y:Nat):Value)) (.pointer (some ⟨y,1,none⟩)) ?_
 refine bQ 36 (.tmp 35) (.pointer (some ⟨y,1,none⟩)) (.pointer (some ⟨y,1+2,none⟩)) ?_
 refine bI 37 (.tmp 36) (.pointer (some ⟨y,1+2,none⟩)) (ae af e.sq) (fun ρ h1 kk w1 (hg:Grow _ w1) hb hf=>by have c:=(hY0.grow hg).cell 3;go_simp) ?_
 refine cC 38 aj ak (bO aj) (.bool true) (by rw[hK.out];rfl) 54 _ _ aj [((g:Nat):Value),ae af e.sq] aj sR (fun kk w1 (hg:Grow _ w1) hb hf=>b_ aj (by exact (sS w1 hg))) ?_
 refine bP 39 (.bool true) ?_
 refine da 40 (cx hops 8 true 39 true) (((p:Nat):Value)) ?_
 refine bX 41 (cx hops 8 true 39 true) (.tmp 40) (((p:Nat):Value)) (((p:Nat):Value)) (fun ρ h1 kk w1 (hg:Grow _ w1) hb hf=>by go_simp) ?_
 refine bX 42 (cx hops 8 true 39 true) (.tmp 41) (((p:Nat):Value)) (.pointer (some ⟨p,1,none⟩)) (fun ρ h1 kk w1 (hg:Grow _ w1) hb hf=>by go_simp) ?_
 refine bX 43 (cx hops 8 true 39 true) (.tmp 42) (.pointer (some ⟨p,1,none⟩)) (.slice Ab nb cb) (fun ρ h1 kk w1 (hg:Grow _ w1) hb hf=>by have c:=(hp0.grow hg).cell 1;go_simp) ?_
 refine bX 44 (cx hops 8 true 39 true) (.tmp 3) (((y:Nat):Value)) (.pointer (some ⟨y,1,none⟩)) (fun ρ h1 kk w1 (hg:Grow _ w1) hb hf=>by go_simp) ?_
 refine bX 45 (cx hops 8 true 39 true) (.tmp 44) (.pointer (some ⟨y,1,none⟩)) (.pointer (some ⟨y,1+2,none⟩)) (fun ρ h1 kk w1 (hg:Grow _ w1) hb hf=>by go_simp) ?_
 refine bX 46 (cx hops 8 true 39 true) (.tmp 45) (.pointer (some ⟨y,1+2,none⟩)) (ae af e.sq) (fun ρ h1 kk w1 (hg:Grow _ w1) hb hf=>by have c:=(hY0.grow hg).cell 3;go_simp) ?_
 refine cC 47 aj ak (dF hops 8 true aj 39 aj true aj) (.bool false) (by rw[hK.out];rfl) 55 _ _ aj [.slice Ab nb cb,ae af e.sq] aj Fg (fun kk w1 (hg:Grow _ w1) hb hf=>b_ aj (by exact (KB w1 hg))) ?_
 refine cG 48 true (.bool false) ?_
 refine bP 30 (.bool false) ?_
 refine ce (fun _ _ w1 (hg:Grow _ w1) _ bR=>hT _ _ ?_)
 clear hops hA' hK hT
 simp only[cj,Act.put,aw,ay,az,ax,aB]
 have kj:=hg
 have hS1:=hS0.grows eP kj
 have hp1:=hp0.grow kj
 have kf:=hY0.grow kj
 have lS:=jR.grow kj
 go_wp2_with fail
 refine bL 9 91 [(7,.inl (.bool true))] rfl rfl am am am ?_ ?_
 ·intro x hx φ he
  simp only[aF,aE,or_false] at hx
  rcases hx with rfl<;>cases he
 intro ops' A' K' T hops hA' hK hT
 refine bP 50 (((p:Nat):Value)) ?_
 refine bI 51 (.tmp 50) (((p:Nat):Value)) (((p:Nat):Value)) (fun ρ h1 kk w2 (hg:Grow _ w2) hb hf=>by go_simp) ?_
 refine bI 52 (.tmp 51) (((p:Nat):Value)) (((p:Nat):Value)) (fun ρ h1 kk w2 (hg:Grow _ w2) hb hf=>by go_simp) ?_
 refine bI 53 (.tmp 52) (((p:Nat):Value)) (((g:Nat):Value)) (fun ρ h1 kk w2 (hg:Grow _ w2) hb hf=>by have c:=(hp1.grow hg).cell 0;go_simp) ?_
 refine bI 54 (.tmp 3) (((y:Nat):Value)) (.pointer (some ⟨y,1,none⟩)) (fun ρ h1 kk w2 (hg:Grow _ w2) hb hf=>by go_simp) ?_
 refine bI 55 (.tmp 54) (.pointer (some ⟨y,1,none⟩)) (.pointer (some ⟨y,1+2,none⟩)) (fun ρ h1 kk w2 (hg:Grow _ w2) hb hf=>by go_simp) ?_
 refine bI 56 (.tmp 55) (.pointer (some ⟨y,1+2,none⟩)) (ae af e.sq) (fun ρ h1 kk w2 (hg:Grow _ w2) hb hf=>by have c:=(kf.grow hg).cell 3;go_simp) ?_
 refine cC 57 aj ak (bO aj) (.bool true) (by rw[hK.out];rfl) 54 _ _ aj [((g:Nat):Value),ae af e.sq] aj sR (fun kk w2 (hg:Grow _ w2) hb hf=>b_ aj (by exact (sS w2 (kj.trans hg)))) ?_
 refine bP 49 (.bool true) ?_
 refine ce (fun _ _ w2 (hg:Grow _ w2) _ bR=>hT _ _ ?_)
 clear hops hA' hK hT
 simp only[cj,Act.put,aw,ay,az,ax,aB]
 have yp:=hg
 have hS2:=hS1.grows eP yp
 go_wp2_with fail
 go_ret2
 obtain⟨r1,r2⟩:=Solo.done (l:=dU m s bE bS p g (.slice Ab nb cb) q d9 dL F M B R) (hS2.drop1) ((J0.trans (Just.bJ kj)).trans (Just.bJ yp)) hV
 exact⟨rfl,iI hO r1,r2⟩
end Go.Proofs.YtmijcbfgfkeodaaGreatDoor
end
