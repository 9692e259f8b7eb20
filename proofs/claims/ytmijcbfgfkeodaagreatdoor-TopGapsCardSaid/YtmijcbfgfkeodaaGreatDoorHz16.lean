/- Cmay, Cadd, Wiplain. -/
import Derived.Test.YtmijcbfgfkeodaaGreatDoorHz15
set_option linter.all false
set_option maxRecDepth 100000
section
namespace Go.Proofs.YtmijcbfgfkeodaaGreatDoor.K
open Go.RowKit Go.Hop
theorem wf64 {n:Nat} (h:n≤M64):(Lit.int .u64 (n:Int)).wf=true:=by
 unfold M64 at h
 simp[Lit.wf,IntKind.min,IntKind.max,IntKind.signed,IntKind.bits]
 omega
theorem mapq_put {w:World} {b:Nat} {q:Sm} (h:MapQ w b q) {x:ByteArray} {v:Nat} (hx:x.size≤maxLen) (hv:v≤M64) (hn:q.length<maxLen) :
 ∃ w',(Instr.mapUpdate 213 (.map (some b)) (.string x) (.int .u64 (v:Int))).run Tryz.prog w=.ok () w'∧MapQ w' b (Proofs.YtmijcbfgfkeodaaGreatDoor.K.put q x v)∧Just (fun c=>c=b) w w':=by
 obtain⟨w',h1,h2,h3⟩:=SMap.put smT h x v hx (wf64 hv) hn
 refine⟨w',h1,?_,h3⟩
 unfold MapQ
 rw[put_length,←fq_put,←fq_some]
 exact h2
theorem u64_sub {n:Nat} (h:n≤18446744073709551615):IntKind.u64.wrap ((18446744073709551615:Int)-(n:Int))=((18446744073709551615-n:Nat):Int):=by rw[IntKind.wrap_u64];omega
theorem u64_add {m n:Nat} (h:m+n≤18446744073709551615):IntKind.u64.wrap ((m:Int)+(n:Int))=((m+n:Nat):Int):=by rw[IntKind.wrap_u64];omega
set_option maxHeartbeats 2000000 in
theorem May_any (w:World) (s:Nat) (q:Sm) (V:Nat→Prop) (h:SumsAt s q w V) (A:Option Addr) (n c:Nat) (l:List Dl) (D:Nat→Prop) (hl:In w D 2 A n (dcells l)) (hd:∀ d∈l,d.1.size≤maxLen∧d.2≤M64) (hn:n≤1048576) (hq:q.length≤1048576) :
 Calls Tryz.prog 206 #[.pointer (some ⟨s,0,none⟩),.slice A n c] w fun e w'=>e=.returned (.int .i64 (mayE q l))∧Grow w w':=by
 have hln:l.length=n:=by have:=hl.1;rw[dcells_len] at this;omega
 obtain⟨h1,h2,b,h3,h4,hB0,hM0⟩:=h
 obtain⟨E,HE⟩:∃ E:Int,Hid (E=mayE q l):=⟨_,rfl⟩
 rw[←HE.out]
 have hmm:=@run_makeMap Tryz.prog
 have hg1:Grow w (w.alloc (.map #[] 0)):=(Below.refl _ w).alloc (Nat.le_refl _) _
 have hm1:MapQ (w.alloc (.map #[] 0)) w.heap.size []:=(SMap.made (P:=Tryz.prog) (k:=9) (e:=27) (qe := .u64) w).imp fun _ _=>rfl
 go_enter Tryz.func206,Tryz.ntmps206
 go_wp2_with fail
 obtain⟨m,HM⟩:∃ m:Nat,Hid (m=w.heap.size):=⟨_,rfl⟩
 rw[←HM.out] at hm1 ⊢
 go_loopw [16] (fun i wr=>∃ k:Nat,k≤n∧i=.int .i64 (k:Int)∧okRun q [] (l.take k)=true∧MapQ wr m (add [] (l.take k))∧Grow w wr) (fun i _=>n-(intOf i).toNat)
 case atStart=>exact⟨0,by omega,rfl,rfl,hm1,hg1⟩
 case round=>
  clear hm1 hg1
  obtain⟨k,hkn,rfl,hok,hm,hgw⟩:=hrel
  have hrt:=right_more (fun d hd'=>(hd d (List.mem_of_mem_take hd')).1) hok
  have hB:=hB0.grow hgw
  by_cases hk:k<n
  ·have hkt:decide ((k:Int)<(n:Int))=true:=decide_eq_true (by omega)
   obtain⟨ad,hqk,rfl,he0,he1⟩:=del_at (hl.grow hgw) hk
   have hdk:=hd _ (List.getElem_mem hqk)
   have hnext:add [] (l.take (k+1))=put (add [] (l.take k)) l[k].1 (gt (add [] (l.take k)) l[k].1+l[k].2):=by rw[List.take_succ_eq_append_getElem hqk,add_one]
   have hokn:okRun q [] (l.take (k+1))=(okRun q [] (l.take k) && decide (gt (add [] (l.take k)) l[k].1+l[k].2+gt q l[k].1≤M64)):=by rw[List.take_succ_eq_append_getElem hqk,okRun_append]
   have hstop:M64<gt (add [] (l.take k)) l[k].1+l[k].2+gt q l[k].1→E=25:=fun h=>by
    rw[HE.out];unfold mayE;rw[okRun_stop hqk h];rfl
   have hlen:(add [] (l.take k)).length≤1048576:=by
    have:=add_len (l.take k) []
    rw[List.length_take] at this
    simp only[List.length_nil] at this
    omega
   have hgm:=hrt.gt l[k].1
   have hgq:=h2.gt l[k].1
   generalize l[k]=dk at he0 he1 hdk hnext hokn hstop hgm hgq
   have f0:=he0 _ (Grow.refl _)
   have f1:=he1 _ (Grow.refl _)
   have hga:Grow wr (wr.alloc (.cells #[.string dk.1,.int .u64 (dk.2:Int)] 29)):=(Below.refl _ wr).alloc (Nat.le_refl _) _
   have hBd0:=Blk.made wr 29 #[.string dk.1,.int .u64 (dk.2:Int)]
   have hm2:=hm.grow hga
   have hB2:=hB.grow hga
   obtain⟨gm,HGM⟩:∃ gm:Nat,Hid (gm=gt (add [] (l.take k)) dk.1):=⟨_,rfl⟩
   obtain⟨gq,HGQ⟩:∃ gq:Nat,Hid (gq=gt q dk.1):=⟨_,rfl⟩
   have hlm:=SMap.look1 smT hm2 dk.1 hdk.1
   rw[fq_get,←HGM.out] at hlm
   have k0:=hBd0.cell 0
   obtain⟨wa,HA⟩:∃ wa:World,Hid (wa=wr.alloc (.cells #[.string dk.1,.int .u64 (dk.2:Int)] 29)):=⟨_,rfl⟩
   obtain⟨x,HX⟩:∃ x:Nat,Hid (x=wr.heap.size):=⟨_,rfl⟩
   have hgwa:Below w.heap.size w wa:=HA.out▸below_trans hgw hga hgw.size
   have hBd:Blk wa x 29 #[.string dk.1,.int .u64 (dk.2:Int)]:=by rw[HA.out,HX.out];exact hBd0
   have hB:Blk wa s 215 #[.map (some b)]:=HA.out▸hB2
   have hma:MapQ wa m (add [] (l.take k)):=HA.out▸hm2
   have hlq:∀ w1,Grow wa w1→(Instr.lookup 213 (.map (some b)) (.string dk.1) false).run Tryz.prog w1=.ok (.int .u64 (gq:Int)) w1:=fun w1 hg=>by
    have:=SMap.look1 smT (hM0.grow (below_trans hgwa hg hgwa.size)) dk.1 hdk.1
    rwa [fq_get,←HGQ.out] at this
   rw[←HGM.out] at hnext hokn hstop hgm
   rw[←HGQ.out] at hokn hstop hgq
   unfold M64 at hokn hstop hgm hgq hdk
   have hs1:=u64_sub hgm
   have hs2:=u64_sub hgq
   have hml:m<wr.heap.size:=hm.lt
   clear hB2 hBd0 hm hm2 hga
   by_cases ho1:18446744073709551615-gm<dk.2
   ·have ho1':decide (18446744073709551615-gm<dk.2)=true:=decide_eq_true ho1
    obtain rfl:E=25:=hstop (by omega)
    go_wp2_with fail
    rw[←HA.out,←HX.out]
    clear hlm k0
    refine wp_region_flow 20 78 [] rfl rfl (by kernel_rfl) (by kernel_rfl) (by kernel_rfl) ?_ ?_
    ·intro x hx φ he
     cases hx
    intro ops' A' K' T hops hA' hK hT
    refine fl_op1G 24 (.tmp 7) (.pointer (some ⟨x,0,none⟩)) (.pointer (some ⟨x,1,none⟩)) ?_
    refine fl_op1N 25 (.tmp 24) (.pointer (some ⟨x,1,none⟩)) (.int .u64 (dk.2:Int)) (fun ρ h1 kk w1 (hg:Grow _ w1) hb hf=>by have c:=hBd.grow hg |>.cell 1;go_simp) ?_
    refine fl_mvN 26 (.int .u64 (gm:Int)) ?_
    refine fl_op2N 27 (.const (.int .u64 18446744073709551615)) (.tmp 26) (.int .u64 18446744073709551615) (.int .u64 (gm:Int)) (.int .u64 ((18446744073709551615-gm:Nat):Int)) (fun ρ h1 h2 kk w1 (hg:Grow _ w1) hb hf=>by go_simp) ?_
    refine fl_op2N 28 (.tmp 25) (.tmp 27) (.int .u64 (dk.2:Int)) (.int .u64 ((18446744073709551615-gm:Nat):Int)) (.bool true) (fun ρ h1 h2 kk w1 (hg:Grow _ w1) hb hf=>by go_simp) ?_
    refine fl_mvN 29 (.bool true) ?_
    refine fl_skipW 30 (wif hops 5 false 29 true) ?_
    refine fl_skipW 31 (wif hops 5 false 29 true) ?_
    refine fl_skipW 32 (wif hops 5 false 29 true) ?_
    refine fl_skipW 33 (wif hops 5 false 29 true) ?_
    refine fl_skipW 34 (wif hops 5 false 29 true) ?_
    refine fl_skipW 35 (wif hops 5 false 29 true) ?_
    refine fl_skipW 36 (wif hops 5 false 29 true) ?_
    refine fl_skipW 37 (wif hops 5 false 29 true) ?_
    refine fl_skipW 38 (wif hops 5 false 29 true) ?_
    refine fl_skipW 39 (wif hops 5 false 29 true) ?_
    refine fl_skipW 40 (wif hops 5 false 29 true) ?_
    refine fl_skipW 41 (wif hops 5 false 29 true) ?_
    refine fl_skipW 42 (wif hops 5 false 29 true) ?_
    refine fl_pickN 43 true (.bool true) ?_
    refine fl_end (fun _ _ w1 (hg:Grow _ w1) _ hfacts=>hT _ _ ?_)
    clear hops hA' hK hT
    simp only[putsL,Act.put,List.setIfInBounds_toArray,List.set_cons_zero,List.set_cons_succ,List.drop_succ_cons,List.drop_zero]
    clear hfacts hlq
    go_wp2_with fail
    go_ret
    exact⟨rfl,below_trans hgwa hg hgwa.size⟩
   ·have ho1':decide (18446744073709551615-gm<dk.2)=false:=decide_eq_false ho1
    have hs3:=u64_add (show gm+dk.2≤18446744073709551615 by omega)
    by_cases ho2:18446744073709551615-gq<gm+dk.2
    ·have ho2':decide (18446744073709551615-gq<gm+dk.2)=true:=decide_eq_true ho2
     obtain rfl:E=25:=hstop (by omega)
     go_wp2_with fail
     rw[←HA.out,←HX.out]
     clear hlm k0
     refine wp_region_flow 20 78 [] rfl rfl (by kernel_rfl) (by kernel_rfl) (by kernel_rfl) ?_ ?_
     ·intro x hx φ he
      cases hx
     intro ops' A' K' T hops hA' hK hT
     refine fl_op1G 24 (.tmp 7) (.pointer (some ⟨x,0,none⟩)) (.pointer (some ⟨x,1,none⟩)) ?_
     refine fl_op1N 25 (.tmp 24) (.pointer (some ⟨x,1,none⟩)) (.int .u64 (dk.2:Int)) (fun ρ h1 kk w1 (hg:Grow _ w1) hb hf=>by have c:=hBd.grow hg |>.cell 1;go_simp) ?_
     refine fl_mvN 26 (.int .u64 (gm:Int)) ?_
     refine fl_op2N 27 (.const (.int .u64 18446744073709551615)) (.tmp 26) (.int .u64 18446744073709551615) (.int .u64 (gm:Int)) (.int .u64 ((18446744073709551615-gm:Nat):Int)) (fun ρ h1 h2 kk w1 (hg:Grow _ w1) hb hf=>by go_simp) ?_
     refine fl_op2N 28 (.tmp 25) (.tmp 27) (.int .u64 (dk.2:Int)) (.int .u64 ((18446744073709551615-gm:Nat):Int)) (.bool false) (fun ρ h1 h2 kk w1 (hg:Grow _ w1) hb hf=>by go_simp) ?_
     refine fl_mvN 29 (.bool false) ?_
     refine fl_mvW 30 (wif hops 5 false 29 false) (.int .u64 (gm:Int)) ?_
     refine fl_op1W 31 (wif hops 5 false 29 false) (.tmp 7) (.pointer (some ⟨x,0,none⟩)) (.pointer (some ⟨x,1,none⟩)) (fun ρ h1 kk w1 (hg:Grow _ w1) hb hf=>by go_simp) ?_
     refine fl_op1W 32 (wif hops 5 false 29 false) (.tmp 31) (.pointer (some ⟨x,1,none⟩)) (.int .u64 (dk.2:Int)) (fun ρ h1 kk w1 (hg:Grow _ w1) hb hf=>by have c:=hBd.grow hg |>.cell 1;go_simp) ?_
     refine fl_op2W 33 (wif hops 5 false 29 false) (.tmp 30) (.tmp 32) (.int .u64 (gm:Int)) (.int .u64 (dk.2:Int)) (.int .u64 ((gm+dk.2:Nat):Int)) (fun ρ h1 h2 kk w1 (hg:Grow _ w1) hb hf=>by go_simp) ?_
     refine fl_mvW 34 (wif hops 5 false 29 false) (.pointer (some ⟨s,0,none⟩)) ?_
     refine fl_op1W 35 (wif hops 5 false 29 false) (.tmp 34) (.pointer (some ⟨s,0,none⟩)) (.pointer (some ⟨s,0,none⟩)) (fun ρ h1 kk w1 (hg:Grow _ w1) hb hf=>by go_simp) ?_
     refine fl_op1W 36 (wif hops 5 false 29 false) (.tmp 35) (.pointer (some ⟨s,0,none⟩)) (.pointer (some ⟨s,0,none⟩)) (fun ρ h1 kk w1 (hg:Grow _ w1) hb hf=>by go_simp) ?_
     refine fl_op1W 37 (wif hops 5 false 29 false) (.tmp 36) (.pointer (some ⟨s,0,none⟩)) (.map (some b)) (fun ρ h1 kk w1 (hg:Grow _ w1) hb hf=>by have c:=hB.grow hg |>.cell 0;go_simp) ?_
     refine fl_op1W 38 (wif hops 5 false 29 false) (.tmp 7) (.pointer (some ⟨x,0,none⟩)) (.pointer (some ⟨x,0,none⟩)) (fun ρ h1 kk w1 (hg:Grow _ w1) hb hf=>by go_simp) ?_
     refine fl_op1W 39 (wif hops 5 false 29 false) (.tmp 38) (.pointer (some ⟨x,0,none⟩)) (.string dk.1) (fun ρ h1 kk w1 (hg:Grow _ w1) hb hf=>by have c:=hBd.grow hg |>.cell 0;go_simp) ?_
     refine fl_op2W 40 (wif hops 5 false 29 false) (.tmp 37) (.tmp 39) (.map (some b)) (.string dk.1) (.int .u64 (gq:Int)) (fun ρ h1 h2 kk w1 (hg:Grow _ w1) hb hf=>by have hl:=hlq w1 hg;go_simp) ?_
     refine fl_op2W 41 (wif hops 5 false 29 false) (.const (.int .u64 18446744073709551615)) (.tmp 40) (.int .u64 18446744073709551615) (.int .u64 (gq:Int)) (.int .u64 ((18446744073709551615-gq:Nat):Int)) (fun ρ h1 h2 kk w1 (hg:Grow _ w1) hb hf=>by go_simp) ?_
     refine fl_op2W 42 (wif hops 5 false 29 false) (.tmp 33) (.tmp 41) (.int .u64 ((gm+dk.2:Nat):Int)) (.int .u64 ((18446744073709551615-gq:Nat):Int)) (.bool true) (fun ρ h1 h2 kk w1 (hg:Grow _ w1) hb hf=>by go_simp;try omega) ?_
     refine fl_pickN 43 false (.bool true) ?_
     refine fl_end (fun _ _ w1 (hg:Grow _ w1) _ hfacts=>hT _ _ ?_)
     clear hops hA' hK hT
     simp only[putsL,Act.put,List.setIfInBounds_toArray,List.set_cons_zero,List.set_cons_succ,List.drop_succ_cons,List.drop_zero]
     clear hfacts hlq
     go_wp2_with fail
     go_ret
     exact⟨rfl,below_trans hgwa hg hgwa.size⟩
    ·have ho2':decide (18446744073709551615-gq<gm+dk.2)=false:=decide_eq_false ho2
     rw[decide_eq_true (show gm+dk.2+gq≤18446744073709551615 by omega),hok] at hokn
     go_wp2_with fail
     rw[←HA.out,←HX.out]
     clear hlm k0
     refine wp_region_flow 20 78 [] rfl rfl (by kernel_rfl) (by kernel_rfl) (by kernel_rfl) ?_ ?_
     ·intro x hx φ he
      cases hx
     intro ops' A' K' T hops hA' hK hT
     refine fl_op1G 24 (.tmp 7) (.pointer (some ⟨x,0,none⟩)) (.pointer (some ⟨x,1,none⟩)) ?_
     refine fl_op1N 25 (.tmp 24) (.pointer (some ⟨x,1,none⟩)) (.int .u64 (dk.2:Int)) (fun ρ h1 kk w1 (hg:Grow _ w1) hb hf=>by have c:=hBd.grow hg |>.cell 1;go_simp) ?_
     refine fl_mvN 26 (.int .u64 (gm:Int)) ?_
     refine fl_op2N 27 (.const (.int .u64 18446744073709551615)) (.tmp 26) (.int .u64 18446744073709551615) (.int .u64 (gm:Int)) (.int .u64 ((18446744073709551615-gm:Nat):Int)) (fun ρ h1 h2 kk w1 (hg:Grow _ w1) hb hf=>by go_simp) ?_
     refine fl_op2N 28 (.tmp 25) (.tmp 27) (.int .u64 (dk.2:Int)) (.int .u64 ((18446744073709551615-gm:Nat):Int)) (.bool false) (fun ρ h1 h2 kk w1 (hg:Grow _ w1) hb hf=>by go_simp) ?_
     refine fl_mvN 29 (.bool false) ?_
     refine fl_mvW 30 (wif hops 5 false 29 false) (.int .u64 (gm:Int)) ?_
     refine fl_op1W 31 (wif hops 5 false 29 false) (.tmp 7) (.pointer (some ⟨x,0,none⟩)) (.pointer (some ⟨x,1,none⟩)) (fun ρ h1 kk w1 (hg:Grow _ w1) hb hf=>by go_simp) ?_
     refine fl_op1W 32 (wif hops 5 false 29 false) (.tmp 31) (.pointer (some ⟨x,1,none⟩)) (.int .u64 (dk.2:Int)) (fun ρ h1 kk w1 (hg:Grow _ w1) hb hf=>by have c:=hBd.grow hg |>.cell 1;go_simp) ?_
     refine fl_op2W 33 (wif hops 5 false 29 false) (.tmp 30) (.tmp 32) (.int .u64 (gm:Int)) (.int .u64 (dk.2:Int)) (.int .u64 ((gm+dk.2:Nat):Int)) (fun ρ h1 h2 kk w1 (hg:Grow _ w1) hb hf=>by go_simp) ?_
     refine fl_mvW 34 (wif hops 5 false 29 false) (.pointer (some ⟨s,0,none⟩)) ?_
     refine fl_op1W 35 (wif hops 5 false 29 false) (.tmp 34) (.pointer (some ⟨s,0,none⟩)) (.pointer (some ⟨s,0,none⟩)) (fun ρ h1 kk w1 (hg:Grow _ w1) hb hf=>by go_simp) ?_
     refine fl_op1W 36 (wif hops 5 false 29 false) (.tmp 35) (.pointer (some ⟨s,0,none⟩)) (.pointer (some ⟨s,0,none⟩)) (fun ρ h1 kk w1 (hg:Grow _ w1) hb hf=>by go_simp) ?_
     refine fl_op1W 37 (wif hops 5 false 29 false) (.tmp 36) (.pointer (some ⟨s,0,none⟩)) (.map (some b)) (fun ρ h1 kk w1 (hg:Grow _ w1) hb hf=>by have c:=hB.grow hg |>.cell 0;go_simp) ?_
     refine fl_op1W 38 (wif hops 5 false 29 false) (.tmp 7) (.pointer (some ⟨x,0,none⟩)) (.pointer (some ⟨x,0,none⟩)) (fun ρ h1 kk w1 (hg:Grow _ w1) hb hf=>by go_simp) ?_
     refine fl_op1W 39 (wif hops 5 false 29 false) (.tmp 38) (.pointer (some ⟨x,0,none⟩)) (.string dk.1) (fun ρ h1 kk w1 (hg:Grow _ w1) hb hf=>by have c:=hBd.grow hg |>.cell 0;go_simp) ?_
     refine fl_op2W 40 (wif hops 5 false 29 false) (.tmp 37) (.tmp 39) (.map (some b)) (.string dk.1) (.int .u64 (gq:Int)) (fun ρ h1 h2 kk w1 (hg:Grow _ w1) hb hf=>by have hl:=hlq w1 hg;go_simp) ?_
     refine fl_op2W 41 (wif hops 5 false 29 false) (.const (.int .u64 18446744073709551615)) (.tmp 40) (.int .u64 18446744073709551615) (.int .u64 (gq:Int)) (.int .u64 ((18446744073709551615-gq:Nat):Int)) (fun ρ h1 h2 kk w1 (hg:Grow _ w1) hb hf=>by go_simp) ?_
     refine fl_op2W 42 (wif hops 5 false 29 false) (.tmp 33) (.tmp 41) (.int .u64 ((gm+dk.2:Nat):Int)) (.int .u64 ((18446744073709551615-gq:Nat):Int)) (.bool false) (fun ρ h1 h2 kk w1 (hg:Grow _ w1) hb hf=>by go_simp;try omega) ?_
     refine fl_pickN 43 false (.bool false) ?_
     refine fl_end (fun _ _ w1 (hg:Grow _ w1) _ hfacts=>hT _ _ ?_)
     clear hops hA' hK hT
     simp only[putsL,Act.put,List.setIfInBounds_toArray,List.set_cons_zero,List.set_cons_succ,List.drop_succ_cons,List.drop_zero]
     clear hfacts hlq
     obtain⟨w5,hput,hm5,hj5⟩:=mapq_put (hma.grow hg) hdk.1 (show gm+dk.2≤M64 by unfold M64;omega) (by unfold maxLen;omega)
     have k0:=(hBd.grow hg).cell 0
     have k1:=(hBd.grow hg).cell 1
     rw[←hnext] at hm5
     rw[Int.natCast_add] at hput
     have hg5:Grow w w5:=Below.trans (below_trans hgwa hg hgwa.size) (hj5.below (B:=w.heap.size) (fun b hb=>by rw[hb,HM.out];exact Nat.le_refl _) (Nat.le_trans hgwa.size hg.size))
     clear hma hj5 hBd hB hg
     go_wp2_with fail
     go_roundw
     case rel=>exact⟨k+1,by omega,by go_num,hokn,hm5,hg5⟩
     case measure=>simp[intOf];omega
  ·obtain rfl:k=n:=by omega
   have hkt:decide ((k:Int)<(k:Int))=false:=decide_eq_false (by omega)
   rw[List.take_of_length_le (by omega)] at hok hm hrt
   have hlen:=fun ty=>SMap.len (hM0.grow hgw) smT ty
   have c0:=hB.cell 0
   obtain⟨w2,hrun,⟨left,hsr,hleft⟩,hg2,hsz2⟩:=SMap.range smT hm
   have hmo:(add [] l).length≤1048576:=by
    have:=add_len l []
    simp only[List.length_nil] at this
    omega
   have hE:E=if q.length+news q (add [] l) > 16 then 24 else 0:=by rw[HE.out];unfold mayE;rw[if_pos hok]
   obtain⟨mo,HMO⟩:∃ mo,Hid (mo=add [] l):=⟨_,rfl⟩
   rw[←HMO.out] at hsr hleft hrt hE hmo
   have hml:m<wr.heap.size:=hm.lt
   have hgw2:=below_trans hgw hg2 hgw.size
   obtain⟨r,HR⟩:∃ r:Nat,Hid (r=wr.heap.size):=⟨_,rfl⟩
   have hrw:w.heap.size≤r:=by rw[HR.out];exact hgw.size
   clear hm hmm
   go_wp2_with fail
   rw[←HR.out] at hsr ⊢
   have hall:(mo.filter fun d=>(lk q d.1).isNone && !left d.1).length=0:=by
    rw[List.length_eq_zero_iff,List.filter_eq_nil_iff]
    intro d hd'
    have h1:(lk mo d.1).isSome=true:=by rw[srt_lk hrt.srt hd'];rfl
    rw[hleft d.1 (hrt.txt d hd'),fq_some,h1]
    simp
   go_loopw [9] (fun nv wz=>∃ (left:ByteArray→Bool) (cnt:Nat),nv=.int .i64 ((q.length+(mo.filter fun d=>(lk q d.1).isNone && !left d.1).length:Nat):Int)∧SRange Tryz.prog 9 27 .u64 wz m r mo.length (fq mo) left cnt∧Grow w wz) (fun _ wz=>wz.rangeLeft m r)
   case atStart=>exact⟨left,_,by rw[hall];rfl,hsr,hgw2⟩
   case round=>
    clear hsr hleft hall hg2 hgw2 hlen c0
    obtain⟨left,cnt,rfl,hsr,hgw2⟩:=hrel
    have c0:=(hB0.grow hgw2).cell 0
    rcases hsr.next smT 0 with ⟨h0,hl0,hrun⟩|⟨x,v,w3,cnt3,hxl,hlx,hfx,hwv,hrun,hsr3,hlt,hj3,hen⟩
    ·have hnew:(mo.filter fun d=>(lk q d.1).isNone && !left d.1).length=news q mo:=by
      unfold news
      congr 1
      refine List.filter_congr fun d _=>?_
      rw[hl0];simp
     rw[hnew]
     generalize q.length+news q mo=T at hE
     by_cases hT:T > 16
     ·rw[if_pos hT] at hE
      subst hE
      have hT':decide ((16:Int)<(T:Int))=true:=decide_eq_true (by omega)
      go_wp2_with fail
      go_ret
      exact⟨rfl,hgw2⟩
     ·rw[if_neg hT] at hE
      subst hE
      have hT':decide ((16:Int)<(T:Int))=false:=decide_eq_false (by omega)
      go_wp2_with fail
      go_ret
      exact⟨rfl,hgw2⟩
    ·have hfx':lk mo x=some v.toNat∨True := .inr trivial
     obtain⟨v',hv'⟩:∃ v',lk mo x=some v':=by
      unfold fq at hfx
      cases hl:lk mo x with
      | none=>rw[hl] at hfx;cases hfx
      | some v'=>exact⟨v',rfl⟩
     have hstep:=count_step hrt.srt (p:=fun d=>(lk q d.1).isNone) hv' hlx
     dsimp only at hstep
     have hg3:Grow w w3:=Below.trans hgw2 (hj3.below (B:=w.heap.size) (fun b hb=>by rw[hb];exact hrw) hgw2.size)
     have hbr:b≠r:=by have:=hM0.lt;omega
     have c3:=(hB0.grow hg3).cell 0
     have hlk:=SMap.look smT (hM0.grow hg3) x hxl
     rw[fq_some] at hlk
     have hcn:(mo.filter fun d=>(lk q d.1).isNone && !left d.1).length≤1048576:=Nat.le_trans (List.length_filter_le _ _) hmo
     have hmeas:w3.rangeLeft m r<wr.rangeLeft m r:=by rw[hsr3.left_eq,hsr.left_eq];exact hlt
     by_cases hin:(lk q x).isSome=true
     ·have hN:(lk q x).isNone=false:=by cases hq':lk q x with
       | none=>rw[hq'] at hin;cases hin
       | some _=>rfl
      rw[hN] at hstep
      rw[hin] at hlk
      simp only[Bool.false_eq_true,if_false,Nat.add_zero] at hstep
      clear hfx hfx' hwv hv' hin hN hgw2 c0
      go_wp2_with fail
      go_roundw
      case rel=>exact⟨_,cnt3,by rw[hstep],hsr3,hg3⟩
      case measure=>exact hmeas
     ·have hinf:(lk q x).isSome=false:=by simpa using hin
      have hN:(lk q x).isNone=true:=by cases hq':lk q x with
       | none=>rfl
       | some _=>rw[hq'] at hinf;cases hinf
      rw[hN] at hstep
      rw[hinf] at hlk
      simp only[if_true] at hstep
      generalize (mo.filter fun d=>(lk q d.1).isNone && !left d.1).length=C at hstep hcn ⊢
      clear hfx hfx' hwv hv' hin hinf hN hgw2 c0
      go_wp2_with fail
      go_roundw
      case rel=>exact⟨_,cnt3,by rw[hstep];go_num,hsr3,hg3⟩
      case measure=>exact hmeas
def addM (q:Sm) (l:List Dl):Sm:=if mayE q l=0 then add q l else q
theorem mayE_ok {q:Sm} {l:List Dl} (h:mayE q l=0):okRun q [] l=true:=by
 unfold mayE at h
 split at h
 ·assumption
 ·cases h
theorem ok_fits {q:Sm} {l:List Dl} (h:okRun q [] l=true) {k:Nat} (hk:k<l.length):gt (add q (l.take k)) l[k].1+l[k].2≤M64:=by
 have h1:=okRun_take h (k+1)
 rw[List.take_succ_eq_append_getElem hk,okRun_append,Bool.and_eq_true,decide_eq_true_eq] at h1
 have h2:=h1.2
 rw[gt_add] at h2 ⊢
 have:gt ([]:Sm) l[k].1=0:=rfl
 omega
theorem ok_right {q:Sm} {l:List Dl} (hq:Right q) (ht:∀ d∈l,d.1.size≤maxLen) (h:okRun q [] l=true):Right (add q l):=by
 refine right_add hq ht fun k hk x=>?_
 rw[gt_add]
 have h1:=(okRun_is q (l.take k) []).1 (okRun_take h k)
 by_cases he:∃ d∈l.take k,d.1=x
 ·obtain⟨d,hd,rfl⟩:=he
  have:=h1 d hd
  omega
 ·have h0:tot (l.take k) x=0:=by
   unfold tot
   have:(l.take k).filter (fun e=>decide (e.1=x))=[]:=List.filter_eq_nil_iff.2 fun e hel h=>he ⟨e,hel,of_decide_eq_true h⟩
   rw[this];rfl
  rw[h0]
  exact hq.gt x
set_option maxHeartbeats 1000000 in
theorem Add_any (w:World) (s:Nat) (q:Sm) (V:Nat→Prop) (h:SumsAt s q w V) (hV:∀ b,V b→b<w.heap.size) (A:Option Addr) (n c:Nat) (l:List Dl) (D:Nat→Prop) (hl:In w D 2 A n (dcells l)) (hDV:∀ b,D b→¬ V b) (hd:∀ d∈l,d.1.size≤maxLen∧d.2≤M64) (hn:n≤1048576) (hq:q.length≤1048576) :
 Calls Tryz.prog 131 #[.pointer (some ⟨s,0,none⟩),.slice A n c] w fun e w'=>e=.returned (.int .i64 (mayE q l))∧SumsAt s (addM q l) w' (Ext V w w')∧Just V w w':=by
 have hln:l.length=n:=by have:=hl.1;rw[dcells_len] at this;omega
 have hm:=May_any w s q V h A n c l D hl hd hn hq
 have hS1:=fun w1 (hg:Grow w w1)=>SumsAt.framed s q w w1 V h fun b hb=>hg.block b (hV b hb)
 obtain⟨h1,h2,b,h3,h4,hB0,hM0⟩:=h
 have k158:∀ (vs:Array Value) (w:World),(callFunc 158 vs).run Tryz.prog w=.ok (.enter 158 vs) w:=fun vs w=>by go_simp
 obtain⟨E,HE⟩:∃ E:Int,Hid (E=mayE q l):=⟨_,rfl⟩
 have hE0:E=0→addM q l=add q l:=fun h=>by unfold addM;rw[←HE.out,if_pos h]
 have hE1:E≠0→addM q l=q:=fun h=>by unfold addM;rw[←HE.out,if_neg h]
 rw[←HE.out] at hm ⊢
 by_cases he:E=0
 ·have hok:=mayE_ok (HE.out.symm.trans he)
  rw[hE0 he]
  subst he
  go_enter Tryz.func131,Tryz.ntmps131
  go_wp2_with fail
  refine hm.mono ?_
  rintro e w1 ⟨rfl,hg1⟩
  clear hm hS1 hE0 hE1
  have hl1:=hl.grow hg1
  have hM1:=hM0.grow hg1
  have hB1:=hB0.grow hg1
  have hbl:=hM0.lt
  have hg1s:=hg1.size
  go_wp2_with fail
  go_loopw [16] (fun i wr=>∃ k:Nat,k≤n∧i=.int .i64 (k:Int)∧MapQ wr b (add q (l.take k))∧Just (fun c=>c=b) w1 wr) (fun i _=>n-(intOf i).toNat)
  case atStart=>exact⟨0,by omega,rfl,hM1,Just.of_grow (Grow.refl _)⟩
  case round=>
   clear hM1
   obtain⟨k,hkn,rfl,hM,hj⟩:=hrel
   have hlr:In wr D 2 A n (dcells l):=hl1.just hj fun c hc e=>hDV c hc (by rw[e];exact h3)
   have hBr:=hj.blk hB1 (fun e=>h4 e.symm)
   by_cases hk:k<n
   ·have hkt:decide ((k:Int)<(n:Int))=true:=decide_eq_true (by omega)
    obtain⟨ad,hqk,rfl,he0,he1⟩:=del_at hlr hk
    have hdk:=hd _ (List.getElem_mem hqk)
    have hnext:add q (l.take (k+1))=put (add q (l.take k)) l[k].1 (gt (add q (l.take k)) l[k].1+l[k].2):=by rw[List.take_succ_eq_append_getElem hqk,add_one]
    have hfit:=ok_fits hok hqk
    have hlen:(add q (l.take k)).length<maxLen:=by
     have:=add_len (l.take k) q
     rw[List.length_take] at this
     unfold maxLen
     omega
    generalize l[k]=dk at he0 he1 hdk hnext hfit
    have f0:=he0 _ (Grow.refl _)
    have f1:=he1 _ (Grow.refl _)
    have hga:Grow wr (wr.alloc (.cells #[.string dk.1,.int .u64 (dk.2:Int)] 29)):=(Below.refl _ wr).alloc (Nat.le_refl _) _
    have hBd0:=Blk.made wr 29 #[.string dk.1,.int .u64 (dk.2:Int)]
    obtain⟨wa,HA⟩:∃ wa:World,Hid (wa=wr.alloc (.cells #[.string dk.1,.int .u64 (dk.2:Int)] 29)):=⟨_,rfl⟩
    obtain⟨x,HX⟩:∃ x:Nat,Hid (x=wr.heap.size):=⟨_,rfl⟩
    have hgwa:Grow wr wa:=HA.out▸hga
    have hBd:Blk wa x 29 #[.string dk.1,.int .u64 (dk.2:Int)]:=by rw[HA.out,HX.out];exact hBd0
    have hBw:=hBr.grow hgwa
    have hMa:=hM.grow hgwa
    obtain⟨gq,HGQ⟩:∃ gq:Nat,Hid (gq=gt (add q (l.take k)) dk.1):=⟨_,rfl⟩
    rw[←HGQ.out] at hnext hfit
    have hlq:∀ w1,Grow wa w1→(Instr.lookup 213 (.map (some b)) (.string dk.1) false).run Tryz.prog w1=.ok (.int .u64 (gq:Int)) w1:=fun w1 hg=>by
     have:=SMap.look1 smT (hMa.grow hg) dk.1 hdk.1
     rwa [fq_get,←HGQ.out] at this
    have hadd:∀ w1:World,Calls Tryz.prog 158 #[.int .u64 (gq:Int),.int .u64 (dk.2:Int)] w1 fun e w'=>e=.returned (.int .u64 ((gq+dk.2:Nat):Int))∧w1=w':=fun w1=>by
     have:=eAdd_any w1 gq dk.2 (by omega) (by omega)
     rwa [if_pos hfit] at this
    clear hga hBd0 hM
    go_wp2_with fail
    rw[←HA.out,←HX.out]
    refine wp_region_flow 16 37 [(15,.inl (.int .u64 ((gq+dk.2:Nat):Int)))] rfl rfl (by kernel_rfl) (by kernel_rfl) (by kernel_rfl) ?_ ?_
    ·intro x hx φ he
     simp only[List.mem_cons,List.not_mem_nil,or_false] at hx
     rcases hx with rfl<;>cases he
    intro ops' A' K' T hops hA' hK hT
    refine fl_mvN 20 (.pointer (some ⟨s,0,none⟩)) ?_
    refine fl_op1G 21 (.tmp 20) (.pointer (some ⟨s,0,none⟩)) (.pointer (some ⟨s,0,none⟩)) ?_
    refine fl_op1G 22 (.tmp 21) (.pointer (some ⟨s,0,none⟩)) (.pointer (some ⟨s,0,none⟩)) ?_
    refine fl_op1N 23 (.tmp 22) (.pointer (some ⟨s,0,none⟩)) (.map (some b)) (fun ρ h1 kk w1 (hg:Grow _ w1) hb hf=>by have c:=(hBw.grow hg).cell 0;go_simp) ?_
    refine fl_op1G 24 (.tmp 7) (.pointer (some ⟨x,0,none⟩)) (.pointer (some ⟨x,0,none⟩)) ?_
    refine fl_op1N 25 (.tmp 24) (.pointer (some ⟨x,0,none⟩)) (.string dk.1) (fun ρ h1 kk w1 (hg:Grow _ w1) hb hf=>by have c:=(hBd.grow hg).cell 0;go_simp) ?_
    refine fl_mvN 26 (.pointer (some ⟨s,0,none⟩)) ?_
    refine fl_op1G 27 (.tmp 26) (.pointer (some ⟨s,0,none⟩)) (.pointer (some ⟨s,0,none⟩)) ?_
    refine fl_op1G 28 (.tmp 27) (.pointer (some ⟨s,0,none⟩)) (.pointer (some ⟨s,0,none⟩)) ?_
    refine fl_op1N 29 (.tmp 28) (.pointer (some ⟨s,0,none⟩)) (.map (some b)) (fun ρ h1 kk w1 (hg:Grow _ w1) hb hf=>by have c:=(hBw.grow hg).cell 0;go_simp) ?_
    refine fl_op1G 30 (.tmp 7) (.pointer (some ⟨x,0,none⟩)) (.pointer (some ⟨x,0,none⟩)) ?_
    refine fl_op1N 31 (.tmp 30) (.pointer (some ⟨x,0,none⟩)) (.string dk.1) (fun ρ h1 kk w1 (hg:Grow _ w1) hb hf=>by have c:=(hBd.grow hg).cell 0;go_simp) ?_
    refine fl_op2N 32 (.tmp 29) (.tmp 31) (.map (some b)) (.string dk.1) (.int .u64 (gq:Int)) (fun ρ h1 h2 kk w1 (hg:Grow _ w1) hb hf=>by have hl:=hlq w1 hg;go_simp) ?_
    refine fl_op1G 33 (.tmp 7) (.pointer (some ⟨x,0,none⟩)) (.pointer (some ⟨x,1,none⟩)) ?_
    refine fl_op1N 34 (.tmp 33) (.pointer (some ⟨x,1,none⟩)) (.int .u64 (dk.2:Int)) (fun ρ h1 kk w1 (hg:Grow _ w1) hb hf=>by have c:=(hBd.grow hg).cell 1;go_simp) ?_
    refine fl_call 35 (by rfl) (by decide) (wanted_none (by rfl)) (.int .u64 ((gq+dk.2:Nat):Int)) (by rw[hK.out];rfl) 158 _ _ (by rfl) [.int .u64 (gq:Int),.int .u64 (dk.2:Int)] (by rfl) k158 (fun kk w1 (hg:Grow _ w1) hb hf=>calls_behind (by rfl) (by exact grew_same (hadd w1))) ?_
    refine fl_end (fun _ _ w1 (hg:Grow _ w1) _ hfacts=>hT _ _ ?_)
    clear hops hA' hK hT
    simp only[putsL,Act.put,List.setIfInBounds_toArray,List.set_cons_zero,List.set_cons_succ,List.drop_succ_cons,List.drop_zero]
    clear hfacts hlq hadd
    obtain⟨w5,hput,hm5,hj5⟩:=mapq_put (hMa.grow hg) hdk.1 hfit hlen
    rw[←hnext] at hm5
    rw[Int.natCast_add] at hput
    have hjj:=hj.trans ((Just.of_grow (V:=fun c=>c=b) (hgwa.trans hg)).trans hj5)
    go_wp2_with fail
    go_roundw
    case rel=>exact⟨k+1,by omega,by go_num,hm5,hjj⟩
    case measure=>simp[intOf];omega
   ·obtain rfl:k=n:=by omega
    have hkt:decide ((k:Int)<(k:Int))=false:=decide_eq_false (by omega)
    rw[List.take_of_length_le (by omega)] at hM
    go_wp2_with fail
    go_ret
    have hs:=hj.size
    exact⟨rfl,⟨.inl h1,ok_right h2 (fun d hd'=>(hd d hd').1) hok,b,.inl h3,h4,hBr,hM⟩,(Just.of_grow hg1).trans (hj.imp fun c hc=>by rw[hc];exact h3)⟩
 ·rw[hE1 he]
  have heb:(E != 0)=true:=by simpa using he
  go_enter Tryz.func131,Tryz.ntmps131
  go_wp2_with fail
  refine hm.mono ?_
  rintro e w1 ⟨rfl,hg1⟩
  have hS:=hS1 w1 hg1
  clear hm hE0 hE1 hS1
  go_wp2_with fail
  go_ret
  exact⟨rfl,hS.wide fun b hb => .inl hb,Just.of_grow hg1⟩
end Go.Proofs.YtmijcbfgfkeodaaGreatDoor.K
end
section
namespace Go.Proofs.YtmijcbfgfkeodaaGreatDoor.W
def far (F n:Int):Bool:=decide (F<n) && decide (64≤n-F-1)
def seen (F:Int) (M:Nat) (n:Int):Bool:=decide (n≤F) || (!far F n && M.testBit (n-F-1).toNat)
def strip:Nat→Int→Nat→Int×Nat
 | 0,F,M=>(F,M)
 | k+1,F,M=>if M % 2=1 then strip k (F+1) (M / 2) else (F,M)
def put (F:Int) (M:Nat) (n:Int):Int×Nat:=strip 64 F (M ||| 2 ^ (n-F-1).toNat)
structure WInv (F:Int) (M:Nat):Prop where
 lo:0≤F
 hi:F≤9223372036854775807
 mask:M<18446744073709551616
 top:∀ i,M.testBit i=true→F+1+(i:Int)≤9223372036854775807
theorem WInv.none:WInv 0 0:=⟨by omega,by omega,by omega,fun i h=>by simp at h⟩
theorem WInv.step {F:Int} {M:Nat} (h:WInv F M) (ho:M % 2=1):WInv (F+1) (M / 2):=by
 have h0:=h.top 0 (by rw[Nat.testBit_zero];simpa using ho)
 have:=h.lo;have:=h.mask
 refine⟨by omega,by omega,by omega,fun i hi=>?_⟩
 have:=h.top (i+1) (by rw[Nat.testBit_succ];exact hi)
 omega
theorem WInv.strip:∀ (k:Nat) {F:Int} {M:Nat},WInv F M→WInv (strip k F M).1 (strip k F M).2
 | 0,_,_,h=>h
 | k+1,F,M,h=>by
   unfold Go.Proofs.YtmijcbfgfkeodaaGreatDoor.W.strip
   split
   ·rename_i ho;exact WInv.strip k (h.step ho)
   ·exact h
theorem WInv.put {F:Int} {M:Nat} (h:WInv F M) {n:Int} (hn:n≤9223372036854775807) (h1:F<n) (h2:n-F-1<64):WInv (put F M n).1 (put F M n).2:=by
 refine WInv.strip 64 ⟨h.lo,h.hi,?_,fun i hi=>?_⟩
 ·exact Nat.or_lt_two_pow (n:=64) h.mask (Nat.pow_lt_pow_right (by omega) (by omega))
 ·rw[Nat.testBit_or,Bool.or_eq_true] at hi
  rcases hi with hi|hi
  ·exact h.top i hi
  ·rw[Nat.testBit_two_pow] at hi
   have:(n-F-1).toNat=i:=by simpa using hi
   omega
def addB (F:Int) (M:Nat) (n:Int):Bool := !(far F n || seen F M n)
def addS (F:Int) (M:Nat) (n:Int):Int×Nat:=if addB F M n then Go.Proofs.YtmijcbfgfkeodaaGreatDoor.W.put F M n else (F,M)
theorem addB_range {F:Int} {M:Nat} {n:Int} (h:addB F M n=true):F<n∧n-F-1<64∧M.testBit (n-F-1).toNat=false:=by
 unfold addB seen far at h
 simp only[Bool.not_eq_true',Bool.or_eq_false_iff,Bool.and_eq_false_iff,decide_eq_false_iff_not,Bool.not_eq_false'] at h
 obtain⟨h1,h2,h3⟩:=h
 have hlt:F<n:=by omega
 refine⟨hlt,by omega,?_⟩
 rcases h3 with h3|h3
 ·simp only[Bool.and_eq_true,decide_eq_true_eq] at h3;omega
 ·exact h3
end Go.Proofs.YtmijcbfgfkeodaaGreatDoor.W
end
