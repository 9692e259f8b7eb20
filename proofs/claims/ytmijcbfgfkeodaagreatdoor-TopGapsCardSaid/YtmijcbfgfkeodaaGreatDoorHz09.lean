/- En5, Accb, En6. -/
import Derived.Test.YtmijcbfgfkeodaaGreatDoorHz08
set_option linter.all false
set_option maxRecDepth 100000
section
namespace Go.Proofs.YtmijcbfgfkeodaaGreatDoor
open Go.RowKit Go.Hop Go.Proofs.YtmijcbfgfkeodaaGreatDoor.V
def enB (e:En):List UInt8:=if e.k=2 then [UInt8.ofNat 2]++enc e.fr.toNat++enc e.tg.toNat++enc e.se.size++e.se.data.toList
 else [UInt8.ofNat 1]++enc e.fr.toNat++enc e.tg.toNat++([e.ag.toNat,e.sh.toNat,e.sq.toNat,e.ep.toNat,e.ds.length].flatMap enc)++dsB e.ds
theorem encs_len:∀ (l:List Nat),(∀ n∈l,n<18446744073709551616)→(l.flatMap enc).length≤l.length*10
 | [],_=>by simp
 | n :: l,h=>by
   have h1:=encs_len l fun x hx=>h x (by simp[hx])
   have h2:=enc_ten (h n (by simp))
   rw[List.flatMap_cons,List.length_append,List.length_cons]
   omega
theorem w_small {e:En} (h:e.W):∀ d∈e.ds,Small d:=fun d hd=>by
 obtain⟨h1,h2,h3,h4⟩:=h.2.2.2.2.2.2.2 d hd
 exact⟨h4,by omega⟩
theorem Bytes_r (w:World) (e:En) (V:Nat→Prop) (A:Option Addr) (c:Nat) (hok:e.Ok) (hr:e.R) (hd:DIn w V A e.ds.length e.ds) :
 Calls Tryz.prog 288 #[.agg (e.agg A c)] w fun en w'=>∃ v,en=.returned (.tuple #[v,.int .i64 0])∧Grow w w'∧IsBytes (enB e) v w':=by
 obtain⟨⟨hfr,htg⟩,_⟩:=id hok
 obtain⟨k,ag,sh,sq,ep,ds,se,fr,tg⟩:=e
 obtain⟨h1,h2,h3,h4,h5,h6,h7,hsz⟩:=hr
 simp only at h1 h2 h3 h4 h5 h6 hsz hfr htg
 subst h1 h2 h3 h4 h5 h6
 obtain⟨F,rfl⟩:=Int.eq_ofNat_of_zero_le hfr.1
 obtain⟨G,rfl⟩:=Int.eq_ofNat_of_zero_le htg.1
 unfold En.agg
 dsimp only[List.length_nil] at hd ⊢
 have k219:∀ (vs:Array Value) (w:World),(callFunc 219 vs).run Tryz.prog w=.ok (.enter 219 vs) w:=fun vs w=>by go_simp
 have hg0:=grow_alloc w (.cells #[.int .i64 2,.int .i64 0,.int .i64 0,.int .i64 0,.int .i64 0,.slice A 0 c,.string se,.int .i64 (F:Int),.int .i64 (G:Int)] 32)
 have hB:=Blk.made w 32 #[.int .i64 2,.int .i64 0,.int .i64 0,.int .i64 0,.int .i64 0,.slice A 0 c,.string se,.int .i64 (F:Int),.int .i64 (G:Int)]
 obtain⟨x,HX⟩:∃ x:Nat,Hid (x=w.heap.size):=⟨_,rfl⟩
 obtain⟨wa,HA⟩:∃ wa:World,Hid (wa=w.alloc (.cells #[.int .i64 2,.int .i64 0,.int .i64 0,.int .i64 0,.int .i64 0,.slice A 0 c,.string se,.int .i64 (F:Int),.int .i64 (G:Int)] 32)):=⟨_,rfl⟩
 rw[←HA.out] at hB hg0
 rw[←HX.out] at hB
 have hx:x<wa.heap.size:=hB.lt
 have hR:=Right_ok wa _ V A c hok (In.grow hd hg0)
 unfold En.agg at hR
 dsimp only at hR
 have c0:=fun (w1:World) (hg:Grow wa w1)=>(hB.grow hg).cell 0
 go_enter Tryz.func288,Tryz.ntmps288
 go_wp2_with fail
 rw[←HA.out,←HX.out]
 refine hR.mono ?_
 rintro e w2 ⟨rfl,hg2⟩
 have hBk:=hB.grow hg2
 have hgx:=hg0.trans hg2
 have wF:IntKind.u64.wrap (F:Int)=(F:Int):=by rw[wrap_u64];omega
 have wG:IntKind.u64.wrap (G:Int)=(G:Int):=by rw[wrap_u64];omega
 clear hR c0
 go_wp2_with fail
 refine wp_region_flow 13 65 [(3,.inr (fun _=>IsBytes [UInt8.ofNat 2])),(7,.inr (fun _=>IsBytes ([UInt8.ofNat 2]++enc F))),(11,.inr (fun _=>IsBytes ([UInt8.ofNat 2]++enc F++enc G)))] rfl rfl (by kernel_rfl) (by kernel_rfl) (by kernel_rfl) ?_ ?_
 ·intro x hx φ he
  simp only[List.mem_cons,List.not_mem_nil,or_false] at hx
  rcases hx with rfl|rfl|rfl<;>cases he
  all_goals first|exact lasts_quiet (lasting_bytes _)|fail
 intro ops' A' K' T hops hA' hK hT
 refine fl_op1G 13 (.tmp 1) (.pointer (some ⟨x,0,none⟩)) (.pointer (some ⟨x,0,none⟩)) ?_
 refine fl_op1N 14 (.tmp 13) (.pointer (some ⟨x,0,none⟩)) (.int .i64 2) (fun ρ h1 kk w1 (hg:Grow _ w1) hb hf=>by have c:=(hBk.grow hg).cell 0;go_simp) ?_
 refine fl_op1N 15 (.tmp 14) (.int .i64 2) (.int .u8 2) (fun ρ h1 kk w1 (hg:Grow _ w1) hb hf=>by go_simp;try rfl) ?_
 refine fl_any1 16 (by rfl) (by decide) (wanted_none (by rfl)) (fun _=>IsBytes [UInt8.ofNat 2]) (by rw[hK.out];rfl) (.tmp 15) (.int .u8 2) (by rfl) (fun ρ h1 kk w1 (hg:Grow _ w1) hb hf=>by refine upon_behindAny (φ:=fun _=>IsBytes [UInt8.ofNat 2]) (by rfl) ?_;exact flowUpon_value (w:=w1.alloc (.cells #[.int .u8 2] 5)) (by go_simp) ⟨grow_alloc w1 _,lit_is w1 #[.int .u8 2] 5 1 [UInt8.ofNat 2] rfl rfl (by decide)⟩) (fun v16=>?_)
 refine fl_op1G 17 (.tmp 1) (.pointer (some ⟨x,0,none⟩)) (.pointer (some ⟨x,7,none⟩)) ?_
 refine fl_op1N 18 (.tmp 17) (.pointer (some ⟨x,7,none⟩)) (.int .i64 (F:Int)) (fun ρ h1 kk w1 (hg:Grow _ w1) hb hf=>by have c:=(hBk.grow hg).cell 7;go_simp) ?_
 refine fl_op1N 19 (.tmp 18) (.int .i64 (F:Int)) (.int .u64 (F:Int)) (fun ρ h1 kk w1 (hg:Grow _ w1) hb hf=>by go_simp;try rfl) ?_
 refine fl_callAny 20 (by rfl) (by decide) (wanted_none (by rfl)) (fun _=>IsBytes ([UInt8.ofNat 2]++enc F)) (by rw[hK.out];rfl) 219 _ _ (by rfl) [v16,.int .u64 (F:Int)] (by rfl) k219 (fun kk w1 (hg:Grow _ w1) hb hf=>calls_behindAny (φ:=fun _=>IsBytes ([UInt8.ofNat 2]++enc F)) (by rfl) (by exact vPut_is w1 v16 [UInt8.ofNat 2] F (facts_take hf (by rw[hA'.out];kernel_rfl)) (by simp) (by omega))) (fun v20=>?_)
 refine fl_op1G 21 (.tmp 1) (.pointer (some ⟨x,0,none⟩)) (.pointer (some ⟨x,8,none⟩)) ?_
 refine fl_op1N 22 (.tmp 21) (.pointer (some ⟨x,8,none⟩)) (.int .i64 (G:Int)) (fun ρ h1 kk w1 (hg:Grow _ w1) hb hf=>by have c:=(hBk.grow hg).cell 8;go_simp) ?_
 refine fl_op1N 23 (.tmp 22) (.int .i64 (G:Int)) (.int .u64 (G:Int)) (fun ρ h1 kk w1 (hg:Grow _ w1) hb hf=>by go_simp;try rfl) ?_
 refine fl_callAny 24 (by rfl) (by decide) (wanted_none (by rfl)) (fun _=>IsBytes ([UInt8.ofNat 2]++enc F++enc G)) (by rw[hK.out];rfl) 219 _ _ (by rfl) [v20,.int .u64 (G:Int)] (by rfl) k219 (fun kk w1 (hg:Grow _ w1) hb hf=>calls_behindAny (φ:=fun _=>IsBytes ([UInt8.ofNat 2]++enc F++enc G)) (by rfl) (by exact vPut_is w1 v20 ([UInt8.ofNat 2]++enc F) G (facts_take hf (by rw[hA'.out];kernel_rfl)) (by have:=enc_ten (n:=F) (by omega);rw[List.length_append];simp only[List.length_singleton];omega) (by omega))) (fun v24=>?_)
 refine fl_mvN 5 (v24) ?_
 refine fl_end (fun _ _ w1 (hg:Grow _ w1) _ hfacts=>hT _ _ ?_)
 clear hops hA' hK hT
 simp only[putsL,Act.put,List.setIfInBounds_toArray,List.set_cons_zero,List.set_cons_succ,List.drop_succ_cons,List.drop_zero]
 have hE:=hfacts.1
 clear hfacts
 have c0:=(hBk.grow hg).cell 0
 have c6:=(hBk.grow hg).cell 6
 have hTx:=vText_is w1 v24 _ se hE (by have:=enc_ten (n:=F) (by omega);have:=enc_ten (n:=G) (by omega);simp only[List.length_append,List.length_singleton];omega) (by omega)
 go_wp2_with fail
 refine hTx.mono ?_
 rintro e w3 ⟨v3,rfl,hg3,hE3⟩
 go_wp2_with fail
 go_ret2
 refine⟨v3,rfl,hgx.trans (hg.trans hg3),?_⟩
 unfold enB
 rw[if_pos rfl]
 simpa only[Int.toNat_natCast,List.append_assoc] using hE3
set_option maxHeartbeats 2000000 in
theorem Bytes_w (w:World) (e:En) (V:Nat→Prop) (A:Option Addr) (c:Nat) (hok:e.Ok) (hr:e.W) (hd:DIn w V A e.ds.length e.ds) :
 Calls Tryz.prog 288 #[.agg (e.agg A c)] w fun en w'=>∃ v,en=.returned (.tuple #[v,.int .i64 0])∧Grow w w'∧IsBytes (enB e) v w':=by
 obtain⟨⟨hfr,htg⟩,_⟩:=id hok
 have hsm:=w_small hr
 obtain⟨k,ag,sh,sq,ep,ds,se,fr,tg⟩:=e
 obtain⟨h1,h2,h3,h4,h5,h6,h7,_⟩:=hr
 simp only at h1 h2 h3 h4 h5 h6 h7 hfr htg hsm
 subst h1 h2
 obtain⟨F,rfl⟩:=Int.eq_ofNat_of_zero_le hfr.1
 obtain⟨G,rfl⟩:=Int.eq_ofNat_of_zero_le htg.1
 obtain⟨AG,rfl⟩:=Int.eq_ofNat_of_zero_le h3.1
 obtain⟨SH,rfl⟩:=Int.eq_ofNat_of_zero_le h4.1
 obtain⟨SQ,rfl⟩:=Int.eq_ofNat_of_zero_le (show 0≤sq by omega)
 obtain⟨EP,rfl⟩:=Int.eq_ofNat_of_zero_le (show 0≤ep by omega)
 unfold En.agg
 dsimp only at hd ⊢
 have k219:∀ (vs:Array Value) (w:World),(callFunc 219 vs).run Tryz.prog w=.ok (.enter 219 vs) w:=fun vs w=>by go_simp
 have hg0:=grow_alloc w (.cells #[.int .i64 1,.int .i64 (AG:Int),.int .i64 (SH:Int),.int .i64 (SQ:Int),.int .i64 (EP:Int),.slice A ds.length c,.string ⟨#[]⟩,.int .i64 (F:Int),.int .i64 (G:Int)] 32)
 have hB:=Blk.made w 32 #[.int .i64 1,.int .i64 (AG:Int),.int .i64 (SH:Int),.int .i64 (SQ:Int),.int .i64 (EP:Int),.slice A ds.length c,.string ⟨#[]⟩,.int .i64 (F:Int),.int .i64 (G:Int)]
 obtain⟨x,HX⟩:∃ x:Nat,Hid (x=w.heap.size):=⟨_,rfl⟩
 obtain⟨wa,HA⟩:∃ wa:World,Hid (wa=w.alloc (.cells #[.int .i64 1,.int .i64 (AG:Int),.int .i64 (SH:Int),.int .i64 (SQ:Int),.int .i64 (EP:Int),.slice A ds.length c,.string ⟨#[]⟩,.int .i64 (F:Int),.int .i64 (G:Int)] 32)):=⟨_,rfl⟩
 rw[←HA.out] at hB hg0
 rw[←HX.out] at hB
 have hx:x<wa.heap.size:=hB.lt
 have hR:=Right_ok wa _ V A c hok (In.grow hd hg0)
 unfold En.agg at hR
 dsimp only at hR
 have c0:=fun (w1:World) (hg:Grow wa w1)=>(hB.grow hg).cell 0
 go_enter Tryz.func288,Tryz.ntmps288
 go_wp2_with fail
 rw[←HA.out,←HX.out]
 refine hR.mono ?_
 rintro e w2 ⟨rfl,hg2⟩
 have hBk:=hB.grow hg2
 have hgx:=hg0.trans hg2
 have wF:IntKind.u64.wrap (F:Int)=(F:Int):=by rw[wrap_u64];omega
 have wG:IntKind.u64.wrap (G:Int)=(G:Int):=by rw[wrap_u64];omega
 clear hR c0
 go_wp2_with fail
 refine wp_region_flow 13 65 [(3,.inr (fun _=>IsBytes [UInt8.ofNat 1])),(7,.inr (fun _=>IsBytes ([UInt8.ofNat 1]++enc F))),(11,.inr (fun _=>IsBytes ([UInt8.ofNat 1]++enc F++enc G)))] rfl rfl (by kernel_rfl) (by kernel_rfl) (by kernel_rfl) ?_ ?_
 ·intro x hx φ he
  simp only[List.mem_cons,List.not_mem_nil,or_false] at hx
  rcases hx with rfl|rfl|rfl<;>cases he
  all_goals first|exact lasts_quiet (lasting_bytes _)|fail
 intro ops' A' K' T hops hA' hK hT
 refine fl_op1G 13 (.tmp 1) (.pointer (some ⟨x,0,none⟩)) (.pointer (some ⟨x,0,none⟩)) ?_
 refine fl_op1N 14 (.tmp 13) (.pointer (some ⟨x,0,none⟩)) (.int .i64 1) (fun ρ h1 kk w1 (hg:Grow _ w1) hb hf=>by have c:=(hBk.grow hg).cell 0;go_simp) ?_
 refine fl_op1N 15 (.tmp 14) (.int .i64 1) (.int .u8 1) (fun ρ h1 kk w1 (hg:Grow _ w1) hb hf=>by go_simp;try rfl) ?_
 refine fl_any1 16 (by rfl) (by decide) (wanted_none (by rfl)) (fun _=>IsBytes [UInt8.ofNat 1]) (by rw[hK.out];rfl) (.tmp 15) (.int .u8 1) (by rfl) (fun ρ h1 kk w1 (hg:Grow _ w1) hb hf=>by refine upon_behindAny (φ:=fun _=>IsBytes [UInt8.ofNat 1]) (by rfl) ?_;exact flowUpon_value (w:=w1.alloc (.cells #[.int .u8 1] 5)) (by go_simp) ⟨grow_alloc w1 _,lit_is w1 #[.int .u8 1] 5 1 [UInt8.ofNat 1] rfl rfl (by decide)⟩) (fun v16=>?_)
 refine fl_op1G 17 (.tmp 1) (.pointer (some ⟨x,0,none⟩)) (.pointer (some ⟨x,7,none⟩)) ?_
 refine fl_op1N 18 (.tmp 17) (.pointer (some ⟨x,7,none⟩)) (.int .i64 (F:Int)) (fun ρ h1 kk w1 (hg:Grow _ w1) hb hf=>by have c:=(hBk.grow hg).cell 7;go_simp) ?_
 refine fl_op1N 19 (.tmp 18) (.int .i64 (F:Int)) (.int .u64 (F:Int)) (fun ρ h1 kk w1 (hg:Grow _ w1) hb hf=>by go_simp;try rfl) ?_
 refine fl_callAny 20 (by rfl) (by decide) (wanted_none (by rfl)) (fun _=>IsBytes ([UInt8.ofNat 1]++enc F)) (by rw[hK.out];rfl) 219 _ _ (by rfl) [v16,.int .u64 (F:Int)] (by rfl) k219 (fun kk w1 (hg:Grow _ w1) hb hf=>calls_behindAny (φ:=fun _=>IsBytes ([UInt8.ofNat 1]++enc F)) (by rfl) (by exact vPut_is w1 v16 [UInt8.ofNat 1] F (facts_take hf (by rw[hA'.out];kernel_rfl)) (by simp) (by omega))) (fun v20=>?_)
 refine fl_op1G 21 (.tmp 1) (.pointer (some ⟨x,0,none⟩)) (.pointer (some ⟨x,8,none⟩)) ?_
 refine fl_op1N 22 (.tmp 21) (.pointer (some ⟨x,8,none⟩)) (.int .i64 (G:Int)) (fun ρ h1 kk w1 (hg:Grow _ w1) hb hf=>by have c:=(hBk.grow hg).cell 8;go_simp) ?_
 refine fl_op1N 23 (.tmp 22) (.int .i64 (G:Int)) (.int .u64 (G:Int)) (fun ρ h1 kk w1 (hg:Grow _ w1) hb hf=>by go_simp;try rfl) ?_
 refine fl_callAny 24 (by rfl) (by decide) (wanted_none (by rfl)) (fun _=>IsBytes ([UInt8.ofNat 1]++enc F++enc G)) (by rw[hK.out];rfl) 219 _ _ (by rfl) [v20,.int .u64 (G:Int)] (by rfl) k219 (fun kk w1 (hg:Grow _ w1) hb hf=>calls_behindAny (φ:=fun _=>IsBytes ([UInt8.ofNat 1]++enc F++enc G)) (by rfl) (by exact vPut_is w1 v20 ([UInt8.ofNat 1]++enc F) G (facts_take hf (by rw[hA'.out];kernel_rfl)) (by have:=enc_ten (n:=F) (by omega);rw[List.length_append];simp only[List.length_singleton];omega) (by omega))) (fun v24=>?_)
 refine fl_mvN 5 (v24) ?_
 refine fl_end (fun _ _ w1 (hg:Grow _ w1) _ hfacts=>hT _ _ ?_)
 clear hops hA' hK hT
 simp only[putsL,Act.put,List.setIfInBounds_toArray,List.set_cons_zero,List.set_cons_succ,List.drop_succ_cons,List.drop_zero]
 have hE:=hfacts.1
 clear hfacts
 have hBk1:=hBk.grow hg
 have c0:=hBk1.cell 0
 have c1:=hBk1.cell 1
 have c2:=hBk1.cell 2
 have c3:=hBk1.cell 3
 have c4:=hBk1.cell 4
 have c5:=hBk1.cell 5
 have c6:=hBk1.cell 6
 have c7:=hBk1.cell 7
 have c8:=hBk1.cell 8
 have wA:IntKind.u64.wrap (AG:Int)=(AG:Int):=by rw[wrap_u64];omega
 have wS:IntKind.u64.wrap (SH:Int)=(SH:Int):=by rw[wrap_u64];omega
 have wQ:IntKind.u64.wrap (SQ:Int)=(SQ:Int):=by rw[wrap_u64];omega
 have wE:IntKind.u64.wrap (EP:Int)=(EP:Int):=by rw[wrap_u64];omega
 have wD:IntKind.u64.wrap (ds.length:Int)=(ds.length:Int):=by rw[wrap_u64];omega
 obtain⟨L0,HL0⟩:∃ L0,Hid (L0=[UInt8.ofNat 1]++enc F++enc G):=⟨_,rfl⟩
 rw[←HL0.out] at hE
 have hL0:L0.length≤21:=by have:=enc_ten (n:=F) (by omega);have:=enc_ten (n:=G) (by omega);rw[HL0.out];simp only[List.length_append,List.length_singleton];omega
 obtain⟨N,HN⟩:∃ N:List Nat,Hid (N=[AG,SH,SQ,EP,ds.length]):=⟨_,rfl⟩
 have hN5:N.length=5:=by rw[HN.out];rfl
 have hNs:∀ n∈N,n<18446744073709551616:=by rw[HN.out];intro n hn;simp at hn;omega
 have hgn:=grow_alloc w1 (.cells #[.int .u64 (AG:Int),.int .u64 (SH:Int),.int .u64 (SQ:Int),.int .u64 (EP:Int),.int .u64 (ds.length:Int)] 27)
 have hNb:=Blk.made w1 27 #[.int .u64 (AG:Int),.int .u64 (SH:Int),.int .u64 (SQ:Int),.int .u64 (EP:Int),.int .u64 (ds.length:Int)]
 obtain⟨y,HY⟩:∃ y:Nat,Hid (y=w1.heap.size):=⟨_,rfl⟩
 obtain⟨wb,HB⟩:∃ wb:World,Hid (wb=w1.alloc (.cells #[.int .u64 (AG:Int),.int .u64 (SH:Int),.int .u64 (SQ:Int),.int .u64 (EP:Int),.int .u64 (ds.length:Int)] 27)):=⟨_,rfl⟩
 rw[←HB.out] at hNb hgn
 rw[←HY.out] at hNb
 have hEb:=hE.below hgn
 have hNc:∀ (wr:World),Grow wb wr→∀ k,(hk:k<N.length)→wr.cell? ⟨y,k,none⟩=some (.int .u64 (N[k]:Int)):=fun wr hgr k hk=>by
  rw[(hNb.grow hgr).cell k]
  subst_eqs
  have h5:k<5:=by omega
  have hN:=HN.out
  subst hN
  match k,h5 with
  | 0,_=>rfl
  | 1,_=>rfl
  | 2,_=>rfl
  | 3,_=>rfl
  | 4,_=>rfl
 have hBk2:=hBk1.grow hgn
 have hga:=hgx.trans (hg.trans hgn)
 go_wp2_with fail
 rw[←HB.out,←HY.out]
 clear c0 c1 c2 c3 c4 c5 c6 c7 c8
 go_loopw [5,53] (fun v i wr=>∃ k:Nat,k≤5∧i=.int .i64 (k:Int)∧IsBytes (L0++(N.take k).flatMap enc) v wr∧Grow wb wr) (fun _ i _=>5-(intOf i).toNat)
 case atStart=>exact⟨0,by omega,rfl,by simpa using hEb,Grow.refl _⟩
 case round=>
  obtain⟨k,hkn,rfl,hI,hgr⟩:=hrel
  by_cases hk:k<5
  ·have cN:=hNc wr hgr k (by omega)
   clear hNc
   have hkN:k<N.length:=by omega
   have hsn:N.take (k+1)=N.take k++[N[k]]:=List.take_succ_eq_append_getElem hkN
   have hlt:=hNs _ (List.getElem_mem hkN)
   have HS:=Lib.hid hsn
   clear hsn
   generalize N[k]=m at cN hlt HS
   have hle:=encs_len (N.take k) fun n hn=>hNs n (List.mem_of_mem_take hn)
   rw[List.length_take] at hle
   have hPt:=vPut_is wr u5 _ m hI (by rw[List.length_append];omega) hlt
   have hdk:decide ((k:Int)<5)=true:=decide_eq_true (by omega)
   go_wp2_with fail
   refine hPt.mono ?_
   rintro e w3 ⟨v3,rfl,hg3,hE3⟩
   go_wp2_with fail
   go_roundw
   case rel=>exact⟨k+1,by omega,by go_num,by rw[HS.out,List.flatMap_append,List.flatMap_cons,List.flatMap_nil,List.append_nil,←List.append_assoc];exact hE3,hgr.trans hg3⟩
   case measure=>simp[intOf];omega
  ·obtain rfl:k=5:=by omega
   have c5:=(hBk2.grow hgr).cell 5
   rw[List.take_of_length_le (by omega)] at hI
   have hle:=encs_len N hNs
   have hDp:=eDput_any wr u5 _ V A ds.length c ds hI (by rw[List.length_append];omega) (In.grow hd (hga.trans hgr)) (by omega) hsm
   go_wp2_with fail
   refine hDp.mono ?_
   rintro e w3 ⟨v3,rfl,hg3,hE3⟩
   go_wp2_with fail
   go_ret2
   refine⟨v3,rfl,hga.trans (hgr.trans hg3),?_⟩
   unfold enB
   rw[if_neg (show ¬ (1:Int)=2 by decide)]
   dsimp only
   rw[Int.toNat_natCast,Int.toNat_natCast,Int.toNat_natCast,Int.toNat_natCast,Int.toNat_natCast,Int.toNat_natCast,←HN.out,←HL0.out]
   exact hE3
theorem Bytes_ok (w:World) (e:En) (V:Nat→Prop) (A:Option Addr) (c:Nat) (hok:e.Ok) (hd:DIn w V A e.ds.length e.ds) :
 Calls Tryz.prog 288 #[.agg (e.agg A c)] w fun en w'=>∃ v,en=.returned (.tuple #[v,.int .i64 0])∧Grow w w'∧IsBytes (enB e) v w':=
 hok.2.elim (fun h=>Bytes_w w e V A c hok h hd) (fun h=>Bytes_r w e V A c hok h hd)
end Go.Proofs.YtmijcbfgfkeodaaGreatDoor
end
section
namespace Go.Hop
open Go.RowKit
section
variable {α:Type} (e size:Nat) (cells:α→List Value) (good:World→(Nat→Prop)→α→Prop)
def AccB (B:Nat) (v:Value) (q:List α) (w:World):Prop:=
 ∃ R D:Nat→Prop,Own w R e size v q.length (q.flatMap cells)∧(∀ b∈q,good w D b)∧(∀ b,R b→(B≤b∧b<w.heap.size)∧¬ D b)∧(∀ b,D b→B≤b∧b<w.heap.size)∧B≤w.heap.size
variable {e size cells good} {w w1 w':World} {B:Nat} {v:Value} {q:List α}
theorem AccB.nil (h:B≤w.heap.size):AccB e size cells good B (.slice none 0 0) [] w:=⟨fun _=>False,fun _=>False,Own.nil,by simp,fun _ h=>h.elim,fun _ h=>h.elim,h⟩
theorem AccB.just (hG:GoodJust good) (h:AccB e size cells good B v q w) {U:Nat→Prop} (hj:Just U w w') (hU:∀ b,U b→b<B∨w.heap.size≤b):AccB e size cells good B v q w':=by
 obtain⟨R,D,h1,h2,h3,h4,h5⟩:=h
 have hs:=hj.size
 refine⟨R,D,h1.keep fun b hb=>hj.block b (h3 b hb).1.2 fun hu=>?_,fun b hb=>hG _ _ _ _ _ (h2 b hb) hj fun x hx hu=>?_,fun b hb=>⟨⟨(h3 b hb).1.1,Nat.lt_of_lt_of_le (h3 b hb).1.2 hs⟩,(h3 b hb).2⟩,fun b hb=>⟨(h4 b hb).1,Nat.lt_of_lt_of_le (h4 b hb).2 hs⟩,Nat.le_trans h5 hs⟩
 ·have:=(h3 b hb).1;have:=hU b hu;omega
 ·have:=h4 x hx;have:=hU x hu;omega
theorem AccB.slice (h:AccB e size cells good B v q w):∃ A c,v=.slice A q.length c:=by
 obtain⟨R,D,h1,_⟩:=h
 obtain⟨A,c,h1,_⟩:=h1.reads
 exact⟨A,c,h1⟩
theorem AccB.done (hM:GoodMono good) (h:AccB e size cells good B v q w):∃ A c,v=.slice A q.length c∧In w (fun b=>B≤b∧b<w.heap.size) size A q.length (q.flatMap cells)∧(∀ b∈q,good w (fun b=>B≤b∧b<w.heap.size) b)∧q.length≤c∧c≤maxLen:=by
 obtain⟨R,D,h1,h2,h3,h4,h5⟩:=h
 obtain⟨A,c,rfl,h6,h7,h8⟩:=h1.in_
 exact⟨A,c,rfl,h6.mono fun b hb=>(h3 b hb).1,fun b hb=>hM _ _ _ _ (h2 b hb) h4,h7,h8⟩
theorem run_accB {P:Program} {t bytes:Nat} {z:Value} (E:Elem P t e size bytes z) (hG:GoodJust good) (hM:GoodMono good) (hl:∀ a,(cells a).length=size) (hone:∀ a,∀ u∈cells a,u.oneCell'=true)
 (h:AccB e size cells good B v q w1) {b:α} {F:Nat→Prop} (hb:good w1 F b) (hF:∀ x,F x→B≤x∧x<w1.heap.size) (hdis:∀ R D:Nat→Prop,Own w1 R e size v q.length (q.flatMap cells)→True) (hfr:∀ x,F x→∀ A c g,v=.slice (some ⟨g,A,none⟩) q.length c→x≠g) (hbytes:(q.length+1)*bytes≤140737488355328) (ty:TypeId) (c:Nat) :
 ∃ v' w',(Builtin.append_ #[t,t] ty #[v,.slice (some ⟨w1.heap.size,0,none⟩) 1 c]).run P (w1.alloc (.cells (cells b).toArray e))=.ok v' w'∧AccB e size cells good B v' (q++[b]) w'∧Just (fun x=>B≤x) w1 w':=by
 obtain⟨R0,D,h1,h2,h3,h4,h5⟩:=h
 -- the row lies in one block at most
 obtain⟨R,h1,hR0,hRF⟩:∃ R:Nat→Prop,Own w1 R e size v q.length (q.flatMap cells)∧(∀ x,R x→R0 x)∧∀ x,R x→¬ F x:=by
  obtain⟨ha,hb2|⟨g,cap,cur,hv,hV,r⟩⟩:=h1
  ·exact⟨fun _=>False,⟨ha,.inl hb2⟩,fun _ h=>h.elim,fun _ h=>h.elim⟩
  ·exact⟨fun x=>x=g,⟨ha,.inr ⟨g,cap,cur,hv,rfl,r⟩⟩,fun x hx=>hx▸hV,fun x hx hf=>hfr x hf 0 cap g hv hx⟩
 have h3:∀ x,R x→(B≤x∧x<w1.heap.size)∧¬ D x:=fun x hx=>h3 x (hR0 x hx)
 have hg2:Grow w1 (w1.alloc (.cells (cells b).toArray e)):=(Below.refl _ w1).alloc (Nat.le_refl _) _
 have hrd:Reads (w1.alloc (.cells (cells b).toArray e)) (w1.heap.size+1) size (some ⟨w1.heap.size,0,none⟩) 1 (cells b):=by
  have:=reads_laid w1 (cells b).toArray e (0,0) (n:=1) (size:=size) (by simp[hl]) _ rfl
  simpa using this
 obtain⟨v',w',hrun,hO,hj⟩:=run_append_Own E _ ty v q.length (q.flatMap cells) (h1.grows hg2) _ _ 1 c (cells b) hrd (hone b) hbytes
 have s2:(w1.alloc (.cells (cells b).toArray e)).heap.size=w1.heap.size+1:=alloc_size _ _
 have s3:=hj.size
 rw[s2] at s3
 have hRlt:∀ x,R x→x<w1.heap.size:=fun x hx=>(h3 x hx).1.2
 refine⟨v',w',hrun,⟨Ext R (w1.alloc (.cells (cells b).toArray e)) w',fun x=>D x∨F x,?_,fun a ha=>?_,fun x hx=>?_,fun x hx=>?_,by omega⟩,(Just.of_grow hg2).trans (hj.imp fun x hx=>(h3 x hx).1.1)⟩
 ·rw[List.flatMap_append,List.flatMap_cons,List.flatMap_nil,List.append_nil,List.length_append]
  exact hO
 ·rcases List.mem_append.1 ha with ha|ha
  ·exact hM _ D _ _ (hG _ _ _ R _ (hG _ _ _ _ _ (h2 a ha) (Just.of_grow (V:=fun _=>False) hg2) (fun _ _ h=>h)) hj fun x hx hr=>(h3 x hr).2 hx) fun _ => .inl
  ·rw[List.mem_singleton.1 ha]
   exact hM _ F _ _ (hG _ _ _ R _ (hG _ _ _ _ _ hb (Just.of_grow (V:=fun _=>False) hg2) (fun _ _ h=>h)) hj fun x hx hr=>hRF x hr hx) fun _ => .inr
 ·rcases hx with hx|⟨hx1,hx2⟩
  ·refine⟨⟨(h3 x hx).1.1,by have:=hRlt x hx;omega⟩,fun hd=>?_⟩
   rcases hd with hd|hd
   ·exact (h3 x hx).2 hd
   ·exact hRF x hx hd
  ·rw[s2] at hx1
   refine⟨⟨by omega,hx2⟩,fun hd=>?_⟩
   rcases hd with hd|hd
   ·have:=(h4 x hd).2;omega
   ·have:=(hF x hd).2;omega
 ·rcases hx with hx|hx
  ·exact⟨(h4 x hx).1,by have:=(h4 x hx).2;omega⟩
  ·exact⟨(hF x hx).1,by have:=(hF x hx).2;omega⟩
theorem wpList_accB {P:Program} {t bytes:Nat} {z:Value} (E:Elem P t e size bytes z) (hl:∀ a,(cells a).length=size) (hone:∀ a,∀ u∈cells a,u.oneCell'=true)
 {ops:Array Oper} {rest:List Oper} {o:Oper} {a:Act} {Q:Exit→Act→World→Prop} (hw:Region.wanted o (yielded ops a.tmps)=true) (s x:Operand)
 (ho:o.op=.call { callee := .builtin .append,args:=#[s,x],argTypes:=#[t,t] })
 (h:AccB e size cells (fun _ _ _=>True) B v q w1) (b:α) (hbytes:(q.length+1)*bytes≤140737488355328)
 (hs:a.eval s=v) {c:Nat} (hx:a.eval x=.slice (some ⟨w1.heap.size,0,none⟩) 1 c)
 (k:∀ v' w',AccB e size cells (fun _ _ _=>True) B v' (q++[b]) w'→Just (fun x=>B≤x) w1 w'→wpList P ops Q rest (a.put o.dst v') w'):wpList P ops Q (o :: rest) a (w1.alloc (.cells (cells b).toArray e)):=by
 obtain⟨v',w',hrun,hA,hj⟩:=run_accB E good_true mono_true hl hone h (b:=b) (F:=fun _=>False) trivial (fun _ h=>h.elim) (fun _ _ _=>trivial) (fun _ h=>h.elim) hbytes o.type c
 unfold wpList
 rw[if_pos hw]
 refine .inl ?_
 unfold Oper.wp execOp
 simp only[ho,resolve,invoke,builtin,Sem.run_bind,Sem.run_pure,Result.andThen_ok,List.map_toArray,List.map_cons,List.map_nil,hs,hx,hrun]
 exact k v' w' hA hj
end
end Go.Hop
end
section
namespace Go.Proofs.YtmijcbfgfkeodaaGreatDoor
open Go.RowKit Go.Hop Go.Proofs.YtmijcbfgfkeodaaGreatDoor.V
theorem rTextB (w:World) (r B:Nat) (s:ByteArray) (t:List UInt8) (hs:s.size<18446744073709551616) (h:RdAt r B (enc s.size++s.data.toList++t) w) :
 Calls Tryz.prog 183 #[.pointer (some ⟨r,0,none⟩)] w fun e w'=>e=.returned (.string s)∧RdAt r B t w'∧Only r w w':=by
 have:=rText_any w r B s.data.toList t hs h
 rwa [Array.toArray_toList] at this
theorem dsB_cons (d:Dl) (l:List Dl):dsB (d :: l)=dB d++dsB l:=rfl
theorem only_just {r:Nat} {w w':World} (h:Only r w w'):Just (fun b=>b=r) w w':=Just.of_only h rfl
theorem RdAt.just {r B:Nat} {l:List UInt8} {w w':World} {U:Nat→Prop} (h:RdAt r B l w) (hj:Just U w w') (hr:¬ U r) (hB:∀ b,b<B→¬ U b):RdAt r B l w':=by
 obtain⟨h1,A,n,c,h2,h3,h4⟩:=h
 have:=h2.lt
 exact⟨h1,A,n,c,hj.blk h2 hr,Reads.keep h3 fun p hp=>World.cell?_of_block (hj.block p.block (by omega) (hB _ hp)),h4⟩
theorem eGet_any (w:World) (r B:Nat) (ds:List Dl) (t:List UInt8) (h:RdAt r B (dsB ds++t) w) (hs:∀ d∈ds,Small d) (hn:ds.length≤1048576) :
 Calls Tryz.prog 216 #[.pointer (some ⟨r,0,none⟩),.int .i64 (ds.length:Int)] w fun e w'=>∃ A c,e=.returned (.slice A ds.length c)∧RdAt r B t w'∧DIn w' (New w w') A ds.length ds∧ds.length≤c∧c≤maxLen∧Only r w w':=by
 have hrw:=h.lt
 have hB0:B≤r:=h.1
 obtain⟨n,HN⟩:∃ n,Hid (n=ds.length):=⟨_,rfl⟩
 have hdl:ds.length=n:=HN.out.symm
 rw[←HN.out] at hn ⊢
 go_enter Tryz.func216,Tryz.ntmps216
 go_wp2_with fail
 go_loopw [5,8] (fun v i wr=>∃ k:Nat,k≤n∧i=.int .i64 (k:Int)∧AccB 29 2 dcell (fun _ _ _=>True) w.heap.size v (ds.take k) wr∧RdAt r B (dsB (ds.drop k)++t) wr∧Only r w wr) (fun _ i _=>n-(intOf i).toNat)
 case atStart=>exact⟨0,by omega,rfl,AccB.nil (Nat.le_refl _),h,Only.refl r w⟩
 case round=>
  obtain⟨k,hkn,rfl,hA,hR,ho⟩:=hrel
  obtain⟨A1,c1,hsl⟩:=hA.slice
  rw[List.length_take,Nat.min_eq_left (by omega)] at hsl
  subst hsl
  by_cases hk:k<n
  ·have hkd:k<ds.length:=by omega
   have hsn:ds.take (k+1)=ds.take k++[ds[k]]:=List.take_succ_eq_append_getElem hkd
   have hdn:ds.drop k=ds[k] :: ds.drop (k+1):=List.drop_eq_getElem_cons hkd
   have hsm:=hs _ (List.getElem_mem hkd)
   rw[hdn,dsB_cons] at hR
   have HS:=Lib.hid hsn
   clear hsn hdn
   generalize ds[k]=y at hR hsm HS
   obtain⟨s,x⟩:=y
   dsimp only[Small] at hsm
   have hR':RdAt r B (enc s.size++s.data.toList++(enc x++(dsB (ds.drop (k+1))++t))) wr:=by simpa only[dB,List.append_assoc] using hR
   have hT:=rTextB wr r B s _ (by omega) hR'
   have hdk:decide ((k:Int)<(n:Int))=true:=decide_eq_true (by omega)
   go_wp2_with fail
   refine hT.mono ?_
   rintro e w1 ⟨rfl,hR1,ho1⟩
   have hN:=rNumber_any w1 r B x _ hsm.2 hR1
   have hA1:=hA.just good_true (only_just ho1) (fun b hb => .inl (by omega))
   go_wp2_with fail
   refine hN.mono ?_
   rintro e w2 ⟨rfl,hR2,ho2⟩
   have hA2:=hA1.just good_true (only_just ho2) (fun b hb => .inl (by omega))
   go_wp2_with (at_builtin;refine stay ?_)
   refine stay_out ?_
   refine wpList_accB (b:=(s,x)) deltaE dcell_len (fun a u hu=>dcells_one [a] u (by simpa [dcells] using hu)) (by rfl) (.tmp 12) (.tmp 17) (by rfl) hA2 (by rw[List.length_take];omega) (by rfl) (by rfl) ?_
   intro v2 w3 hA3 hj3
   have ho3:Only r w w2:=Only.trans (Only.trans ho ho1) ho2
   have hs3:=ho3.size
   have hrl:=hR2.lt
   have ho4:Only r w w3:=⟨hj3.os.trans ho3.os,hj3.tape.trans ho3.tape,hj3.output.trans ho3.output,Nat.le_trans hs3 hj3.size,fun b hb hne=>(hj3.block b (by omega) (by omega)).trans (ho3.block b hb hne)⟩
   have hR3:=hR2.just hj3 (by omega) (fun b hb=>by omega)
   go_wp2_with fail
   go_roundw
   case rel=>exact⟨k+1,by omega,by go_num,by rw[HS.out];exact hA3,hR3,ho4⟩
   case measure=>simp[intOf];omega
  ·obtain rfl:k=n:=by omega
   have hdk:decide ((k:Int)<(k:Int))=false:=decide_eq_false (by omega)
   have hD:=hA.done mono_true
   rw[List.take_of_length_le (by omega)] at hD
   rw[List.drop_of_length_le (by omega)] at hR
   obtain⟨A3,c3,e3,h3,h4,h5,h6⟩:=hD
   rw[hdl] at e3 h3 h5
   injection e3 with e3 e4 e5
   subst e3 e5
   go_wp2_with fail
   go_ret
   exact⟨A1,c1,rfl,hR,h3,h5,h6,ho⟩
end Go.Proofs.YtmijcbfgfkeodaaGreatDoor
end
