/- Le3, Frread, Splain, Scan, Dplain, Disk, Disk2, Crash, Dref, Dreads, Wal, Vo1. -/
import Derived.Test.YtmijcbfgfkeodaaGreatDoorHz12
set_option linter.all false
set_option maxRecDepth 100000
section
namespace Go.Proofs.YtmijcbfgfkeodaaGreatDoor
open Go.RowKit Go.Hop
def IsOne (m:Int) (u:Value) (w:World):Prop:=∃ g c,u=.slice (some ⟨g,0,none⟩) 1 c∧w.cell? ⟨g,0,none⟩=some (.int .i64 m)
theorem isOne_lasting (m:Int):Lasting (IsOne m):=fun u w w' ⟨g,c,e,h⟩ hg=>⟨g,c,e,(hg.cell (show g<w.heap.size from World.block_lt_of_cell? w ⟨g,0,none⟩ (by rw[h]))).trans h⟩
theorem vAccepted_one (w:World) (v:Nat) (t a had m:Int) (ham:a≤m) :
 Turns Tryz.prog 177 #[.pointer (some ⟨v,0,none⟩),.int .i64 0,.int .i64 m] (fun e=>e=.returned (.int .i64 m)) (VoteAt v t true a had 1) (VoteAt v t true m had 1) w:=by
 rintro V ⟨A0,hv,hB0⟩ hV
 have hN:=node_one w v t a had 1 true _ hB0
 have hvl:=hB0.lt
 have hB:Blk w v 265 #[.int .i64 t,.int .i64 1,.bool true,.bool false,.bool false,.bool false,.bool false,.bool false,.bool false,.bool false,.int .i64 a,.int .i64 0,.int .i64 0,.int .i64 0,.int .i64 0,.int .i64 0,.int .i64 0,.int .i64 0,.int .i64 had,.slice A0 0 0,.int .i64 1]:=hB0
 have hmx:∀ ts t w,(Builtin.max_ ts t #[.int .i64 a,.int .i64 m]).run Tryz.prog w=.ok (.int .i64 m) w:=fun ts t w=>by rw[run_max_int2];congr 2;split<;>omega
 have k232:∀ (vs:Array Value) (w:World),(callFunc 232 vs).run Tryz.prog w=.ok (.enter 232 vs) w:=fun vs w=>by go_simp
 go_enter Tryz.func177,Tryz.ntmps177
 go_wp2_with fail
 refine hN.mono ?_
 rintro e w1 ⟨rfl,rfl⟩
 go_wp2_with fail
 refine wp_region_flow 13 44 [] rfl rfl (by kernel_rfl) (by kernel_rfl) (by kernel_rfl) ?_ ?_
 ·intro x hx φ he
  cases hx
 intro ops' A' K' T hops hA' hK hT
 refine fl_mvN 11 (.pointer (some ⟨v,0,none⟩)) ?_
 refine fl_mvN 12 (.int .i64 0) ?_
 refine fl_mvN 13 (.pointer (some ⟨v,0,none⟩)) ?_
 refine fl_mvN 14 (.int .i64 0) ?_
 refine fl_op1G 15 (.tmp 13) (.pointer (some ⟨v,0,none⟩)) (.pointer (some ⟨v,0,none⟩)) ?_
 refine fl_op1G 16 (.tmp 15) (.pointer (some ⟨v,0,none⟩)) (.pointer (some ⟨v,10,none⟩)) ?_
 refine fl_op2N 17 (.tmp 16) (.tmp 14) (.pointer (some ⟨v,10,none⟩)) (.int .i64 0) (.pointer (some ⟨v,10,none⟩)) (fun ρ h1 h2 kk w1 (hg:Grow _ w1) hb hf=>by go_simp) ?_
 refine fl_op1N 18 (.tmp 17) (.pointer (some ⟨v,10,none⟩)) (.int .i64 a) (fun ρ h1 kk w1 (hg:Grow _ w1) hb hf=>by have c:=(hB.grow hg).cell 10;go_simp) ?_
 refine fl_mvN 19 (.int .i64 m) ?_
 refine fl_op2N 20 (.tmp 18) (.tmp 19) (.int .i64 a) (.int .i64 m) (.int .i64 m) (fun ρ h1 h2 kk w1 (hg:Grow _ w1) hb hf=>by go_simp) ?_
 refine fl_op1G 21 (.tmp 11) (.pointer (some ⟨v,0,none⟩)) (.pointer (some ⟨v,0,none⟩)) ?_
 refine fl_op1G 22 (.tmp 21) (.pointer (some ⟨v,0,none⟩)) (.pointer (some ⟨v,10,none⟩)) ?_
 refine fl_op2N 23 (.tmp 22) (.tmp 12) (.pointer (some ⟨v,10,none⟩)) (.int .i64 0) (.pointer (some ⟨v,10,none⟩)) (fun ρ h1 h2 kk w1 (hg:Grow _ w1) hb hf=>by go_simp) ?_
 refine fl_end (fun _ _ w1 (hg:Grow _ w1) _ hfacts=>hT _ _ ?_)
 clear hops hA' hK hT
 simp only[putsL,Act.put,List.setIfInBounds_toArray,List.set_cons_zero,List.set_cons_succ,List.drop_succ_cons,List.drop_zero]
 have hB1:=hB.grow hg
 have c10:=hB1.cell 10
 have f10:=hB1.frozen 10
 have hB2:Blk (w1.setCell ⟨v,10,none⟩ (.int .i64 m)) v 265 #[.int .i64 t,.int .i64 1,.bool true,.bool false,.bool false,.bool false,.bool false,.bool false,.bool false,.bool false,.int .i64 m,.int .i64 0,.int .i64 0,.int .i64 0,.int .i64 0,.int .i64 0,.int .i64 0,.int .i64 0,.int .i64 had,.slice A0 0 0,.int .i64 1]:=hB1.put 10 _
 have J1:=(Just.of_grow (V:=V) hg).put hv 10 (.int .i64 m)
 go_wp2_with fail
 obtain⟨w2,HW2⟩:∃ w2,Hid (w2=w1.setCell ⟨v,10,none⟩ (.int .i64 m)):=⟨_,rfl⟩
 rw[←HW2.out] at hB2 J1 ⊢
 clear c10 f10 hg hB1
 refine wp_region_flow 10 44 [(8,.inr (fun _=>IsOne m))] rfl rfl (by kernel_rfl) (by kernel_rfl) (by kernel_rfl) ?_ ?_
 ·intro x hx φ he
  simp only[List.mem_cons,List.not_mem_nil,or_false] at hx
  rcases hx with rfl<;>cases he
  all_goals first|exact lasts_quiet (lasting_bytes _)|exact lasts_quiet (isOne_lasting _)
 intro ops' A' K' T hops hA' hK hT
 refine fl_mvN 24 (.pointer (some ⟨v,0,none⟩)) ?_
 refine fl_op1G 25 (.tmp 24) (.pointer (some ⟨v,0,none⟩)) (.pointer (some ⟨v,0,none⟩)) ?_
 refine fl_op1G 26 (.tmp 25) (.pointer (some ⟨v,0,none⟩)) (.pointer (some ⟨v,10,none⟩)) ?_
 refine fl_mvN 27 (.pointer (some ⟨v,0,none⟩)) ?_
 refine fl_op1G 28 (.tmp 27) (.pointer (some ⟨v,0,none⟩)) (.pointer (some ⟨v,0,none⟩)) ?_
 refine fl_op1G 29 (.tmp 28) (.pointer (some ⟨v,0,none⟩)) (.pointer (some ⟨v,1,none⟩)) ?_
 refine fl_op1N 30 (.tmp 29) (.pointer (some ⟨v,1,none⟩)) (.int .i64 1) (fun ρ h1 kk w1 (hg:Grow _ w1) hb hf=>by have c:=(hB2.grow hg).cell 1;go_simp) ?_
 refine fl_op2N 31 (.tmp 26) (.tmp 30) (.pointer (some ⟨v,10,none⟩)) (.int .i64 1) (.slice (some ⟨v,10,none⟩) 1 8) (fun ρ h1 h2 kk w1 (hg:Grow _ w1) hb hf=>by go_simp) ?_
 refine fl_callAny 32 (by rfl) (by decide) (wanted_none (by rfl)) (fun _=>IsOne m) (by rw[hK.out];rfl) 232 _ _ (by rfl) [.slice (some ⟨v,10,none⟩) 1 8] (by rfl) k232 (fun kk w1 (hg:Grow _ w1) hb hf=>calls_behindAny (φ:=fun _=>IsOne m) (by rfl) (by exact (cloneI_one w1 v 10 8 m ((hB2.grow hg).cell 10)).mono fun _ _ ⟨g,c,he,h1,h2⟩=>⟨_,he,h2,g,c,rfl,h1⟩)) (fun v32=>?_)
 refine fl_mvN 7 (v32) ?_
 refine fl_end (fun _ _ w1 (hg:Grow _ w1) _ hfacts=>hT _ _ ?_)
 clear hops hA' hK hT
 simp only[putsL,Act.put,List.setIfInBounds_toArray,List.set_cons_zero,List.set_cons_succ,List.drop_succ_cons,List.drop_zero]
 obtain⟨g,c,rfl,hc⟩:IsOne m v32 w1:=hfacts.1
 clear hfacts
 have hS:=sortI_one w1 (some ⟨g,0,none⟩) c
 have hB3:=hB2.grow hg
 have c1:=hB3.cell 1
 go_wp2_with fail
 refine hS.mono ?_
 rintro e w4 ⟨rfl,rfl⟩
 go_wp2_with fail
 go_ret
 exact⟨rfl,⟨A0,.inl hv,hB3⟩,J1.trans (Just.of_grow hg)⟩
end Go.Proofs.YtmijcbfgfkeodaaGreatDoor
end
section
namespace Go.Proofs.YtmijcbfgfkeodaaGreatDoor.V
open Go.RowKit Go.Hop
theorem take_pre {l f:List UInt8} {k:Nat} (h:f <+: l.drop k):l.take (k+f.length)=l.take k++f:=by
 obtain⟨t,ht⟩:=h
 rw[List.take_add,←ht,List.take_left' rfl]
theorem frame_five (x:List UInt8):5≤(frame x).length:=by
 have:=enc_pos x.length
 rw[frame_len];omega
def NoFrame (l:List UInt8):Prop:=∀ y:List UInt8,y.length≤65536→¬ frame y <+: l
def ScanIs (l:List UInt8) (xs:List (List UInt8)) (k:Nat):Prop:=xs.flatMap frame++l.drop k=l∧k=(xs.flatMap frame).length∧(∀ x∈xs,x.length≤65536)∧NoFrame (l.drop k)
theorem scan_one:∀ (xs ys:List (List UInt8)) (r s:List UInt8),xs.flatMap frame++r=ys.flatMap frame++s→(∀ x∈xs,x.length≤65536)→(∀ x∈ys,x.length≤65536)→NoFrame r→NoFrame s→xs=ys
 | [],[],_,_,_,_,_,_,_=>rfl
 | [],y :: ys,r,s,h,_,hy,hr,_=>absurd (show frame y <+: r by
  rw[List.flatMap_nil,List.nil_append,List.flatMap_cons,List.append_assoc] at h
  rw[h];exact List.prefix_append _ _) (hr y (hy y List.mem_cons_self))
 | x :: xs,[],r,s,h,hx,_,_,hs=>absurd (show frame x <+: s by
     rw[List.flatMap_nil,List.nil_append,List.flatMap_cons,List.append_assoc] at h
     rw[←h];exact List.prefix_append _ _) (hs x (hx x List.mem_cons_self))
 | x :: xs,y :: ys,r,s,h,hx,hy,hr,hs=>by
   rw[List.flatMap_cons,List.flatMap_cons,List.append_assoc,List.append_assoc] at h
   have e:x=y:=frame_one (r:=frame x++(xs.flatMap frame++r)) (List.prefix_append _ _) (by rw[h];exact List.prefix_append _ _)
   subst e
   rw[scan_one xs ys r s (List.append_cancel_left h) (fun z hz=>hx z (List.mem_cons_of_mem _ hz)) (fun z hz=>hy z (List.mem_cons_of_mem _ hz)) hr hs]
theorem ScanIs.one {l:List UInt8} {xs ys:List (List UInt8)} {k j:Nat} (h:ScanIs l xs k) (h':ScanIs l ys j):xs=ys∧k=j:=by
 have e:=scan_one xs ys _ _ (h.1.trans h'.1.symm) h.2.2.1 h'.2.2.1 h.2.2.2 h'.2.2.2
 subst e
 exact⟨rfl,by rw[h.2.1,h'.2.1]⟩
theorem frames_len (xs:List (List UInt8)):5*xs.length≤(xs.flatMap frame).length:=by
 induction xs with
 | nil=>simp
 | cons x xs ih=>
   have:=frame_five x
   rw[List.flatMap_cons,List.length_append,List.length_cons];omega
theorem frames_more {l x:List UInt8} {xs:List (List UInt8)} {k:Nat} (h:l.take k=xs.flatMap frame) (hx:frame x <+: l.drop k):l.take (k+(frame x).length)=(xs++[x]).flatMap frame:=by
 rw[take_pre hx,h,List.flatMap_append,List.flatMap_cons,List.flatMap_nil,List.append_nil]
theorem frames_done {l:List UInt8} {xs:List (List UInt8)} {k:Nat} (h:l.take k=xs.flatMap frame) (hk:k≤l.length) (hx:∀ x∈xs,x.length≤65536) (hn:NoFrame (l.drop k)):ScanIs l xs k:=
 ⟨by rw[←h,List.take_append_drop],by rw[←h,List.length_take];omega,hx,hn⟩
structure BxIn (w:World) (V:Nat→Prop) (b:Bx):Prop where
 bs:In w V 1 b.A b.m (u8s b.bs)
 le:b.m≤b.c
 max:b.c≤maxLen
theorem BxIn.mono {w:World} {V V':Nat→Prop} {b:Bx} (h:BxIn w V b) (hV:∀ b,V b→V' b):BxIn w V' b:=⟨In.mono h.bs hV,h.le,h.max⟩
theorem BxIn.grow {w w':World} {V:Nat→Prop} {b:Bx} (h:BxIn w V b) (hg:Grow w w'):BxIn w' V b:=⟨In.grow h.bs hg,h.le,h.max⟩
theorem BxIn.just {w w':World} {V U:Nat→Prop} {b:Bx} (h:BxIn w V b) (hj:Just U w w') (hd:∀ b,V b→¬ U b):BxIn w' V b:=⟨In.just h.bs hj hd,h.le,h.max⟩
structure Bxs (w:World) (V D:Nat→Prop) (A:Option Addr) (n:Nat) (q:List Bx):Prop where
 row:In w V 1 A n (q.flatMap Bx.cells)
 all:∀ b∈q,BxIn w D b
theorem Bxs.grow {w w':World} {V D:Nat→Prop} {A:Option Addr} {n:Nat} {q:List Bx} (h:Bxs w V D A n q) (hg:Grow w w'):Bxs w' V D A n q:=⟨h.row.grow hg,fun b hb=>(h.all b hb).grow hg⟩
theorem Bxs.mono {w:World} {V D V' D':Nat→Prop} {A:Option Addr} {n:Nat} {q:List Bx} (h:Bxs w V D A n q) (hV:∀ b,V b→V' b) (hD:∀ b,D b→D' b):Bxs w V' D' A n q:=⟨h.row.mono hV,fun b hb=>(h.all b hb).mono hD⟩
def IsXs (xs:List (List UInt8)) (w0:World) (u:Value) (w:World):Prop:=∃ (A:Option Addr) (c:Nat) (q:List Bx),u=.slice A q.length c∧Bxs w (New w0 w) (New w0 w) A q.length q∧q.map Bx.bs=xs∧q.length≤c∧c≤maxLen
theorem bxs_info:(Tryz.prog.info? 65).map (fun i=>(i.zero,i.size,i.bytes))=some (some (.slice none 0 0),1,24):=by kernel_rfl
theorem bxE:Elem Tryz.prog 135 65 1 24 (.slice none 0 0):=⟨Tryz.underlying135,info_parts bxs_info,rfl,by decide,by decide⟩
theorem Scan_any (w:World) (A:Option Addr) (n c:Nat) (l:List UInt8) (hb:Bytes w w.heap.size A n l) (hnc:n≤c) (hcm:c≤maxLen) (hn:n≤1099511627776) :
 Calls Tryz.prog 145 #[.slice A n c] w fun e w'=>∃ (xs:List (List UInt8)) (k:Nat) (u:Value),ScanIs l xs k∧e=.returned (.tuple #[u,.int .i64 (k:Int)])∧IsXs xs w u w'∧Grow w w':=by
 have hlen:=hb.len
 go_enter Tryz.func145,Tryz.ntmps145
 go_wp2_with fail
 go_loopw [4,5] (fun s i wr=>∃ (k:Nat) (q:List Bx) (R D:Nat→Prop),k≤n∧i=.int .i64 (k:Int)∧Own wr R 65 1 s q.length (q.flatMap Bx.cells)∧(∀ b∈q,BxIn wr D b)∧(∀ x∈q.map Bx.bs,x.length≤65536)∧l.take k=(q.map Bx.bs).flatMap frame∧(∀ b,R b→New w wr b∧¬ D b)∧(∀ b,D b→New w wr b)∧Grow w wr) (fun _ i _=>n-(intOf i).toNat)
 case atStart=>exact⟨0,[],fun _=>False,fun _=>False,by omega,rfl,Own.nil,by simp,by simp,by simp,fun _ h=>h.elim,fun _ h=>h.elim,Grow.refl _⟩
 case round=>
  obtain⟨k,q,R,D,hkn,rfl,hO,hin,h6,hfr,hR,hD,hg⟩:=hrel
  obtain⟨A1,c1,rfl,hI1,hnc1,hm1⟩:=hO.in_
  have hq5:5*q.length≤k:=by
   have h1:=frames_len (q.map Bx.bs)
   rw[←hfr,List.length_take,List.length_map] at h1;omega
  have hsr:=hg.size
  have hbr:Bytes wr wr.heap.size A n l:=Reads.more (Reads.below hb hg) hg.size
  have hR':=Reads.cut hbr (k:=k) (cap:=c) hkn hnc
  have hb':Bytes wr wr.heap.size (if c=k then A else A.map (·.add k)) (n-k) (l.drop k):=by
   simp only[Nat.mul_one] at hR'
   unfold Bytes;rw[u8s_drop,Nat.mul_one];exact hR'
  have hdone:∀ (w1:World),Grow wr w1→NoFrame (l.drop k)→∃ (xs:List (List UInt8)) (k':Nat) (u:Value),ScanIs l xs k'∧Ending.returned (.tuple #[.slice A1 q.length c1,.int .i64 (k:Int)])=.returned (.tuple #[u,.int .i64 (k':Int)])∧IsXs xs w u w1∧Grow w w1:=fun w1 hg1 hno=>
   ⟨q.map Bx.bs,k,_,frames_done hfr (by omega) h6 hno,rfl,⟨A1,c1,q,rfl,⟨(hI1.mono fun b hb=>(⟨(hR b hb).1.1,by have:=(hR b hb).1.2;have:=hg1.size;omega⟩:New w w1 b)).grow hg1,fun b hb=>((hin b hb).mono fun x hx=>(⟨(hD x hx).1,by have:=(hD x hx).2;have:=hg1.size;omega⟩:New w w1 x)).grow hg1⟩,rfl,hnc1,hm1⟩,hg.trans hg1⟩
  by_cases hck:c=k
  ·rw[if_pos hck] at hb'
   have hnk:n=k:=by omega
   go_wp2_with fail
   go_at_call 101
   rw[show n-k=0 by omega] at hb'
   refine (Read_any _ _ 0 0 (l.drop k) hb' (by omega) (by omega)).mono ?_
   rintro e w1 ⟨x,k',ok,v,hRd,rfl,hO1,hg1⟩
   rcases hRd with ⟨_,hx6,hpre,hk'⟩|⟨rfl,hno,rfl,rfl⟩
   ·exfalso
    have h1:=hpre.length_le
    have h2:=frame_five x
    rw[List.length_drop] at h1;omega
   ·go_wp2_with fail
    go_ret2
    exact hdone w1 hg1 hno
  ·rw[if_neg hck] at hb'
   go_wp2_with fail
   go_at_call 101
   refine (Read_any _ _ (n-k) (c-k) (l.drop k) hb' (by omega) (by omega)).mono ?_
   rintro e w1 ⟨x,k',ok,v,hRd,rfl,hO1,hg1⟩
   rcases hRd with ⟨rfl,hx6,hpre,hk'⟩|⟨rfl,hno,rfl,rfl⟩
   ·have hpl:=hpre.length_le
    rw[List.length_drop] at hpl
    have h5:=frame_five x
    have HF:=Lib.hid (frames_more hfr hpre)
    obtain⟨A2,c2,rfl,hI2,hnc2,hm2⟩:=hO1.in_
    have hwk:IntKind.i64.wrap ((k:Int)+(k':Int))=(k:Int)+(k':Int):=by rw[IntKind.wrap_i64];omega
    have hs1:=hg1.size
    have hgB:=(Below.refl w1.heap.size w1).alloc (Nat.le_refl _) (.cells #[.slice A2 x.length c2] 65)
    have hRlt:∀ b,R b→b<wr.heap.size:=fun b hb=>(hR b hb).1.2
    go_wp2_with (at_builtin;refine stay ?_)
    refine stay_out ?_
    refine wpList_own (V:=R) bxE _ rfl (.tmp 21) (.tmp 23) rfl (.slice A1 q.length c1) q.length (q.flatMap Bx.cells) rfl (((hO.grow hRlt hg1).grow (fun b hb=>by have:=hRlt b hb;omega) hgB)) (w1.heap.size+1) (some ⟨w1.heap.size,0,none⟩) 1 1 (Bx.cells ⟨A2,x.length,c2,x⟩) rfl (reads_laid w1 _ 65 _ rfl _ rfl) (bx_one _) (by omega) ?_
    intro v2 w2 hO2 hj2
    have hs2:=hj2.size
    simp only[alloc_size] at hs2
    have hgj:Below w.heap.size w1 w2:=Below.trans (hgB.mono (by omega)) (hj2.below (B:=w.heap.size) (fun b hb=>(hR b hb).1.1) (by simp;omega))
    have hg2:Grow w w2:=Below.trans (hg.trans hg1) hgj
    have hD2:∀ b:Bx,BxIn w1 D b→BxIn w2 D b:=fun b hb=>(hb.grow hgB).just hj2 fun x hx hr=>(hR x hr).2 hx
    have hN2:∀ b:Bx,BxIn w1 (New wr w1) b→BxIn w2 (New wr w1) b:=fun b hb=>(hb.grow hgB).just hj2 fun x hx hr=>by have:=hx.1;have:=hRlt x hr;omega
    go_wp2_with fail
    go_roundw
    case rel=>
     refine⟨k+k',q++[⟨A2,x.length,c2,x⟩],Ext R (w1.alloc (.cells #[.slice A2 x.length c2] 65)) w2,fun b=>D b∨New wr w1 b,by omega,by go_num,?_,fun b hb=>?_,fun y hy=>?_,?_,fun b hb=>?_,fun b hb=>?_,hg2⟩
     ·rw[List.flatMap_append,List.flatMap_cons,List.flatMap_nil,List.append_nil,List.length_append];exact hO2
     ·rcases List.mem_append.1 hb with hb|hb
      ·exact (hD2 b ((hin b hb).grow hg1)).mono fun _ => .inl
      ·rw[List.mem_singleton.1 hb];exact (hN2 ⟨A2,x.length,c2,x⟩ ⟨hI2,hnc2,hm2⟩).mono fun _ => .inr
     ·rw[List.map_append] at hy
      rcases List.mem_append.1 hy with hy|hy
      ·exact h6 y hy
      ·rw[List.mem_singleton.1 hy];exact hx6
     ·rw[List.map_append,hk',HF.out];rfl
     ·rcases hb with hb|⟨h1,h2⟩
      ·refine⟨⟨(hR b hb).1.1,by have:=hRlt b hb;omega⟩,fun hd=>?_⟩
       rcases hd with hd|hd
       ·exact (hR b hb).2 hd
       ·have:=hd.1;have:=hRlt b hb;omega
      ·simp only[alloc_size] at h1
       refine⟨⟨by omega,h2⟩,fun hd=>?_⟩
       rcases hd with hd|hd
       ·have:=(hD b hd).2;omega
       ·have:=hd.2;omega
     ·rcases hb with hb|hb
      ·have:=hD b hb;exact⟨this.1,by have:=this.2;omega⟩
      ·have h1:=hb.1;have h2:=hb.2;exact⟨by omega,by omega⟩
    case measure=>simp[intOf];omega
   ·go_wp2_with fail
    go_ret2
    exact hdone w1 hg1 hno
def fits (l b:List UInt8):Bool:=decide (l.length+b.length≤1048576)
def appE (l b:List UInt8):Int:=if fits l b then 0 else 24
def appL (l b:List UInt8):List UInt8:=if fits l b then l++b else l
def cutB (l:List UInt8) (n:Int):Bool:=decide (0≤n) && decide (n≤(l.length:Int))
def cutL (l:List UInt8) (n:Int):List UInt8:=if cutB l n then l.take n.toNat else l
def cutK (l:List UInt8) (k:Nat) (n:Int):Nat:=if cutB l n then n.toNat else k
def DiskAt (t d:Nat) (l:List UInt8) (k:Nat):Thing:=fun w V=>
 V d∧k≤l.length∧l.length≤1048576∧∃ v,Blk w d t #[v,.int .i64 (k:Int)]∧Own w (fun b=>V b∧b≠d) 5 1 v l.length (u8s l)
theorem DiskAt.framed (t d:Nat) (l:List UInt8) (k:Nat):Framed (DiskAt t d l k):=fun w w' V h hk=>by
 obtain⟨h1,h2,h3,v,h4,h5⟩:=h
 exact⟨h1,h2,h3,v,(hk d h1).trans h4,h5.keep fun b hb=>hk b hb.1⟩
theorem fits_of {l b:List UInt8} (h:l.length+b.length≤1048576):fits l b=true:=by unfold fits;exact decide_eq_true h
theorem DiskAt.wide {t d:Nat} {l:List UInt8} {k:Nat} {w:World} {V V':Nat→Prop} (h:DiskAt t d l k w V) (hV:∀ b,V b→V' b):DiskAt t d l k w V':=by
 obtain⟨h1,h2,h3,v,h4,h5⟩:=h
 exact⟨hV d h1,h2,h3,v,h4,h5.mono fun b hb=>⟨hV b hb.1,hb.2⟩⟩
theorem cut_of {l:List UInt8} {n:Int} (h:cutB l n=true):∃ m:Nat,n=(m:Int)∧m≤l.length:=by
 unfold cutB at h
 rw[Bool.and_eq_true,decide_eq_true_eq,decide_eq_true_eq] at h
 exact⟨n.toNat,by omega,by omega⟩
theorem Sync_any (w:World) (d:Nat) (l:List UInt8) (k:Nat) :
 Turns Tryz.prog 218 #[.pointer (some ⟨d,0,none⟩)] (fun e=>e=.returned (.tuple #[])) (DiskAt 133 d l k) (DiskAt 133 d l l.length) w:=by
 intro V ⟨hd,hk,hl,v,hB,hO⟩ hV
 obtain⟨A,c,rfl,hR,hn,hm⟩:=hO.reads
 have c0:=hB.cell 0
 have f0:=hB.frozen 1
 have c1:=hB.cell 1
 go_enter Tryz.func218,Tryz.ntmps218
 go_wp2_with fail
 go_end0
 exact⟨rfl,⟨.inl hd,Nat.le_refl _,hl,_,hB.put 1 _,(hO.put (fun h=>h.2 rfl) 1 _).mono fun b hb=>⟨.inl hb.1,hb.2⟩⟩,(Just.of_grow (Grow.refl w)).put hd 1 _⟩
theorem Cut_no (w:World) (d:Nat) (l:List UInt8) (k:Nat) (n:Int) (hn:-9223372036854775808≤n∧n≤9223372036854775807) (hc:cutB l n=false) :
 Turns Tryz.prog 80 #[.pointer (some ⟨d,0,none⟩),.int .i64 n] (fun e=>e=.returned (.bool false)) (DiskAt 133 d l k) (DiskAt 133 d l k) w:=by
 intro V hD hV
 have hD':=hD
 obtain⟨hd,hk,hl,v,hB,hO⟩:=hD
 obtain⟨A,c,rfl,hR,hnc,hm⟩:=hO.reads
 have c0:=hB.cell 0
 unfold cutB at hc
 rw[Bool.and_eq_false_iff,decide_eq_false_iff_not,decide_eq_false_iff_not] at hc
 by_cases h0:n<0
 ·go_enter Tryz.func80,Tryz.ntmps80
  go_wp2_with fail
  go_ret
  exact⟨rfl,DiskAt.wide hD' (fun _ => .inl),Just.of_grow (Grow.refl w)⟩
 ·have h1:(l.length:Int)<n:=by omega
  go_enter Tryz.func80,Tryz.ntmps80
  go_wp2_with fail
  go_ret
  exact⟨rfl,DiskAt.wide hD' (fun _ => .inl),Just.of_grow (Grow.refl w)⟩
theorem Cut_yes (w:World) (d:Nat) (l:List UInt8) (k m:Nat) (hm:m≤l.length) :
 Turns Tryz.prog 80 #[.pointer (some ⟨d,0,none⟩),.int .i64 (m:Int)] (fun e=>e=.returned (.bool true)) (DiskAt 133 d l k) (DiskAt 133 d (l.take m) m) w:=by
 intro V ⟨hd,hk,hl,v,hB,hO⟩ hV
 obtain⟨A,c,rfl,hR,hnc,hc⟩:=hO.reads
 have hO2:=hO.cut hm
 have c0:=hB.cell 0
 have f0:=hB.frozen 0
 have f1:=hB.frozen 1
 have c1:=hB.cell 1
 have hlm:(l.take m).length=m:=by rw[List.length_take];omega
 go_enter Tryz.func80,Tryz.ntmps80
 go_wp2_with (go_at_call 163;refine (clip_any _ A m c (by omega)).mono ?_;rintro e w1 ⟨rfl,rfl⟩)
 go_ret
 have hB2:=(hB.put 0 (.slice A m m)).put 1 (.int .i64 (m:Int))
 refine⟨rfl,⟨.inl hd,by omega,by omega,_,hB2,?_⟩,((Just.of_grow (Grow.refl w)).put hd 0 _).put hd 1 _⟩
 rw[hlm,u8s_take]
 exact ((hO2.put (fun h=>h.2 rfl) 0 _).put (fun h=>h.2 rfl) 1 _).mono fun b hb=>⟨.inl hb.1,hb.2⟩
theorem Append_no (w:World) (d:Nat) (l:List UInt8) (k:Nat) (A:Option Addr) (n c:Nat) (b:List UInt8) (hb:Bytes w w.heap.size A n b) (hf:fits l b=false) :
 Turns Tryz.prog 153 #[.pointer (some ⟨d,0,none⟩),.slice A n c] (fun e=>e=.returned (.int .i64 24)) (DiskAt 133 d l k) (DiskAt 133 d l k) w:=by
 intro V hD hV
 have hD':=hD
 obtain⟨hd,hk,hl,v,hB,hO⟩:=hD
 obtain⟨A1,c1,rfl,hR,hnc,hm⟩:=hO.reads
 have c0:=hB.cell 0
 have hbl:=hb.len
 have hf':¬ l.length+n≤1048576:=by rw[←hbl];exact of_decide_eq_false hf
 go_enter Tryz.func153,Tryz.ntmps153
 go_wp2_with fail
 go_ret
 exact⟨rfl,DiskAt.wide hD' (fun _ => .inl),Just.of_grow (Grow.refl w)⟩
theorem Append_yes (w:World) (d:Nat) (l:List UInt8) (k:Nat) (A:Option Addr) (n c:Nat) (b:List UInt8) (hb:Bytes w w.heap.size A n b) (hf:fits l b=true) :
 Turns Tryz.prog 153 #[.pointer (some ⟨d,0,none⟩),.slice A n c] (fun e=>e=.returned (.int .i64 0)) (DiskAt 133 d l k) (DiskAt 133 d (l++b) k) w:=by
 intro V ⟨hd,hk,hl,v,hB,hO⟩ hV
 obtain⟨A1,c1,rfl,hR,hnc,hm⟩:=hO.reads
 have c0:=hB.cell 0
 have hbl:=hb.len
 have hf':l.length+n≤1048576:=by rw[←hbl];exact of_decide_eq_true hf
 go_enter Tryz.func153,Tryz.ntmps153
 go_wp2_with (at_builtin;refine stay ?_)
 refine stay_out ?_
 refine wpList_own u8E _ rfl (.tmp 18) (.tmp 19) rfl (.slice A1 l.length c1) l.length (u8s l) rfl hO w.heap.size A n c (u8s b) rfl hb u8s_one (by omega) ?_
 intro v1 w1 hO1 hj1
 have hB1:=hj1.blk hB (fun h=>h.2 rfl)
 obtain⟨A2,c2,rfl,hR2,_,_⟩:=hO1.reads
 have f1:=hB1.frozen 0
 have c1:=hB1.cell 0
 go_wp2_with fail
 go_ret
 have hdl:=hB.lt
 rw[←u8s_append] at hO1
 have hll:(l++b).length=l.length+n:=by rw[List.length_append,hbl]
 refine⟨rfl,⟨.inl hd,by omega,by omega,_,hB1.put 0 _,?_⟩,(hj1.imp fun k hk=>hk.1).put hd 0 _⟩
 rw[hll]
 have hne:¬ Ext (fun b=>V b∧b≠d) w w1 d:=fun h=>by
  rcases h with h|h
  ·exact h.2 rfl
  ·have:=h.1;omega
 exact (hO1.put hne 0 _).mono fun b hb=>⟨by rcases hb with h|h;exact .inl h.1;exact .inr ⟨h.1,by simpa [World.setCell] using h.2⟩,fun e=>by subst e;exact hne hb⟩
theorem Cut_any (w:World) (d:Nat) (l:List UInt8) (k:Nat) (n:Int) (hn:-9223372036854775808≤n∧n≤9223372036854775807) :
 Turns Tryz.prog 80 #[.pointer (some ⟨d,0,none⟩),.int .i64 n] (fun e=>e=.returned (.bool (cutB l n))) (DiskAt 133 d l k) (DiskAt 133 d (cutL l n) (cutK l k n)) w:=by
 unfold cutL cutK
 cases hc:cutB l n with
 | false=>exact Cut_no w d l k n hn hc
 | true=>
   obtain⟨m,rfl,hm⟩:=cut_of hc
   exact Cut_yes w d l k m hm
theorem Append_any (w:World) (d:Nat) (l:List UInt8) (k:Nat) (A:Option Addr) (n c:Nat) (b:List UInt8) (hb:Bytes w w.heap.size A n b) :
 Turns Tryz.prog 153 #[.pointer (some ⟨d,0,none⟩),.slice A n c] (fun e=>e=.returned (.int .i64 (appE l b))) (DiskAt 133 d l k) (DiskAt 133 d (appL l b) k) w:=by
 unfold appE appL
 cases hc:fits l b with
 | false=>exact Append_no w d l k A n c b hb hc
 | true=>exact Append_yes w d l k A n c b hb hc
theorem All_any (w:World) (d:Nat) (l:List UInt8) (k:Nat) (V:Nat→Prop) (hD:DiskAt 133 d l k w V) :
 Calls Tryz.prog 146 #[.pointer (some ⟨d,0,none⟩)] w fun e w'=>∃ v,e=.returned v∧Own w' (New w w') 5 1 v l.length (u8s l)∧Grow w w':=by
 obtain⟨hd,hk,hl,v,hB,hO⟩:=hD
 obtain⟨A1,c1,rfl,hR,hnc,hm⟩:=hO.reads
 have c0:=hB.cell 0
 go_enter Tryz.func146,Tryz.ntmps146
 go_wp2_with (go_at_call 180;refine (clone_any _ A1 l.length c1 l hR (by omega)).mono ?_;rintro e w1 ⟨v1,rfl,hO1,hg1⟩)
 go_ret
 exact⟨v1,rfl,hO1,hg1⟩
theorem New_any (w:World) :
 Calls Tryz.prog 22 #[] w fun e w'=>e=.returned (.pointer (some ⟨w.heap.size,0,none⟩))∧DiskAt 133 w.heap.size [] 0 w' (New w w')∧Grow w w':=by
 go_enter Tryz.func22,Tryz.ntmps22
 go_wp2_with fail
 go_ret
 exact⟨rfl,⟨⟨Nat.le_refl _,by simp⟩,Nat.le_refl _,by simp,_,Blk.made w _ _,Own.nil⟩,(Below.refl w.heap.size w).alloc (Nat.le_refl _) _⟩
theorem Bxs.just {w w':World} {V D U:Nat→Prop} {A:Option Addr} {n:Nat} {q:List Bx} (h:Bxs w V D A n q) (hj:Just U w w') (hV:∀ b,V b→¬ U b) (hD:∀ b,D b→¬ U b):Bxs w' V D A n q:=⟨h.row.just hj hV,fun b hb=>(h.all b hb).just hj hD⟩
def LogAt (x d:Nat) (n:Int) (l:List UInt8) (k:Nat):Thing:=fun w V=>
 V x∧Blk w x 240 #[.pointer (some ⟨d,0,none⟩),.int .i64 n]∧DiskAt 133 d l k w (fun b=>V b∧b≠x)
theorem LogAt.framed (x d:Nat) (n:Int) (l:List UInt8) (k:Nat):Framed (LogAt x d n l k):=fun w w' V h hk=>by
 obtain⟨h1,h2,h3⟩:=h
 exact⟨h1,(hk x h1).trans h2,DiskAt.framed _ d l k w w' _ h3 fun b hb=>hk b hb.1⟩
theorem LogAt.wide {x d:Nat} {n:Int} {l:List UInt8} {k:Nat} {w:World} {V V':Nat→Prop} (h:LogAt x d n l k w V) (hV:∀ b,V b→V' b):LogAt x d n l k w V':=
 ⟨hV x h.1,h.2.1,h.2.2.wide fun b hb=>⟨hV b hb.1,hb.2⟩⟩
theorem LogAt.turn {f:FuncId} {args:Array Value} {C:Ending→Prop} {x d:Nat} {n:Int} {l l':List UInt8} {k k':Nat} {w:World} (h:Turns Tryz.prog f args C (DiskAt 133 d l k) (DiskAt 133 d l' k') w):Turns Tryz.prog f args C (LogAt x d n l k) (LogAt x d n l' k') w:=by
 intro V ⟨h1,h2,h3⟩ hV
 refine (h _ h3 fun b hb=>hV b hb.1).mono fun e w' ⟨he,hd,hj⟩=>⟨he,⟨.inl h1,hj.blk h2 fun h=>h.2 rfl,hd.wide fun b hb=>?_⟩,hj.imp fun b hb=>hb.1⟩
 have:=hV x h1
 rcases hb with hb|hb
 ·exact⟨.inl hb.1,hb.2⟩
 ·exact⟨.inr hb,by have:=hb.1;omega⟩
theorem lSync_any (w:World) (x d:Nat) (n:Int) (l:List UInt8) (k:Nat) :
 Turns Tryz.prog 149 #[.pointer (some ⟨x,0,none⟩)] (fun e=>e=.returned (.tuple #[])) (LogAt x d n l k) (LogAt x d n l l.length) w:=by
 intro V hL hV
 have c0:=hL.2.1.cell 0
 have ht:=LogAt.turn (x:=x) (n:=n) (Sync_any w d l k) V hL hV
 go_enter Tryz.func149,Tryz.ntmps149
 go_wp2_with fail
 refine ht.mono ?_
 rintro e w1 ⟨rfl,hL1,hj⟩
 go_wp2_with fail
 go_end0
 exact⟨rfl,hL1,hj⟩
theorem Open_any (w:World) (d:Nat) (l:List UInt8) (k:Nat) (V:Nat→Prop) (hD:DiskAt 133 d l k w V) (hV:∀ b,V b→b<w.heap.size) :
 Calls Tryz.prog 65 #[.pointer (some ⟨d,0,none⟩)] w fun e w'=>∃ (xs:List (List UInt8)) (j x:Nat) (u:Value),ScanIs l xs j∧e=.returned (.tuple #[.pointer (some ⟨x,0,none⟩),u])∧IsXs xs w u w'∧
  LogAt x d (xs.length:Int) (l.take j) j w' (Ext V w w')∧Just V w w':=by
 have hl:=hD.2.2.1
 have hd:=hD.1
 have hAll:=All_any w d l k V hD
 go_enter Tryz.func65,Tryz.ntmps65
 go_wp2_with fail
 refine hAll.mono ?_
 rintro e w1 ⟨v1,rfl,hO1,hg1⟩
 obtain⟨A1,c1,rfl,hR1,hn1,hm1⟩:=hO1.reads
 go_wp2_with fail
 refine (Scan_any w1 A1 l.length c1 l hR1 hn1 hm1 (by omega)).mono ?_
 rintro e w2 ⟨xs,j,u,hs,rfl,hX,hg2⟩
 have hg12:=hg1.trans hg2
 have hD2:=DiskAt.framed _ d l k w w2 V hD fun b hb=>hg12.block b (hV b hb)
 have hjl:j≤l.length:=by rw[hs.2.1,←hs.1,List.length_append];omega
 have hC:=Cut_yes w2 d l k j hjl V hD2 (fun b hb=>Nat.lt_of_lt_of_le (hV b hb) hg12.size)
 obtain⟨A2,c2,q,rfl,hB2,hq,hqc,hcm⟩:=hX
 clear hO1 hR1
 go_wp2_with fail
 refine hC.mono ?_
 rintro e w3 ⟨rfl,hD3,hj3⟩
 go_wp2_with fail
 go_ret2
 have hga:Grow w3 (w3.alloc (.cells #[.pointer (some ⟨d,0,none⟩),.int .i64 (q.length:Int)] 240)):=(Below.refl _ w3).alloc (Nat.le_refl _) _
 have hs1:=hg1.size
 have hs2:=hg2.size
 have hs3:=hj3.size
 have hsa:(w3.alloc (.cells #[.pointer (some ⟨d,0,none⟩),.int .i64 (q.length:Int)] 240)).heap.size=w3.heap.size+1:=by simp
 refine⟨xs,j,w3.heap.size,_,hs,rfl,⟨A2,c2,q,rfl,?_,hq,hqc,hcm⟩,⟨.inr ⟨by omega,by omega⟩,?_,?_⟩,(Just.of_grow hg12).trans (hj3.trans (Just.of_grow hga))⟩
 ·have hn:∀ b,New w1 w2 b→¬ V b:=fun b hb hv=>by have:=hV b hv;have:=hb.1;omega
  exact ((hB2.just hj3 hn hn).grow hga).mono (fun b hb=>⟨by have:=hb.1;omega,by have:=hb.2;omega⟩) (fun b hb=>⟨by have:=hb.1;omega,by have:=hb.2;omega⟩)
 ·have h:=Blk.made w3 240 #[.pointer (some ⟨d,0,none⟩),.int .i64 (q.length:Int)]
  rw[←hq,List.length_map]
  exact h
 ·refine (DiskAt.framed _ d _ _ w3 _ _ hD3 fun b hb=>hga.block b ?_).wide fun b hb=>?_
  ·rcases hb with hb|hb
   ·have:=hV b hb;omega
   ·exact hb.2
  ·rcases hb with hb|hb
   ·exact⟨.inl hb,by have:=hV b hb;omega⟩
   ·exact⟨.inr ⟨by have:=hb.1;omega,by have:=hb.2;omega⟩,by have:=hb.2;omega⟩
def recE (l b:List UInt8):Int:=if b.length≤65536 then appE l (frame b) else 3
def recL (l b:List UInt8):List UInt8:=if b.length≤65536 then appL l (frame b) else l
theorem appE_zero {l b:List UInt8}:appE l b=0↔fits l b=true:=by
 unfold appE
 split
 ·simp_all
 ·simp_all
theorem lAppend_any (w:World) (x d:Nat) (n:Int) (l:List UInt8) (k:Nat) (A:Option Addr) (m c:Nat) (b:List UInt8) (hb:Bytes w w.heap.size A m b) (hn:0≤n∧n≤1099511627776) :
 Turns Tryz.prog 71 #[.pointer (some ⟨x,0,none⟩),.slice A m c] (fun e=>e=.returned (.int .i64 (recE l b))) (LogAt x d n l k) (LogAt x d (if recE l b=0 then n+1 else n) (recL l b) k) w:=by
 intro V hL hV
 have hbl:=hb.len
 by_cases hm:m≤65536
 ·have hm':b.length≤65536:=by omega
  unfold recE recL
  rw[if_pos hm',if_pos hm']
  cases hf:fits l (frame b) with
  | true=>
    have he0:appE l (frame b)=0:=appE_zero.2 hf
    rw[he0,if_pos rfl]
    have hB:=hL.2.1
    go_enter Tryz.func71,Tryz.ntmps71
    go_wp2_with fail
    refine (Bytes_any w A m c b hb hm).mono ?_
    rintro e w1 ⟨v1,rfl,hO1,hg1⟩
    obtain⟨A1,c1,rfl,hR1,hn1,hm1⟩:=hO1.reads
    have c0:=(hB.grow hg1).cell 0
    have hL1:=LogAt.framed x d n l k w w1 V hL fun b hb=>hg1.block b (hV b hb)
    have ht:=LogAt.turn (x:=x) (n:=n) (Append_any w1 d l k A1 (frame b).length c1 (frame b) hR1) V hL1 (fun b hb=>Nat.lt_of_lt_of_le (hV b hb) hg1.size)
    rw[he0] at ht
    clear he0
    go_wp2_with fail
    refine ht.mono ?_
    rintro e w2 ⟨rfl,hL2,hj2⟩
    have c1:=hL2.2.1.cell 1
    have f1:=hL2.2.1.frozen 1
    have hw1:IntKind.i64.wrap (n+1)=n+1:=by rw[IntKind.wrap_i64];omega
    go_wp2_with fail
    go_ret
    refine⟨rfl,⟨.inl hL.1,hL2.2.1.put 1 _,?_⟩,((Just.of_grow hg1).trans hj2).put hL.1 1 _⟩
    refine (DiskAt.framed _ d _ _ w2 _ _ hL2.2.2 fun b hb=>(just_at w2 x 1 _).block b ?_ hb.2).wide fun b hb=>⟨?_,hb.2⟩
    ·have:=hj2.size
     rcases hb.1 with h|h
     ·have:=hV b h;have:=hg1.size;omega
     ·exact h.2
    ·rcases hb.1 with h|h
     ·exact .inl h
     ·exact .inr ⟨Nat.le_trans hg1.size h.1,by rw[setCell_size];exact h.2⟩
  | false=>
    have he0:appE l (frame b)=24:=by unfold appE;rw[hf];rfl
    rw[he0,if_neg (by decide)]
    have hB:=hL.2.1
    go_enter Tryz.func71,Tryz.ntmps71
    go_wp2_with fail
    refine (Bytes_any w A m c b hb hm).mono ?_
    rintro e w1 ⟨v1,rfl,hO1,hg1⟩
    obtain⟨A1,c1,rfl,hR1,hn1,hm1⟩:=hO1.reads
    have c0:=(hB.grow hg1).cell 0
    have hL1:=LogAt.framed x d n l k w w1 V hL fun b hb=>hg1.block b (hV b hb)
    have ht:=LogAt.turn (x:=x) (n:=n) (Append_any w1 d l k A1 (frame b).length c1 (frame b) hR1) V hL1 (fun b hb=>Nat.lt_of_lt_of_le (hV b hb) hg1.size)
    rw[he0] at ht
    clear he0
    go_wp2_with fail
    refine ht.mono ?_
    rintro e w2 ⟨rfl,hL2,hj2⟩
    go_wp2_with fail
    go_ret
    refine⟨rfl,hL2.wide fun b hb=>?_,(Just.of_grow hg1).trans hj2⟩
    rcases hb with h|h
    ·exact .inl h
    ·exact .inr ⟨Nat.le_trans hg1.size h.1,h.2⟩
 ·have hm':¬ b.length≤65536:=by omega
  unfold recE recL
  rw[if_neg hm',if_neg hm',if_neg (by omega)]
  go_enter Tryz.func71,Tryz.ntmps71
  go_wp2_with fail
  refine (Bytes_long w A m c (by omega)).mono ?_
  rintro e w1 ⟨rfl,rfl⟩
  go_wp2_with fail
  go_ret
  exact⟨rfl,hL.wide fun b hb => .inl hb,Just.of_grow (Grow.refl w)⟩
end Go.Proofs.YtmijcbfgfkeodaaGreatDoor.V
end
section
namespace Go.Proofs.YtmijcbfgfkeodaaGreatDoor
open Go.RowKit Go.Hop Go.Proofs.YtmijcbfgfkeodaaGreatDoor.V
def eB (e:En):List UInt8:=enc (enB e).length++enB e
def esB (l:List En):List UInt8:=l.flatMap eB
theorem eB_len {e:En} (h:e.Ok):(eB e).length≤9010:=by
 have:=enB_len h
 have:=enc_ten (n:=(enB e).length) (by omega)
 unfold eB
 rw[List.length_append]
 omega
theorem esB_len:∀ (l:List En),(∀ e∈l,e.Ok)→(esB l).length≤l.length*9010
 | [],_=>by simp[esB]
 | e :: l,h=>by
   have h1:=esB_len l fun x hx=>h x (by simp[hx])
   have h2:=eB_len (h e (by simp))
   rw[show esB (e :: l)=eB e++esB l from rfl,List.length_append,List.length_cons]
   omega
theorem esB_more (l:List En) (e:En):esB (l++[e])=esB l++eB e:=by simp[esB]
theorem mPut_any (w:World) (u:Value) (l:List UInt8) (D:Nat→Prop) (A:Option Addr) (c:Nat) (q:List El) (hu:IsBytes l u w) (hl:l.length≤1048576) (hq:Ens w D A q) (hok:∀ x∈q,x.e.Ok) (hn:q.length≤1024) :
 Calls Tryz.prog 228 #[u,.slice A q.length c] w fun e w'=>∃ v,e=.returned v∧Grow w w'∧IsBytes (l++enc q.length++esB (q.map El.e)) v w':=by
 have wq:IntKind.u64.wrap (q.length:Int)=(q.length:Int):=by rw[wrap_u64];omega
 have hP:=vPut_is w u l q.length hu (by omega) (by omega)
 have hel:=enc_ten (n:=q.length) (by omega)
 obtain⟨L0,HL0⟩:∃ L0:List UInt8,Hid (L0=l++enc q.length):=⟨_,Lib.hid rfl⟩
 rw[←HL0.out] at hP ⊢
 have hL0:L0.length≤1048600:=by rw[HL0.out,List.length_append];omega
 go_enter Tryz.func228,Tryz.ntmps228
 go_wp2_with fail
 refine hP.mono ?_
 rintro e w1 ⟨v1,rfl,hg1,hb1⟩
 have hq1:=hq.grow hg1
 go_wp2_with fail
 go_loopw [0,16] (fun v i wr=>∃ k:Nat,k≤q.length∧i=.int .i64 k∧IsBytes (L0++esB ((q.take k).map El.e)) v wr∧Grow w1 wr) (fun _ i _=>q.length-(intOf i).toNat)
 case atStart=>exact⟨0,by omega,rfl,by simpa [esB] using hb1,Grow.refl _⟩
 case round=>
  obtain⟨k,hkn,rfl,hI,hgr⟩:=hrel
  by_cases hk:k<q.length
  ·have hqr:=hq1.grow hgr
   obtain⟨ad,hkq,rfl,hV,hBk,e0,e1⟩:=hqr.1.rec_ (by omega) el_len hk
   have hbin:=hqr.2 q[k] (List.getElem_mem hkq)
   have hsn:q.take (k+1)=q.take k++[q[k]]:=List.take_succ_eq_append_getElem hkq
   have hqm:=List.getElem_mem hkq
   have HS:=Lib.hid hsn
   clear hsn
   have hokb:=hok _ hqm
   have hll:=esB_len ((q.take k).map El.e) fun e he=>by obtain⟨x,hx,rfl⟩:=List.mem_map.1 he;exact hok x (List.mem_of_mem_take hx)
   rw[List.length_map,List.length_take,Nat.min_eq_left (by omega)] at hll
   have HLL:=Lib.hid hll
   clear hll hqm
   generalize q[k]=b at hbin e0 e1 HS hokb
   have hEB:=fun w1 (hg1:Grow wr w1)=>Bytes_ok w1 b.e D b.A b.c hokb (In.grow hbin.1 hg1)
   have hlen:=enB_len hokb
   obtain⟨⟨bk,ag,sh,sq,ep,ds,se,fr,tg⟩,Ab,cb⟩:=b
   dsimp only[El.cells,En.agg] at e0 e1 hEB
   have e2:=e1 1 _ rfl
   have e3:=e1 2 _ rfl
   have e4:=e1 3 _ rfl
   have e5:=e1 4 _ rfl
   have e6:=e1 5 _ rfl
   have e7:=e1 6 _ rfl
   have e8:=e1 7 _ rfl
   have e1:=e1 0 _ rfl
   have e0:=e0 _ rfl
   have hga:=grow_alloc wr (.cells #[.int .i64 bk,.int .i64 ag,.int .i64 sh,.int .i64 sq,.int .i64 ep,.slice Ab ds.length cb,.string se,.int .i64 fr,.int .i64 tg] 32)
   have hEB:=hEB _ hga
   obtain⟨bs,HB⟩:∃ bs:List UInt8,Hid (bs=enB ⟨bk,ag,sh,sq,ep,ds,se,fr,tg⟩):=⟨_,Lib.hid rfl⟩
   rw[←HB.out] at hEB hlen
   clear hbin hokb
   go_wp2_with fail
   refine hEB.mono ?_
   rintro e w2 ⟨v2,rfl,hg2,hb2⟩
   have cv:=conv_is w2 hb2
   have hT:=vText_is w2 u0 _ ⟨bs.toArray⟩ (hI.below (hga.trans hg2)) (by rw[List.length_append];have:=HLL.out;have:=Nat.mul_le_mul_right 9010 (show k≤1024 by omega);omega) (by show bs.toArray.size≤_;simp;omega)
   rw[show (ByteArray.mk bs.toArray).size=bs.length by show bs.toArray.size=_;simp,show (ByteArray.mk bs.toArray).data.toList=bs from rfl] at hT
   go_wp2_with fail
   refine hT.mono ?_
   rintro e w3 ⟨v3,rfl,hg3,hb3⟩
   have hb4:IsBytes (L0++esB ((q.take (k+1)).map El.e)) v3 w3:=by
    rw[HS.out,List.map_append,List.map_cons,List.map_nil,esB_more,←List.append_assoc]
    show IsBytes (L0++esB ((q.take k).map El.e)++(enc (enB ⟨bk,ag,sh,sq,ep,ds,se,fr,tg⟩).length++enB ⟨bk,ag,sh,sq,ep,ds,se,fr,tg⟩)) v3 w3
    rw[←HB.out,←List.append_assoc]
    exact hb3
   go_wp2_with fail
   go_roundw
   case rel=>exact⟨k+1,by omega,by go_num,hb4,hgr.trans (hga.trans (hg2.trans hg3))⟩
   case measure=>simp[intOf];omega
  ·obtain rfl:k=q.length:=by omega
   rw[List.take_length] at hI
   go_wp2_with fail
   go_ret
   exact⟨_,rfl,hg1.trans hgr,hI⟩
theorem lWrite_ok (w:World) (x d:Nat) (n:Int) (l b:List UInt8) (u:Value) (hb:IsBytes b u w) (hn:0≤n∧n≤1099511627776) (h1:b.length≤65536) (h2:l.length+(frame b).length≤1048576) :
 Turns Tryz.prog 68 #[.pointer (some ⟨x,0,none⟩),u] (fun e=>e=.returned (.int .i64 0)) (LogAt x d n l l.length) (LogAt x d (n+1) (l++frame b) (l++frame b).length) w:=by
 intro V hL hV
 obtain⟨A,m,c,rfl,hbb,_⟩:=hb
 have hA:=lAppend_any w x d n l l.length A m c b hbb hn V hL hV
 have hf:fits l (frame b)=true:=fits_of h2
 have hz:recE l b=0:=by unfold recE;rw[if_pos h1];exact appE_zero.2 hf
 have hr:recL l b=l++frame b:=by unfold recL appL;rw[if_pos h1,if_pos hf]
 rw[hz,if_pos rfl,hr] at hA
 clear hz hr hf
 go_enter Tryz.func68,Tryz.ntmps68
 go_wp2_with fail
 refine hA.mono ?_
 rintro e w1 ⟨rfl,hL1,hj1⟩
 have hlt:∀ b,Ext V w w1 b→b<w1.heap.size:=fun b hb=>by
  rcases hb with hb|hb
  ·have:=hV b hb;have:=hj1.size;omega
  ·exact hb.2
 have hS:=lSync_any w1 x d (n+1) (l++frame b) l.length _ hL1 hlt
 go_wp2_with fail
 refine hS.mono ?_
 rintro e w2 ⟨rfl,hL2,hj2⟩
 go_wp2_with fail
 go_ret
 refine⟨rfl,hL2.wide fun b hb=>?_,⟨hj2.os.trans hj1.os,hj2.tape.trans hj1.tape,hj2.output.trans hj1.output,Nat.le_trans hj1.size hj2.size,fun b hb hne=>(hj2.block b (Nat.lt_of_lt_of_le hb hj1.size) fun h=>?_).trans (hj1.block b hb hne)⟩⟩
 ·rcases hb with (hb|hb)|hb
  ·exact .inl hb
  ·exact .inr ⟨hb.1,Nat.lt_of_lt_of_le hb.2 hj2.size⟩
  ·exact .inr ⟨Nat.le_trans hj1.size hb.1,hb.2⟩
 ·rcases h with h|h
  ·exact hne h
  ·have:=h.1;omega
end Go.Proofs.YtmijcbfgfkeodaaGreatDoor
end
