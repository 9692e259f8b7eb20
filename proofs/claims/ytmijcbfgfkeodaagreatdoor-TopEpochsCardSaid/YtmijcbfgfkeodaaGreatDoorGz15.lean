/- Qidx, Qdel, Qdn, Qany, Bk3, Bk4. -/
import Derived.Test.YtmijcbfgfkeodaaGreatDoorGz14
set_option linter.all false
set_option maxRecDepth 100000
section
namespace Go.Proofs.YtmijcbfgfkeodaaGreatDoor.Q
open Go.RowKit Go.Hop
theorem done1_any (w:World) (sq s:Int) (sl:Value) (y:Nat) (hs1:sl.oneCell'=true) (hy:Blk w y 2 #[.int .i64 s]) :
 Calls Tryz.prog 323 #[.agg #[.int .i64 sq,sl],.pointer (some ⟨y,0,none⟩)] w fun e w'=>e=.returned (.bool (sq == s))∧Grow w w':=by
 have hga:Grow w (w.alloc (.cells #[.int .i64 sq,sl] 159)):=(Below.refl w.heap.size w).alloc (Nat.le_refl _) _
 have c0:=(hy.grow hga).cell 0
 go_enter Tryz.func323,Tryz.ntmps323
 go_wp2_with fail
 go_ret
 exact⟨rfl,hga⟩
def Idx (q:List Bat) (s r:Int):Prop:=(r=-1∧∀ b∈q,b.seq≠s)∨∃ (i:Nat) (h:i<q.length),r=(i:Int)∧q[i].seq=s∧∀ (j:Nat) (hj:j<q.length),j<i→q[j].seq≠s
theorem indexFunc_any (w:World) (V D:Nat→Prop) (A:Option Addr) (n c:Nat) (q:List Bat) (h:Bats w V D A n q) (hn:n≤1024) (s:Int) (y:Nat) (hy:Blk w y 2 #[.int .i64 s]) :
 Calls Tryz.prog 322 #[.slice A n c,.func (.func 323) #[] #[.pointer (some ⟨y,0,none⟩)]] w fun e w'=>∃ r,e=.returned (.int .i64 r)∧Idx q s r∧Grow w w':=by
 have hql:=h.len
 go_enter Tryz.func322,Tryz.ntmps322
 go_wp2_with fail
 go_loopw [8] (fun i wr=>∃ k:Nat,k≤n∧i=.int .i64 k∧(∀ (j:Nat) (hj:j<q.length),j<k→q[j].seq≠s)∧Grow w wr) (fun i _=>n-(intOf i).toNat)
 case atStart=>exact⟨0,by omega,rfl,fun j hj h0=>absurd h0 (by omega),Grow.refl _⟩
 case round=>
  obtain⟨k,hkn,rfl,hne,hg⟩:=hrel
  by_cases hk:k<n
  ·obtain⟨ad,hkq,rfl,hV,hB,e0,e1⟩:=(h.row.grow hg).rec_ (by omega) bat_len hk
   have e0:=e0 _ rfl
   have e1:=e1 0 _ rfl
   have hkne:q[k].seq≠s→∀ (j:Nat) (hj:j<q.length),j<k+1→q[j].seq≠s:=fun h0 j hj hjk=>by
    rcases Nat.lt_or_ge j k with h1|h1
    ·exact hne j hj h1
    ·have:j=k:=by omega
     subst this;exact h0
   have hke:q[k].seq=s→Idx q s (k:Int):=fun h0 => .inr ⟨k,hkq,rfl,h0,hne⟩
   have HE:=Lib.hid hke
   have HN:=Lib.hid hkne
   clear hke hkne hne
   generalize q[k].seq=sq at e0 HE HN
   generalize q[k].c=cc at e1
   by_cases hs:sq=s
   ·have hb:(sq == s)=true:=by rw[hs];exact beq_self_eq_true s
    have HI:=HE.out hs
    clear hs HE HN
    go_wp2_with (go_at_call 323;refine (done1_any _ sq s _ y rfl (hy.grow hg)).mono ?_;rintro e w2 ⟨rfl,hg2⟩)
    go_ret
    exact⟨_,rfl,HI,hg.trans hg2⟩
   ·have hb:(sq == s)=false:=beq_eq_false_iff_ne.2 hs
    have HI:=Lib.hid (HN.out hs)
    clear hs HE HN
    go_wp2_with (go_at_call 323;refine (done1_any _ sq s _ y rfl (hy.grow hg)).mono ?_;rintro e w2 ⟨rfl,hg2⟩)
    go_roundw
    case rel=>exact⟨k+1,by omega,by go_num,HI.out,hg.trans hg2⟩
    case measure=>simp[intOf];omega
  ·obtain rfl:k=n:=by omega
   go_wp2_with fail
   go_ret
   refine⟨_,rfl,.inl ⟨rfl,fun b hb=>?_⟩,hg⟩
   obtain⟨i,hi,rfl⟩:=List.mem_iff_getElem.1 hb
   exact hne i hi (by omega)
theorem delete_any (w:World) (R:Nat→Prop) (A:Option Addr) (n c i:Nat) (xs:List Value) (h:Row w R 159 2 (.slice A n c) n xs) (hi:i<n) (hn:n≤1048576) (hx1:∀ u∈xs,u.oneCell'=true) :
 Calls Tryz.prog 324 #[.slice A n c,.int .i64 (i:Int),.int .i64 ((i:Int)+1)] w fun e w'=>e=.returned (.slice A (n-1) c)∧Row w' R 159 2 (.slice A (n-1) c) (n-1) (xs.take (i*2)++xs.drop ((i+1)*2))∧Just R w w':=by
 obtain⟨hlen,h|⟨g,cap,cur,e1,hV,hg,hnc,hm,hsz,htk⟩⟩:=h
 ·omega
 injection e1 with e1 _ e3
 subst e1 e3
 obtain⟨A2,HA2⟩:∃ A2:Option Addr,Hid (A2=if c=i+1 then some ⟨g,0,none⟩ else some ⟨g,(i+1)*2,none⟩):=⟨_,rfl⟩
 have hdl:(xs.drop ((i+1)*2)).length=(n-(i+1))*2:=by rw[List.length_drop,hlen];omega
 have hcell:∀ j,w.cell? ⟨g,j,none⟩=cur[j]?:=fun j=>cell_of_row w g j cur 159 (0,0) hg
 have hcx:∀ j u,xs[j]?=some u→cur[j]?=some u:=fun j u hu=>by
  rw[←htk,List.getElem?_take] at hu
  split at hu
  ·simpa using hu
  ·cases hu
 have hfz:∀ j,w.frozen? ⟨g,j,none⟩=false:=fun j=>Blk.frozen (show Blk w g 159 cur from hg) j
 have hrd:∀ w1,Grow w w1→Reads w1 w1.heap.size 2 A2 (n-(i+1)) (xs.drop ((i+1)*2)):=fun w1 hgr=>by
  refine⟨hdl,fun hpos=>⟨⟨g,(i+1)*2,none⟩,by rw[HA2.out,if_neg (by omega)],Nat.lt_of_lt_of_le (Array.getElem?_eq_some_iff.1 hg).1 hgr.size,fun j u hu=>?_⟩⟩
  rw[List.getElem?_drop] at hu
  rw[Addr.add_lit,hgr.cell (show g<w.heap.size from (Array.getElem?_eq_some_iff.1 hg).1),hcell]
  exact hcx _ u hu
 have hci:¬ c<i:=by omega
 have hni:¬ (n:Int)<(i:Int)+1:=by omega
 have hni2:¬ (i:Int)+1<0:=by omega
 have hgw:=hg
 go_enter Tryz.func324,Tryz.ntmps324
 go_wp2_with fail
 refine wp_region_flow 6 33 [] rfl rfl (by kernel_rfl) (by kernel_rfl) (by kernel_rfl) ?_ ?_
 ·intro x hx φ he
  cases hx
 intro ops' A' K' T hops hA' hK hT
 refine fl_mvN 20 (.slice (some ⟨g,0,none⟩) n c) ?_
 refine fl_mvN 21 (.int .i64 (i:Int)) ?_
 refine fl_op2N 22 (.tmp 20) (.tmp 21) (.slice (some ⟨g,0,none⟩) n c) (.int .i64 (i:Int)) (.slice (some ⟨g,0,none⟩) i c) (fun ρ h1 h2 kk w1 (hg:Grow _ w1) hb hf=>by go_simp) ?_
 refine fl_mvN 23 (.slice (some ⟨g,0,none⟩) n c) ?_
 refine fl_mvN 24 (.int .i64 ((i:Int)+1)) ?_
 refine fl_op2N 25 (.tmp 23) (.tmp 24) (.slice (some ⟨g,0,none⟩) n c) (.int .i64 ((i:Int)+1)) (.slice A2 (n-(i+1)) (c-(i+1))) (fun ρ h1 h2 kk w1 (hg:Grow _ w1) hb hf=>by have hA:=HA2.out;go_simp) ?_
 refine fl_end (fun _ _ w1 (hg:Grow _ w1) _ hfacts=>hT _ _ ?_)
 clear hops hA' hK hT
 simp only[putsL,Act.put,List.setIfInBounds_toArray,List.set_cons_zero,List.set_cons_succ,List.drop_succ_cons,List.drop_zero]
 have hg1:w1.heap[g]?=some (.cells cur 159 (0,0)):=(hg.block g (Array.getElem?_eq_some_iff.1 hgw).1).trans hgw
 have hkm:i+(n-(i+1))=n-1:=by omega
 have hncs:n*2≤c*2:=Nat.mul_le_mul_right _ hnc
 refine wpList_app_run rfl (.tmp 22) (.tmp 25) rfl rfl rfl (run_append_over batchE w1 _ hg1 (hrd w1 hg) (fun u hu=>hx1 u (List.mem_of_mem_drop hu)) (by omega) (by rw[hkm,hsz];omega)) ?_
 rw[hkm]
 obtain⟨cur1,k1,k2,k3⟩:=setCells_heap g 159 (0,0) (xs.drop ((i+1)*2)) (i*2) w1 cur hg1 (by rw[hdl,←Nat.add_mul,hkm,hsz];omega)
 have hO1:=setCells_only g (xs.drop ((i+1)*2)) (i*2) w1
 have hsz1:=setCells_size g (xs.drop ((i+1)*2)) (i*2) w1
 generalize w1.setCells g (i*2) (xs.drop ((i+1)*2))=w2 at k1 hO1 hsz1 ⊢
 have HK:=Lib.hid (And.intro k2 k3)
 have HD:=Lib.hid hdl
 have HZ:=Lib.hid hsz
 have HKM:=Lib.hid hkm
 have HL:=Lib.hid hlen
 have HT:=Lib.hid htk
 clear k2 k3 hdl hsz hkm hlen htk hsz1 hcx hcell hrd hfz
 have hcn:¬ c=n-1:=by omega
 have hcn2:¬ c<n:=by omega
 have hcn3:¬ n<n-1:=by omega
 have hn1:n-(n-1)=1:=by omega
 have hcl:∀ ty,(Builtin.clear_ #[156] ty #[.slice (some ⟨g,(n-1)*2,none⟩) (n-(n-1)) (c-(n-1))]).run Tryz.prog w2=.ok (.tuple #[]) (w2.setCells g ((n-1)*2) (Builtin.zeroCells (.agg #[.int .i64 0,.slice none 0 0]:Value).cells 1).toList):=fun ty=>by
  rw[hn1]
  refine run_clear_cells batchE (zero_run batchE) (by simp[Value.cells,Value.oneCell']) w2 ty g ((n-1)*2) 1 _ (by omega) (fun j hj=>?_) (fun j hj=>Blk.frozen (show Blk w2 g 159 cur1 from k1) _)
  have:=HK.out.1;have:=HZ.out
  rw[cell_of_row w2 g _ cur1 159 (0,0) k1,Array.getElem?_eq_getElem (by omega)];rfl
 have hzl:(Builtin.zeroCells (.agg #[.int .i64 0,.slice none 0 0]:Value).cells 1).toList.length=2:=by kernel_rfl
 obtain⟨cur2,m1,m2,m3⟩:=setCells_heap g 159 (0,0) (Builtin.zeroCells (.agg #[.int .i64 0,.slice none 0 0]:Value).cells 1).toList ((n-1)*2) w2 cur1 k1 (by rw[hzl];have:=HK.out.1;have:=HZ.out;omega)
 have hO2:=setCells_only g (Builtin.zeroCells (.agg #[.int .i64 0,.slice none 0 0]:Value).cells 1).toList ((n-1)*2) w2
 generalize w2.setCells g ((n-1)*2) (Builtin.zeroCells (.agg #[.int .i64 0,.slice none 0 0]:Value).cells 1).toList=w3 at hcl m1 hO2
 have HM:=Lib.hid (And.intro m2 m3)
 clear m2 m3 hzl hn1
 go_wp2_with fail
 go_ret
 have hj:Just R w w3:=(Just.of_grow hg).trans (Just.of_only (hO1.trans hO2) hV)
 obtain⟨k2,k3⟩:=HK.out
 obtain⟨m2,m3⟩:=HM.out
 have hlen:=HL.out
 have hdl:=HD.out
 have hsz:=HZ.out
 have hkm:=HKM.out
 have htk:=HT.out
 have hti:cur.toList.take (i*2)=xs.take (i*2):=by rw[←htk,List.take_take,Nat.min_eq_left (by omega)]
 have hlti:(xs.take (i*2)).length=i*2:=by rw[List.length_take];omega
 have hl2:(xs.take (i*2)++xs.drop ((i+1)*2)).length=(n-1)*2:=by rw[List.length_append,hlti,hdl];omega
 refine⟨rfl,⟨hl2,.inr ⟨g,c,cur2,rfl,hV,m1,by omega,hm,by rw[m2,k2,hsz],?_⟩⟩,hj⟩
 have h1:cur1.toList.take ((n-1)*2)=xs.take (i*2)++xs.drop ((i+1)*2):=by
  rw[k3,hti,←hl2];exact List.take_left
 rw[m3,h1,List.append_assoc,←hl2];exact List.take_left
def isSeq (s:Int) (b:Ab):Bool:=b.1 == s
def doneB (l:List Ab) (s:Int):Bool:=l.any (isSeq s)
def doneL (l:List Ab) (s:Int):List Ab:=l.eraseP (isSeq s)
theorem eraseP_at {α:Type} {p:α→Bool}:∀ {l:List α} {i:Nat} (hi:i<l.length),p l[i]=true→(∀ (j:Nat) (hj:j<l.length),j<i→p l[j]=false)→l.eraseP p=l.take i++l.drop (i+1)
 | [],i,hi,_,_=>absurd hi (by simp)
 | a :: l,0,_,h,_=>by have h:p a=true:=h;simp[List.eraseP_cons,h]
 | a :: l,i+1,hi,h,hn=>by
   have h0:=hn 0 (by simp) (by omega)
   have hi':i<l.length:=by simpa using hi
   have h0:p a=false:=h0
   rw[List.eraseP_cons,h0,cond_false,eraseP_at hi' (by simpa using h) (fun j hj hji=>by have:=hn (j+1) (by simp;omega) (by omega);simpa using this)]
   simp
theorem done_none {q:List Bat} {s:Int} (h:∀ b∈q,b.seq≠s):doneB (q.map Bat.abs) s=false∧doneL (q.map Bat.abs) s=q.map Bat.abs:=by
 have h1:∀ a∈q.map Bat.abs,¬ isSeq s a=true:=fun a ha=>by
  obtain⟨b,hb,rfl⟩:=List.mem_map.1 ha
  simp[isSeq,Bat.abs,h b hb]
 exact⟨by unfold doneB;rw[List.any_eq_false];exact h1,List.eraseP_of_forall_not h1⟩
theorem done_some {q:List Bat} {s:Int} {i:Nat} (hi:i<q.length) (h:q[i].seq=s) (hn:∀ (j:Nat) (hj:j<q.length),j<i→q[j].seq≠s) :
 doneB (q.map Bat.abs) s=true∧doneL (q.map Bat.abs) s=(q.take i++q.drop (i+1)).map Bat.abs:=by
 have hi':i<(q.map Bat.abs).length:=by simpa using hi
 refine⟨?_,?_⟩
 ·unfold doneB
  rw[List.any_eq_true]
  exact⟨q[i].abs,List.mem_map_of_mem (List.getElem_mem hi),by simp[isSeq,Bat.abs,h]⟩
 ·unfold doneL
  rw[eraseP_at hi' (by simp[isSeq,Bat.abs,h]) (fun j hj hji=>by have:=hn j (by simpa using hj) hji;simp[isSeq,Bat.abs,this]),List.map_append,List.map_take,List.map_drop]
theorem Done_any (w:World) (g:Nat) (l:List Ab) (last s:Int) :
 Turns Tryz.prog 285 #[.pointer (some ⟨g,0,none⟩),.int .i64 s] (fun e=>e=.returned (.bool (doneB l s))) (QueueAt g l last) (QueueAt g (doneL l s) last) w:=by
 intro V hQ hV
 have hQ':=hQ
 obtain⟨h1,v,q,R,D,hql,h3,hB,hRow,h6,h7,h8⟩:=hQ
 obtain⟨A0,c0,rfl,hI,hnc,hm0⟩:=hRow.in_
 have hga:Grow w (w.alloc (.cells #[.int .i64 s] 2)):=(Below.refl w.heap.size w).alloc (Nat.le_refl _) _
 have hBx0:=Blk.made w 2 #[.int .i64 s]
 have cc0:=(hB.grow hga).cell 0
 have hIx:=indexFunc_any _ R D A0 _ c0 q ⟨hI.grow hga,fun b hb=>(h6 b hb).grow hga⟩ (by omega) s w.heap.size hBx0
 have hgR:¬ R g:=fun h=>(h7 g h).2.1 rfl
 go_enter Tryz.func285,Tryz.ntmps285
 go_wp2_with fail
 refine hIx.mono ?_
 clear hIx
 rintro e w1 ⟨r,rfl,hidx,hg1⟩
 have hgw:=hga.trans hg1
 rcases hidx with ⟨rfl,hne⟩|⟨i,hi,rfl,hs,hn⟩
 ·obtain⟨d1,d2⟩:=done_none hne
  rw[hql] at d1 d2
  have HD:=Lib.hid (And.intro d1 d2)
  clear hne d1 d2 hql
  go_wp2_with fail
  go_ret
  rw[HD.out.1,HD.out.2]
  exact⟨rfl,QueueAt.wide (QueueAt.framed _ _ _ w w1 V hQ' fun b hb=>hgw.block b (hV b hb)) (fun _ => .inl),Just.of_grow hgw⟩
 ·obtain⟨d1,d2⟩:=done_some hi hs hn
  rw[hql] at d1 d2
  have HD:=Lib.hid (And.intro d1 d2)
  clear d1 d2 hql hs hn
  have hB1:=hB.grow hgw
  have c1:=hB1.cell 0
  go_wp2_with fail
  refine (delete_any w1 R A0 q.length c0 i _ (hRow.grow hgw) hi (by omega) (bats_one q)).mono ?_
  rintro e w2 ⟨rfl,hR2,hj2⟩
  have hB2:=hj2.blk hB1 hgR
  have f0:=hB2.frozen 0
  have c2:=hB2.cell 0
  go_wp2_with fail
  go_ret
  rw[HD.out.1,HD.out.2]
  have hql':(q.take i++q.drop (i+1)).length=q.length-1:=by rw[List.length_append,List.length_take,List.length_drop];omega
  have hcs:(q.take i++q.drop (i+1)).flatMap Bat.cells=(q.flatMap Bat.cells).take (i*2)++(q.flatMap Bat.cells).drop ((i+1)*2):=by
   rw[List.flatMap_append,flat_take Bat.cells 2 bat_len,flat_drop Bat.cells 2 bat_len]
  have hmem:∀ b∈q.take i++q.drop (i+1),b∈q:=fun b hb=>by
   rcases List.mem_append.1 hb with h|h
   ·exact List.mem_of_mem_take h
   ·exact List.mem_of_mem_drop h
  have hjs:=just_at w2 g 0 (.slice A0 (q.length-1) c0)
  refine⟨rfl,⟨.inl h1,_,q.take i++q.drop (i+1),R,D,rfl,by omega,hB2.put 0 _,?_,fun b hb=>?_,fun b hb=>⟨.inl (h7 b hb).1,(h7 b hb).2⟩,fun b hb=>⟨.inl (h8 b hb).1,(h8 b hb).2⟩⟩,?_⟩
  ·rw[hql',hcs]
   exact hR2.just hjs fun b hb e=>hgR (by rw[←show b=g from e];exact hb)
  ·exact (((h6 b (hmem b hb)).grow hgw).just hj2 fun x hx hr=>(h7 x hr).2.2 hx).just hjs fun x hx e=>(h8 x hx).2 e
  ·exact ((Just.of_grow hgw).trans (hj2.imp fun x hx=>(h7 x hx).1)).trans (hjs.imp fun x hx=>by rw[show x=g from hx];exact h1)
def addE (l:List Ab) (last seq:Int) (m:Nat):Int:=if seq<1 then 1 else if seq≤last then 1 else if m=0 then 1 else if 8<m then 1 else if 16≤l.length then 24 else 0
def addL (l:List Ab) (last seq:Int) (m:Nat) (ds:List Dl):List Ab:=if addE l last seq m=0 then l++[(seq,ds)] else l
def addK (l:List Ab) (last seq:Int) (m:Nat):Int:=if addE l last seq m=0 then seq else last
theorem QueueAt.le {g:Nat} {l:List Ab} {last:Int} {w:World} {V:Nat→Prop} (h:QueueAt g l last w V):l.length≤16:=by
 obtain⟨_,_,q,_,_,rfl,h3,_⟩:=h
 rw[List.length_map];exact h3
theorem Add_any (w:World) (Z:Nat→Prop) (g:Nat) (l:List Ab) (last seq:Int) (A:Option Addr) (m c:Nat) (ds:List Dl) (hd0:DIn w Z A m ds) (hmc:m≤c) (hcm:c≤maxLen) :
 Turns Tryz.prog 222 #[.pointer (some ⟨g,0,none⟩),.agg #[.int .i64 seq,.slice A m c]] (fun e=>e=.returned (.int .i64 (addE l last seq m))) (QueueAt g l last) (QueueAt g (addL l last seq m ds) (addK l last seq m)) w:=by
 intro V hQ hV
 have hle:=hQ.le
 unfold addL addK addE
 by_cases h1:seq<1
 ·simp only[if_pos h1];exact Add_a w g l last seq A m c h1 V hQ hV
 ·by_cases h2:seq≤last
  ·simp only[if_neg h1,if_pos h2];exact Add_b w g l last seq A m c h1 h2 V hQ hV
  ·by_cases h3:m=0
   ·simp only[if_neg h1,if_neg h2,if_pos h3];exact Add_c w g l last seq A m c h1 h2 (by omega) V hQ hV
   ·by_cases h4:8<m
    ·simp only[if_neg h1,if_neg h2,if_neg h3,if_pos h4];exact Add_d w g l last seq A m c h1 h2 h4 V hQ hV
    ·by_cases h5:16≤l.length
     ·simp only[if_neg h1,if_neg h2,if_neg h3,if_neg h4,if_pos h5];exact Add_full w g l last seq A m c h1 h2 (by omega) (by omega) (by omega) V hQ hV
     ·simp only[if_neg h1,if_neg h2,if_neg h3,if_neg h4,if_neg h5,if_true];exact Add_ok w Z g l last seq A m c ds hd0 hmc hcm h1 h2 (by omega) (by omega) (by omega) V hQ hV
section
variable {P:Nat→Prop} {S S':Thing} {w w':World}
end
theorem Flight_at (w:World) (g:Nat) (l:List Ab) (last:Int) (V:Nat→Prop) (hQ:QueueAt g l last w V) (k:Nat) (hk:min l.length 4=k) :
 Calls Tryz.prog 304 #[.pointer (some ⟨g,0,none⟩)] w fun e w'=>∃ A' q',e=.returned (.slice A' k k)∧Bats w' (New w w') (New w w') A' k q'∧q'.map Bat.abs=l.take 4∧Grow w w':=hk▸Flight_any w g l last V hQ
theorem All_at (w:World) (g:Nat) (l:List Ab) (last:Int) (V:Nat→Prop) (hQ:QueueAt g l last w V) (k:Nat) (hk:l.length=k) :
 Calls Tryz.prog 78 #[.pointer (some ⟨g,0,none⟩)] w fun e w'=>∃ A' q',e=.returned (.slice A' k k)∧Bats w' (New w w') (New w w') A' k q'∧q'.map Bat.abs=l∧Grow w w':=hk▸All_any w g l last V hQ
theorem Len_at (w:World) (g:Nat) (l:List Ab) (last:Int) (V:Nat→Prop) (hQ:QueueAt g l last w V) (k:Nat) (hk:l.length=k) :
 Calls Tryz.prog 159 #[.pointer (some ⟨g,0,none⟩)] w fun e w'=>e=.returned (.int .i64 (k:Int))∧w=w':=hk▸Len_any w g l last V hQ
theorem Done_at (w:World) (g:Nat) (l:List Ab) (last s:Int) (b:Bool) (l':List Ab) (h:doneB l s=b∧doneL l s=l') :
 Turns Tryz.prog 285 #[.pointer (some ⟨g,0,none⟩),.int .i64 s] (fun e=>e=.returned (.bool b)) (QueueAt g l last) (QueueAt g l' last) w:=by
 obtain⟨rfl,rfl⟩:=h
 exact Done_any w g l last s
end Go.Proofs.YtmijcbfgfkeodaaGreatDoor.Q
end
section
namespace Go.Proofs.YtmijcbfgfkeodaaGreatDoor
open Go.RowKit Go.Hop
structure Qs where
 (a b c d:Nat)
def bkC (ep:Int) (sl:Value) (z:Qs) (cu:Value):Array Value:=#[.int .i64 ep,sl,.int .i64 1,.pointer (some ⟨z.a,0,none⟩),.pointer (some ⟨z.b,0,none⟩),.pointer (some ⟨z.c,0,none⟩),.pointer (some ⟨z.d,0,none⟩),cu]
def Smp (sl:Value) (l:List Dl):Thing:=fun w V=>Row w V 29 2 sl l.length (dcells l)
theorem Smp.framed (sl:Value) (l:List Dl):Framed (Smp sl l):=fun w w' V h hk=>Row.keep h fun b hb _=>hk b hb
theorem Smp.nil (w:World) (V:Nat→Prop):Smp (.slice none 0 0) [] w V:=Row.nil
def bookL (s:Nat) (z:Qs) (ep:Int) (sl:Value) (smp:List Dl) (l0:List Q.Ab) (k0:Int) (cu:Value):List Thing:=[Cell s 148 (bkC ep sl z cu),Smp sl smp,Q.QueueAt z.a l0 k0,Q.QueueAt z.b [] 0,Q.QueueAt z.c [] 0,Q.QueueAt z.d [] 0]
def BookT (s:Nat) (z:Qs) (ep:Int) (sl:Value) (smp:List Dl) (l0:List Q.Ab) (k0:Int) (cu:Value):Thing:=Many (bookL s z ep sl smp l0 k0 cu)
theorem bookL_framed (s:Nat) (z:Qs) (ep:Int) (sl:Value) (smp:List Dl) (l0:List Q.Ab) (k0:Int) (cu:Value):AllFramed (bookL s z ep sl smp l0 k0 cu):=(((((AllFramed.nil.cons (Q.QueueAt.framed _ _ _)).cons (Q.QueueAt.framed _ _ _)).cons (Q.QueueAt.framed _ _ _)).cons (Q.QueueAt.framed _ _ _)).cons (Smp.framed _ _)).cons (Cell.framed _ _ _)
theorem BookT.framed (s:Nat) (z:Qs) (ep:Int) (sl:Value) (smp:List Dl) (l0:List Q.Ab) (k0:Int) (cu:Value):Framed (BookT s z ep sl smp l0 k0 cu):=Many.framed _ (bookL_framed _ _ _ _ _ _ _ _)
def pq (gs:List Nat) (i:Nat):Value:=(gs[i]?.map fun g => .pointer (some ⟨g,0,none⟩)).getD (.pointer none)
def bkL (gs:List Nat):Array Value:=#[.int .i64 0,.slice none 0 0,.int .i64 1,pq gs 0,pq gs 1,pq gs 2,pq gs 3,.slice none 0 0]
theorem bkL_more (gs:List Nat) (g:Nat) (h:gs.length<4):(bkL gs).setIfInBounds (3+gs.length) (.pointer (some ⟨g,0,none⟩))=bkL (gs++[g]):=by
 match gs,h with
 | [],_=>rfl
 | [a],_=>rfl
 | [a,b],_=>rfl
 | [a,b,c],_=>rfl
theorem bkL_next (gs:List Nat) (h:gs.length<4):(bkL gs)[3+gs.length]?=some (.pointer none):=by
 match gs,h with
 | [],_=>rfl
 | [a],_=>rfl
 | [a,b],_=>rfl
 | [a,b,c],_=>rfl
def QNewF (B:Nat) (u:Value) (w:World):Prop:=∃ g,u=.pointer (some ⟨g,0,none⟩)∧∃ V:Nat→Prop,(∀ b,V b→B≤b∧b<w.heap.size)∧Q.QueueAt g [] 0 w V
theorem qNewF_lasting (B:Nat):Lasting (QNewF B):=fun u w w' ⟨g,e,V,h1,h2⟩ hg=>⟨g,e,V,fun b hb=>by have:=h1 b hb;have:=hg.size;omega,Q.QueueAt.framed _ _ _ w w' V h2 fun b hb=>hg.block b (h1 b hb).2⟩
theorem qNew_is (wr w:World) (hs:Grow wr w):Calls Tryz.prog 147 #[] w fun e w'=>∃ v,e=.returned v∧Grow w w'∧QNewF wr.heap.size v w':=
 (Q.New_any w).mono fun e w' ⟨h1,h2,h3⟩=>⟨_,h1,h3,_,rfl,_,fun b hb=>⟨by have:=hs.size;have:=hb.1;omega,hb.2⟩,h2⟩
theorem bookq_framed (s:Nat) (cs:Array Value) (gs:List Nat):AllFramed (Cell s 148 cs :: gs.map fun g=>Q.QueueAt g [] 0):=AllFramed.cons (Cell.framed _ _ _) fun S hS=>by
 obtain⟨g,_,rfl⟩:=List.mem_map.1 hS
 exact Q.QueueAt.framed _ _ _
theorem bNew_any (w:World):Calls Tryz.prog 66 #[] w fun e w'=>∃ s z,e=.returned (.pointer (some ⟨s,0,none⟩))∧BookT s z 0 (.slice none 0 0) [] [] 0 (.slice none 0 0) w' (New w w')∧Grow w w':=by
 have k147:∀ (vs:Array Value) (w:World),(callFunc 147 vs).run Tryz.prog w=.ok (.enter 147 vs) w:=fun vs w=>by go_simp
 have hga:=grow_alloc w (.cells (bkL []) 148)
 have hBs:=Blk.made w 148 (bkL [])
 obtain⟨s,HS⟩:∃ s:Nat,Hid (s=w.heap.size):=⟨_,rfl⟩
 obtain⟨wa,HA_⟩:∃ wa:World,Hid (wa=w.alloc (.cells (bkL []) 148)):=⟨_,rfl⟩
 rw[←HA_.out] at hga hBs
 rw[←HS.out] at hBs
 have hS0:Solo (fun b=>w.heap.size≤b) (Many (Cell s 148 (bkL []) :: ([]:List Nat).map fun g=>Q.QueueAt g [] 0)) wa:=
  Solo.of_new (V:=fun b=>b=s) (fun b hb=>by have:=hga.size;omega) ⟨fun b=>b=s,fun _=>False,⟨rfl,hBs⟩,trivial,fun _ h=>h,fun _ h=>h.elim,fun _ _ h=>h⟩ fun b hb=>by have:=HS.out;have:=hBs.lt;omega
 have HA2:Hid (wa=w.alloc (.cells #[.int .i64 0,.slice none 0 0,.int .i64 1,.pointer none,.pointer none,.pointer none,.pointer none,.slice none 0 0] 148)):=HA_
 clear HA_
 have hww:=hga.size
 go_enter Tryz.func66,Tryz.ntmps66
 go_wp2_with fail
 rw[←HA2.out,←HS.out]
 go_loopw [5] (fun i wr=>∃ gs:List Nat,gs.length≤4∧i=.int .i64 (gs.length:Int)∧Solo (fun b=>w.heap.size≤b) (Many (Cell s 148 (bkL gs) :: gs.map fun g=>Q.QueueAt g [] 0)) wr∧Just (fun b=>w.heap.size≤b) w wr) (fun i _=>4-(intOf i).toNat)
 case atStart=>exact⟨[],by decide,rfl,hS0,Just.of_grow hga⟩
 case round=>
  obtain⟨gs,hgl,rfl,hS,hj⟩:=hrel
  by_cases hk:gs.length<4
  ·have hF:=bookq_framed s (bkL gs) gs
   have hB:=hS.blk 0 rfl
   have hlt4:decide ((gs.length:Int)<4)=true:=decide_eq_true (by omega)
   obtain⟨k,HK⟩:∃ k:Nat,Hid (k=gs.length):=⟨_,rfl⟩
   have hnx:=bkL_next gs hk
   rw[←HK.out] at hlt4 hk hnx ⊢
   go_wp2_with fail
   refine wp_region_flow 6 16 [(2,.inr (fun _=>QNewF wr.heap.size))] rfl rfl (by kernel_rfl) (by kernel_rfl) (by kernel_rfl) ?_ ?_
   ·intro x hx φ he
    simp only[List.mem_cons,List.not_mem_nil,or_false] at hx
    rcases hx with rfl<;>cases he
    all_goals first|exact lasts_quiet (lasting_bytes _)|exact lasts_quiet (qNewF_lasting _)
   intro ops' A' K' T hops hA' hK hT
   refine fl_mvN 8 (.pointer (some ⟨s,0,none⟩)) ?_
   refine fl_mvN 9 (.int .i64 (k:Int)) ?_
   refine fl_callAny 10 (by rfl) (by decide) (wanted_none (by rfl)) (fun _=>QNewF wr.heap.size) (by rw[hK.out];rfl) 147 _ _ (by rfl) [] (by rfl) k147 (fun kk w1 (hg:Grow _ w1) hb hf=>calls_behindAny (φ:=fun _=>QNewF wr.heap.size) (by rfl) (by exact (qNew_is wr w1 hg))) (fun v10=>?_)
   refine fl_op1G 11 (.tmp 8) (.pointer (some ⟨s,0,none⟩)) (.pointer (some ⟨s,0,none⟩)) ?_
   refine fl_op1G 12 (.tmp 11) (.pointer (some ⟨s,0,none⟩)) (.pointer (some ⟨s,3,none⟩)) ?_
   refine fl_op2N 13 (.tmp 12) (.tmp 9) (.pointer (some ⟨s,3,none⟩)) (.int .i64 (k:Int)) (.pointer (some ⟨s,3+k,none⟩)) (fun ρ h1 h2 kk w1 (hg:Grow _ w1) hb hf=>by go_simp;try (intro h;exfalso;omega)) ?_
   refine fl_end (fun _ _ w1 (hg:Grow _ w1) _ hfacts=>hT _ _ ?_)
   clear hops hA' hK hT
   simp only[putsL,Act.put,List.setIfInBounds_toArray,List.set_cons_zero,List.set_cons_succ,List.drop_succ_cons,List.drop_zero]
   obtain⟨g,rfl,V,hV,hQ⟩:QNewF wr.heap.size v10 w1:=hfacts.1
   clear hfacts
   have hS1:=(hS.join hF hg hQ hV).puts 1 rfl (hF.cons (Q.QueueAt.framed _ _ _)) (3+k) (.pointer (some ⟨g,0,none⟩))
   have hP:=(hS.lics 0 rfl).1
   rw[HK.out,bkL_more gs g (by have:=HK.out;omega),←HK.out] at hS1
   have hS2:=hS1.perm (l':=Cell s 148 (bkL (gs++[g])) :: (gs++[g]).map fun g=>Q.QueueAt g [] 0) ((List.Perm.swap _ _ _).trans (List.Perm.cons _ (by rw[List.map_append];exact (List.perm_append_singleton _ _).symm)))
   have hj1:=(hj.trans (Just.of_grow hg)).put (V:=fun b=>w.heap.size≤b) hP (3+k) (.pointer (some ⟨g,0,none⟩))
   have hB1:=hB.grow hg
   have c0:=hB1.cell (3+k)
   rw[hnx] at c0
   have f0:=hB1.frozen (3+k)
   clear hB hnx
   obtain⟨w2,HW⟩:∃ w2:World,Hid (w2=w1.setCell ⟨s,3+k,none⟩ (.pointer (some ⟨g,0,none⟩))):=⟨_,rfl⟩
   rw[←HW.out] at hS2 hj1
   have hgl':k+1≤4:=by have:=HK.out;omega
   go_wp2_with fail
   go_roundw
   case rel=>exact⟨gs++[g],by rw[List.length_append,←HK.out];exact hgl',by rw[List.length_append,←HK.out];go_num,by rw[←HW.out];exact hS2,by rw[←HW.out];exact hj1⟩
   case measure=>simp[intOf];omega
  ·obtain⟨k,HK⟩:∃ k:Nat,Hid (k=gs.length):=⟨_,rfl⟩
   have h4:gs.length=4:=by omega
   obtain⟨g0,g1,g2,g3,rfl⟩:∃ a b c d,gs=[a,b,c,d]:=by
    match gs,h4 with
    | [a,b,c,d],_=>exact⟨a,b,c,d,rfl⟩
   go_wp2_with fail
   go_ret
   obtain⟨_,U,hU,hlt⟩:=hS
   have hU2:Many (Smp (.slice none 0 0) [] :: Cell s 148 (bkC 0 (.slice none 0 0) ⟨g0,g1,g2,g3⟩ (.slice none 0 0)) :: [g0,g1,g2,g3].map fun g=>Q.QueueAt g [] 0) wr U:=⟨fun _=>False,U,Smp.nil _ _,hU,fun _ h=>h.elim,fun _ h=>h,fun _ h=>h.elim⟩
   exact⟨s,⟨g0,g1,g2,g3⟩,rfl,Many.wide _ wr U _ (fun b hb=>hlt b hb) (Many.perm (List.Perm.swap _ _ _) hU2),hj.below (B:=w.heap.size) (fun b hb=>hb) (Nat.le_refl _)⟩
theorem bAdd2_yes (w:World) (s:ByteArray) (n x:Nat) (y:Nat) (hy:Blk w y 29 #[.string s,.int .u64 (x:Int)]):Calls Tryz.prog 225 #[.agg #[.string s,.int .u64 (n:Int)],.pointer (some ⟨y,0,none⟩)] w fun e w'=>e=.returned (.bool true)∧Grow w w':=by
 have hga:=grow_alloc w (.cells #[.string s,.int .u64 (n:Int)] 29)
 have c0:=(hy.grow hga).cell 0
 go_enter Tryz.func225,Tryz.ntmps225
 go_wp2_with fail
 go_ret
 exact⟨by simp,hga⟩
theorem idx2_yes (w:World) (s:ByteArray) (n x y c:Nat) (A:Option Addr) (D:Nat→Prop) (hd:DIn w D A 1 [(s,n)]) (hy:Blk w y 29 #[.string s,.int .u64 (x:Int)]):Calls Tryz.prog 156 #[.slice A 1 c,.func (.func 225) #[] #[.pointer (some ⟨y,0,none⟩)]] w fun e w'=>e=.returned (.int .i64 0)∧Grow w w':=by
 obtain⟨ad,hq,rfl,f0,f1⟩:=del_cells hd (k:=0) (by omega)
 have e0:w.cell? ad=some (.string s):=f0 w (Grow.refl _)
 have e1:w.cell? ⟨ad.block,ad.off+1,none⟩=some (.int .u64 (n:Int)):=f1 w (Grow.refl _)
 clear f0 f1
 have hC:=bAdd2_yes w s n x y hy
 go_enter Tryz.func156,Tryz.ntmps156
 go_wp2_with fail
 go_loopw [8] (fun i wr=>i=.int .i64 0∧w=wr) (fun _ _=>0)
 case atStart=>exact⟨rfl,rfl⟩
 case round=>
  obtain⟨rfl,rfl⟩:=hrel
  go_wp2_with fail
  refine hC.mono ?_
  rintro e w2 ⟨rfl,hg2⟩
  go_wp2_with fail
  go_ret
  exact⟨rfl,hg2⟩
theorem contF_yes (w:World) (s:ByteArray) (n x y c:Nat) (A:Option Addr) (D:Nat→Prop) (hd:DIn w D A 1 [(s,n)]) (hy:Blk w y 29 #[.string s,.int .u64 (x:Int)]):Calls Tryz.prog 204 #[.slice A 1 c,.func (.func 225) #[] #[.pointer (some ⟨y,0,none⟩)]] w fun e w'=>e=.returned (.bool true)∧Grow w w':=by
 have hI:=idx2_yes w s n x y c A D hd hy
 go_enter Tryz.func204,Tryz.ntmps204
 go_wp2_with fail
 refine hI.mono ?_
 rintro e w2 ⟨rfl,hg2⟩
 go_wp2_with fail
 go_ret
 exact⟨rfl,hg2⟩
theorem bAdd1_yes (w:World) (s:ByteArray) (n x y c:Nat) (sq:Int) (A:Option Addr) (D:Nat→Prop) (hd:DIn w D A 1 [(s,n)]) (hy:Blk w y 159 #[.int .i64 sq,.slice A 1 c]):Calls Tryz.prog 224 #[.agg #[.string s,.int .u64 (x:Int)],.pointer (some ⟨y,0,none⟩)] w fun e w'=>e=.returned (.bool true)∧Grow w w':=by
 have hga:=grow_alloc w (.cells #[.string s,.int .u64 (x:Int)] 29)
 have c1:=(hy.grow hga).cell 1
 have hC:=contF_yes _ s n x w.heap.size c A D (In.grow hd hga) (Blk.made w 29 #[.string s,.int .u64 (x:Int)])
 go_enter Tryz.func224,Tryz.ntmps224
 go_wp2_with fail
 refine hC.mono ?_
 rintro e w2 ⟨rfl,hg2⟩
 go_wp2_with fail
 go_ret
 exact⟨rfl,hga.trans hg2⟩
theorem idx1_yes (w:World) (s:ByteArray) (n x y c c2:Nat) (sq:Int) (A A2:Option Addr) (D D2:Nat→Prop) (hd2:DIn w D2 A2 1 [(s,x)]) (hd:DIn w D A 1 [(s,n)]) (hy:Blk w y 159 #[.int .i64 sq,.slice A 1 c]):Calls Tryz.prog 156 #[.slice A2 1 c2,.func (.func 224) #[] #[.pointer (some ⟨y,0,none⟩)]] w fun e w'=>e=.returned (.int .i64 0)∧Grow w w':=by
 obtain⟨ad,hq,rfl,f0,f1⟩:=del_cells hd2 (k:=0) (by omega)
 have e0:w.cell? ad=some (.string s):=f0 w (Grow.refl _)
 have e1:w.cell? ⟨ad.block,ad.off+1,none⟩=some (.int .u64 (x:Int)):=f1 w (Grow.refl _)
 clear f0 f1
 have hC:=bAdd1_yes w s n x y c sq A D hd hy
 go_enter Tryz.func156,Tryz.ntmps156
 go_wp2_with fail
 go_loopw [8] (fun i wr=>i=.int .i64 0∧w=wr) (fun _ _=>0)
 case atStart=>exact⟨rfl,rfl⟩
 case round=>
  obtain⟨rfl,rfl⟩:=hrel
  go_wp2_with fail
  refine hC.mono ?_
  rintro e w2 ⟨rfl,hg2⟩
  go_wp2_with fail
  go_ret
  exact⟨rfl,hg2⟩
theorem dlt_info:(Tryz.prog.info? 29).map (fun i=>(i.zero,i.size,i.bytes))=some (some (.agg #[.string ⟨#[]⟩,.int .u64 0]),2,24):=by kernel_rfl
theorem dltE:Elem Tryz.prog 30 29 2 24 (.agg #[.string ⟨#[]⟩,.int .u64 0]):=⟨Tryz.underlying30,info_parts dlt_info,rfl,by decide,by decide⟩
theorem delF_one (w:World) (s:ByteArray) (n x y c:Nat) (sq:Int) (A:Option Addr) (D V:Nat→Prop) (sl:Value) (hR:Row w V 29 2 sl 1 (dcells [(s,x)])) (hd:DIn w D A 1 [(s,n)]) (hy:Blk w y 159 #[.int .i64 sq,.slice A 1 c]) :
 Calls Tryz.prog 223 #[sl,.func (.func 224) #[] #[.pointer (some ⟨y,0,none⟩)]] w fun e w'=>∃ sl',e=.returned sl'∧Row w' V 29 2 sl' 0 []∧Just V w w'∧sl'.oneCell'=true:=by
 obtain⟨hl,h0|⟨g,cap,cur,rfl,hV,hg,hc1,hcm,hcs,htk⟩⟩:=id hR
 ·exact absurd h0.2 (by omega)
 obtain⟨A2,c2,e2,hd2,_,_⟩:=hR.in_
 injection e2 with e2 _ e3
 subst e2 e3
 have hI:=idx1_yes w s n x y c cap sq A _ D V hd2 hd hy
 have n1:decide ((1:Int)<1)=false:=rfl
 go_enter Tryz.func223,Tryz.ntmps223
 go_wp2_with fail
 refine hI.mono ?_
 rintro e w1 ⟨rfl,hg1⟩
 have hB1:Blk w1 g 29 cur:=(hg1.block g (Array.getElem?_eq_some_iff.1 hg).1).trans hg
 have hcl:∀ ty,(Builtin.clear_ #[30] ty #[.slice (some ⟨g,0,none⟩) 1 cap]).run Tryz.prog w1=.ok (.tuple #[]) (w1.setCells g 0 (Builtin.zeroCells (.agg #[.string ⟨#[]⟩,.int .u64 0]:Value).cells 1).toList):=fun ty=>by
  have h2:2≤cur.size:=by omega
  refine run_clear_cells dltE (zero_run dltE) (by simp[Value.cells,Value.oneCell']) w1 ty g 0 1 cap (by omega) (fun j hj=>?_) (fun j hj=>hB1.frozen _)
  rw[hB1.cell]
  have:0+j<cur.size:=by omega
  rw[Array.getElem?_eq_getElem this];rfl
 go_wp2_with fail
 go_loopw [5,6] (fun j i wr=>j=.int .i64 0∧i=.int .i64 1∧w1=wr) (fun _ _ _=>0)
 case atStart=>exact⟨rfl,rfl,rfl⟩
 case round=>
  obtain⟨rfl,rfl,rfl⟩:=hrel
  go_wp2_with fail
  go_ret
  have hZl:(Builtin.zeroCells #[Value.string ⟨#[]⟩,Value.int IntKind.u64 0] 1).toList.length=2:=by simp[Builtin.zeroCells]
  generalize (Builtin.zeroCells #[Value.string ⟨#[]⟩,Value.int IntKind.u64 0] 1).toList=Z at hZl ⊢
  have hB2:=hB1.part 0 Z (by omega)
  refine⟨_,rfl,⟨rfl,.inr ⟨g,cap,_,rfl,hV,hB2,Nat.zero_le _,hcm,?_,rfl⟩⟩,(Just.of_grow hg1).trans ((just_part g 0 Z w1).imp fun b hb=>by rw[hb];exact hV),rfl⟩
  simp only[List.size_toArray,List.length_append,List.length_take,List.length_drop,Array.length_toList,hZl]
  omega
theorem bright_ok (w:World) (s:ByteArray) (x:Nat) (hp:L.parseE s=0) (hs:s.size≤1000000) (hx:1≤x):Calls Tryz.prog 151 #[.agg #[.string s,.int .u64 (x:Int)]] w fun e w'=>e=.returned (.bool true)∧Grow w w':=by
 have hga:=grow_alloc w (.cells #[.string s,.int .u64 (x:Int)] 29)
 have hB:=Blk.made w 29 #[.string s,.int .u64 (x:Int)]
 have hP:=L.Parse_any (w.alloc (.cells #[.string s,.int .u64 (x:Int)] 29)) s hs
 rw[hp] at hP
 have hx':decide ((0:Int)<(x:Int))=true:=decide_eq_true (by omega)
 go_enter Tryz.func151,Tryz.ntmps151
 go_wp2_with fail
 refine hP.mono ?_
 rintro e w2 ⟨Ap,cp,rfl,_,_,hg2⟩
 have c1:=(hB.grow hg2).cell 1
 go_wp2_with fail
 go_ret
 exact⟨by first|rfl|(simp;omega),hga.trans hg2⟩
theorem bMay_0 (w:World) (st:Nat) (ep:Int) (A:Option Addr) (c:Nat) (z:Qs) (cu:Value) (hst:Blk w st 148 (bkC ep (.slice A 0 c) z cu)) (s:ByteArray) (x:Nat) (hp:L.parseE s=0) (hs:s.size≤1000000) (hx:1≤x):Calls Tryz.prog 70 #[.pointer (some ⟨st,0,none⟩),.agg #[.string s,.int .u64 (x:Int)]] w fun e w'=>e=.returned (.int .i64 0)∧Grow w w':=by
 have hga:=grow_alloc w (.cells #[.string s,.int .u64 (x:Int)] 29)
 have hB:=Blk.made w 29 #[.string s,.int .u64 (x:Int)]
 have hR:=bright_ok (w.alloc (.cells #[.string s,.int .u64 (x:Int)] 29)) s x hp hs hx
 unfold bkC at hst
 have hlt:decide ((32:Int)≤0)=false:=rfl
 go_enter Tryz.func70,Tryz.ntmps70
 go_wp2_with fail
 refine hR.mono ?_
 rintro e w2 ⟨rfl,hg2⟩
 have c0:=(hB.grow hg2).cell 0
 have c1:=(hB.grow hg2).cell 1
 have b1:=(hst.grow (hga.trans hg2)).cell 1
 go_wp2_with fail
 clear c0 c1 b1
 go_loopw [24] (fun i wr=>i=.int .i64 0∧w2=wr) (fun _ _=>0)
 case atStart=>exact⟨rfl,rfl⟩
 case round=>
  obtain⟨rfl,rfl⟩:=hrel
  go_wp2_with fail
  go_ret
  exact⟨rfl,hga.trans hg2⟩
end Go.Proofs.YtmijcbfgfkeodaaGreatDoor
end
