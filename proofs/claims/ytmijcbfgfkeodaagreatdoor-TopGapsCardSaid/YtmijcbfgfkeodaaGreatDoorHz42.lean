/- Ga4, Rowk, Kito. -/
import Derived.Test.YtmijcbfgfkeodaaGreatDoorHz41
import Derived.ProofKit
import Derived.OpenShut
import Derived.JoinedCond
set_option linter.all false
set_option maxRecDepth 100000
section
namespace Go.Proofs.YtmijcbfgfkeodaaGreatDoor
open Go.RowKit Go.Hop Go.Proofs.YtmijcbfgfkeodaaGreatDoor.V
theorem maSums_any (w:World) (m:Nat) (q:K.Sm) (eps:List (Int×Value)) (k:Int×Int) (F:Int) (M:Nat) (V:Nat→Prop) (h:MachAt m q eps (some (k,F,M)) w V) (hq:q.length≤1048576):Calls Tryz.prog 16 #[.pointer (some ⟨m,0,none⟩)] w fun e w'=>∃ A,e=.returned (.slice A q.length q.length)∧In w' (New w w') 2 A q.length (dcells q)∧Grow w w':=by
 obtain⟨s,bE,bS,p,g,V1,V2,hC,⟨V3,V4,hS,_⟩,_⟩:=h
 have c0:=hC.2.cell 0
 have hA:=K.All_some K.sort_none w s q V3 hS hq
 go_enter Tryz.func16,Tryz.ntmps16
 go_wp2_with fail
 refine hA.mono ?_
 rintro e w1 ⟨A,rfl,hI,hg⟩
 go_wp2_with fail
 go_ret
 exact⟨A,rfl,hI,hg⟩
theorem nums_range {l:List Int} (h:∀ z∈l,(Lit.int .i64 z).wf=true):∀ z∈l,-9223372036854775808≤z∧z≤9223372036854775807:=fun z hz=>by
 simpa [Lit.wf,IntKind.min,IntKind.max,IntKind.signed,IntKind.bits] using h z hz
def IsBel (k:Nat) (u:Value) (_:World):Prop:=∃ m:Nat,m<k∧u=.int .i64 (m:Int)
theorem isBel_lasting (k:Nat):Lasting (IsBel k):=fun _ _ _ h _=>h
theorem within_bel (w:World) (k:Nat) (z:Int) (hz:-9223372036854775808≤z∧z≤9223372036854775807) (hk:1≤k) (hk2:k≤100):Calls Tryz.prog 11 #[.int .i64 z,.int .i64 0,.int .i64 ((k-1:Nat):Int)] w fun e w'=>∃ u,e=.returned u∧Grow w w'∧IsBel k u w':=
 (within_any w z 0 ((k-1:Nat):Int) hz (by omega) (by omega) (by omega)).mono fun e w' ⟨m,h0,h1,h2,h3⟩=>⟨_,h2,h3▸Grow.refl _,m.toNat,by omega,by rw[Int.toNat_of_nonneg h0]⟩
theorem sum_range (k:Nat):2*((List.range k).map (·+1)).sum=k*(k+1):=by
 induction k with
 | zero=>rfl
 | succ k ih=>
   rw[List.range_succ,List.map_append,List.sum_append,Nat.mul_add,ih]
   simp only[List.map_cons,List.map_nil,List.sum_cons,List.sum_nil,Nat.add_zero]
   rw[←Nat.add_mul,Nat.mul_comm]
theorem shuffled {q q0:List El} {k:Nat} (h0:q0.map El.e=(List.range k).map fun t=>enA 1 ((t+1:Nat):Int) 1 (t+1) 0 0) (hp:q.Perm q0):∃ L:List Nat,q.map El.e=L.map (fun (i:Nat)=>enA 1 (i:Int) 1 i 0 0)∧L.Nodup∧(∀ n∈L,1≤n∧n≤k)∧(∀ n,1≤n→n≤k→n∈L)∧L.length=k∧2*L.sum=k*(k+1):=by
 have hp1:(q.map fun x=>x.e.sq.toNat).Perm ((List.range k).map (·+1)):=by
  have h1:=(hp.map El.e).map fun e=>e.sq.toNat
  rw[h0] at h1
  simp only[List.map_map] at h1
  refine (List.Perm.of_eq ?_).trans (h1.trans (List.Perm.of_eq ?_))
  ·rfl
  ·exact List.map_congr_left fun t _=>by simp[enA]
 refine⟨q.map fun x=>x.e.sq.toNat,?_,hp1.nodup_iff.2 ?_,fun n hn=>?_,fun n h1 h2=>?_,?_,?_⟩
 ·rw[List.map_map]
  refine List.map_congr_left fun x hx=>?_
  have h1:x.e∈q0.map El.e:=List.mem_map.2 ⟨x,hp.mem_iff.1 hx,rfl⟩
  rw[h0] at h1
  obtain⟨t,_,ht⟩:=List.mem_map.1 h1
  show x.e=enA 1 ((x.e.sq.toNat:Nat):Int) 1 (x.e.sq.toNat) 0 0
  rw[←ht]
  rfl
 ·exact List.Pairwise.map _ (fun a b h=>by omega) List.nodup_range
 ·obtain⟨t,ht,rfl⟩:=List.mem_map.1 (hp1.mem_iff.1 hn)
  have:=List.mem_range.1 ht
  omega
 ·exact hp1.mem_iff.2 (List.mem_map.2 ⟨n-1,List.mem_range.2 (by omega),by omega⟩)
 ·rw[hp1.length_eq,List.length_map,List.length_range]
 ·rw[hp1.sum_nat]
  exact sum_range k
set_option maxHeartbeats 8000000 in
theorem topGaps_1 (w:World) (A0:Option Addr) (no co:Nat) (lo:List Int) (hr:Reads w w.heap.size 1 A0 no (lo.map (Value.int .i64))) (hl:∀ z∈lo,-9223372036854775808≤z∧z≤9223372036854775807) (hco:no≤co∧co≤maxLen) (n0:Int) (hn0:-9223372036854775808≤n0∧n0≤9223372036854775807) :
 Calls Tryz.prog 4 #[.slice A0 no co,.int .i64 n0] w fun e w'=>e=.returned (.bool true)∧Grow w w':=by
 have k11:∀ (vs:Array Value) (w:World),(callFunc 11 vs).run Tryz.prog w=.ok (.enter 11 vs) w:=fun vs w=>by go_simp
 have hWn:=within_any w n0 0 30 hn0 (by omega) (by omega) (by omega)
 go_enter Tryz.func4,Tryz.ntmps4
 go_wp2_with fail
 refine hWn.mono ?_
 rintro e w1 ⟨m1,hm0,hm9,rfl,rfl⟩
 obtain⟨k,hk⟩:∃ k:Nat,1+m1=(k:Int):=⟨(1+m1).toNat,by omega⟩
 have hk1:1≤k:=by omega
 have hk31:k≤31:=by omega
 have hw1:IntKind.i64.wrap (1+m1)=(k:Int):=by rw[IntKind.wrap_i64];omega
 have hw2:wrap64 (1+m1)=(k:Int):=by unfold wrap64;omega
 clear hk hm0 hm9
 go_wp2_with fail
 clear hw1 hw2
 go_loopw [6,7] (fun s i wr=>∃ (j:Nat) (q:List El),1≤j∧j≤k+1∧i=.int .i64 (j:Int)∧q.length=j-1∧Acc 32 9 El.cells ElIn w s q wr∧q.map El.e=(List.range (j-1)).map fun t=>enA 1 ((t+1:Nat):Int) 1 (t+1) 0 0) (fun _ i _=>k+1-(intOf i).toNat)
 case atStart=>exact⟨1,[],by omega,by omega,rfl,rfl,Acc.nil w,rfl⟩
 case round=>
  obtain⟨i,q,hi1,hik,rfl,hql,hA,hqm⟩:=hrel
  have hg:=hA.base
  obtain⟨A1,c1,hsl⟩:=hA.slice
  rw[hql] at hsl
  subst hsl
  by_cases hlt:i≤k
  ·have d1:decide ((i:Int)≤(k:Int))=true:=decide_eq_true (by omega)
   have hw3:IntKind.u64.wrap (i:Int)=(i:Int):=by rw[IntKind.wrap_u64];omega
   have hga:=grow_alloc wr (.cells #[.string tA1,.int .u64 (i:Int)] 29)
   have hBd:=Blk.made wr 29 #[.string tA1,.int .u64 (i:Int)]
   have hdi:DIn (wr.alloc (.cells #[.string tA1,.int .u64 (i:Int)] 29)) (New wr (wr.alloc (.cells #[.string tA1,.int .u64 (i:Int)] 29))) (some ⟨wr.heap.size,0,none⟩) 1 [(tA1,i)]:=(hBd.in_ (size:=2) (n:=1) rfl).mono fun b hb=>by
    have hb:b=wr.heap.size:=hb
    exact⟨by omega,by simp;omega⟩
   go_wp2_with (at_builtin;refine stay ?_)
   refine stay_out ?_
   refine wpList_acc entryE el_just el_mono el_len el_one (by rfl) (.tmp 25) (.tmp 33) (by rfl) hA hga ⟨enA 1 ((i:Nat):Int) 1 (i) 0 0,some ⟨wr.heap.size,0,none⟩,1⟩ ⟨hdi,Nat.le_refl _,by unfold maxLen;show 1≤_;omega,by show 1≤_;omega⟩ (by omega) (by rfl) (c:=1) (by show Value.slice (some ⟨wr.heap.size+1,0,none⟩) 1 1=.slice (some ⟨(wr.alloc (.cells #[.string tA1,.int .u64 (i:Int)] 29)).heap.size,0,none⟩) 1 1;simp) ?_
   intro v2 w2 hA2
   go_wp2_with fail
   go_roundw
   case rel=>exact⟨i+1,q++[⟨enA 1 ((i:Nat):Int) 1 (i) 0 0,some ⟨wr.heap.size,0,none⟩,1⟩],by omega,by omega,by go_num,by rw[List.length_append,hql];simp;omega,hA2,by
    have e2:i-1+1=i:=by omega
    rw[List.map_append,hqm,show i+1-1=(i-1)+1 by omega,List.range_succ,List.map_append]
    simp only[List.map_cons,List.map_nil]
    rw[e2]⟩
   case measure=>simp[intOf];omega
  ·obtain rfl:i=k+1:=by omega
   obtain⟨R,D,hO,hG,hRD,hDn,hg⟩:=hA
   rw[Nat.add_sub_cancel] at hql hqm hO
   obtain⟨g,cg,hsl,hE⟩:∃ g c,Value.slice A1 k c1=.slice (some ⟨g,0,none⟩) k c∧els wr R g k c q:=by
    have hO':=hO
    rcases hO.2 with ⟨_,h0⟩|⟨g,cap,cur,e,_⟩
    ·omega
    ·rw[hql] at e
     refine⟨g,cap,e,?_⟩
     unfold els
     rw[hql] at hO' ⊢
     rw[←e]
     exact hO'
   injection hsl with e1 _ e3
   subst e1 e3
   have d1:decide (((k+1:Nat):Int)≤(k:Int))=false:=decide_eq_false (by omega)
   have hws:=hg.size
   clear hO
   go_wp2_with fail
   clear d1
   obtain⟨wb,rfl⟩:∃ wb:World,wb=wr:=⟨wr,rfl⟩
   go_loopw [8] (fun x wr=>∃ (t:Nat) (q':List El),t≤no∧t≤40∧x=.int .i64 (t:Int)∧q'.Perm q∧els wr R g k c1 q'∧Just R wb wr) (fun x _=>40-(intOf x).toNat)
   case atStart=>exact⟨0,q,by omega,by omega,rfl,List.Perm.refl _,hE,Just.of_grow (Grow.refl _)⟩
   case round=>
    clear hE
    obtain⟨t,q',htn,ht40,rfl,hp,hE,hJ⟩:=hrel
    have hgr:Grow w wr:=Below.trans hg (hJ.below (B:=w.heap.size) (fun b hb=>(hRD b hb).1.1) hws)
    have hql':q'.length=k:=by rw[hp.length_eq,hql]
    by_cases hlt:t<no∧t<40
    ·obtain⟨hl1,hl2⟩:=hlt
     obtain⟨ad,u,rfl,hb0,hu,hcl⟩:=(hr.below hgr).at_ hl1
     obtain⟨z,hzl,rfl⟩:∃ z∈lo,u=.int .i64 z:=by
      rw[List.getElem?_map] at hu
      cases hq:lo[t]? with
      | none=>rw[hq] at hu;cases hu
      | some z=>rw[hq] at hu;cases hu;exact⟨z,List.mem_of_getElem? hq,rfl⟩
     have hz:=hl z hzl
     have hadb:(ad.add t).block<wr.heap.size:=by rw[block_add];have h9:=hgr.size;omega
     have d1:decide ((t:Int)<(no:Int))=true:=decide_eq_true (by omega)
     have d2:decide ((t:Int)<40)=true:=decide_eq_true (by omega)
     obtain⟨i,Hi⟩:∃ i:Nat,Hid (i=t % k):=⟨_,rfl⟩
     have hik:i<k:=by rw[Hi.out];exact Nat.mod_lt _ (by omega)
     have htm:Int.tmod (t:Int) (k:Int)=(i:Int):=by rw[Hi.out];exact (Int.ofNat_tmod t k).symm
     obtain⟨kp,Hkp⟩:∃ kp:Nat,Hid (kp=k-1):=⟨_,rfl⟩
     have hkp1:IntKind.i64.wrap ((k:Int)-1)=(kp:Int):=by rw[IntKind.wrap_i64,Hkp.out];omega
     have hkp2:wrap64 ((k:Int)-1)=(kp:Int):=by unfold wrap64;rw[Hkp.out];omega
     have hk0:decide ((k:Int)=0)=false:=decide_eq_false (by omega)
     have hiw1:IntKind.i64.wrap (i:Int)=(i:Int):=by rw[IntKind.wrap_i64];omega
     have hiw2:wrap64 (i:Int)=(i:Int):=by unfold wrap64;omega
     have hwb:=fun w1=>within_bel w1 k z hz hk1 (by omega)
     rw[←Hkp.out] at hwb
     go_wp2_with fail
     clear d1 d2
     refine wp_region_flow 12 121 [(9,.inr (fun _=>IsBel k))] rfl rfl (by kernel_rfl) (by kernel_rfl) (by kernel_rfl) ?_ ?_
     ·intro x hx φ he
      simp only[List.mem_cons,List.not_mem_nil,or_false] at hx
      rcases hx with rfl<;>cases he
      all_goals first|exact lasts_quiet (lasting_bytes _)|exact lasts_quiet (isBel_lasting _)
     intro ops' A' K' T hops hA' hK hT
     refine fl_mvN 45 (.int .i64 (t:Int)) ?_
     refine fl_mvN 46 (.int .i64 (k:Int)) ?_
     refine fl_op2N 47 (.tmp 45) (.tmp 46) (.int .i64 (t:Int)) (.int .i64 (k:Int)) (.int .i64 (i:Int)) (fun ρ h1 h2 kk w2 (hg2:Grow _ w2) hb hf=>by clear hkp1 hkp2 hwb hcl;go_simp;omega) ?_
     refine fl_mvN 48 (.slice (some ad) no co) ?_
     refine fl_mvN 49 (.int .i64 (t:Int)) ?_
     refine fl_op2N 50 (.tmp 48) (.tmp 49) (.slice (some ad) no co) (.int .i64 (t:Int)) (.pointer (some (ad.add t))) (fun ρ h1 h2 kk w2 (hg2:Grow _ w2) hb hf=>by clear hkp1 hkp2 htm hwb hcl;go_simp;try (intro hlt;omega)) ?_
     refine fl_op1N 51 (.tmp 50) (.pointer (some (ad.add t))) (.int .i64 z) (fun ρ h1 kk w2 (hg2:Grow _ w2) hb hf=>by have c:=(hg2.cell (p:=ad.add t) hadb).trans hcl;clear hkp1 hkp2 htm hwb hcl;go_simp) ?_
     refine fl_mvN 52 (.int .i64 (k:Int)) ?_
     refine fl_op2N 53 (.tmp 52) (.const (.int .i64 1)) (.int .i64 (k:Int)) (.int .i64 1) (.int .i64 (kp:Int)) (fun ρ h1 h2 kk w2 (hg2:Grow _ w2) hb hf=>by clear htm hwb hcl;go_simp) ?_
     refine fl_callAny 54 (by rfl) (by decide) (wanted_none (by rfl)) (fun _=>IsBel k) (by rw[hK.out];rfl) 11 _ _ (by rfl) [.int .i64 z,.int .i64 0,.int .i64 (kp:Int)] (by rfl) k11 (fun kk w2 (hg2:Grow _ w2) hb hf=>calls_behindAny (φ:=fun _=>IsBel k) (by rfl) (by exact hwb w2)) (fun v54=>?_)
     refine fl_mvN 9 (.int .i64 (i:Int)) ?_
     refine fl_mvN 10 (v54) ?_
     refine fl_end (fun _ _ w2 (hg2:Grow _ w2) _ hfacts=>hT _ _ ?_)
     clear hops hA' hK hT
     simp only[putsL,Act.put,List.setIfInBounds_toArray,List.set_cons_zero,List.set_cons_succ,List.drop_succ_cons,List.drop_zero]
     obtain⟨j,hj,rfl⟩:IsBel k v54 w2:=hfacts.1
     clear hfacts hkp1 hkp2 hwb htm hk0 hiw1 hiw2 hcl
     have hE2:=els_grow hE hg2
     obtain⟨ea,hea⟩:∃ e,q'[i]?=some e:=⟨_,List.getElem?_eq_getElem (by omega)⟩
     obtain⟨eb,heb⟩:∃ e,q'[j]?=some e:=⟨_,List.getElem?_eq_getElem (by omega)⟩
     have hpm:((q'.set i eb).set j ea).Perm q':=by
      obtain⟨h1,rfl⟩:=List.getElem?_eq_some_iff.1 hea
      obtain⟨h2,rfl⟩:=List.getElem?_eq_some_iff.1 heb
      exact List.set_set_perm h1 h2
     go_wp2_with fail
     refine wp_region_reg rfl ?_
     refine reg_flow (SwE R g k c1 q' ea eb i j) swE_ok 0 16 121 [(13,.inl (undef)),(15,.inl (undef))] rfl (by kernel_rfl) (by kernel_rfl) (by kernel_rfl) ?_ (Just.of_grow (Grow.refl _).drew) hE2 ?_
     ·intro x hx φ he
      simp only[List.mem_cons,List.not_mem_nil,or_false] at hx
      rcases hx with rfl|rfl<;>cases he
     intro ops' A' K' T hops hA' hK hT
     refine fl_mvN 55 (.slice (some ⟨g,0,none⟩) k c1) ?_
     refine fl_mvN 56 (.int .i64 (i:Int)) ?_
     refine fl_mvN 57 (.slice (some ⟨g,0,none⟩) k c1) ?_
     refine fl_mvN 58 (.int .i64 (j:Int)) ?_
     refine fl_mvN 59 (.slice (some ⟨g,0,none⟩) k c1) ?_
     refine fl_mvN 60 (.int .i64 (j:Int)) ?_
     refine fl_op2N 61 (.tmp 59) (.tmp 60) (.slice (some ⟨g,0,none⟩) k c1) (.int .i64 (j:Int)) (.pointer (some ⟨g,j*9,none⟩)) (fun ρ h1 h2 kk w3 (hg3:Just R _ w3) hb hf=>by go_simp;try (intro hlt;omega)) ?_
     refine fl_op1N 62 (.tmp 61) (.pointer (some ⟨g,j*9,none⟩)) (.agg (El.cells eb).toArray) (fun ρ h1 kk w3 (hg3:Just R _ w3) hb hf=>by obtain rfl:=before_some 0 (by rfl) hb;have hI:=hb.1;have hI:els _ R g k c1 q':=hI;exact els_load' hI heb h1 rfl) ?_
     refine fl_mvN 63 (.slice (some ⟨g,0,none⟩) k c1) ?_
     refine fl_mvN 64 (.int .i64 (i:Int)) ?_
     refine fl_op2N 65 (.tmp 63) (.tmp 64) (.slice (some ⟨g,0,none⟩) k c1) (.int .i64 (i:Int)) (.pointer (some ⟨g,i*9,none⟩)) (fun ρ h1 h2 kk w3 (hg3:Just R _ w3) hb hf=>by go_simp;try (intro hlt;omega)) ?_
     refine fl_op1N 66 (.tmp 65) (.pointer (some ⟨g,i*9,none⟩)) (.agg (El.cells ea).toArray) (fun ρ h1 kk w3 (hg3:Just R _ w3) hb hf=>by obtain rfl:=before_some 0 (by rfl) hb;have hI:=hb.1;have hI:els _ R g k c1 q':=hI;exact els_load' hI hea h1 rfl) ?_
     refine fl_op2N 67 (.tmp 55) (.tmp 56) (.slice (some ⟨g,0,none⟩) k c1) (.int .i64 (i:Int)) (.pointer (some ⟨g,i*9,none⟩)) (fun ρ h1 h2 kk w3 (hg3:Just R _ w3) hb hf=>by go_simp;try (intro hlt;omega)) ?_
     refine fl_do2 (by rfl) (wanted_none (by rfl)) (undef) (by rw[hK.out];rfl) (.tmp 67) (.tmp 62) (.pointer (some ⟨g,i*9,none⟩)) (.agg (El.cells eb).toArray) (by rfl) (by rfl) (fun ρ h1 h2 kk w3 (hg3:Just R _ w3) hb hf=>by obtain rfl:=before_some 0 (by rfl) hb;have hI:=hb.1;refine upon_turn 0 (by rfl) ?_;have hI:els _ R g k c1 q':=hI;exact els_store hI (by omega) h1 h2 rfl) ?_
     refine fl_op2N 68 (.tmp 57) (.tmp 58) (.slice (some ⟨g,0,none⟩) k c1) (.int .i64 (j:Int)) (.pointer (some ⟨g,j*9,none⟩)) (fun ρ h1 h2 kk w3 (hg3:Just R _ w3) hb hf=>by go_simp;try (intro hlt;omega)) ?_
     refine fl_do2 (by rfl) (wanted_none (by rfl)) (undef) (by rw[hK.out];rfl) (.tmp 68) (.tmp 66) (.pointer (some ⟨g,j*9,none⟩)) (.agg (El.cells ea).toArray) (by rfl) (by rfl) (fun ρ h1 h2 kk w3 (hg3:Just R _ w3) hb hf=>by obtain rfl:=before_some 1 (by rfl) hb;have hI:=hb.1;refine upon_turn 1 (by rfl) ?_;have hI:els _ R g k c1 (q'.set i eb):=hI;exact els_store hI (by rw[List.length_set];omega) h1 h2 rfl) ?_
     refine fl_end (fun _ _ w3 (hg3:Just R _ w3) hend hfacts=>hT _ _ ?_)
     clear hops hA' hK hT
     simp only[putsL,Act.put,List.setIfInBounds_toArray,List.set_cons_zero,List.set_cons_succ]
     refine reg_end ?_
     have hE3:els w3 R g k c1 ((q'.set i eb).set j ea):=hend
     have J3:=(hJ.trans (Just.of_grow hg2)).trans hg3
     clear hfacts hend
     go_wp2_with fail
     go_roundw
     case rel=>exact⟨t+1,_,by omega,by omega,by go_num,hpm.trans hp,hE3,J3⟩
     case measure=>simp[intOf];omega
    ·have hc:(¬ t<no∧decide ((t:Int)<(no:Int))=false)∨(t<no∧¬ t<40∧decide ((t:Int)<(no:Int))=true∧decide ((t:Int)<40)=false):=by
      by_cases h1:t<no
      ·exact .inr ⟨h1,by omega,decide_eq_true (by omega),decide_eq_false (by omega)⟩
      ·exact .inl ⟨h1,decide_eq_false (by omega)⟩
     obtain⟨L,hqL,hnd,hLk,hall,hLl,hsum⟩:=shuffled hqm hp
     have hEns:Ens wr (New w wr) (some ⟨g,0,none⟩) q':=by
      obtain⟨A9,c9,e9,hI9,_,_⟩:=Own.in_ hE
      injection e9 with e9 _ _
      subst e9
      refine⟨?_,fun x hx=>?_⟩
      ·have:=hI9.mono (V':=New w wr) fun b hb=>⟨(hRD b hb).1.1,Nat.lt_of_lt_of_le (hRD b hb).1.2 hJ.size⟩
       exact this
      ·exact el_mono _ _ _ _ (el_just _ _ _ _ _ (hG x (hp.mem_iff.1 hx)) hJ fun b hb hr=>(hRD b hr).2 hb) fun b hb=>⟨(hDn b hb).1,Nat.lt_of_lt_of_le (hDn b hb).2 hJ.size⟩
     obtain⟨wc,rfl⟩:∃ wc:World,wc=wr:=⟨wr,rfl⟩
     have hNw:=maNew_any wc
     clear hJ hE hG hRD hDn hp hqm hg hws hr
     obtain⟨A9,HA9⟩:∃ A9:Option Addr,Hid (A9=some ⟨g,0,none⟩):=⟨_,rfl⟩
     rw[←HA9.out] at hEns ⊢
     rcases hc with ⟨h1,d1⟩|⟨h1,h2,d1,d2⟩
     ·go_wp2_with fail
      clear d1
      refine hNw.mono ?_
      rintro e w4 ⟨m,rfl,hM4,hg4⟩
      have hS4:Solo (fun b=>wc.heap.size≤b) (Many [GapT m k []]) w4:=⟨fun b hb=>Nat.le_trans hg4.size hb,New wc w4,⟨New wc w4,fun _=>False,.inl ⟨rfl,hM4⟩,trivial,fun _ h=>h,fun _ h=>h.elim,fun _ _ h=>h⟩,fun b hb=>⟨hb.1,hb.2⟩⟩
      have J4:Just (fun b=>wc.heap.size≤b) wc w4:=Just.of_grow hg4
      go_wp2_with fail
      go_loopw [74] (fun x wr=>∃ j:Nat,j≤k∧x=.int .i64 (j:Int)∧Solo (fun b=>wc.heap.size≤b) (Many [GapT m k (L.take j)]) wr∧Just (fun b=>wc.heap.size≤b) wc wr) (fun x _=>k-(intOf x).toNat)
      case atStart=>exact⟨0,by omega,rfl,by rw[List.take_zero];exact hS4,J4⟩
      case round=>
       clear hS4 J4 hM4 hg4
       obtain⟨j,hjk,rfl,hS,hJ⟩:=hrel
       have hgc:Grow wc wr:=hJ.below (fun b hb=>hb) (Nat.le_refl _)
       have hF:AllFramed [GapT m k (L.take j)]:=AllFramed.nil.cons (GapT.framed _ _ _)
       by_cases hj':j<k
       ·have hj:j<q'.length:=by omega
        have hEr:=hEns.grow hgc
        obtain⟨ad,hkq,rfl,hVb,hBb,e0,e1⟩:=hEr.1.rec_ (by omega) el_len hj
        have hbin:=hEr.2 q'[j] (List.getElem_mem hkq)
        have hbe:q'[j].e=enA 1 ((L[j]'(by omega):Nat):Int) 1 (L[j]'(by omega)) 0 0:=by
         have h1:(q'.map El.e)[j]?=some q'[j].e:=by rw[List.getElem?_map,List.getElem?_eq_getElem hkq];rfl
         rw[hqL,List.getElem?_map,List.getElem?_eq_getElem (show j<L.length by omega)] at h1
         exact (Option.some.inj h1).symm
        have hiL:L[j]'(by omega)∈L:=List.getElem_mem _
        have hsn:L.take (j+1)=L.take j++[L[j]'(by omega)]:=List.take_succ_eq_append_getElem (by omega)
        have hni:L[j]'(by omega) ∉ L.take j:=fun hm=>by
         obtain⟨a,ha,e⟩:=List.mem_take_iff_getElem.1 hm
         exact List.pairwise_iff_getElem.1 hnd a j (by omega) (by omega) (by omega) e
        have HS:=Lib.hid hsn
        clear hsn
        generalize q'[j]=b at hbin e0 e1 hbe
        generalize L[j]'(by omega)=i at hbe hiL HS hni
        obtain⟨be,Ab,cb⟩:=b
        dsimp only at hbe
        subst hbe
        obtain⟨hi1,hik⟩:=hLk i hiL
        have hd0:DIn wr (New w wc) Ab 1 [(tA1,i)]:=hbin.1
        have e2:=e1 1 (.int .i64 0) rfl
        have e3:=e1 2 (.int .i64 (i:Int)) rfl
        have e4:=e1 3 (.int .i64 1) rfl
        have e5:=e1 4 (.slice Ab 1 cb) rfl
        have e6:=e1 5 (.string ⟨#[]⟩) rfl
        have e7:=e1 6 (.int .i64 0) rfl
        have e8:=e1 7 (.int .i64 0) rfl
        have e1:=e1 0 (.int .i64 1) rfl
        have e0:=e0 (.int .i64 1) rfl
        clear hbin
        have hga:=grow_alloc wr (.cells #[.int .i64 1,.int .i64 1,.int .i64 0,.int .i64 (i:Int),.int .i64 1,.slice Ab 1 cb,.string ⟨#[]⟩,.int .i64 0,.int .i64 0] 32)
        have hBy:=Blk.made wr 32 #[.int .i64 1,.int .i64 1,.int .i64 0,.int .i64 (i:Int),.int .i64 1,.slice Ab 1 cb,.string ⟨#[]⟩,.int .i64 0,.int .i64 0]
        obtain⟨y,HY⟩:∃ y:Nat,Hid (y=wr.heap.size):=⟨_,rfl⟩
        obtain⟨wa,HA_⟩:∃ wa:World,Hid (wa=wr.alloc (.cells #[.int .i64 1,.int .i64 1,.int .i64 0,.int .i64 (i:Int),.int .i64 1,.slice Ab 1 cb,.string ⟨#[]⟩,.int .i64 0,.int .i64 0] 32)):=⟨_,rfl⟩
        rw[←HA_.out] at hga hBy
        rw[←HY.out] at hBy
        have hSa:=hS.join hF hga (R:=Cell y 32 #[.int .i64 1,.int .i64 1,.int .i64 0,.int .i64 (i:Int),.int .i64 1,.slice Ab 1 cb,.string ⟨#[]⟩,.int .i64 0,.int .i64 0]) (U:=fun b=>b=y) ⟨rfl,hBy⟩ (fun b hb=>by have:=HY.out;have:=hBy.lt;omega)
        have hFa:=hF.cons (Cell.framed y 32 #[.int .i64 1,.int .i64 1,.int .i64 0,.int .i64 (i:Int),.int .i64 1,.slice Ab 1 cb,.string ⟨#[]⟩,.int .i64 0,.int .i64 0])
        have Ja:=hJ.trans (Just.of_grow (V:=fun b=>wc.heap.size≤b) hga)
        have hda:=In.grow hd0 hga
        have hAp:=Solo.atV 1 rfl hFa hSa (fun U hU hUl hUP=>gap_step wa m k i (L.take j) hk31 hi1 hik (fun n hn=>hLk n (List.mem_of_mem_take hn)) (by rw[List.length_take];omega) hni Ab cb (New w wc) U hUl hda (fun b hb=>Nat.lt_of_lt_of_le hb.2 Ja.size) (fun b hb hu=>by have:=hb.2;have:=hUP b hu;omega) hU)
        have hya:=hSa.blk 0 rfl
        go_wp2_with fail
        rw[←HA_.out,←HY.out]
        clear e0 e1 e2 e3 e4 e5 e6 e7 e8 hBy
        go_wp2_with (refine wpList_load_blk rfl 32 _ rfl _ rfl (hya) Tryz.underlying32 (by kernel_rfl) ?_)
        refine hAp.mono ?_
        rintro e w2 ⟨rfl,hj2,hS2⟩
        have hS2:Solo (fun b=>wc.heap.size≤b) (Many [Cell y 32 #[.int .i64 1,.int .i64 1,.int .i64 0,.int .i64 (i:Int),.int .i64 1,.slice Ab 1 cb,.string ⟨#[]⟩,.int .i64 0,.int .i64 0],GapT m k (L.take j++[i])]) w2:=hS2
        have J2:=Ja.trans hj2
        have hS3:=hS2.drop1
        rw[←HS.out] at hS3
        clear hS2 hSa hS
        go_wp2_with fail
        go_roundw
        case rel=>exact⟨j+1,by omega,by go_num,hS3,J2⟩
        case measure=>simp[intOf];omega
       ·obtain rfl:j=k:=by omega
        obtain⟨U,hG0,hUl⟩:=hS.see 0 rfl
        rw[List.take_of_length_le (by omega)] at hG0
        have hMf:=gap_full hG0 hk1 hall
        obtain⟨S,HS⟩:∃ S:Nat,Hid (S=L.sum):=⟨_,rfl⟩
        rw[←HS.out] at hMf hsum
        have hjj:j*(j+1)≤31*32:=Nat.mul_le_mul hk31 (by omega)
        have hjp:1*2≤j*(j+1):=Nat.mul_le_mul hk1 (by omega)
        have hsm:smA S=[(tA1,S)]:=if_neg (by omega)
        rw[hsm] at hMf
        have hSu:=maSums_any wr m [(tA1,S)] _ _ _ _ U hMf (by simp)
        have hSu:Calls Tryz.prog 16 #[.pointer (some ⟨m,0,none⟩)] wr fun e w'=>∃ A,e=.returned (.slice A 1 1)∧DIn w' (New wr w') A 1 [(tA1,S)]∧Grow wr w':=hSu
        clear hsm hall hS
        go_wp2_with fail
        refine hSu.mono ?_
        rintro e w6 ⟨As,rfl,hIs,hg6⟩
        have hFl:=maFloor_one w6 m [(tA1,S)] _ 1 0 (j:Int) 0 U (MachAt.framed _ _ _ _ wr w6 U hMf fun b hb=>hg6.block b (hUl b hb).2)
        clear hSu hMf
        go_wp2_with fail
        refine hFl.mono ?_
        rintro e w7 ⟨rfl,hg7⟩
        obtain⟨ad,hq,rfl,f0,f1⟩:=del_cells (In.grow hIs hg7) (k:=0) (by omega)
        have e1:w7.cell? ⟨ad.block,ad.off+1,none⟩=some (.int .u64 (S:Int)):=f1 w7 (Grow.refl _)
        clear f0 f1 hFl
        obtain⟨k1,HK1⟩:∃ k1:Nat,Hid (k1=j+1):=⟨_,rfl⟩
        obtain⟨pp,HPP⟩:∃ pp:Nat,Hid (pp=j*(j+1)):=⟨_,rfl⟩
        have a1:IntKind.i64.wrap ((j:Int)+1)=(k1:Int):=by rw[IntKind.wrap_i64,HK1.out];omega
        have a2:wrap64 ((j:Int)+1)=(k1:Int):=by unfold wrap64;rw[HK1.out];omega
        have a0:(j:Int)*(k1:Int)=(pp:Int):=by rw[HK1.out,HPP.out,Int.natCast_mul]
        have app:pp≤992:=by rw[HPP.out];omega
        have a3:IntKind.i64.wrap ((j:Int)*(k1:Int))=(pp:Int):=by rw[a0,IntKind.wrap_i64];omega
        have a4:wrap64 ((j:Int)*(k1:Int))=(pp:Int):=by rw[a0];unfold wrap64;omega
        have a5:Int.tdiv (pp:Int) 2=(S:Int):=by
         have h9:pp / 2=S:=by rw[HPP.out];omega
         rw[←h9]
         exact (Int.ofNat_tdiv pp 2).symm
        have a6:IntKind.u64.wrap (S:Int)=(S:Int):=by rw[IntKind.wrap_u64];omega
        have a7:IntKind.i64.wrap (S:Int)=(S:Int):=by rw[IntKind.wrap_i64];omega
        have a8:wrap64 (S:Int)=(S:Int):=by unfold wrap64;omega
        have hg67:=(hgc.trans hg6).trans hg7
        have hCo:=counted_gap w7 j hk31 L hnd hLk (by omega) q' hqL A9 c1 (New w wc) (hEns.grow hg67) (fun b hb=>Nat.lt_of_lt_of_le hb.2 hg67.size)
        have hql9:Hid (q'.length=j):=Lib.hid hql'
        rw[hql'] at hCo
        clear a0 app hjj hjp hsum hLl hql'
        go_wp2_with fail
        refine hCo.mono ?_
        rintro e w8 ⟨A2,rfl,hg8⟩
        have hAw:=awake_1 w8
        go_wp2_with fail
        refine hAw.mono ?_
        rintro e w9 ⟨rfl,hg9⟩
        go_wp2_with fail
        go_ret
        exact⟨rfl,hgr.trans (hg67.trans (hg8.trans hg9))⟩
     ·go_wp2_with fail
      clear d1
      refine hNw.mono ?_
      rintro e w4 ⟨m,rfl,hM4,hg4⟩
      have hS4:Solo (fun b=>wc.heap.size≤b) (Many [GapT m k []]) w4:=⟨fun b hb=>Nat.le_trans hg4.size hb,New wc w4,⟨New wc w4,fun _=>False,.inl ⟨rfl,hM4⟩,trivial,fun _ h=>h,fun _ h=>h.elim,fun _ _ h=>h⟩,fun b hb=>⟨hb.1,hb.2⟩⟩
      have J4:Just (fun b=>wc.heap.size≤b) wc w4:=Just.of_grow hg4
      go_wp2_with fail
      go_loopw [74] (fun x wr=>∃ j:Nat,j≤k∧x=.int .i64 (j:Int)∧Solo (fun b=>wc.heap.size≤b) (Many [GapT m k (L.take j)]) wr∧Just (fun b=>wc.heap.size≤b) wc wr) (fun x _=>k-(intOf x).toNat)
      case atStart=>exact⟨0,by omega,rfl,by rw[List.take_zero];exact hS4,J4⟩
      case round=>
       clear hS4 J4 hM4 hg4
       obtain⟨j,hjk,rfl,hS,hJ⟩:=hrel
       have hgc:Grow wc wr:=hJ.below (fun b hb=>hb) (Nat.le_refl _)
       have hF:AllFramed [GapT m k (L.take j)]:=AllFramed.nil.cons (GapT.framed _ _ _)
       by_cases hj':j<k
       ·have hj:j<q'.length:=by omega
        have hEr:=hEns.grow hgc
        obtain⟨ad,hkq,rfl,hVb,hBb,e0,e1⟩:=hEr.1.rec_ (by omega) el_len hj
        have hbin:=hEr.2 q'[j] (List.getElem_mem hkq)
        have hbe:q'[j].e=enA 1 ((L[j]'(by omega):Nat):Int) 1 (L[j]'(by omega)) 0 0:=by
         have h1:(q'.map El.e)[j]?=some q'[j].e:=by rw[List.getElem?_map,List.getElem?_eq_getElem hkq];rfl
         rw[hqL,List.getElem?_map,List.getElem?_eq_getElem (show j<L.length by omega)] at h1
         exact (Option.some.inj h1).symm
        have hiL:L[j]'(by omega)∈L:=List.getElem_mem _
        have hsn:L.take (j+1)=L.take j++[L[j]'(by omega)]:=List.take_succ_eq_append_getElem (by omega)
        have hni:L[j]'(by omega) ∉ L.take j:=fun hm=>by
         obtain⟨a,ha,e⟩:=List.mem_take_iff_getElem.1 hm
         exact List.pairwise_iff_getElem.1 hnd a j (by omega) (by omega) (by omega) e
        have HS:=Lib.hid hsn
        clear hsn
        generalize q'[j]=b at hbin e0 e1 hbe
        generalize L[j]'(by omega)=i at hbe hiL HS hni
        obtain⟨be,Ab,cb⟩:=b
        dsimp only at hbe
        subst hbe
        obtain⟨hi1,hik⟩:=hLk i hiL
        have hd0:DIn wr (New w wc) Ab 1 [(tA1,i)]:=hbin.1
        have e2:=e1 1 (.int .i64 0) rfl
        have e3:=e1 2 (.int .i64 (i:Int)) rfl
        have e4:=e1 3 (.int .i64 1) rfl
        have e5:=e1 4 (.slice Ab 1 cb) rfl
        have e6:=e1 5 (.string ⟨#[]⟩) rfl
        have e7:=e1 6 (.int .i64 0) rfl
        have e8:=e1 7 (.int .i64 0) rfl
        have e1:=e1 0 (.int .i64 1) rfl
        have e0:=e0 (.int .i64 1) rfl
        clear hbin
        have hga:=grow_alloc wr (.cells #[.int .i64 1,.int .i64 1,.int .i64 0,.int .i64 (i:Int),.int .i64 1,.slice Ab 1 cb,.string ⟨#[]⟩,.int .i64 0,.int .i64 0] 32)
        have hBy:=Blk.made wr 32 #[.int .i64 1,.int .i64 1,.int .i64 0,.int .i64 (i:Int),.int .i64 1,.slice Ab 1 cb,.string ⟨#[]⟩,.int .i64 0,.int .i64 0]
        obtain⟨y,HY⟩:∃ y:Nat,Hid (y=wr.heap.size):=⟨_,rfl⟩
        obtain⟨wa,HA_⟩:∃ wa:World,Hid (wa=wr.alloc (.cells #[.int .i64 1,.int .i64 1,.int .i64 0,.int .i64 (i:Int),.int .i64 1,.slice Ab 1 cb,.string ⟨#[]⟩,.int .i64 0,.int .i64 0] 32)):=⟨_,rfl⟩
        rw[←HA_.out] at hga hBy
        rw[←HY.out] at hBy
        have hSa:=hS.join hF hga (R:=Cell y 32 #[.int .i64 1,.int .i64 1,.int .i64 0,.int .i64 (i:Int),.int .i64 1,.slice Ab 1 cb,.string ⟨#[]⟩,.int .i64 0,.int .i64 0]) (U:=fun b=>b=y) ⟨rfl,hBy⟩ (fun b hb=>by have:=HY.out;have:=hBy.lt;omega)
        have hFa:=hF.cons (Cell.framed y 32 #[.int .i64 1,.int .i64 1,.int .i64 0,.int .i64 (i:Int),.int .i64 1,.slice Ab 1 cb,.string ⟨#[]⟩,.int .i64 0,.int .i64 0])
        have Ja:=hJ.trans (Just.of_grow (V:=fun b=>wc.heap.size≤b) hga)
        have hda:=In.grow hd0 hga
        have hAp:=Solo.atV 1 rfl hFa hSa (fun U hU hUl hUP=>gap_step wa m k i (L.take j) hk31 hi1 hik (fun n hn=>hLk n (List.mem_of_mem_take hn)) (by rw[List.length_take];omega) hni Ab cb (New w wc) U hUl hda (fun b hb=>Nat.lt_of_lt_of_le hb.2 Ja.size) (fun b hb hu=>by have:=hb.2;have:=hUP b hu;omega) hU)
        have hya:=hSa.blk 0 rfl
        go_wp2_with fail
        rw[←HA_.out,←HY.out]
        clear e0 e1 e2 e3 e4 e5 e6 e7 e8 hBy
        go_wp2_with (refine wpList_load_blk rfl 32 _ rfl _ rfl (hya) Tryz.underlying32 (by kernel_rfl) ?_)
        refine hAp.mono ?_
        rintro e w2 ⟨rfl,hj2,hS2⟩
        have hS2:Solo (fun b=>wc.heap.size≤b) (Many [Cell y 32 #[.int .i64 1,.int .i64 1,.int .i64 0,.int .i64 (i:Int),.int .i64 1,.slice Ab 1 cb,.string ⟨#[]⟩,.int .i64 0,.int .i64 0],GapT m k (L.take j++[i])]) w2:=hS2
        have J2:=Ja.trans hj2
        have hS3:=hS2.drop1
        rw[←HS.out] at hS3
        clear hS2 hSa hS
        go_wp2_with fail
        go_roundw
        case rel=>exact⟨j+1,by omega,by go_num,hS3,J2⟩
        case measure=>simp[intOf];omega
       ·obtain rfl:j=k:=by omega
        obtain⟨U,hG0,hUl⟩:=hS.see 0 rfl
        rw[List.take_of_length_le (by omega)] at hG0
        have hMf:=gap_full hG0 hk1 hall
        obtain⟨S,HS⟩:∃ S:Nat,Hid (S=L.sum):=⟨_,rfl⟩
        rw[←HS.out] at hMf hsum
        have hjj:j*(j+1)≤31*32:=Nat.mul_le_mul hk31 (by omega)
        have hjp:1*2≤j*(j+1):=Nat.mul_le_mul hk1 (by omega)
        have hsm:smA S=[(tA1,S)]:=if_neg (by omega)
        rw[hsm] at hMf
        have hSu:=maSums_any wr m [(tA1,S)] _ _ _ _ U hMf (by simp)
        have hSu:Calls Tryz.prog 16 #[.pointer (some ⟨m,0,none⟩)] wr fun e w'=>∃ A,e=.returned (.slice A 1 1)∧DIn w' (New wr w') A 1 [(tA1,S)]∧Grow wr w':=hSu
        clear hsm hall hS
        go_wp2_with fail
        refine hSu.mono ?_
        rintro e w6 ⟨As,rfl,hIs,hg6⟩
        have hFl:=maFloor_one w6 m [(tA1,S)] _ 1 0 (j:Int) 0 U (MachAt.framed _ _ _ _ wr w6 U hMf fun b hb=>hg6.block b (hUl b hb).2)
        clear hSu hMf
        go_wp2_with fail
        refine hFl.mono ?_
        rintro e w7 ⟨rfl,hg7⟩
        obtain⟨ad,hq,rfl,f0,f1⟩:=del_cells (In.grow hIs hg7) (k:=0) (by omega)
        have e1:w7.cell? ⟨ad.block,ad.off+1,none⟩=some (.int .u64 (S:Int)):=f1 w7 (Grow.refl _)
        clear f0 f1 hFl
        obtain⟨k1,HK1⟩:∃ k1:Nat,Hid (k1=j+1):=⟨_,rfl⟩
        obtain⟨pp,HPP⟩:∃ pp:Nat,Hid (pp=j*(j+1)):=⟨_,rfl⟩
        have a1:IntKind.i64.wrap ((j:Int)+1)=(k1:Int):=by rw[IntKind.wrap_i64,HK1.out];omega
        have a2:wrap64 ((j:Int)+1)=(k1:Int):=by unfold wrap64;rw[HK1.out];omega
        have a0:(j:Int)*(k1:Int)=(pp:Int):=by rw[HK1.out,HPP.out,Int.natCast_mul]
        have app:pp≤992:=by rw[HPP.out];omega
        have a3:IntKind.i64.wrap ((j:Int)*(k1:Int))=(pp:Int):=by rw[a0,IntKind.wrap_i64];omega
        have a4:wrap64 ((j:Int)*(k1:Int))=(pp:Int):=by rw[a0];unfold wrap64;omega
        have a5:Int.tdiv (pp:Int) 2=(S:Int):=by
         have h9:pp / 2=S:=by rw[HPP.out];omega
         rw[←h9]
         exact (Int.ofNat_tdiv pp 2).symm
        have a6:IntKind.u64.wrap (S:Int)=(S:Int):=by rw[IntKind.wrap_u64];omega
        have a7:IntKind.i64.wrap (S:Int)=(S:Int):=by rw[IntKind.wrap_i64];omega
        have a8:wrap64 (S:Int)=(S:Int):=by unfold wrap64;omega
        have hg67:=(hgc.trans hg6).trans hg7
        have hCo:=counted_gap w7 j hk31 L hnd hLk (by omega) q' hqL A9 c1 (New w wc) (hEns.grow hg67) (fun b hb=>Nat.lt_of_lt_of_le hb.2 hg67.size)
        have hql9:Hid (q'.length=j):=Lib.hid hql'
        rw[hql'] at hCo
        clear a0 app hjj hjp hsum hLl hql'
        go_wp2_with fail
        refine hCo.mono ?_
        rintro e w8 ⟨A2,rfl,hg8⟩
        have hAw:=awake_1 w8
        go_wp2_with fail
        refine hAw.mono ?_
        rintro e w9 ⟨rfl,hg9⟩
        go_wp2_with fail
        go_ret
        exact⟨rfl,hgr.trans (hg67.trans (hg8.trans hg9))⟩
end Go.Proofs.YtmijcbfgfkeodaaGreatDoor
end
section
namespace Go.Hop
open Go.ChangeShapes Go.WideShapes Go.ChangeAt Go.RowKit
section
variable {H:Type} {enc:TypeId×Value→H} {P:Program}
theorem trodAll_below (hl:laidOutB P=true) {W W':World} (hb:Below W.heap.size W W'):∀ (ts:List TypeId) (vs:List Value) (ds:List (DataW H)) (ps:List MemPlace),
 (∀ t∈ts,P.readableRec t=true∧t<P.types.size)→DataW.TrodAll enc P W 0 (fun _=>true) true ts vs ds ps→(∀ x∈ps,x.block<W.heap.size)→
 DataW.TrodAll enc P W' 0 (fun b=>decide (b<W.heap.size)) true ts vs ds ps
 | [],vs,ds,ps,_,h,_=>by
   obtain⟨rfl,rfl,rfl⟩:=trodAll_nil h
   exact trodAll_mk0
 | t :: ts,vs,ds,ps,hr,h,hlt=>by
   obtain⟨v0,vs0,d0,ds0,p0,q0,rfl,rfl,rfl,h0,r0⟩:=trodAll_cons h
   obtain⟨h1,h2⟩:=hr t (by simp)
   exact⟨p0,q0,Below.trod hl h1 h2 h0 hb (fun x hx=>hlt x (by simp[hx])),trodAll_below hl hb ts vs0 ds0 q0 (fun u hu=>hr u (by simp[hu])) r0 (fun x hx=>hlt x (by simp[hx])),rfl⟩
theorem law_post {f:Func} {s:ChangeSpec} {tb:TypeId} (hl:laidOutB P=true) (htb:P.underlying tb=some .bool) (hres:f.resultTypes=#[tb]) (hvars:s.vars=[])
 (hr0:(f.params.toList.all fun t=>P.readableRec t && decide (t<P.types.size))=true) {W W':World} {args:Array Value} {ds gs:List (DataW H)} {before:List MemPlace}
 (hW:DataW.Whole enc P f.params.toList s.vars false W args.toList ds gs before) (hspec:s.fn H ds={ results:=[.lit (.bool true)],args:=ds }) (hb:Below W.heap.size W W') :
 s.post enc P f false true false false W args (.bool true) W':=by
 have hW':=hW
 have hr:∀ t∈f.params.toList,P.readableRec t=true∧t<P.types.size:=by
  intro t ht
  simpa using List.all_eq_true.1 hr0 t ht
 have hlt:∀ p∈before,p.block<W.heap.size:=fun p hp=>hW'.lt p hp
 obtain⟨p,q,hA,hV,rfl,hfz,hnd⟩:=hW
 rw[hvars] at hV
 obtain⟨rfl,rfl⟩:=trodVars_none hV
 refine⟨ds,[],p++[],[],p,[],hW',?_,?_,?_,World.keptBut_mono (fun x hx=>⟨hx,?_⟩) (hb.frame (·∈p++[])),fun h=>by cases h⟩
 ·rw[List.append_nil,hspec,hres]
  exact trodAll_mk1 (shut_bool htb true)
 ·rw[List.append_nil,hspec]
  exact trodAll_below hl hb _ _ _ _ hr hA (fun x hx=>hlt x (by simp[hx]))
 ·rw[List.append_nil,hspec,hvars]
  rfl
 ·exact Or.inr (Or.inl (by simpa using hx))
theorem u8_of_wf {z:Int} (h:(Lit.int .u8 z).wf=true):((UInt8.ofNat z.toNat).toNat:Int)=z:=by
 have hx:0≤z∧z≤255:=by simpa [Lit.wf,IntKind.min,IntKind.max,IntKind.signed,IntKind.bits] using h
 rw[UInt8.toNat_ofNat']
 omega
theorem open_bytes {t e:TypeId} (ht:P.underlying t=some (.slice e)) (he:P.underlying e=some (.int .u8)) (hc:P.cellsOf e=1) {w:World} {v:Value} {d:DataW H} {p:List MemPlace} {r:Reach} {b0:Nat}
 (hv:Value.okWide P w r b0 t v) (h:DataW.Trod enc P w 0 (fun _=>true) true t v d p) :
 ∃ (A:Option Addr) (n cap:Nat) (l:List UInt8),v=.slice A n cap∧Bytes w w.heap.size A n l∧n≤cap∧cap≤maxLen∧
   ((d=.nil∧n=0)∨∃ zs:List Int,d=.slice (lits .u8 (zs.take n)) (lits .u8 (zs.drop n))∧zs.length=cap):=by
 obtain⟨A,n,cap,rfl⟩:=okWide_slice ht hv
 obtain⟨fuel,hf⟩:=h
 rcases open_ints ht he hc hf with ⟨hcs,hx⟩|⟨a,len',cap',zs,hcs,_,hl,hm,hz,hx,hcell,hwz⟩
 ·simp only[Value.cells,List.cons.injEq,Value.slice.injEq,and_true] at hcs
  simp only[Prod.mk.injEq] at hx
  obtain⟨rfl,rfl,rfl⟩:=hcs
  exact⟨none,0,0,[],rfl,Reads.nil,Nat.le_refl _,Nat.zero_le _,.inl ⟨hx.1,rfl⟩⟩
 ·simp only[Value.cells,List.cons.injEq,Value.slice.injEq,and_true] at hcs
  simp only[Prod.mk.injEq] at hx
  obtain⟨rfl,rfl,rfl⟩:=hcs
  simp only[if_true] at hz
  refine⟨_,_,_,(zs.take n).map (fun z=>UInt8.ofNat z.toNat),rfl,⟨by simp;omega,fun hn=>⟨a,rfl,?_,fun j u hu=>?_⟩⟩,hl,hm,.inr ⟨zs,hx.1,hz⟩⟩
  ·have:=World.block_lt_of_cell? w (a.add 0) (hcell 0 (by omega))
   rwa [block_add] at this
  ·obtain⟨hj,rfl⟩:=u8s_get hu
   simp only[List.length_map,List.length_take] at hj
   rw[hcell j (by omega)]
   simp only[List.getElem_map,List.getElem_take]
   rw[u8_of_wf (hwz _ (List.getElem_mem _))]
   simp[List.getD,show j<zs.length by omega]
theorem open_nums {t e:TypeId} {k:IntKind} (ht:P.underlying t=some (.slice e)) (he:P.underlying e=some (.int k)) (hc:P.cellsOf e=1) {w:World} {v:Value} {d:DataW H} {p:List MemPlace} {r:Reach} {b0:Nat}
 (hv:Value.okWide P w r b0 t v) (h:DataW.Trod enc P w 0 (fun _=>true) true t v d p) :
 ∃ (A:Option Addr) (n cap:Nat) (l:List Int),v=.slice A n cap∧Reads w w.heap.size 1 A n (l.map (Value.int k))∧(∀ z∈l,(Lit.int k z).wf=true)∧n≤cap∧cap≤maxLen∧
   ((d=.nil∧n=0)∨∃ zs:List Int,d=.slice (lits k (zs.take n)) (lits k (zs.drop n))∧zs.length=cap):=by
 obtain⟨A,n,cap,rfl⟩:=okWide_slice ht hv
 obtain⟨fuel,hf⟩:=h
 rcases open_ints ht he hc hf with ⟨hcs,hx⟩|⟨a,len',cap',zs,hcs,_,hl,hm,hz,hx,hcell,hwz⟩
 ·simp only[Value.cells,List.cons.injEq,Value.slice.injEq,and_true] at hcs
  simp only[Prod.mk.injEq] at hx
  obtain⟨rfl,rfl,rfl⟩:=hcs
  exact⟨none,0,0,[],rfl,Reads.nil,by simp,Nat.le_refl _,Nat.zero_le _,.inl ⟨hx.1,rfl⟩⟩
 ·simp only[Value.cells,List.cons.injEq,Value.slice.injEq,and_true] at hcs
  simp only[Prod.mk.injEq] at hx
  obtain⟨rfl,rfl,rfl⟩:=hcs
  simp only[if_true] at hz
  refine⟨_,_,_,zs.take n,rfl,⟨by simp;omega,fun hn=>⟨a,rfl,?_,fun j u hu=>?_⟩⟩,fun z hz=>hwz z (List.mem_of_mem_take hz),hl,hm,.inr ⟨zs,hx.1,hz⟩⟩
  ·have:=World.block_lt_of_cell? w (a.add 0) (hcell 0 (by omega))
   rwa [block_add] at this
  ·rw[List.getElem?_map,List.getElem?_take] at hu
   split at hu
   ·rename_i hj
    rw[List.getElem?_eq_getElem (by omega)] at hu
    rw[hcell j (by omega)]
    simp only[Option.map_some,Option.some.injEq] at hu
    rw[←hu]
    simp[List.getD,show j<zs.length by omega]
   ·cases hu
end
end Go.Hop
end
section
namespace Go.Proofs.YtmijcbfgfkeodaaGreatDoor
open Go.RowKit Go.Hop Go.ChangeShapes Go.WideShapes Go.ChangeAt
theorem own:ownKnob Tryz.prog.godebug=none:=by kernel_rfl
theorem laidOut:laidOutB Tryz.prog=true:=by kernel_rfl
end Go.Proofs.YtmijcbfgfkeodaaGreatDoor
end
