/- Tape, Tnames, Lb, Slt, Lsort, Lname. -/
import Derived.Test.YtmijcbfgfkeodaaGreatDoorIz04
import Derived.Shelf.SlSortCmp.InsertionK
import Derived.Ground.SlsfProg
import Derived.Lib.Bytealg
set_option linter.all false
set_option maxRecDepth 100000
set_option maxHeartbeats 2000000
open Go.Value renaming int → ae,slice → ai
open Go.IntKind renaming i64 → af,u64 → ah
open Go.Proofs.Tryz renaming prog → au
open List renaming setIfInBounds_toArray → aw,drop_succ_cons → ax,set_cons_zero → ay,set_cons_succ → az,drop_zero → aB,length_append → aD,not_mem_nil → aE,mem_cons → aF,take_succ_eq_append_getElem → aI,eq_nil_of_length_eq_zero → aJ,take_of_length_le → aN,getElem_mem → aO,length_map → aP,nil_append → aR,flatMap_append → bd,size_toArray → bH
open Nat renaming lt_of_lt_of_le → aA,le_refl → aC,le_trans → aH,zero_le → aZ,zero_add → a_,eq_zero_or_pos → bj,mul_one → bC
open Bool renaming and_eq_true → aS
open Array renaming length_toList → bG
section
namespace Go.Proofs.YtmijcbfgfkeodaaGreatDoor.Tp
open Go.RowKit Go.Hop K
theorem eO {V U:Nat→Prop} {w wa wb:World} (hj:Just V w wa) (hk:Just U wa wb) (hU:∀ b,U b→w.heap.size≤b∨V b):Just V w wb:=
 ⟨hk.os.trans hj.os,hk.tape.trans hj.tape,hk.output.trans hj.output,aH hj.size hk.size,fun b hb hv=>(hk.block b (aA hb hj.size) (fun hu=>(hU b hu).elim (fun h=>by omega) hv)).trans (hj.block b hb hv)⟩
def d_ (x:Nat) (D:Nat→Prop) (w:World):Prop:=¬ D x∧∃ (A:Option Addr) (n c:Nat) (xs:List Int) (p:Nat),ct w x 46 #[.slice A n c,ae af (p:Int)]∧In w D 1 A n (xs.map (Value.int .i64))∧p≤n∧n≤9223372036854775807∧∀ z∈xs,-9223372036854775808≤z∧z≤9223372036854775807
theorem d_.keep {x:Nat} {D:Nat→Prop} {w w':World} (h:d_ x D w) (hx:w'.heap[x]?=w.heap[x]?) (hk:∀ b,D b→b<w.heap.size→w'.heap[b]?=w.heap[b]?):d_ x D w':=by
 obtain⟨h0,A,n,c,xs,p,h1,h2,h3⟩:=h
 exact⟨h0,A,n,c,xs,p,hx.trans h1,h2.keep hk,h3⟩
theorem d_.lt {x:Nat} {D:Nat→Prop} {w:World} (h:d_ x D w):x<w.heap.size:=by
 obtain⟨_,_,_,_,_,_,h1,_⟩:=h
 exact h1.lt
theorem d_.grow {x:Nat} {D:Nat→Prop} {w w':World} (h:d_ x D w) (hg:Grow w w'):d_ x D w':=h.keep (hg.block x h.lt) fun b _ hb=>hg.block b hb
theorem G_ {w:World} {D:Nat→Prop} {A:Option Addr} {n:Nat} {xs:List Int} (h:In w D 1 A n (xs.map (Value.int .i64))) {k:Nat} (hk:k<n):∃ (ad:Addr) (z:Int),A=some ad∧z∈xs∧D ad.block∧ad.block<w.heap.size∧w.cell? (ad.add k)=some (ae af z):=by
 obtain⟨ad,e,hv,hb,hc⟩:=h.2 al
 have hl:=h.1
 simp only[aP,bC] at hl
 have hkl:k<xs.length:=by omega
 exact⟨ad,xs[k],e,aO hkl,hv,hb,hc k _ (by rw[List.getElem?_map,List.getElem?_eq_getElem hkl];rfl)⟩
theorem eu (w:World) (x:Nat) (D:Nat→Prop) (h:d_ x D w) (m:Nat) (hm1:1≤m) (hm2:m≤1073741824) :
 Calls au 61 #[((x:Nat):Value),ae af (m:Int)] w fun e w'=>∃ k:Nat,k<m∧e=.returned (ae af (k:Int))∧d_ x D w'∧Just (fun b=>b=x) w w':=by
 have h':=h
 obtain⟨Gh,A,n,c,xs,p,hB,hI,hpn,hn,hxs⟩:=h
 by_cases hp:p<n
 ·have hd0:decide (n≤p)=false:=decide_eq_false al
  have hd1:decide ((n:Int)≤(p:Int))=false:=decide_eq_false al
  have hd2:decide ((m:Int)<1)=false:=decide_eq_false al
  obtain⟨ad,z,rfl,Q9,Qa,hzl,hz0⟩:=G_ hI hp
  have Qb:=hxs z Q9
  have k11:∀ (vs:Array Value) (w:World),(callFunc 11 vs).run au w=.ok (.enter 11 vs) w:=fun vs w=>by go_simp
  go_enter Tryz.func61,Tryz.ntmps61
  go_wp2_with fail
  refine bL 14 40 [] rfl rfl am am am ?_ ?_
  ·intro x hx φ he
   cases hx
  intro ops' A' K' T hops hA' hK hT
  refine bP 5 (((x:Nat):Value)) ?_
  refine bQ 6 (.tmp 5) (((x:Nat):Value)) (((x:Nat):Value)) ?_
  refine bQ 7 (.tmp 6) (((x:Nat):Value)) (.pointer (some ⟨x,1,none⟩)) ?_
  refine bI 8 (.tmp 7) (.pointer (some ⟨x,1,none⟩)) (ae af (p:Int)) (fun ρ h1 kk w1 (hg:Grow _ w1) hb hf=>by have c:=(hB.grow hg).cell 1;go_simp) ?_
  refine bP 9 (((x:Nat):Value)) ?_
  refine bQ 10 (.tmp 9) (((x:Nat):Value)) (((x:Nat):Value)) ?_
  refine bQ 11 (.tmp 10) (((x:Nat):Value)) (((x:Nat):Value)) ?_
  refine bI 12 (.tmp 11) (((x:Nat):Value)) (.slice (some ad) n c) (fun ρ h1 kk w1 (hg:Grow _ w1) hb hf=>by have c:=(hB.grow hg).cell 0;go_simp) ?_
  refine bQ 13 (.tmp 12) (.slice (some ad) n c) (ae af (n:Int)) ?_
  refine cm 14 (.tmp 8) (.tmp 13) (ae af (p:Int)) (ae af (n:Int)) (.bool false) (fun ρ h1 h2 kk w1 (hg:Grow _ w1) hb hf=>by go_simp) ?_
  refine bP 15 (.bool false) ?_
  refine da 16 (cx hops 10 false 15 false) (ae af (m:Int)) ?_
  refine dc 17 (cx hops 10 false 15 false) (.tmp 16) (.const (ae af 1)) (ae af (m:Int)) (ae af 1) (.bool false) (fun ρ h1 h2 kk w1 (hg:Grow _ w1) hb hf=>by go_simp) ?_
  refine cG 18 false (.bool false) ?_
  refine ce (fun _ _ w1 (hg:Grow _ w1) _ bR=>hT _ _ ?_)
  clear hops hA' hK hT
  simp only[cj,Act.put,aw,ay,az,ax,aB]
  clear bR
  have hB1:=hB.grow hg
  have c1:=hB1.cell 1
  have f1:=hB1.frozen 1
  have hgs:=hg.size
  have hxl:=hB.lt
  go_wp2_with fail
  obtain⟨w3,H3⟩:∃ w3:World,Hid (w3=w1.setCell ⟨x,1,none⟩ (ae af ((p:Int)+1))):=⟨_,rfl⟩
  have hj3:Just (fun b=>b=x) w w3:=by rw[H3.out];exact (Just.bJ hg).trans (fh w1 x 1 _)
  have hB3:ct w3 x 46 #[.slice (some ad) n c,ae af ((p:Int)+1)]:=by rw[H3.out];exact hB1.put 1 _
  have H2:In w3 D 1 (some ad) n (xs.map (Value.int .i64)):=hI.just hj3 fun b hb e=>Gh (e▸hb)
  rw[←H3.out]
  have hax:ad.block≠x:=fun e=>Gh (e▸Qa)
  have hz3:w3.cell? (ad.add p)=some (ae af z):=by
   obtain⟨Jv,e,_,_,hc⟩:=H2.2 al
   obtain⟨ad2,e2,_,_,hc2⟩:=hI.2 al
   injection e with e
   injection e2 with e2
   subst e e2
   have hl:=hI.1
   simp only[aP,bC] at hl
   have hq:(xs.map (Value.int .i64))[p]?=some (ae af xs[p]):=by rw[List.getElem?_map,List.getElem?_eq_getElem al];rfl
   have h1:=hc2 p _ hq
   rw[hz0] at h1
   rw[hc p _ hq,h1]
  have hz:∀ w1,Grow w3 w1→w1.cell? (ad.add p)=some (ae af z):=fun w1 hg=>(hg.cell (by rw[block_add];have:=hj3.size;omega)).trans hz3
  obtain⟨M,HM⟩:∃ M:Nat,Hid (jJ z 0 1073741824=(M:Int)):=⟨(jJ z 0 1073741824).toNat,Lib.hid (by have:=vw (n:=z) (show (0:Int)≤1073741824 by omega);omega)⟩
  have hwi:∀ w1,Calls au 11 #[ae af z,ae af 0,ae af 1073741824] w1 fun e w'=>e=.returned (ae af (M:Int))∧w1=w':=fun w1=>by
   have:=yJ w1 z 0 1073741824 Qb al al al
   rwa [HM.out] at this
  obtain⟨R,HR⟩:∃ R:Nat,Hid (Int.tmod (M:Int) (m:Int)=(R:Int)):=⟨M % m,Lib.hid (by rw[Int.tmod_eq_emod_of_nonneg al];omega)⟩
  have Qc:R<m:=by
   have:=HR.out
   rw[Int.tmod_eq_emod_of_nonneg al] at this
   have:=Int.emod_lt_of_pos (M:Int) (show (0:Int)<m by omega)
   omega
  have hm0:¬ m=0:=by omega
  have hwp:IntKind.i64.wrap (p:Int)=(p:Int):=by rw[IntKind.wrap_i64];(try unfold wrap64);omega
  clear hg hB1 c1 f1
  go_wp2_with fail
  refine bL 15 40 [(11,.inl (ae af (M:Int)))] rfl rfl am am am ?_ ?_
  ·intro x hx φ he
   simp only[aF,aE,or_false] at hx
   rcases hx with rfl<;>cases he
  intro ops' A' K' T hops hA' hK hT
  refine bP 26 (((x:Nat):Value)) ?_
  refine bQ 27 (.tmp 26) (((x:Nat):Value)) (((x:Nat):Value)) ?_
  refine bQ 28 (.tmp 27) (((x:Nat):Value)) (((x:Nat):Value)) ?_
  refine bI 29 (.tmp 28) (((x:Nat):Value)) (.slice (some ad) n c) (fun ρ h1 kk w1 (hg:Grow _ w1) hb hf=>by have c:=(hB3.grow hg).cell 0;go_simp) ?_
  refine bP 30 (((x:Nat):Value)) ?_
  refine bQ 31 (.tmp 30) (((x:Nat):Value)) (((x:Nat):Value)) ?_
  refine bQ 32 (.tmp 31) (((x:Nat):Value)) (.pointer (some ⟨x,1,none⟩)) ?_
  refine bI 33 (.tmp 32) (.pointer (some ⟨x,1,none⟩)) (ae af ((p:Int)+1)) (fun ρ h1 kk w1 (hg:Grow _ w1) hb hf=>by have c:=(hB3.grow hg).cell 1;go_simp) ?_
  refine cm 34 (.tmp 33) (.const (ae af 1)) (ae af ((p:Int)+1)) (ae af 1) (ae af (p:Int)) (fun ρ h1 h2 kk w1 (hg:Grow _ w1) hb hf=>by go_simp) ?_
  refine cm 35 (.tmp 29) (.tmp 34) (.slice (some ad) n c) (ae af (p:Int)) (.pointer (some (ad.add p))) (fun ρ h1 h2 kk w1 (hg:Grow _ w1) hb hf=>by go_simp;try (intro hlt;omega)) ?_
  refine bI 36 (.tmp 35) (.pointer (some (ad.add p))) (ae af z) (fun ρ h1 kk w1 (hg:Grow _ w1) hb hf=>by have c:=hz w1 hg;go_simp) ?_
  refine cC 37 aj ak (bO aj) (ae af (M:Int)) (by rw[hK.out];rfl) 11 _ _ aj [ae af z,ae af 0,ae af 1073741824] aj k11 (fun kk w1 (hg:Grow _ w1) hb hf=>b_ aj (by exact db (hwi w1))) ?_
  refine bP 38 (ae af (m:Int)) ?_
  refine cm 39 (.tmp 37) (.tmp 38) (ae af (M:Int)) (ae af (m:Int)) (ae af (R:Int)) (fun ρ h1 h2 kk w1 (hg:Grow _ w1) hb hf=>by have h:=HR.out;go_simp) ?_
  refine bP 4 (ae af (R:Int)) ?_
  refine ce (fun _ _ w1 (hg:Grow _ w1) _ bR=>hT _ _ ?_)
  clear hops hA' hK hT
  simp only[cj,Act.put,aw,ay,az,ax,aB]
  clear bR
  go_wp2_with fail
  go_ret
  exact⟨R,Qc,rfl,d_.grow ⟨Gh,some ad,n,c,xs,p+1,by rw[Int.natCast_add];exact hB3,H2,by omega,hn,hxs⟩ hg,hj3.trans (Just.bJ hg)⟩
 ·have hd0:decide (n≤p)=true:=decide_eq_true al
  have hd1:decide ((n:Int)≤(p:Int))=true:=decide_eq_true al
  go_enter Tryz.func61,Tryz.ntmps61
  go_wp2_with fail
  refine bL 14 40 [] rfl rfl am am am ?_ ?_
  ·intro x hx φ he
   cases hx
  intro ops' A' K' T hops hA' hK hT
  refine bP 5 (((x:Nat):Value)) ?_
  refine bQ 6 (.tmp 5) (((x:Nat):Value)) (((x:Nat):Value)) ?_
  refine bQ 7 (.tmp 6) (((x:Nat):Value)) (.pointer (some ⟨x,1,none⟩)) ?_
  refine bI 8 (.tmp 7) (.pointer (some ⟨x,1,none⟩)) (ae af (p:Int)) (fun ρ h1 kk w1 (hg:Grow _ w1) hb hf=>by have c:=(hB.grow hg).cell 1;go_simp) ?_
  refine bP 9 (((x:Nat):Value)) ?_
  refine bQ 10 (.tmp 9) (((x:Nat):Value)) (((x:Nat):Value)) ?_
  refine bQ 11 (.tmp 10) (((x:Nat):Value)) (((x:Nat):Value)) ?_
  refine bI 12 (.tmp 11) (((x:Nat):Value)) (.slice A n c) (fun ρ h1 kk w1 (hg:Grow _ w1) hb hf=>by have c:=(hB.grow hg).cell 0;go_simp) ?_
  refine bQ 13 (.tmp 12) (.slice A n c) (ae af (n:Int)) ?_
  refine cm 14 (.tmp 8) (.tmp 13) (ae af (p:Int)) (ae af (n:Int)) (.bool true) (fun ρ h1 h2 kk w1 (hg:Grow _ w1) hb hf=>by go_simp) ?_
  refine bP 15 (.bool true) ?_
  refine bU 16 (cx hops 10 false 15 true) ?_
  refine bU 17 (cx hops 10 false 15 true) ?_
  refine cG 18 true (.bool true) ?_
  refine ce (fun _ _ w1 (hg:Grow _ w1) _ bR=>hT _ _ ?_)
  clear hops hA' hK hT
  simp only[cj,Act.put,aw,ay,az,ax,aB]
  clear bR
  go_wp2_with fail
  go_ret
  exact⟨0,by omega,rfl,h'.grow hg,Just.bJ hg⟩
def nH:List ByteArray:=[{ data:=#[97,61,49] },{ data:=#[97,61,50] },{ data:=#[97,61,49,44,98,61,120] },{ data:=#[106,111,98,61,97,112,105,44,122,111,110,101,61,101,117] },{ data:=#[106,111,98,61,119,101,98] },{ data:=#[107,61,118] },{ data:=#[110,61,48] },{ data:=#[97,61,51,44,99,61,57] }]
def BE:Array Value:=#[.string { data:=#[97,61,49] },.string { data:=#[97,61,50] },.string { data:=#[97,61,49,44,98,61,120] },.string { data:=#[106,111,98,61,97,112,105,44,122,111,110,101,61,101,117] },.string { data:=#[106,111,98,61,119,101,98] },.string { data:=#[107,61,118] },.string { data:=#[110,61,48] },.string { data:=#[97,61,51,44,99,61,57] }]
theorem BF {k:Nat} (hk:k<8):∃ s:ByteArray,s∈nH∧BE[k]?=some (.string s):=by
 have:∀ k:Fin 8,∃ s:ByteArray,s∈nH∧BE[k.val]?=some (.string s):=by
  intro k
  match k with
  | 0=>exact⟨_,List.mem_of_getElem? (i:=0) rfl,rfl⟩
  | 1=>exact⟨_,List.mem_of_getElem? (i:=1) rfl,rfl⟩
  | 2=>exact⟨_,List.mem_of_getElem? (i:=2) rfl,rfl⟩
  | 3=>exact⟨_,List.mem_of_getElem? (i:=3) rfl,rfl⟩
  | 4=>exact⟨_,List.mem_of_getElem? (i:=4) rfl,rfl⟩
  | 5=>exact⟨_,List.mem_of_getElem? (i:=5) rfl,rfl⟩
  | 6=>exact⟨_,List.mem_of_getElem? (i:=6) rfl,rfl⟩
  | 7=>exact⟨_,List.mem_of_getElem? (i:=7) rfl,rfl⟩
 exact this ⟨k,hk⟩
theorem j6 {s:ByteArray} (h:s∈nH):s.size≤16:=by
 have:∀ s∈nH,s.size≤16:=by decide +kernel
 exact this s h
theorem yK (w:World) :
 Calls au 38 #[] w fun e w'=>∃ g,e=.returned (.slice (some ⟨g,0,none⟩) 8 8)∧w.heap.size≤g∧ct w' g 9 BE∧Grow w w':=by
 go_enter Tryz.func38,Tryz.ntmps38
 go_wp2_with fail
 go_ret
 exact⟨_,rfl,aC _,ct.made w _ _,(Below.refl _ w).alloc (aC _) _⟩
theorem oJ (w:World) (x:Nat) (D:Nat→Prop) (h:d_ x D w) :
 Calls au 99 #[((x:Nat):Value)] w fun e w'=>∃ s:ByteArray,s∈nH∧e=.returned (.string s)∧d_ x D w'∧Just (fun b=>b=x) w w':=by
 go_enter Tryz.func99,Tryz.ntmps99
 go_wp2_with fail
 refine (yK w).mono ?_
 rintro e w1 ⟨g,rfl,hgs,hB,hg1⟩
 have hx:=h.lt
 have hn:=eu w1 x D (h.grow hg1) 8 al al
 rw[show ((8:Nat):Int)=8 from rfl] at hn
 go_wp2_with fail
 refine hn.mono ?_
 rintro e w2 ⟨k,hk,rfl,Er,hj2⟩
 clear hn
 have hB2:=hj2.blk hB (show ¬ g=x by omega)
 obtain⟨s,hs,hc⟩:=BF hk
 have c0:=(hB2.cell k).trans hc
 have OT:¬ 8≤k:=by omega
 go_wp2_with fail
 go_ret
 exact⟨s,hs,rfl,Er,(Just.bJ hg1).trans hj2⟩
theorem K8 (w:World) (x:Nat) (D:Nat→Prop) (h:d_ x D w) :
 Calls au 178 #[((x:Nat):Value)] w fun e w'=>∃ v:Nat,1≤v∧v≤kc∧e=.returned (ae ah (v:Int))∧d_ x D w'∧Just (fun b=>b=x) w w':=by
 have hn:=eu w x D h 12 al al
 rw[show ((12:Nat):Int)=12 from rfl] at hn
 unfold kc
 go_enter Tryz.func178,Tryz.ntmps178
 go_wp2_with fail
 refine hn.mono ?_
 rintro e w1 ⟨k,hk,rfl,hT1,hj1⟩
 clear hn
 have hn2:=eu w1 x D hT1 1073741824 al al
 rw[show ((1073741824:Nat):Int)=1073741824 from rfl] at hn2
 have Ep:=eu w1 x D hT1 50 al al
 rw[show ((50:Nat):Int)=50 from rfl] at Ep
 by_cases h0:k=0
 ·have e0:((k:Int) == 0)=true:=beq_iff_eq.2 al
  clear h0 hn2 Ep
  go_wp2_with fail
  go_ret
  exact⟨18446744073709551615,by omega,by omega,rfl,hT1,hj1⟩
 have e0:((k:Int) == 0)=false:=beq_eq_false_iff_ne.2 al
 by_cases h1:k=1
 ·have e1:((k:Int) == 1)=true:=beq_iff_eq.2 al
  clear h0 h1 hn2 Ep
  go_wp2_with fail
  go_ret
  exact⟨9223372036854775808,by omega,by omega,rfl,hT1,hj1⟩
 have e1:((k:Int) == 1)=false:=beq_eq_false_iff_ne.2 al
 by_cases h2:k=2
 ·have e2:((k:Int) == 2)=true:=beq_iff_eq.2 al
  clear h0 h1 h2 Ep
  go_wp2_with fail
  refine hn2.mono ?_
  rintro e w2 ⟨m,hm,rfl,Er,hj2⟩
  clear hn2
  have hw1:IntKind.u64.wrap (m:Int)=(m:Int):=by rw[IntKind.wrap_u64];omega
  have hw2:IntKind.u64.wrap ((m:Int)*1048576)=(m:Int)*1048576:=by rw[IntKind.wrap_u64];omega
  have hw3:IntKind.u64.wrap ((m:Int)*1048576+1)=((m*1048576+1:Nat):Int):=by rw[IntKind.wrap_u64];omega
  go_wp2_with fail
  go_ret
  exact⟨m*1048576+1,by omega,by omega,rfl,Er,hj1.trans hj2⟩
 have e2:((k:Int) == 2)=false:=beq_eq_false_iff_ne.2 al
 clear h0 h1 h2 hn2
 go_wp2_with fail
 refine Ep.mono ?_
 rintro e w2 ⟨m,hm,rfl,Er,hj2⟩
 clear Ep
 have hw1:IntKind.u64.wrap (m:Int)=(m:Int):=by rw[IntKind.wrap_u64];omega
 have hw3:IntKind.u64.wrap ((m:Int)+1)=((m+1:Nat):Int):=by rw[IntKind.wrap_u64];omega
 go_wp2_with fail
 go_ret
 exact⟨m+1,by omega,by omega,rfl,Er,hj1.trans hj2⟩
def Kept (l:List Dl):Prop:=∀ d∈l,d.1∈nH∧1≤d.2∧d.2≤kc
theorem oK (w:World) (x:Nat) (D:Nat→Prop) (h:d_ x D w) (rQ:∀ b,D b→b<w.heap.size) (m:Nat) (hm1:1≤m) (hm2:m≤1000000) :
 Calls au 100 #[((x:Nat):Value),ae af (m:Int)] w fun e w'=>∃ (v:Value) (l:List Dl),e=.returned v∧Own w' (New w w') 29 2 v l.length (eE l)∧1≤l.length∧l.length≤m∧Kept l∧d_ x D w'∧Just (fun b=>b=x) w w':=by
 have hn:=eu w x D h m hm1 al
 have hxw:=h.lt
 go_enter Tryz.func100,Tryz.ntmps100
 go_wp2_with fail
 refine hn.mono ?_
 rintro e w1 ⟨k0,hk0,rfl,hT1,hj1⟩
 clear hn h
 go_wp2_with fail
 go_loopw [5,6] (fun o i wr=>∃ (j:Nat) (l:List Dl),i=ae af (j:Int)∧l.length+j=1+k0∧Own wr (New w wr) 29 2 o l.length (eE l)∧Kept l∧d_ x D wr∧Just (fun b=>b=x) w wr) (fun _ i _=>(intOf i).toNat)
 case atStart=>exact⟨1+k0,[],by go_num,by simp,Own.nil,fun d hd=>absurd hd aE,hT1,hj1⟩
 case round=>
  clear hT1 hj1
  obtain⟨j,l,rfl,hlj,hO,hK,hT,hj⟩:=hrel
  obtain⟨A1,c1,rfl,hI1,hn1,hm1⟩:=hO.fw
  by_cases hj0:0<j
  ·have hd0:decide ((0:Int)<(j:Int))=true:=decide_eq_true al
   go_wp2_with fail
   refine (oJ wr x D hT).mono ?_
   rintro e w2 ⟨s,hs,rfl,Er,hj2⟩
   go_wp2_with fail
   refine (K8 w2 x D Er).mono ?_
   rintro e w3 ⟨v,hv1,hv2,rfl,EN,hj3⟩
   have H4:=hj.trans (hj2.trans hj3)
   have hO3:Own w3 (New w wr) 29 2 (.slice A1 l.length c1) l.length (eE l):=hO.keep fun b hb=>(hj2.trans hj3).block b hb.2 (fun e=>by have:=hb.1;omega)
   have hs23:=(hj2.trans hj3).size
   have hsw:=hj.size
   clear hI1 hO
   go_wp2_with (at_builtin;refine stay ?_)
   refine bV ?_
   have hga:Grow w3 (w3.alloc (.cells #[.string s,ae ah (v:Int)] 29)):=(Below.refl _ _).alloc (aC _) _
   refine cR (V:=New w wr) vn _ rfl (.tmp 15) (.tmp 21) rfl (.slice A1 l.length c1) l.length (eE l) rfl (hO3.grow (fun b hb=>by have:=hb.2;omega) hga) (w3.heap.size+1) (some ⟨w3.heap.size,0,none⟩) 1 1 (eE [(s,v)]) rfl (df w3 _ 29 _ rfl _ rfl) (lA _) al ?_
   intro v5 w5 vA dY
   have hs5:=dY.size
   simp at hs5
   have EO:Own w5 (New w w5) 29 2 v5 (l++[(s,v)]).length (eE (l++[(s,v)])):=by
    rw[aD]
    have:eE (l++[(s,v)])=eE l++eE [(s,v)]:=by unfold eE;rw[bd]
    rw[this]
    refine vA.mono fun b hb=>?_
    rcases hb with hb|hb
    ·exact⟨hb.1,by have:=hb.2;omega⟩
    ·have h6:=hb.1
     simp at h6
     exact⟨by omega,hb.2⟩
   have H5:Just (fun b=>b=x) w w5:=eO (eO H4 (Just.bJ (V:=fun _=>False) hga) (fun _ h=>h.elim)) dY (fun b hb => .inl hb.1)
   have ER:d_ x D w5:=by
    obtain⟨h0,A,n,c,xs,p,h1,h2,h3⟩:=EN
    have Qd:∀ b,D b→b<w3.heap.size→w5.heap[b]?=w3.heap[b]?:=fun b hb hbl=>(dY.block b (by simp;omega) (fun e=>by have:=e.1;have:=rQ b hb;omega)).trans (hga.block b hbl)
    have hxb:w5.heap[x]?=w3.heap[x]?:=(dY.block x (by simp;have:=h1.lt;omega) (fun e=>by have:=e.1;omega)).trans (hga.block x h1.lt)
    exact⟨h0,A,n,c,xs,p,hxb.trans h1,h2.keep Qd,h3⟩
   have K9:Kept (l++[(s,v)]):=fun d hd=>by
    rcases List.mem_append.1 hd with hd|hd
    ·exact hK d hd
    ·rw[List.mem_singleton.1 hd];exact⟨hs,hv1,hv2⟩
   have LM:(l++[(s,v)]).length=l.length+1:=by simp
   clear vA dY Er EN hj2 hj3 hO3 hga
   generalize l++[(s,v)]=l6 at EO K9 LM
   go_wp2_with fail
   go_roundw
   case rel=>exact⟨j-1,l6,by go_num,by omega,EO,K9,ER,H5⟩
   case measure=>simp[intOf];omega
  ·obtain rfl:j=0:=by omega
   have hd0:decide ((0:Int)<((0:Nat):Int))=false:=rfl
   go_wp2_with fail
   go_ret
   exact⟨_,l,rfl,hO,by omega,by omega,hK,hT,hj⟩
end Go.Proofs.YtmijcbfgfkeodaaGreatDoor.Tp
end
section
namespace Go.Proofs.YtmijcbfgfkeodaaGreatDoor.L
open Go.RowKit Go.Hop
abbrev Lb:=ByteArray×ByteArray
def i7 (d:Lb):List Value:=[.string d.1,.string d.2]
def dR (l:List Lb):List Value:=l.flatMap i7
theorem jm (d:Lb):(i7 d).length=2:=rfl
theorem oL (l:List Lb):∀ u∈dR l,u.oneCell'=true:=by
 intro u hu
 unfold dR at hu
 obtain⟨d,_,hd⟩:=List.mem_flatMap.1 hu
 simp only[i7,aF,aE,or_false] at hd
 rcases hd with rfl|rfl<;>rfl
theorem jK (l:List Lb):(dR l).length=l.length*2:=fA i7 2 jm l
theorem vB:(Tryz.prog.info? 90).map (fun i=>(i.zero,i.size,i.bytes))=some (some (.agg #[.string .empty,.string .empty]),2,32):=by kernel_rfl
theorem BG:Elem au 91 90 2 32 (.agg #[.string .empty,.string .empty]):=⟨Tryz.underlying91,info_parts vB,rfl,by decide,by decide⟩
theorem BH:(Tryz.prog.info? 9).map (fun i=>(i.zero,i.size,i.bytes))=some (some (.string .empty),1,16):=by kernel_rfl
theorem Ml:Elem au 83 9 1 16 (.string .empty):=⟨Tryz.underlying83,info_parts BH,rfl,by decide,by decide⟩
theorem vC (l:List ByteArray):∀ u∈l.map Value.string,u.oneCell'=true:=by
 intro u hu
 obtain⟨x,_,rfl⟩:=List.mem_map.1 hu
 rfl
theorem vD {w:World} {V:Nat→Prop} {A:Option Addr} {n:Nat} {q:List Lb} (h:In w V 2 A n (dR q)) {k:Nat} (hk:k<n) :
 ∃ (ad:Addr) (hq:k<q.length),A=some ad∧(∀ w1,Grow w w1→w1.cell? (ad.add (k*2))=some (.string q[k].1))∧∀ w1,Grow w w1→w1.cell? ⟨(ad.add (k*2)).block,(ad.add (k*2)).off+1,none⟩=some (.string q[k].2):=by
 obtain⟨ad,hq,e,_,hb,e0,e12⟩:=In.iS (cells:=i7) h al jm hk
 exact⟨ad,hq,e,fun w1 hg=>(hg.cell (by rw[block_add];exact hb)).trans (e0 _ rfl),fun w1 hg=>(hg.cell (p:=⟨(ad.add (k*2)).block,(ad.add (k*2)).off+1,none⟩) (show (ad.add (k*2)).block<_ by rw[block_add];exact hb)).trans (e12 0 _ rfl)⟩
theorem H6 {w:World} {V:Nat→Prop} {A:Option Addr} {n:Nat} {q:List ByteArray} (h:In w V 1 A n (q.map Value.string)) {k:Nat} (hk:k<n) :
 ∃ (ad:Addr) (hq:k<q.length),A=some ad∧∀ w1,Grow w w1→w1.cell? (ad.add k)=some (.string q[k]):=by
 obtain⟨ad,e,_,hb,hc⟩:=h.2 al
 have hl:=h.1
 simp only[aP,bC] at hl
 have hq:k<q.length:=by omega
 exact⟨ad,hq,e,fun w1 hg=>(hg.cell (by rw[block_add];exact hb)).trans (hc k _ (by rw[List.getElem?_map,List.getElem?_eq_getElem hq];rfl))⟩
theorem LN.len {w:World} {V:Nat→Prop} {A:Option Addr} {n:Nat} {l:List Lb} (h:In w V 2 A n (dR l)):l.length=n:=by
 have:=h.1;rw[jK] at this;omega
def slt (a b:ByteArray):Bool:=Op.bytesLess a.toList b.toList
theorem lC (a b:ByteArray):slt a b=decide (a.data.toList<b.data.toList):=by
 unfold slt
 rw[bytesLess_eq,Lib.toList_data,Lib.toList_data]
theorem gT (a:ByteArray):slt a a=false:=by
 rw[lC];exact decide_eq_false (List.lt_irrefl _)
theorem lD {a b c:ByteArray} (h:slt a b=true) (k:slt b c=true):slt a c=true:=by
 rw[lC] at *
 exact decide_eq_true (List.lt_trans (of_decide_eq_true h) (of_decide_eq_true k))
theorem jF {a b:ByteArray} (h:slt a b=false) (k:slt b a=false):a=b:=by
 rw[lC] at *
 have h1:=of_decide_eq_false h
 have h2:=of_decide_eq_false k
 have e:a.data.toList=b.data.toList:=List.le_antisymm (List.not_lt.1 h2) (List.not_lt.1 h1)
 exact ByteArray.ext (Array.toList_inj.1 e)
theorem rI {a b:ByteArray} (h:slt a b=true):slt b a=false:=by
 cases hb:slt b a with
 | false=>rfl
 | true=>have:=lD h hb;rw[gT] at this;cases this
theorem xS {x y z:ByteArray} (h:slt x y=false) (k:slt y z=false):slt x z=false:=by
 cases hz:slt x z with
 | false=>rfl
 | true=>
   cases hzy:slt z y with
   | true=>rw[lD hz hzy] at h;cases h
   | false=>have e:=jF k hzy;rw[e,hz] at h;cases h
theorem rJ {a b:ByteArray}:a.toList=b.toList↔a=b:=by
 rw[Lib.toList_data,Lib.toList_data]
 exact⟨fun e=>ByteArray.ext (Array.toList_inj.1 e),fun e=>by rw[e]⟩
def n_ (a b:ByteArray):Int:=if slt a b then -1 else if slt b a then 1 else 0
theorem vE (a b:ByteArray):(!(Op.bytesLess a.toList b.toList || a.toList == b.toList))=slt b a:=by
 cases h1:slt a b with
 | true=>
   have h2:=rI h1
   unfold slt at h1
   rw[h1,h2];rfl
 | false=>
   have h1':=h1
   unfold slt at h1'
   rw[h1',Bool.false_or]
   cases h2:slt b a with
   | false=>
     have:=jF h1 h2
     subst this
     simp
   | true=>
     have hne:a.toList≠b.toList:=fun e=>by
      have:=rJ.1 e
      rw[this,gT] at h2;cases h2
     simp[hne]
theorem gK (w:World) (a:ByteArray):Calls au 210 #[.string a] w fun e w'=>e=.returned (.bool false)∧w=w':=by
 go_enter Tryz.func210,Tryz.ntmps210
 go_wp2_with fail
 go_ret
 exact⟨by simp,rfl⟩
theorem nI (w:World) (a b:ByteArray):Calls au 136 #[.string a,.string b] w fun e w'=>e=.returned (ae af (n_ a b))∧w=w':=by
 have hg:=vE a b
 unfold n_
 cases h1:slt a b with
 | true=>
   rw[if_pos rfl]
   unfold slt at h1
   go_enter Tryz.func136,Tryz.ntmps136
   go_wp2_with (go_at_call 210;refine (gK _ _).mono ?_;rintro e w' ⟨rfl,rfl⟩)
   go_ret
   exact⟨rfl,rfl⟩
 | false=>
   rw[if_neg (by simp)]
   unfold slt at h1
   cases h2:slt b a with
   | true=>
     rw[if_pos rfl]
     rw[h2] at hg
     go_enter Tryz.func136,Tryz.ntmps136
     go_wp2_with (go_at_call 210;refine (gK _ _).mono ?_;rintro e w' ⟨rfl,rfl⟩)
     all_goals first|(go_ret;exact⟨rfl,rfl⟩)|simp_all
   | false=>
     rw[if_neg (by simp)]
     rw[h2] at hg
     go_enter Tryz.func136,Tryz.ntmps136
     go_wp2_with (go_at_call 210;refine (gK _ _).mono ?_;rintro e w' ⟨rfl,rfl⟩)
     all_goals first|(go_ret;exact⟨rfl,rfl⟩)|simp_all
end Go.Proofs.YtmijcbfgfkeodaaGreatDoor.L
end
section
namespace Go.Proofs.YtmijcbfgfkeodaaGreatDoor.L
open Go.Shelf
def BI:Go.Shelf.Ren:=⟨fun|20=>357|n=>n,fun|24=>90|22=>91|3=>3|25=>368|4=>4|0=>0|n=>n,fun|n=>n⟩
theorem Mm:Go.Proofs.SlLaysF0.n20 au BI:={
 mixed:=by kernel_rfl
 f20:=⟨Tryz.f357.name,by decide,Tryz.func357.trans (congrArg some am)⟩
 t0:=Tryz.underlying0
 a0:=Tryz.isAgg0
 z0:=Tryz.sizeOf0
 v0:=Tryz.zeroValue0
 t3:=Tryz.underlying3
 a3:=Tryz.isAgg3
 z3:=Tryz.sizeOf3
 v3:=Tryz.zeroValue3
 t4:=Tryz.underlying4
 a4:=Tryz.isAgg4
 z4:=Tryz.sizeOf4
 v4:=Tryz.zeroValue4
 t22:=Tryz.underlying91
 a22:=Tryz.isAgg91
 z22:=Tryz.sizeOf91
 v22:=Tryz.zeroValue91
 t25:=Tryz.underlying368
 a25:=Tryz.isAgg368
 z25:=Tryz.sizeOf368
 v25:=Tryz.zeroValue368 }
end Go.Proofs.YtmijcbfgfkeodaaGreatDoor.L
namespace Go.Proofs.YtmijcbfgfkeodaaGreatDoor.L
open Go.RowKit Go.Hop Go.Shelf
theorem yL (w:World) (V:Nat→Prop) (A:Option Addr) (n c:Nat) (l:List Lb) (h:In w V 2 A n (dR l)) (hn:n≤1048576) :
 Calls au 298 #[.slice A n c] w fun e w'=>∃ v,e=.returned v∧Own w' (New w w') 90 2 v n (dR l)∧Grow w w':=by
 have hnil:=fun (w':World)=>Lib.run_eql_slice_nil (P:=au) w' 91 90 A n c 0 0 Tryz.underlying91
 cases A with
 | none=>
   have hn0:n=0:=by
    rcases bj n with h0|h0
    ·exact h0
    ·obtain⟨_,e,_⟩:=h.2 h0;cases e
   subst hn0
   obtain rfl:l=[]:=aJ (LN.len h)
   go_enter Tryz.func298,Tryz.ntmps298
   go_wp2_with fail
   go_ret
   exact⟨_,rfl,Own.nil,Grow.refl _⟩
 | some ad=>
   go_enter Tryz.func298,Tryz.ntmps298
   go_wp2_with (at_builtin;refine stay ?_)
   refine bV ?_
   refine cR (V:=fun b=>b=w.heap.size) BG _ rfl (.tmp 5) (.tmp 6) rfl (.slice (some ⟨w.heap.size,0,none⟩) 0 0) 0 [] rfl (fO w _ _) w.heap.size (some ad) n c (dR l) rfl (Reads.alloc (In.reads h) (aC _) _) (oL l) al ?_
   intro v1 w1 fW hj1
   simp only[a_,aR] at fW
   obtain⟨hO2,hg1⟩:=i_ fW hj1
   go_wp2_with fail
   go_ret
   exact⟨v1,rfl,hO2,hg1⟩
theorem ti (w:World) (A:Option Addr) (n c:Nat) (hn:n≤c) :
 Calls au 192 #[.slice A n c] w fun e w'=>e=.returned (.slice A n n)∧w=w':=by
 go_enter Tryz.func192,Tryz.ntmps192
 go_wp2_with fail
 go_ret
 exact⟨rfl,rfl⟩
theorem BJ (x y:Lb) (W:World):Calls au 300 #[.agg #[.string x.1,.string x.2],.agg #[.string y.1,.string y.2]] W fun e w'=>e=.returned (ae af (n_ x.1 y.1))∧∃ q os',w'=Sort.grow (W.drewN q) os':=by
 have hcon:=fun W'=>nI W' x.1 y.1
 generalize n_ x.1 y.1=r at hcon ⊢
 go_enter Tryz.func300,Tryz.ntmps300
 go_wp2_with (go_at_call 136;refine (hcon _).mono ?_;rintro e w' ⟨rfl,rfl⟩)
 go_ret
 exact⟨rfl,0,_,by rw[Sort.alloc_eq_grow,Sort.alloc_eq_grow,Sort.grow_grow];rfl⟩
theorem rR (x y:Lb):Go.Proofs.ltOf (fun x y:Lb=>n_ x.1 y.1) x y=slt x.1 y.1:=by
 unfold Go.Proofs.ltOf n_
 cases h1:slt x.1 y.1<;>cases h2:slt y.1 x.1<;>simp[h1,h2]
theorem Mn:Sort.SWO (Go.Proofs.ltOf fun x y:Lb=>n_ x.1 y.1) where
 irrefl x:=by rw[rR];exact gT _
 trans x y z h k:=by rw[rR] at *;exact lD h k
 ntrans x y z h k:=by rw[rR] at *;exact xS h k
theorem oM (l:List Lb) (j:Nat) (hj:j<l.length*2):(dR l)[j]?=some (Sort.flatK i7 2 l.toArray)[j]!:=by
 have h:=flat_get i7 2 jm l (j / 2) (j % 2) al (Nat.mod_lt _ al)
 rw[show j / 2*2+j % 2=j by omega] at h
 unfold dR
 rw[h,Sort.get_flatK i7 2 l.toArray j (by simpa using hj)]
 have h2:j / 2<l.length:=by omega
 have h3:l.toArray[j / 2]! = l[j / 2]:=by simp[h2]
 rw[h3]
 have h4:j % 2<(i7 l[j / 2]).length:=by rw[jm];exact Nat.mod_lt _ al
 rw[List.getElem?_eq_getElem h4]
 simp[h4]
structure gx (q l:List Lb):Prop where
 perm:q.Perm l
 nG:q.Pairwise fun a b=>slt b.1 a.1=false
theorem ES (w:World) (g c:Nat) (l:List Lb) (cur:Array Value) (hg:w.heap[g]?=some (.cells cur 90 (0,0))) (hcur:cur.toList.take (l.length*2)=dR l) (hl:l.length<4611686018427387904) :
 Calls au 357 #[.slice (some ⟨g,0,none⟩) l.length c,ae af 0,ae af (l.length:Int),.func (.func 300) #[] #[]] w fun e w'=>e=.returned (.tuple #[])∧∃ q:List Lb,gx q l∧In w' (fun b=>b=g) 2 (some ⟨g,0,none⟩) l.length (dR q)∧Just (fun b=>b=g) w w':=by
 have hgl:g<w.heap.size:=(Array.getElem?_eq_some_iff.1 hg).1
 have hH:Sort.HoldsK i7 2 w g 0 l.toArray:=fun j hj=>by
  rw[Sort.size_flatK] at hj
  have hj':j<l.length*2:=by simpa using hj
  have hc:=oM l j hj'
  rw[←hcur,List.getElem?_take_of_lt hj',Array.getElem?_toList] at hc
  refine⟨?_,?_⟩
  ·unfold World.cell?
   simp only[hg,a_]
   exact hc
  ·unfold World.frozen?
   simp only[hg]
   simp
 have eg:∀ args w,(callFunc 300 args).run au w=.ok (.enter 300 args) w:=fun args w=>by go_simp
 have hcon:=Go.Proofs.AnyQ.insertionSortCmpFunc Mm 2 Tryz.isAgg90 Tryz.sizeOf90 i7 jm (fun x v hv=>by simp only[i7,aF,aE,or_false] at hv;rcases hv with rfl|rfl<;>rfl) (fun x y:Lb=>n_ x.1 y.1) 300 #[] g 0 c 0 l.length l.toArray w eg (fun m os dk _ x y=>BJ x y _) hH hgl (aZ _) (by simp) (by simpa using hl)
 change Calls au 357 _ _ _ at hcon
 rw[bH] at hcon
 refine hcon.mono ?_
 rintro e w' ⟨he,n,os,rfl⟩
 have hh:=Sort.insertionSort_holds Mn l.toArray 0 l.length (aZ _) (by simp)
 generalize Sort.insertionSort (Go.Proofs.ltOf fun x y:Lb=>n_ x.1 y.1) l.toArray 0 l.length=d' at hh ⊢
 obtain⟨q,rfl⟩:∃ q:List Lb,d'=q.toArray:=⟨d'.toList,by simp⟩
 have hp:=hh.1
 have hs:=hh.2
 have hll:q.length=l.length:=by have:=hp.1;simpa using this
 have Qe:=Go.Proofs.holdsK_sortWorldK_c i7 2 w g 0 l.toArray q.toArray n os hH hgl hp.1
 have hsz:=Go.Proofs.size_sortWorldK_c i7 2 w g 0 n q.toArray os
 refine⟨he,q,⟨?_,List.pairwise_iff_getElem.2 fun i j hi hj hij=>?_⟩,⟨by rw[jK,hll],fun hn=>⟨_,rfl,rfl,aA hgl hsz,fun j u hu=>?_⟩⟩,⟨rfl,rfl,rfl,hsz,fun b hb hbg=>?_⟩⟩
 ·have:=hp.2.2
  simp only[List.extract_toArray,List.extract_eq_take_drop,aB,Nat.sub_zero] at this
  rwa [aN al,aN al] at this
 ·have:=hs i j (aZ _) hij al
  rw[rR] at this
  simpa [hi,hj] using this
 ·have hj:j<q.length*2:=by
   have:=(List.getElem?_eq_some_iff.1 hu).1
   rwa [jK] at this
  have h1:=(Qe j (by simpa [Sort.size_flatK] using hj)).1
  rw[Addr.add_lit,←hu,oM q j hj]
  exact h1
 ·have hb':b<(w.heap.modify g (Sort.onCells (Sort.putCells id 0 (Sort.flatK i7 2 q.toArray)))).size:=by simpa using hb
  show ((w.heap.modify g (Sort.onCells (Sort.putCells id 0 (Sort.flatK i7 2 q.toArray))))++os)[b]?=w.heap[b]?
  rw[Array.getElem?_append_left hb',Array.getElem?_modify,if_neg (fun e=>hbg e.symm)]
theorem BK (w:World) (A:Option Addr) (c:Nat) (f:Value):Calls au 357 #[.slice A 0 c,ae af 0,ae af 0,f] w fun e w'=>e=.returned (.tuple #[])∧w=w':=by
 go_enter Tryz.func357,Tryz.ntmps357
 go_wp2_with fail
 go_loop [8] (fun i=>i=ae af 1) (fun _=>0)
 case atStart=>rfl
 case round=>
  obtain rfl:=hrel
  go_wp2_with fail
  go_end0
  exact⟨rfl,rfl⟩
theorem vF (w:World) (A:Option Addr) (n c:Nat) (l:List Lb) (hn:n≤19) (V:Nat→Prop) (hO:Own w V 90 2 (.slice A n c) n (dR l)) :
 Calls au 299 #[.slice A n c,.func (.func 300) #[] #[]] w fun e w'=>e=.returned (.tuple #[])∧∃ q:List Lb,gx q l∧In w' V 2 A n (dR q)∧Just V w w':=by
 have hl:l.length=n:=by have:=hO.1;rw[jK] at this;omega
 have hins:Calls au 357 #[.slice A n c,ae af 0,ae af (n:Int),.func (.func 300) #[] #[]] w fun e w'=>e=.returned (.tuple #[])∧∃ q:List Lb,gx q l∧In w' V 2 A n (dR q)∧Just V w w':=by
  rcases hO.2 with ⟨h1,h0⟩|⟨g,cap,cur,h1,hV,hg,hnc,hcm,hsz,htk⟩
  ·subst h0
   obtain rfl:l=[]:=aJ hl
   refine (BK w A c _).mono ?_
   rintro e w' ⟨he,rfl⟩
   exact⟨he,[],⟨List.Perm.refl _,List.Pairwise.nil⟩,In.nil,Just.bJ (Grow.refl _)⟩
  ·injection h1 with h1 _ h3
   subst h1 h3
   rw[←hl] at htk
   have:=ES w g c l cur hg htk al
   rw[hl] at this
   refine this.mono ?_
   rintro e w' ⟨he,q,hq,hI,hj⟩
   exact⟨he,q,hq,hI.mono fun b hb=>by rw[hb];exact hV,hj.imp fun b hb=>by rw[hb];exact hV⟩
 have hst:Calls au 343 #[.slice A n c,ae af (n:Int),.func (.func 300) #[] #[]] w fun e w'=>e=.returned (.tuple #[])∧∃ q:List Lb,gx q l∧In w' V 2 A n (dR q)∧Just V w w':=by
  have h20:decide ((20:Int)≤(n:Int))=false:=decide_eq_false al
  have h20':decide ((20:Int)<(n:Int))=false:=decide_eq_false al
  clear hO
  go_enter Tryz.func343,Tryz.ntmps343
  go_wp2_with fail
  go_loop [7,8] (fun a b=>a=ae af 0∧b=ae af 20) (fun _ _=>0)
  case atStart=>exact⟨rfl,rfl⟩
  case round=>
   obtain⟨rfl,rfl⟩:=hrel
   go_wp2_with fail
   refine hins.mono ?_
   rintro e w2 ⟨rfl,H⟩
   clear hins
   have HH:=Lib.hid H
   clear H
   go_wp2_with fail
   go_loop [6] (fun a=>a=ae af 20) (fun _=>0)
   case atStart=>rfl
   case round=>
    obtain rfl:=hrel
    go_wp2_with fail
    go_end0
    exact⟨rfl,HH.out⟩
 clear hins hO
 go_enter Tryz.func299,Tryz.ntmps299
 go_wp2_with fail
 refine hst.mono ?_
 rintro e w2 ⟨rfl,H⟩
 clear hst
 have HH:=Lib.hid H
 clear H
 go_wp2_with fail
 go_end0
 exact⟨rfl,HH.out⟩
theorem oN (w:World) (V:Nat→Prop) (A:Option Addr) (n c:Nat) (l:List Lb) (h:In w V 2 A n (dR l)) (hn:n≤19) :
 Calls au 240 #[.slice A n c] w fun e w'=>∃ A' q,e=.returned (.slice A' n n)∧gx q l∧In w' (New w w') 2 A' n (dR q)∧Grow w w':=by
 go_enter Tryz.func240,Tryz.ntmps240
 go_wp2_with fail
 refine (yL w V A n c l h al).mono ?_
 rintro e w1 ⟨v,rfl,hO,hg1⟩
 obtain⟨A1,c1,rfl,_,hnc,_⟩:=hO.fw
 have hst:=vF w1 A1 n c1 l hn (New w w1) hO
 clear hO
 go_wp2_with fail
 refine hst.mono ?_
 rintro e w2 ⟨rfl,q,hq,hI,hj⟩
 clear hst
 go_wp2_with (go_at_call 192;refine (ti _ _ _ _ hnc).mono ?_;rintro e w' ⟨rfl,rfl⟩)
 go_ret
 have hs:=hg1.size
 have hs2:=hj.size
 exact⟨A1,q,rfl,hq,hI.mono fun b hb=>⟨hb.1,by have:=hb.2;omega⟩,Below.trans hg1 (hj.below (B:=w.heap.size) (fun b hb=>hb.1) hs)⟩
end Go.Proofs.YtmijcbfgfkeodaaGreatDoor.L
end
section
namespace Go.Proofs.YtmijcbfgfkeodaaGreatDoor.L
open Go.RowKit Go.Hop
def yM (c:Nat):Bool:=(decide (97≤c) && decide (c≤122)) || (decide (48≤c) && decide (c≤57)) || decide (c=95)
theorem H7 (c:Nat):yM c=true↔(97≤c∧c≤122)∨(48≤c∧c≤57)∨c=95:=by
 unfold yM
 simp only[Bool.or_eq_true,aS,decide_eq_true_eq]
 omega
def H8 (s:ByteArray):Bool:=s.data.toList.all fun c=>yM c.toNat
def i8 (s:ByteArray):Bool:=decide (1≤s.size) && decide (s.size≤32) && H8 s
theorem BL {s:ByteArray} {k:Nat} (hk:k<s.size) (h:(s.data.toList.take k).all (fun c=>yM c.toNat)=true) (hc:yM s[k].toNat=true):(s.data.toList.take (k+1)).all (fun c=>yM c.toNat)=true:=by
 have hl:k<s.data.toList.length:=by simpa using hk
 rw[aI hl,List.all_append,h,Bool.true_and]
 simp only[List.all_cons,List.all_nil,Bool.and_true]
 exact hc
theorem H9 {s:ByteArray} {k:Nat} (hk:k<s.size) (hc:yM s[k].toNat=false):H8 s=false:=by
 have hl:k<s.data.toList.length:=by simpa using hk
 refine List.all_eq_false.2 ⟨s.data.toList[k],aO hl,?_⟩
 have:s.data.toList[k]=s[k]:=by rw[Array.getElem_toList];rfl
 rw[this,hc];simp
theorem ET {s:ByteArray} {k:Nat} (hk:k<s.size) (hc:yM s[k].toNat=false):i8 s=false:=by
 unfold i8;rw[H9 hk hc,Bool.and_false]
theorem BM (c:UInt8):0≤(c.toNat:Int)∧(c.toNat:Int)≤255:=by have:=c.toNat_lt;omega
theorem tj (w:World) (s:ByteArray) (hs:s.size≤maxLen):Calls au 297 #[.string s] w fun e w'=>e=.returned (.bool (i8 s))∧w=w':=by
 unfold maxLen at hs
 by_cases h0:s.size=0
 ·have he:i8 s=false:=by unfold i8;rw[decide_eq_false al,Bool.false_and,Bool.false_and]
  rw[he]
  have hee:(s == (⟨#[]⟩:ByteArray))=true:=by
   have:s=⟨#[]⟩:=ByteArray.ext (Array.eq_empty_of_size_eq_zero h0)
   rw[this];rfl
  obtain rfl:s=⟨#[]⟩:=ByteArray.ext (Array.eq_empty_of_size_eq_zero h0)
  clear h0 hee he
  go_enter Tryz.func297,Tryz.ntmps297
  go_wp2
  go_ret
  exact⟨rfl,rfl⟩
 ·have hne:s.toList=[]↔False:=by
   constructor
   ·intro h
    have h2:s.data.toList=[]:=by rw[←Lib.toList_data];exact h
    have:s.size=0:=by show s.data.size=0;rw[←bG,h2];rfl
    exact h0 this
   ·exact False.elim
  have hne2:s.toList.isEmpty=false:=by
   cases h:s.toList with
   | nil=>exact (hne.1 h).elim
   | cons _ _=>rfl
  have Mp:=Lib.hid hne
  clear hne
  by_cases h32:s.size≤32
  ·have hd:decide ((32:Int)<(s.size:Int))=false:=decide_eq_false al
   go_enter Tryz.func297,Tryz.ntmps297
   go_wp2
   go_loop [14] (fun i=>∃ k:Nat,k≤s.size∧i=ae af (k:Int)∧(s.data.toList.take k).all (fun c=>yM c.toNat)=true) (fun i=>s.size-(intOf i).toNat)
   case atStart=>exact⟨0,aZ _,rfl,rfl⟩
   case round=>
    obtain⟨k,hk,rfl,hall⟩:=hrel
    have HA:=Lib.hid hall
    clear hall
    by_cases hlt:k<s.size
    ·have hlt':decide ((k:Int)<(s.size:Int))=true:=decide_eq_true al
     have hb:=BM s[k]
     have HY:Hid (yM s[k].toNat=true→(s.data.toList.take (k+1)).all (fun c=>yM c.toNat)=true):=Lib.hid fun h=>BL hlt HA.out h
     have HN:Hid (yM s[k].toNat=false→i8 s=false):=Lib.hid fun h=>ET hlt h
     have HI:Hid (yM s[k].toNat=true↔_):=Lib.hid (H7 s[k].toNat)
     go_wp2
     all_goals first
      | (go_ret;exact⟨fL (HN.out (by rw[Bool.eq_false_iff,ne_eq,HI.out];(try simp only[bne_iff_ne,ne_eq,bne_eq_false_iff_eq] at *);omega)).symm,rfl⟩)
      | (go_round
         case rel=>exact⟨k+1,by omega,by go_num,HY.out (HI.out.2 (by (try simp only[bne_iff_ne,ne_eq,bne_eq_false_iff_eq] at *);omega))⟩
         case measure=>simp[intOf];omega)
    ·obtain rfl:k=s.size:=by omega
     have hlt':decide ((s.size:Int)<(s.size:Int))=false:=decide_eq_false al
     have ht:i8 s=true:=by
      have:=HA.out
      rw[aN (by simp)] at this
      unfold i8 H8
      rw[this,decide_eq_true al,decide_eq_true al];rfl
     have HT:=Lib.hid ht
     clear ht
     go_wp2
     go_ret
     exact⟨fL HT.out.symm,rfl⟩
  ·have hd:decide ((32:Int)<(s.size:Int))=true:=decide_eq_true al
   have he:i8 s=false:=by unfold i8;rw[decide_eq_false h32,Bool.and_false,Bool.false_and]
   rw[he]
   clear he
   go_enter Tryz.func297,Tryz.ntmps297
   go_wp2
   go_ret
   exact⟨rfl,rfl⟩
end Go.Proofs.YtmijcbfgfkeodaaGreatDoor.L
end
