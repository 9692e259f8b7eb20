/- Ltext, Lparse, Dclone, Vplain, Bts, Vput. -/
import Derived.Test.YtmijcbfgfkeodaaGreatDoorIz07
import Derived.Lib.SlBytesConst
set_option linter.all false
set_option maxRecDepth 100000
set_option maxHeartbeats 2000000
open Go.Value renaming int → ae,slice → ai
open Go.IntKind renaming i64 → af,u64 → ah
open Go.Proofs.Tryz renaming prog → au
open Nat renaming lt_of_lt_of_le → aA,le_refl → aC,zero_le → aZ,zero_add → a_,eq_zero_or_pos → bj,mul_one → bC
open List renaming length_append → aD,take_succ_eq_append_getElem → aI,eq_nil_of_length_eq_zero → aJ,length_take → aK,length_cons → aL,append_assoc → aM,take_of_length_le → aN,getElem_mem → aO,nil_append → aR,length_singleton → aT,take_succ_cons → aV,map_append → aX,mem_cons_of_mem → bb,flatMap_append → bd,map_cons → bg,length_drop → bh,mem_cons_self → bq,length_nil → bu,cons_append → bA,size_toArray → bH
open Bool renaming and_eq_true → aS
open Array renaming length_toList → bG
section
namespace Go.Proofs.YtmijcbfgfkeodaaGreatDoor.L
open Go.RowKit Go.Hop
def Qi:ByteArray:={ data:=#[61] }
def BV:ByteArray:={ data:=#[44] }
def kA (d:Lb):ByteArray:=d.1++Qi++d.2
theorem tA (a b:ByteArray):(a++b).data.toList=a.data.toList++b.data.toList:=by
 rw[ByteArray.data_append,Array.toList_append]
theorem vI (d:Lb):(kA d).data.toList=lq d:=by
 unfold kA lq
 rw[tA,tA,aM]
 rfl
theorem iB {d:Lb} (h:tn d=true):d.1.size≤32∧d.2.size≤32:=by
 unfold tn at h
 simp only[aS] at h
 exact⟨(jL h.1).2,(jL h.2).2⟩
theorem mT {l:List Lb} (h:dS l=0):textOf l=txt (can l):=by unfold textOf;rw[if_pos h]
theorem BW {l:List Lb} (h:dS l≠0):textOf l={ data:=#[] }:=by unfold textOf;rw[if_neg h];rfl
theorem oV (w:World) (V:Nat→Prop) (A:Option Addr) (n c:Nat) (l:List Lb) (h:In w V 2 A n (dR l)) (hl:∀ d∈l,d.1.size≤maxLen∧d.2.size≤maxLen) (hn:n≤9223372036854775807) :
 Calls au 191 #[.slice A n c] w fun e w'=>e=.returned (.tuple #[.string (textOf l),ae af (dS l)])∧Grow w w':=by
 have JC:=yX w V A n c l h hl hn
 have hll:=LN.len h
 by_cases hR:dS l=0
 ·obtain⟨h8,hf⟩:=vG hR
  obtain⟨hok,hnd,_⟩:=(jq l).1 hf
  rw[hR] at JC ⊢
  rw[mT hR]
  have hn8:n≤8:=by omega
  clear hf
  obtain⟨T,HT⟩:∃ T:ByteArray,Hid (T=txt (can l)):=⟨_,rfl⟩
  rw[←HT.out]
  go_enter Tryz.func191,Tryz.ntmps191
  go_wp2_with fail
  refine JC.mono ?_
  rintro e w1 ⟨rfl,hg1⟩
  clear JC
  have hso:=oN w1 V A n c l (h.grow hg1) al
  go_wp2_with fail
  refine hso.mono ?_
  rintro e w2 ⟨A1,q,rfl,hq,hI,hg2⟩
  clear hso h
  have Kc:=cL hg1 hg2 hg1.size
  have hqc:q=can l:=hq.Mq hnd
  have hqo:∀ d∈q,tn d=true:=fun d hd=>hok d (hq.perm.mem_iff.1 hd)
  have gS:q.length=n:=by rw[hq.len];exact hll
  have Qj:=Lib.hid hqc
  have yY:=Lib.hid gS
  have LP:=Lib.hid hll
  clear hqc gS hll hR hnd
  go_wp2_with fail
  go_loopw [5,16] (fun o i wr=>∃ k:Nat,k≤n∧i=ae af (k:Int)∧Own wr (New w2 wr) 9 1 o k (((q.take k).map kA).map Value.string)∧Grow w2 wr) (fun _ i _=>n-(intOf i).toNat)
  case atStart=>exact⟨0,by omega,rfl,Own.nil,Grow.refl _⟩
  case round=>
   obtain⟨i,hin,rfl,hO,hgr⟩:=hrel
   obtain⟨Ab,cb,rfl,vJ,hnb,hmb⟩:=hO.fw
   have hsr:=hgr.size
   by_cases hi:i<n
   ·have hit:decide ((i:Int)<(n:Int))=true:=decide_eq_true al
    obtain⟨ad,hqi,rfl,e0,e1⟩:=vD (hI.grow hgr) hi
    have Ba:=e0 wr (Grow.refl _)
    have Gi:=e1 wr (Grow.refl _)
    have hdo:=hqo _ (aO hqi)
    have htk:Hid (((q.take (i+1)).map kA).map Value.string=((q.take i).map kA).map Value.string++[kA q[i]].map Value.string):=Lib.hid (by
     rw[aI hqi,aX,aX];rfl)
    generalize q[i]=d at Ba Gi hdo htk
    have hds:=iB hdo
    have hin2:¬ n≤i:=by omega
    clear e0 e1 vJ
    go_wp2_with (at_builtin;refine stay ?_)
    refine bV ?_
    have hga:Grow wr ((wr.alloc (.cells #[.string d.1,.string d.2] 90)).alloc (.cells #[.string (d.1++{ data:=#[61] }++d.2)] 9)):=((Below.refl _ _).alloc (aC _) _).alloc (by simp) _
    refine cR (V:=New w2 wr) Ml _ rfl (.tmp 20) (.tmp 27) rfl (.slice Ab i cb) i (((q.take i).map kA).map Value.string) rfl (hO.grow (fun b hb=>hb.2) hga) (wr.heap.size+1+1) (some ⟨wr.heap.size+1,0,none⟩) 1 1 ([kA d].map Value.string) rfl (df (wr.alloc (.cells #[.string d.1,.string d.2] 90)) #[.string (d.1++{ data:=#[61] }++d.2)] 9 (0,0) (n:=1) (size:=1) rfl (wr.heap.size+1) (by simp)) (vC _) al ?_
    intro v5 w5 vA dY
    have hs5:=dY.size
    simp at hs5
    rw[←htk.out] at vA
    have EO:Own w5 (New w2 w5) 9 1 v5 (i+1) (((q.take (i+1)).map kA).map Value.string):=by
     refine vA.mono fun b hb=>?_
     rcases hb with hb|hb
     ·exact⟨hb.1,by have:=hb.2;omega⟩
     ·have h6:=hb.1
      simp at h6
      exact⟨by omega,hb.2⟩
    have dT:Grow w2 w5:=Below.trans (cL hgr hga hsr) (dY.below (B:=w2.heap.size) (fun b hb=>hb.1) (by simp;omega))
    clear vA dY hO hga Ba Gi
    go_wp2_with fail
    go_roundw
    case rel=>exact⟨i+1,by omega,by go_num,EO,dT⟩
    case measure=>simp[intOf];omega
   ·obtain rfl:n=i:=by omega
    have hit:decide ((n:Int)<(n:Int))=false:=decide_eq_false al
    have Kd:q.take n=q:=aN (by have:=yY.out;omega)
    rw[Kd] at vJ
    have htl:=EW q hqo
    have JD:=yY.out
    have e:(q.map kA).map (·.data.toList)=q.map lq:=by
     rw[List.map_map]
     exact List.map_congr_left fun d _=>vI d
    have hjo:=BS wr _ Ab n cb (q.map kA) BV vJ hnb al (by rw[e];show (BP q).length≤_;omega)
    rw[e] at hjo
    have hT:mk (Lib.join (q.map lq) BV.data.toList)=T:=by rw[HT.out,←Qj.out];rfl
    rw[hT] at hjo
    clear e Kd htl JD hO vJ hT
    have hgw:=cL Kc hgr Kc.size
    go_wp2_with fail
    refine hjo.mono ?_
    rintro e w8 ⟨rfl,mK⟩
    clear hjo
    go_wp2_with fail
    go_ret2
    exact⟨rfl,cL hgw mK hgw.size⟩
 ·rw[BW hR]
  have hR2:(dS l == 0)=false:=beq_eq_false_iff_ne.2 hR
  generalize dS l=R at JC hR hR2 ⊢
  go_enter Tryz.func191,Tryz.ntmps191
  go_wp2_with fail
  refine JC.mono ?_
  rintro e w1 ⟨rfl,hg1⟩
  clear JC
  go_wp2_with fail
  go_ret2
  exact⟨rfl,hg1⟩
theorem kB (c:UInt8):∀ (s:List UInt8),∀ p∈dP c s,p.length≤s.length
 | [],p,h=>by
   rw[dP,List.mem_singleton] at h
   rw[h];exact aC _
 | b :: r,p,h=>by
   have ih:=kB c r
   unfold dP at h
   split at h
   ·rcases List.mem_cons.1 h with rfl|h
    ·exact aZ _
    ·have:=ih p h;rw[aL];omega
   ·split at h
    ·rw[List.mem_singleton.1 h];simp
    ·rename_i q qs e
     rcases List.mem_cons.1 h with rfl|h
     ·have:=ih q (by rw[e];exact bq)
      rw[aL,aL];omega
     ·have:=ih p (by rw[e];exact bb _ h)
      rw[aL];omega
theorem pW (p:List UInt8):(fx p).1.size≤p.length∧(fx p).2.size≤p.length:=by
 have e:∀ l:List UInt8,(mk l).size=l.length:=fun l=>by show l.toArray.size=_;rw[bH]
 unfold fx
 rw[e,e]
 unfold Lib.cut
 split
 ·exact⟨by rw[aK];omega,by rw[bh];omega⟩
 ·exact⟨aC _,aZ _⟩
theorem oW (s:ByteArray):s.data.toList.length=s.size:=by rw[bG];rfl
theorem rT {s:ByteArray} (hs:s.size≤1000000):∀ d∈dG s,d.1.size≤maxLen∧d.2.size≤maxLen:=fun d hd=>by
 obtain⟨p,hp,rfl⟩:=List.mem_map.1 hd
 have h1:=kB 44 _ p hp
 have h2:=pW p
 rw[oW] at h1
 unfold maxLen
 omega
theorem qN {s:ByteArray} (h:dS (dG s)≠0):fH s=12∧je s=[]:=by
 have:ie s=false:=by unfold ie;rw[decide_eq_false h,Bool.false_and]
 unfold fH je;rw[this];exact⟨rfl,rfl⟩
theorem y_ {s:ByteArray} (h:textOf (dG s)≠s):fH s=12∧je s=[]:=by
 by_cases h0:dS (dG s)=0
 ·rw[mT h0] at h
  have:ie s=false:=by unfold ie;rw[decide_eq_false h,Bool.and_false]
  unfold fH je;rw[this];exact⟨rfl,rfl⟩
 ·exact qN h0
theorem z6 {s:ByteArray} (h0:dS (dG s)=0) (h:textOf (dG s)=s):fH s=0∧je s=dG s:=by
 rw[mT h0] at h
 have:ie s=true:=by unfold ie;rw[decide_eq_true h0,decide_eq_true h];rfl
 unfold fH je;rw[this];exact⟨rfl,rfl⟩
theorem mU (w:World) (s:ByteArray) (hs:s.size≤1000000) :
 Calls au 111 #[.string s] w fun e w'=>∃ A c,e=.returned (.tuple #[.slice A (je s).length c,ae af (fH s)])∧In w' (New w w') 2 A (je s).length (dR (je s))∧(je s).length≤c∧Grow w w':=by
 have hsp:=yZ w s 44 al
 obtain⟨P,HP⟩:∃ P,Hid (P=dP 44 s.data.toList):=⟨_,rfl⟩
 have HL:Hid (dG s=P.map fx):=Lib.hid (by rw[HP.out];rfl)
 have Qk:P.length≤s.size+1:=by rw[HP.out,←oW];exact oU 44 _
 have hps:∀ p∈P,p.length≤s.size:=fun p hp=>by
  have:=kB 44 s.data.toList p (by rw[←HP.out];exact hp)
  rwa [oW] at this
 rw[←HP.out] at hsp
 obtain⟨K,HK⟩:∃ K:Nat,Hid (K=P.length):=⟨_,rfl⟩
 rw[←HK.out] at hsp Qk
 go_enter Tryz.func111,Tryz.ntmps111
 go_wp2_with fail
 refine hsp.mono ?_
 rintro e w1 ⟨A,rfl,hI,hg1⟩
 clear hsp
 go_wp2_with fail
 go_loopw [4,15] (fun o i wr=>∃ k:Nat,k≤K∧i=ae af (k:Int)∧Own wr (New w1 wr) 90 2 o k (dR ((P.take k).map fx))∧Grow w1 wr) (fun _ i _=>K-(intOf i).toNat)
 case atStart=>exact⟨0,by omega,rfl,Own.nil,Grow.refl _⟩
 case round=>
  obtain⟨i,hiK,rfl,hO,hgr⟩:=hrel
  obtain⟨Ab,cb,rfl,vJ,hnb,hmb⟩:=hO.fw
  have hsr:=hgr.size
  by_cases hi:i<K
  ·have hit:decide ((i:Int)<(K:Int))=true:=decide_eq_true al
   have hI':In wr (New w w1) 1 A K ((P.map mk).map Value.string):=hI.grow hgr
   obtain⟨ad,hqi,rfl,e0⟩:=H6 hI' hi
   have Ba:=e0 wr (Grow.refl _)
   rw[List.getElem_map] at Ba
   have OW:i<P.length:=by simpa using hqi
   have hpm:=hps _ (aO OW)
   have htk:Hid (dR ((P.take (i+1)).map fx)=dR ((P.take i).map fx)++dR [fx P[i]]):=Lib.hid (by
    rw[aI OW,aX]
    unfold dR
    rw[bd];rfl)
   generalize P[i]=p at Ba hpm htk
   have JE:=og wr (mk p) 61 (by show p.toArray.size<_;rw[bH];omega)
   rw[mk_data] at JE
   have hlo:Hid (fx p=(mk (Lib.cut p [61]).1,mk (Lib.cut p [61]).2.1)):=Lib.hid rfl
   generalize mk (Lib.cut p [61]).1=x at JE hlo
   generalize mk (Lib.cut p [61]).2.1=y at JE hlo
   generalize (Lib.cut p [61]).2.2=z at JE
   have hin2:¬ K≤i:=by omega
   clear e0 hI' vJ
   go_wp2_with fail
   refine JE.mono ?_
   rintro e w3 ⟨rfl,hg3⟩
   clear JE Ba
   have hs3:=hg3.size
   have hga:Grow w3 (w3.alloc (.cells #[.string x,.string y] 90)):=(Below.refl _ _).alloc (aC _) _
   have hO3:=hO.grow (fun b hb=>hb.2) hg3
   go_wp2_with (at_builtin;refine stay ?_)
   refine bV ?_
   refine cR (V:=New w1 wr) BG _ rfl (.tmp 25) (.tmp 29) rfl (.slice Ab i cb) i (dR ((P.take i).map fx)) rfl (hO3.grow (fun b hb=>by have:=hb.2;omega) hga) (w3.heap.size+1) (some ⟨w3.heap.size,0,none⟩) 1 1 (dR [fx p]) rfl (by rw[hlo.out];exact df w3 #[.string x,.string y] 90 (0,0) (n:=1) (size:=2) rfl w3.heap.size rfl) (oL _) al ?_
   intro v5 w5 vA dY
   have hs5:=dY.size
   simp at hs5
   rw[←htk.out] at vA
   have EO:Own w5 (New w1 w5) 90 2 v5 (i+1) (dR ((P.take (i+1)).map fx)):=by
    refine vA.mono fun b hb=>?_
    rcases hb with hb|hb
    ·exact⟨hb.1,by have:=hb.2;omega⟩
    ·have h6:=hb.1
     simp at h6
     exact⟨by omega,hb.2⟩
   have dT:Grow w1 w5:=Below.trans (cL (cL hgr hg3 hsr) hga al) (dY.below (B:=w1.heap.size) (fun b hb=>hb.1) (by simp;omega))
   clear vA dY hO hO3 hga
   go_wp2_with fail
   go_roundw
   case rel=>exact⟨i+1,by omega,by go_num,EO,dT⟩
   case measure=>simp[intOf];omega
  ·obtain rfl:K=i:=by omega
   have hit:decide ((K:Int)<(K:Int))=false:=decide_eq_false al
   have LS:(P.take K).map fx=dG s:=by rw[HL.out,aN (by have:=HK.out;omega)]
   rw[LS] at vJ
   have hls:=rT hs
   have htx:=oV wr _ Ab K cb (dG s) vJ hls al
   have Ql:Hid ((dG s).length=K):=Lib.hid (LN.len vJ)
   have hgw:=cL hg1 hgr hg1.size
   have hs1:=hg1.size
   clear LS hO hls
   by_cases hR:dS (dG s)=0
   ·have hRb:(dS (dG s) == 0)=true:=by rw[hR];rfl
    by_cases hT:textOf (dG s)=s
    ·have HY:=Lib.hid (z6 hR hT)
     rw[hR,hT] at htx
     clear hR hT hRb
     go_wp2_with fail
     refine htx.mono ?_
     rintro e w5 ⟨rfl,hg5⟩
     clear htx
     go_wp2_with (go_at_call 192;refine (ti _ _ _ _ hnb).mono ?_;rintro e w' ⟨rfl,rfl⟩)
     go_ret2
     have hs5:=hg5.size
     rw[HY.out.1,HY.out.2,Ql.out]
     exact⟨Ab,K,rfl,(vJ.grow hg5).mono fun b hb=>⟨by have:=hb.1;omega,by have:=hb.2;omega⟩,aC _,cL hgw hg5 hgw.size⟩
    ·have HY:=Lib.hid (y_ hT)
     rw[hR] at htx
     have Qm:=xU hT
     clear hR hT hRb
     generalize textOf (dG s)=T at htx Qm
     go_wp2_with fail
     refine htx.mono ?_
     rintro e w5 ⟨rfl,hg5⟩
     clear htx
     go_wp2_with fail
     go_ret2
     rw[HY.out.1,HY.out.2]
     exact⟨none,0,rfl,In.nil,aC _,cL hgw hg5 hgw.size⟩
   ·have HY:=Lib.hid (qN hR)
    have hRb:(dS (dG s) == 0)=false:=beq_eq_false_iff_ne.2 hR
    clear vJ
    generalize textOf (dG s)=T at htx
    generalize dS (dG s)=R at htx hR hRb
    go_wp2_with fail
    refine htx.mono ?_
    rintro e w5 ⟨rfl,hg5⟩
    clear htx
    go_wp2_with fail
    go_ret2
    rw[HY.out.1,HY.out.2]
    exact⟨none,0,rfl,In.nil,aC _,cL hgw hg5 hgw.size⟩
end Go.Proofs.YtmijcbfgfkeodaaGreatDoor.L
end
section
namespace Go.Proofs.YtmijcbfgfkeodaaGreatDoor
open Go.RowKit Go.Hop
theorem fF (w:World) (V:Nat→Prop) (A:Option Addr) (n c:Nat) (l:List Dl) (h:fV w V A n l) (hn:n≤1048576) :
 Calls au 231 #[.slice A n c] w fun e w'=>∃ A' c',e=.returned (.slice A' n c')∧fV w' (New w w') A' n l∧n≤c'∧c'≤maxLen∧Grow w w':=by
 have hnil:=fun (w':World)=>Lib.run_eql_slice_nil (P:=au) w' 30 29 A n c 0 0 Tryz.underlying30
 cases A with
 | none=>
   have hn0:n=0:=by
    rcases bj n with h0|h0
    ·exact h0
    ·obtain⟨_,e,_⟩:=h.2 h0;cases e
   subst hn0
   obtain rfl:l=[]:=aJ h.len
   go_enter Tryz.func231,Tryz.ntmps231
   go_wp2_with fail
   go_ret
   exact⟨_,_,rfl,In.nil,aC _,aZ _,Grow.refl _⟩
 | some ad=>
   go_enter Tryz.func231,Tryz.ntmps231
   go_wp2_with (at_builtin;refine stay ?_)
   refine bV ?_
   refine cR (V:=fun b=>b=w.heap.size) vn _ rfl (.tmp 5) (.tmp 6) rfl (.slice (some ⟨w.heap.size,0,none⟩) 0 0) 0 [] rfl (fO w _ _) w.heap.size (some ad) n c (eE l) rfl (Reads.alloc (In.reads h) (aC _) _) (lA l) al ?_
   intro v1 w1 fW hj1
   simp only[a_,aR] at fW
   obtain⟨hO2,hg1⟩:=i_ fW hj1
   obtain⟨A2,c2,rfl,hI,hnc,hm⟩:=hO2.fw
   go_wp2_with fail
   go_ret
   exact⟨A2,c2,rfl,hI,hnc,hm,hg1⟩
theorem iC (w:World) (A:Option Addr) (n c:Nat) (hn:n≤c) :
 Calls au 137 #[.slice A n c] w fun e w'=>e=.returned (.slice A n n)∧w=w':=by
 go_enter Tryz.func137,Tryz.ntmps137
 go_wp2_with fail
 go_ret
 exact⟨rfl,rfl⟩
end Go.Proofs.YtmijcbfgfkeodaaGreatDoor
end
section
namespace Go.Proofs.YtmijcbfgfkeodaaGreatDoor.V
open Go.RowKit Go.Hop
def enc (n:Nat):List UInt8:=if n<128 then [UInt8.ofNat n] else UInt8.ofNat (n % 128+128) :: enc (n / 128)
termination_by n
decreasing_by omega
def val:List UInt8→Nat
 | []=>0
 | c :: l=>c.toNat % 128+128*val l
def Canon:List UInt8→Prop
 | []=>False
 | [c]=>c.toNat<128
 | c :: d :: l=>128≤c.toNat∧(d :: l)≠[0]∧Canon (d :: l)
theorem mV {n:Nat} (h:n<256):(UInt8.ofNat n).toNat=n:=by
 rw[UInt8.toNat_ofNat'];omega
theorem gd {n:Nat} (h:n<128):enc n=[UInt8.ofNat n]:=by rw[enc];rw[if_pos h]
theorem jr {n:Nat} (h:128≤n):enc n=UInt8.ofNat (n % 128+128) :: enc (n / 128):=by rw[enc];rw[if_neg al]
theorem Hb (n:Nat):enc n≠[]:=by
 by_cases h:n<128
 ·rw[gd h];simp
 ·rw[jr al];simp
theorem oh (n:Nat):val (enc n)=n:=by
 induction n using Nat.strongRecOn with
 | _ n ih=>
   by_cases h:n<128
   ·rw[gd h]
    simp only[val]
    rw[mV al];omega
   ·rw[jr al]
    simp only[val]
    rw[ih (n / 128) al,mV al];omega
theorem BX {n:Nat} (h:enc n=[0]):n=0:=by
 have:=oh n
 rw[h] at this
 rw[←this];rfl
theorem gL (n:Nat):Canon (enc n):=by
 induction n using Nat.strongRecOn with
 | _ n ih=>
   by_cases h:n<128
   ·rw[gd h]
    show (UInt8.ofNat n).toNat<128
    rw[mV al];exact h
   ·rw[jr al]
    have h1:=ih (n / 128) al
    have h2:enc (n / 128)≠[0]:=fun e=>by have:=BX e;omega
    revert h1 h2
    cases enc (n / 128) with
    | nil=>intro h1;exact absurd h1 (by simp[Canon])
    | cons d l=>
      intro h1 h2
      exact⟨by rw[mV al];omega,h2,h1⟩
theorem qO:∀ (p:List UInt8),Canon p→enc (val p)=p
 | [],h=>h.elim
 | [c],h=>by
   have h:c.toNat<128:=h
   simp only[val]
   rw[show c.toNat % 128+128*0=c.toNat by omega,gd h]
   simp
 | c :: d :: l,h=>by
   obtain⟨h1,h2,h3⟩:=h
   have ih:=qO (d :: l) h3
   have hc:c.toNat<256:=c.toNat_lt
   have hv:1≤val (d :: l):=by
    rcases bj (val (d :: l)) with h0|h0
    ·rw[h0,gd al] at ih
     exact absurd ih.symm h2
    ·exact h0
   show enc (c.toNat % 128+128*val (d :: l))=_
   generalize val (d :: l)=v at ih hv
   rw[jr al,show (c.toNat % 128+128*v) / 128=v by omega,ih]
   congr 1
   rw[show (c.toNat % 128+128*v) % 128+128=c.toNat by omega]
   simp
theorem m7:∀ (p q l:List UInt8),Canon p→Canon q→p <+: l→q <+: l→p=q
 | [],_,_,h,_,_,_=>h.elim
 | _,[],_,_,h,_,_=>h.elim
 | c :: p,d :: q,l,hp,hq,h1,h2=>by
   obtain⟨r,rfl⟩:=h1
   rw[bA] at h2
   obtain⟨rfl,h3⟩:=List.cons_prefix_cons.1 h2
   have h1:p <+: p++r:=⟨r,rfl⟩
   cases p with
   | nil=>
     cases q with
     | nil=>rfl
     | cons e q=>exact absurd hq.1 (by have:d.toNat<128:=hp;omega)
   | cons e p=>
     cases q with
     | nil=>exact absurd hp.1 (by have:d.toNat<128:=hq;omega)
     | cons f q=>rw[m7 (e :: p) (f :: q) (e :: p++r) hp.2.2 hq.2.2 h1 h3]
theorem fX {m n:Nat} {l:List UInt8} (h1:enc m <+: l) (h2:enc n <+: l):m=n:=by
 have:=m7 _ _ l (gL m) (gL n) h1 h2
 rw[←oh m,this,oh]
theorem oX:∀ (k n:Nat),n<128 ^ (k+1)→(enc n).length≤k+1
 | 0,n,h=>by rw[gd (by simpa using h)];simp
 | k+1,n,h=>by
   by_cases hn:n<128
   ·rw[gd hn];simp
   ·rw[jr al,aL]
    have:=oX k (n / 128) (by rw[Nat.pow_succ] at h;omega)
    omega
theorem cZ {n:Nat} (h:n<18446744073709551616):(enc n).length≤10:=oX 9 n al
theorem m8 (n:Nat):1≤(enc n).length:=by
 rcases bj (enc n).length with h|h
 ·exact absurd (aJ h) (Hb n)
 ·exact h
def Hi (l:List UInt8) (i:Nat):Prop:=∀ (j:Nat) (hj:j<l.length),j<i→128≤l[j].toNat
theorem m9:∀ (p l:List UInt8) (i:Nat),Canon p→p <+: l→Hi l i→i<p.length
 | [],_,_,h,_,_=>h.elim
 | [c],l,i,h,⟨r,hr⟩,hi=>by
   rcases bj i with h0|h0
   ·subst h0;simp
   ·have:=hi 0 (by rw[←hr];simp) h0
    subst hr
    have hc:c.toNat<128:=h
    simp at this;omega
 | c :: d :: p,l,i,h,⟨r,hr⟩,hi=>by
   cases i with
   | zero=>simp
   | succ i=>
     have:=m9 (d :: p) (d :: p++r) i h.2.2 ⟨r,rfl⟩ (fun j hj hji=>by
      have:=hi (j+1) (by rw[←hr];simpa using hj) al
      subst hr
      simpa using this)
     simp at this ⊢;omega
theorem qP:∀ (p l:List UInt8) (i:Nat) (hi:i<l.length),Canon p→p <+: l→i<p.length→l[i].toNat<128→p.length=i+1
 | [],_,_,_,h,_,_,_=>h.elim
 | [c],_,i,_,_,_,h,_=>by simp at h;simp;omega
 | c :: d :: p,l,i,hi,h,⟨r,hr⟩,Qn,hl=>by
   subst hr
   cases i with
   | zero=>have:=h.1;simp at hl;omega
   | succ i=>
     have:=qP (d :: p) (d :: p++r) i (by simpa using hi) h.2.2 ⟨r,rfl⟩ (by simpa using Qn) (by simpa using hl)
     simp at this ⊢;omega
theorem gU:∀ (l:List UInt8) (i:Nat) (hi:i<l.length),val (l.take (i+1))=val (l.take i)+(l[i].toNat % 128)*128 ^ i
 | [],_,h=>by simp at h
 | c :: l,0,_=>by simp[val]
 | c :: l,i+1,h=>by
   have hl:i<l.length:=by simpa using h
   have ih:=gU l i hl
   rw[aV,aV]
   simp only[val,List.getElem_cons_succ]
   rw[ih,Nat.pow_succ,Nat.mul_add]
   have:128*(l[i].toNat % 128*128 ^ i)=l[i].toNat % 128*(128 ^ i*128):=by rw[Nat.mul_comm,Nat.mul_assoc]
   omega
theorem BZ:∀ (l:List UInt8),val l<128 ^ l.length
 | []=>by simp[val]
 | c :: l=>by
   have:=BZ l
   simp only[val,aL,Nat.pow_succ]
   omega
theorem kC (l:List UInt8) (i:Nat):val (l.take i)<128 ^ i:=by
 refine aA (BZ _) (Nat.pow_le_pow_right al ?_)
 rw[aK];omega
theorem tB:∀ (p l:List UInt8) (i:Nat) (hi:i<l.length),p <+: l→i<p.length→(l[i].toNat % 128)*128 ^ i≤val p
 | [],_,_,_,_,h=>by simp at h
 | c :: p,l,0,hi,⟨r,hr⟩,_=>by subst hr;simp[val]
 | c :: p,l,i+1,hi,⟨r,hr⟩,h=>by
   subst hr
   have hl:i<(p++r).length:=by simpa using hi
   have:=tB p (p++r) i hl ⟨r,rfl⟩ (by simpa using h)
   simp only[val,bA,List.getElem_cons_succ,Nat.pow_succ]
   have e:(p++r)[i].toNat % 128*(128 ^ i*128)=128*((p++r)[i].toNat % 128*128 ^ i):=by rw[Nat.mul_comm 128,Nat.mul_assoc]
   omega
theorem oY:∀ (l:List UInt8) (i:Nat) (hi:i<l.length),Hi l i→l[i].toNat<128→(l[i]≠0∨i=0)→Canon (l.take (i+1))
 | [],_,h,_,_,_=>by simp at h
 | c :: l,0,_,_,h,_=>by simpa [Canon] using h
 | [c],i+1,h,_,_,_=>by simp at h
 | c :: d :: l,i+1,hi,hh,h,hz=>by
   have ih:=oY (d :: l) i (by simpa using hi) (fun j hj hji=>by have:=hh (j+1) (by simpa using hj) al;simpa using this) (by simpa using h) (by
    rcases hz with hz|hz
    ·exact .inl (by simpa using hz)
    ·omega)
   have h0:=hh 0 (by simp) al
   rw[aV]
   cases ht:(d :: l).take (i+1) with
   | nil=>simp at ht
   | cons e q=>
     rw[ht] at ih
     refine⟨by simpa using h0,fun he=>?_,ih⟩
     rw[he] at ht
     have hlen:=congrArg List.length ht
     rw[aK,aL,aL,bu] at hlen
     rw[aL,aL] at hi
     have hi0:i=0:=by omega
     subst hi0
     rcases hz with hz|hz
     ·apply hz
      simp at ht ⊢
      exact ht
     ·omega
def fp (l:List UInt8) (n k:Nat):Prop:=(n<18446744073709551616∧enc n <+: l∧k=(enc n).length)∨((∀ m,m<18446744073709551616→¬ enc m <+: l)∧n=0∧k=0)
theorem fp.one {l:List UInt8} {n k n' k':Nat} (h:fp l n k) (h':fp l n' k'):n=n'∧k=k':=by
 rcases h with ⟨h1,h2,h3⟩|⟨h1,h2,h3⟩<;>rcases h' with ⟨g1,g2,g3⟩|⟨g1,g2,g3⟩
 ·have:=fX h2 g2
  subst this
  exact⟨rfl,by omega⟩
 ·exact absurd h2 (g1 _ h1)
 ·exact absurd g2 (h1 _ g1)
 ·omega
theorem fp.none {l:List UInt8} (h:∀ m,m<18446744073709551616→¬ enc m <+: l):fp l 0 0 := .inr ⟨h,rfl,rfl⟩
theorem fp.lt {l:List UInt8} {n k:Nat} (h:fp l n k):n<18446744073709551616∧k≤10∧k≤l.length:=by
 rcases h with ⟨h1,h2,h3⟩|⟨h1,h2,h3⟩
 ·exact⟨h1,by have:=cZ h1;omega,by have:=h2.length_le;omega⟩
 ·omega
theorem mW {l:List UInt8} {i:Nat} (h:Hi l i) (hi:i=l.length∨10≤i):∀ m,m<18446744073709551616→¬ enc m <+: l:=fun m hm hp=>by
 have h1:=m9 _ l i (gL m) hp h
 have h2:=hp.length_le
 have h3:=cZ hm
 omega
theorem lH {l:List UInt8} {i:Nat} (hi:i<l.length) (h:Hi l i) (hg:18446744073709551616≤(l[i].toNat % 128)*128 ^ i):∀ m,m<18446744073709551616→¬ enc m <+: l:=fun m hm hp=>by
 have h1:=m9 _ l i (gL m) hp h
 have h2:=tB _ l i hi hp h1
 rw[oh] at h2
 omega
theorem Hc {l:List UInt8} {i m:Nat} (hi:i<l.length) (h:Hi l i) (hl:l[i].toNat<128) (hp:enc m <+: l):enc m=l.take (i+1):=by
 have h1:=m9 _ l i (gL m) hp h
 have h2:=qP _ l i hi (gL m) hp h1 hl
 obtain⟨r,rfl⟩:=hp
 rw[←h2,List.take_left']
 rfl
theorem kD {l:List UInt8} {i:Nat} (hi:i<l.length) (h:Hi l i) (hz:l[i]=0) (h0:0<i):∀ m,m<18446744073709551616→¬ enc m <+: l:=fun m _ hp=>by
 have e:=Hc hi h (by rw[hz];decide) hp
 have hc:=gL m
 rw[e] at hc
 have key:∀ (l:List UInt8) (i:Nat) (hi:i<l.length),l[i]=0→0<i→¬ Canon (l.take (i+1)):=by
  intro l
  induction l with
  | nil=>intro i hi;simp at hi
  | cons c l ih=>
    intro i hi hz h0 hc
    cases i with
    | zero=>omega
    | succ i=>
      cases l with
      | nil=>simp at hi
      | cons d l=>
        rw[aV,aV] at hc
        cases i with
        | zero=>
          simp at hz
          subst hz
          exact hc.2.1 (by simp)
        | succ i=>
          refine ih (i+1) (by simpa using hi) (by simpa using hz) al ?_
          rw[aV]
          exact hc.2.2
 exact key l i hi hz h0 hc
theorem mX {l:List UInt8} {i:Nat} (hi:i<l.length) (h:Hi l i) (hl:l[i].toNat<128) (hz:l[i]≠0∨i=0) (hv:val (l.take (i+1))<18446744073709551616):fp l (val (l.take (i+1))) (i+1):=by
 have e:=qO _ (oY l i hi h hl hz)
 refine .inl ⟨hv,by rw[e];exact List.take_prefix _ _,?_⟩
 rw[e,aK];omega
theorem rU {l:List UInt8} {i:Nat} (hi:i<l.length) (h:Hi l i) (hc:128≤l[i].toNat):Hi l (i+1):=fun j hj hji=>by
 by_cases he:j=i
 ·subst he;exact hc
 ·exact h j hj al
theorem rV:(Tryz.prog.info? 5).map (fun i=>(i.zero,i.size,i.bytes))=some (some (.int .u8 0),1,1):=by kernel_rfl
theorem info_parts {e size bytes:Nat} {z:Value} (h:(Tryz.prog.info? e).map (fun i=>(i.zero,i.size,i.bytes))=some (some z,size,bytes)):∃ i,Tryz.prog.info? e=some i∧i.zero=some z∧i.size=size∧i.bytes=bytes:=by
 cases hi:Tryz.prog.info? e with
 | none=>rw[hi] at h;cases h
 | some i=>rw[hi] at h;injection h with h;injection h with h1 h2;injection h2 with h2 h3;exact⟨i,rfl,h1,h2,h3⟩
theorem z8:Elem au 65 5 1 1 (.int .u8 0):=⟨Tryz.underlying65,info_parts rV,rfl,by decide,by decide⟩
def New (w w':World) (b:Nat):Prop:=w.heap.size≤b∧b<w'.heap.size
theorem oZ (l:List UInt8) (k:Nat):gn (l.take k)=(gn l).take (k*1):=by unfold gn;rw[List.map_take,bC]
theorem ma (l:List UInt8) (k:Nat):gn (l.drop k)=(gn l).drop (k*1):=by unfold gn;rw[List.map_drop,bC]
theorem xV (w:World) {u:Value} {l:List UInt8} (h:bZ l u w):(convert 65 9 u).run au w=.ok (.string ⟨l.toArray⟩) w:=t7 65 9 5 Tryz.underlying65 Tryz.underlying5 Tryz.underlying9 w h
theorem o_ (w:World) {B:Nat} {A:Option Addr} {n c:Nat} {l:List UInt8} (h:Bytes w B A n l):(convert 65 9 (.slice A n c)).run au w=.ok (.string ⟨l.toArray⟩) w:=ku 65 9 5 Tryz.underlying65 Tryz.underlying5 Tryz.underlying9 w h
theorem fO (w:World):Own (w.alloc (.cells #[] 5)) (fun b=>b=w.heap.size) 5 1 (.slice (some ⟨w.heap.size,0,none⟩) 0 0) 0 []:=
 Own.rG (World.ownsRow_made w #[] 0 (aC _) ak rfl) (fun g hg=>by injection hg with hg;exact hg.symm)
theorem i_ {w w1:World} {v:Value} {n:Nat} {xs:List Value} (hO:Own w1 (Ext (fun b=>b=w.heap.size) (w.alloc (.cells #[] 5)) w1) 5 1 v n xs) (hj:Just (fun b=>b=w.heap.size) (w.alloc (.cells #[] 5)) w1):Own w1 (New w w1) 5 1 v n xs∧Grow w w1:=by
 have hs:w.heap.size<w1.heap.size:=by have:=hj.size;simp at this;omega
 refine⟨hO.mono (fun b hb=>?_),((Below.refl w.heap.size w).alloc (aC _) (.cells #[] 5)).trans (hj.below (B:=w.heap.size) (fun b hb=>by rw[hb];exact aC _) (by simp))⟩
 rcases hb with rfl|⟨h1,h2⟩
 ·exact⟨aC _,hs⟩
 ·simp at h1;exact⟨by omega,h2⟩
theorem tC {w w1 w2:World} {e size n:Nat} {v:Value} {xs:List Value} (hg:Grow w w1) (hO:Own w2 (Ext (New w w1) w1 w2) e size v n xs) (hj:Just (New w w1) w1 w2):Own w2 (New w w2) e size v n xs∧Grow w w2:=by
 have h1:=hg.size
 have h2:=hj.size
 refine⟨hO.mono fun b hb=>?_,Below.trans hg (hj.below (B:=w.heap.size) (fun b hb=>hb.1) h1)⟩
 rcases hb with hb|hb
 ·exact⟨hb.1,by have:=hb.2;omega⟩
 ·exact⟨by have:=hb.1;omega,hb.2⟩
theorem ik {w w1 w2:World} {e size n:Nat} {v:Value} {xs:List Value} {o:Obj} (hg:Grow w w1) (hO:Own w2 (Ext (New w w1) (w1.alloc o) w2) e size v n xs) (hj:Just (New w w1) (w1.alloc o) w2):Own w2 (New w w2) e size v n xs∧Grow w w2:=by
 have h1:=hg.size
 have h2:=hj.size
 simp at h2
 refine⟨hO.mono fun b hb=>?_,Below.trans hg (Below.trans ((Below.refl w1.heap.size w1).alloc (aC _) o |>.mono h1) (hj.below (B:=w.heap.size) (fun b hb=>hb.1) (by simp;omega)))⟩
 rcases hb with hb|hb
 ·exact⟨hb.1,by have:=hb.2;omega⟩
 ·have:=hb.1;simp at this;exact⟨by omega,hb.2⟩
theorem il {w w1:World} {e size n:Nat} {v:Value} {xs:List Value} (hO:Own w1 (New w w1) e size v n xs) (o:Obj):Own (w1.alloc o) (New w w1) e size v n xs:=
 hO.grow (fun b hb=>hb.2) ((Below.refl w1.heap.size w1).alloc (aC _) o)
theorem fF (w:World) (A:Option Addr) (n c:Nat) (l:List UInt8) (h:Bytes w w.heap.size A n l) (hn:n≤140737488355328) :
 Calls au 180 #[.slice A n c] w fun e w'=>∃ v,e=.returned v∧Own w' (New w w') 5 1 v n (gn l)∧Grow w w':=by
 have hnil:=fun (w':World)=>Lib.run_eql_slice_nil (P:=au) w' 65 5 A n c 0 0 Tryz.underlying65
 cases A with
 | none=>
   have hn0:n=0:=by
    rcases bj n with h0|h0
    ·exact h0
    ·obtain⟨_,e,_⟩:=h.2 h0;cases e
   subst hn0
   obtain rfl:l=[]:=aJ h.len
   go_enter Tryz.func180,Tryz.ntmps180
   go_wp2_with fail
   go_ret
   exact⟨_,rfl,Own.nil,Grow.refl _⟩
 | some ad=>
   go_enter Tryz.func180,Tryz.ntmps180
   go_wp2_with (at_builtin;refine stay ?_)
   refine bV ?_
   refine cR (V:=fun b=>b=w.heap.size) z8 _ rfl (.tmp 5) (.tmp 6) rfl (.slice (some ⟨w.heap.size,0,none⟩) 0 0) 0 [] rfl (fO w) w.heap.size (some ad) n c (gn l) rfl (Reads.alloc h (aC _) _) gR al ?_
   intro v1 w1 fW hj1
   simp only[a_,aR] at fW
   obtain⟨fW,hg1⟩:=i_ fW hj1
   go_wp2_with fail
   go_ret
   exact⟨v1,rfl,fW,hg1⟩
theorem iC (w:World) (A:Option Addr) (n c:Nat) (hn:n≤c) :
 Calls au 163 #[.slice A n c] w fun e w'=>e=.returned (.slice A n n)∧w=w':=by
 go_enter Tryz.func163,Tryz.ntmps163
 go_wp2_with fail
 go_ret
 exact⟨rfl,rfl⟩
theorem tD (w:World) (V:Nat→Prop) (v:Value) (n:Nat) (l:List UInt8) (h:Own w V 5 1 v n (gn l)) :
 Calls au 163 #[v] w fun e w'=>∃ v',e=.returned v'∧w=w'∧Own w V 5 1 v' n (gn l):=by
 obtain⟨A,c,rfl,hR,hn,hm⟩:=h.reads
 refine (iC w A n c hn).mono fun e w' ⟨he,hw⟩=>⟨_,he,hw,?_⟩
 have:=h.cut (aC n)
 rwa [aN (by rw[h.1];omega)] at this
theorem tE:∀ x:Nat,x<256→bits .or .u8 (x:Int) 128=((x % 128+128:Nat):Int):=by decide +kernel
theorem Ke (m:Nat):bits .or .u8 ((m:Int) % 256) 128=((m % 128+128:Nat):Int):=by
 have:=tE (m % 256) al
 rw[show ((m % 256:Nat):Int)=(m:Int) % 256 by omega] at this
 rw[this]
 omega
theorem _root_.Go.Hop.Reads.js {w:World} {B size n:Nat} {A:Option Addr} {xs ys:List Value} (h:Reads w B size A n xs) (e:ys=xs):Reads w B size A n ys:=e▸h
theorem rX (w:World) (A:Option Addr) (n c:Nat) (l:List UInt8) (hb:Bytes w w.heap.size A n l) (hn:n≤1099511627776) (m:Nat) (hm:m<18446744073709551616) :
 Calls au 219 #[.slice A n c,ae ah (m:Int)] w fun e w'=>∃ v,e=.returned v∧Own w' (New w w') 5 1 v (n+(enc m).length) (gn (l++enc m))∧Grow w w':=by
 have hlen:=cZ hm
 go_enter Tryz.func219,Tryz.ntmps219
 go_wp2_with (go_at_call 180;refine (fF _ A n c l hb al).mono ?_;rintro e w1 ⟨v1,rfl,fW,hg1⟩)
 go_loopw [1,5] (fun mv v wr=>∃ (pre:List UInt8) (m':Nat),mv=ae ah (m':Int)∧m'<18446744073709551616∧pre++enc m'=enc m∧Own wr (New w wr) 5 1 v (n+pre.length) (gn (l++pre))∧Grow w wr) (fun mv _ _=>(intOf mv).toNat)
 case atStart=>exact⟨[],m,rfl,hm,rfl,by simpa using fW,hg1⟩
 case round=>
  obtain⟨pre,m',rfl,hm',hpre,hO,hg⟩:=hrel
  obtain⟨A1,c1,rfl,nJ,hn1,hm1⟩:=hO.reads
  have hpl:pre.length≤10:=by have:=congrArg List.length hpre;rw[aD] at this;omega
  have HP:=Lib.hid hpre
  clear hpre
  by_cases hgo:128≤m'
  ·have eor:=Ke m'
   go_wp2_with (at_builtin;refine stay ?_)
   refine bV ?_
   refine cR (V:=New w wr) z8 _ rfl (.tmp 10) (.tmp 14) rfl (.slice A1 (n+pre.length) c1) (n+pre.length) (gn (l++pre)) rfl (il hO _) (wr.heap.size+1) (some ⟨wr.heap.size,0,none⟩) 1 1 (gn [UInt8.ofNat (m' % 128+128)]) rfl (df wr _ 5 _ rfl _ rfl |>.js (by simp only[gn,bg,List.map_nil];rw[mV al];push_cast;rfl)) gR al ?_
   intro v3 w3 hO3 hj3
   rw[←ff,aM] at hO3
   obtain⟨hO3,hg3⟩:=ik hg hO3 hj3
   clear hj3 hO nJ
   go_wp2_with fail
   go_roundw
   case rel=>exact⟨pre++[UInt8.ofNat (m' % 128+128)],m' / 128,by go_num,by omega,by rw[aM,List.singleton_append,←jr hgo];exact HP.out,by rw[aD,←Nat.add_assoc];exact hO3,hg3⟩
   case measure=>simp[intOf];omega
  ·go_wp2_with (at_builtin;refine stay ?_)
   refine bV ?_
   refine cR (V:=New w wr) z8 _ rfl (.tmp 18) (.tmp 21) rfl (.slice A1 (n+pre.length) c1) (n+pre.length) (gn (l++pre)) rfl (il hO _) (wr.heap.size+1) (some ⟨wr.heap.size,0,none⟩) 1 1 (gn [UInt8.ofNat m']) rfl (df wr _ 5 _ rfl _ rfl |>.js (by simp only[gn,bg,List.map_nil];rw[mV al])) gR al ?_
   intro v3 w3 hO3 hj3
   rw[←ff,aM] at hO3
   obtain⟨hO3,hg3⟩:=ik hg hO3 hj3
   have hP:=HP.out
   rw[gd al] at hP
   rw[hP] at hO3
   have hL:=congrArg List.length hP
   rw[aD,aT] at hL
   have hL':n+pre.length+1=n+(enc m).length:=by omega
   rw[hL'] at hO3
   clear hj3 hO nJ hP hL hL'
   obtain⟨A3,c3,rfl,qQ,Ep,B_⟩:=hO3.reads
   go_wp2_with (go_at_call 163;refine (tD _ _ _ _ _ hO3).mono ?_;rintro e w4 ⟨v4,rfl,rfl,hO4⟩)
   go_ret
   exact⟨v4,rfl,hO4,hg3⟩
end Go.Proofs.YtmijcbfgfkeodaaGreatDoor.V
end
