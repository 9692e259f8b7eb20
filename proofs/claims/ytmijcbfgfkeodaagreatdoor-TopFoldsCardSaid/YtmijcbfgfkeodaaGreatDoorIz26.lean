/- Or2, Or3, Fd1, Wimem. -/
import Derived.Test.YtmijcbfgfkeodaaGreatDoorIz25
import Derived.Shelf.SlSortCmp.WholeK
import Derived.Shelf.SlSortCmp.NoneTotal
set_option linter.all false
set_option maxRecDepth 100000
set_option maxHeartbeats 2000000
open Go.Value renaming int → ae,slice → ai
open Go.IntKind renaming i64 → af,u64 → ah
open Go.Proofs.Tryz renaming prog → au
open List renaming setIfInBounds_toArray → aw,drop_succ_cons → ax,set_cons_zero → ay,set_cons_succ → az,drop_zero → aB,length_append → aD,not_mem_nil → aE,mem_cons → aF,take_succ_eq_append_getElem → aI,eq_nil_of_length_eq_zero → aJ,length_take → aK,length_cons → aL,append_assoc → aM,take_of_length_le → aN,getElem_mem → aO,length_map → aP,nil_append → aR,mem_cons_of_mem → bb,append_nil → bf,mem_of_mem_take → bp,take_zero → bw,cons_append → bA,size_toArray → bH
open Nat renaming lt_of_lt_of_le → aA,le_refl → aC,le_trans → aH,zero_le → aZ,zero_add → a_,mul_le_mul_right → bm,min_eq_left → bF
open Bool renaming and_eq_true → aS
section
namespace Go.Proofs.YtmijcbfgfkeodaaGreatDoor
open Go.RowKit Go.Hop V
def xc:Go.Shelf.Ren:=⟨fun|6=>139|15=>208|14=>212|28=>265|29=>266|20=>275|21=>276|22=>277|23=>278|24=>279|25=>280|26=>281|27=>282|46=>319|47=>312|48=>313|49=>320|50=>321|57=>350|n=>n,fun|22=>41|24=>26|25=>233|3=>3|39=>86|0=>0|53=>85|55=>27|4=>4|46=>341|45=>340|50=>346|5=>5|9=>9|66=>385|70=>388|76=>411|77=>412|n=>n,fun|n=>n⟩
theorem Dq:Go.Proofs.SlLaysF0.n6 au xc:={
 mixed:=by kernel_rfl
 f6:=⟨Tryz.f139.name,by decide,Tryz.func139.trans (congrArg some am)⟩
 f14:=⟨Tryz.f212.name,by decide,Tryz.func212.trans (congrArg some am)⟩
 f15:=Tryz.func208.trans (congrArg some am)
 f20:=⟨Tryz.f275.name,by decide,Tryz.func275.trans (congrArg some am)⟩
 f21:=⟨Tryz.f276.name,by decide,Tryz.func276.trans (congrArg some am)⟩
 f22:=⟨Tryz.f277.name,by decide,Tryz.func277.trans (congrArg some am)⟩
 f23:=⟨Tryz.f278.name,by decide,Tryz.func278.trans (congrArg some am)⟩
 f24:=⟨Tryz.f279.name,by decide,Tryz.func279.trans (congrArg some am)⟩
 f25:=⟨Tryz.f280.name,by decide,Tryz.func280.trans (congrArg some am)⟩
 f26:=⟨Tryz.f281.name,by decide,Tryz.func281.trans (congrArg some am)⟩
 f27:=⟨Tryz.f282.name,by decide,Tryz.func282.trans (congrArg some am)⟩
 f28:=Tryz.func265.trans (congrArg some am)
 f29:=Tryz.func266.trans (congrArg some am)
 f46:=⟨Tryz.f319.name,by decide,Tryz.func319.trans (congrArg some am)⟩
 f47:=Tryz.func312.trans (congrArg some am)
 f48:=Tryz.func313.trans (congrArg some am)
 f49:=⟨Tryz.f320.name,by decide,Tryz.func320.trans (congrArg some am)⟩
 f50:=⟨Tryz.f321.name,by decide,Tryz.func321.trans (congrArg some am)⟩
 f57:=⟨Tryz.f350.name,by decide,Tryz.func350.trans (congrArg some am)⟩
 t0:=Tryz.underlying0
 a0:=Tryz.isAgg0
 z0:=Tryz.sizeOf0
 v0:=Tryz.zeroValue0
 t3:=Tryz.underlying3
 a3:=Tryz.isAgg3
 z3:=Tryz.sizeOf3
 v3:=Tryz.zeroValue3
 t4:=Tryz.underlying4
 a4:=Tryz.isAgg4
 z4:=Tryz.sizeOf4
 v4:=Tryz.zeroValue4
 t5:=Tryz.underlying5
 a5:=Tryz.isAgg5
 z5:=Tryz.sizeOf5
 v5:=Tryz.zeroValue5
 t9:=Tryz.underlying9
 a9:=Tryz.isAgg9
 z9:=Tryz.sizeOf9
 v9:=Tryz.zeroValue9
 t22:=Tryz.underlying41
 a22:=Tryz.isAgg41
 z22:=Tryz.sizeOf41
 v22:=Tryz.zeroValue41
 t25:=Tryz.underlying233
 a25:=Tryz.isAgg233
 z25:=Tryz.sizeOf233
 v25:=Tryz.zeroValue233
 t39:=Tryz.underlying86
 a39:=Tryz.isAgg86
 z39:=Tryz.sizeOf86
 v39:=Tryz.zeroValue86
 t45:=Tryz.underlying340
 a45:=Tryz.isAgg340
 z45:=Tryz.sizeOf340
 v45:=Tryz.zeroValue340
 t46:=Tryz.underlying341
 a46:=Tryz.isAgg341
 z46:=Tryz.sizeOf341
 v46:=Tryz.zeroValue341
 t50:=Tryz.underlying346
 a50:=Tryz.isAgg346
 z50:=Tryz.sizeOf346
 v50:=Tryz.zeroValue346
 t53:=Tryz.underlying85
 a53:=Tryz.isAgg85
 z53:=Tryz.sizeOf85
 v53:=Tryz.zeroValue85
 t55:=Tryz.underlying27
 a55:=Tryz.isAgg27
 z55:=Tryz.sizeOf27
 v55:=Tryz.zeroValue27
 t66:=Tryz.underlying385
 a66:=Tryz.isAgg385
 z66:=Tryz.sizeOf385
 v66:=Tryz.zeroValue385
 t70:=Tryz.underlying388
 a70:=Tryz.isAgg388
 z70:=Tryz.sizeOf388
 v70:=Tryz.zeroValue388
 t76:=Tryz.underlying411
 a76:=Tryz.isAgg411
 z76:=Tryz.sizeOf411
 v76:=Tryz.zeroValue411
 t77:=Tryz.underlying412
 a77:=Tryz.isAgg412
 z77:=Tryz.sizeOf412
 v77:=Tryz.zeroValue412 }
def gi (x:Int×Int×Int):List Value:=[ae af x.1,ae af x.2.1,ae af x.2.2]
def dN (l:List (Int×Int×Int)):List Value:=l.flatMap gi
theorem gj (x:Int×Int×Int):(gi x).length=3:=rfl
theorem jV (l:List (Int×Int×Int)):(dN l).length=l.length*3:=fA gi 3 gj l
theorem zV (l:List (Int×Int×Int)):∀ u∈dN l,u.oneCell'=true:=fun u hu=>by
 obtain⟨x,_,hx⟩:=List.mem_flatMap.1 hu
 simp only[gi,aF,aE,or_false] at hx
 rcases hx with rfl|rfl|rfl<;>rfl
def JP (x y:Int×Int×Int):Bool:=decide (x.1<y.1) || (decide (x.1=y.1) && (decide (x.2.1<y.2.1) || (decide (x.2.1=y.2.1) && decide (x.2.2<y.2.2))))
theorem sE (x y:Int×Int×Int):JP x y=true↔(x.1<y.1∨(x.1=y.1∧(x.2.1<y.2.1∨(x.2.1=y.2.1∧x.2.2<y.2.2)))):=by simp[JP]
theorem xd (x y:Int×Int×Int):JP x y=false↔¬ (x.1<y.1∨(x.1=y.1∧(x.2.1<y.2.1∨(x.2.1=y.2.1∧x.2.2<y.2.2)))):=by rw[←sE];simp
theorem gP (a b:Int):(a<b∧fZ a b=-1)∨(b<a∧fZ a b=1)∨(a=b∧fZ a b=0):=by
 unfold fZ
 by_cases h1:a<b
 ·exact .inl ⟨h1,if_pos h1⟩
 ·by_cases h2:b<a
  ·exact .inr (.inl ⟨h2,by rw[if_neg h1,if_pos h2]⟩)
  ·exact .inr (.inr ⟨by omega,by rw[if_neg h1,if_neg h2]⟩)
theorem ow (x y:Int×Int×Int):Go.Proofs.ltOf nQ x y=JP x y:=by
 unfold Go.Proofs.ltOf nQ
 cases hl:JP x y with
 | true=>
   rw[sE] at hl
   rcases gP x.1 y.1 with ⟨h1,e1⟩|⟨h1,e1⟩|⟨h1,e1⟩<;>rcases gP x.2.1 y.2.1 with ⟨h2,e2⟩|⟨h2,e2⟩|⟨h2,e2⟩<;>rcases gP x.2.2 y.2.2 with ⟨h3,e3⟩|⟨h3,e3⟩|⟨h3,e3⟩<;>rw[e1,e2,e3]<;>first|decide|(exfalso;omega)
 | false=>
   rw[xd] at hl
   rcases gP x.1 y.1 with ⟨h1,e1⟩|⟨h1,e1⟩|⟨h1,e1⟩<;>rcases gP x.2.1 y.2.1 with ⟨h2,e2⟩|⟨h2,e2⟩|⟨h2,e2⟩<;>rcases gP x.2.2 y.2.2 with ⟨h3,e3⟩|⟨h3,e3⟩|⟨h3,e3⟩<;>rw[e1,e2,e3]<;>first|decide|(exfalso;omega)
theorem KN:Sort.SWO (Go.Proofs.ltOf nQ) where
 irrefl x:=by rw[ow,xd];omega
 trans x y z h k:=by rw[ow] at *;rw[sE] at *;omega
 ntrans x y z h k:=by rw[ow] at *;rw[xd] at *;omega
theorem pC (l:List (Int×Int×Int)) (j:Nat) (hj:j<l.length*3):(dN l)[j]?=some (Sort.flatK gi 3 l.toArray)[j]!:=by
 have h:=flat_get gi 3 gj l (j / 3) (j % 3) al (Nat.mod_lt _ al)
 rw[show j / 3*3+j % 3=j by omega] at h
 unfold dN
 rw[h,Sort.get_flatK gi 3 l.toArray j (by simpa using hj)]
 have h2:j / 3<l.length:=by omega
 have h3:l.toArray[j / 3]! = l[j / 3]:=by simp[h2]
 rw[h3]
 have h4:j % 3<(gi l[j / 3]).length:=by rw[gj];exact Nat.mod_lt _ al
 rw[List.getElem?_eq_getElem h4]
 simp[h4]
theorem zW (w:World) (V:Nat→Prop) (v:Value) (l:List (Int×Int×Int)) (hR:Row w V 26 3 v l.length (dN l)) (hl:l.length<4611686018427387904) :
 Calls au 139 #[v,.func (.func 140) #[] #[]] w fun e w'=>e=.returned (.tuple #[])∧∃ l':List (Int×Int×Int),l'.Perm l∧(∀ i j (hi:i<l'.length) (hj:j<l'.length),i<j→JP l'[j] l'[i]=false)∧Row w' V 26 3 v l'.length (dN l')∧Just V w w':=by
 obtain⟨hlen,⟨rfl,h0⟩|⟨g,cap,cur,rfl,hV,hg,hc1,hcm,hcs,htk⟩⟩:=hR
 ·have hn:l=[]:=aJ h0
  subst hn
  refine (Go.Proofs.AnyF.slices_SortFunc_none Dq none 0 _ w).mono fun e w' ⟨h1,h2⟩=>⟨h1,[],List.Perm.refl _,fun i j hi=>absurd hi (by simp),⟨rfl,.inl ⟨rfl,rfl⟩⟩,?_⟩
  rw[h2]
  exact Just.bJ (Grow.refl _)
 have hgl:g<w.heap.size:=(Array.getElem?_eq_some_iff.1 hg).1
 have hH:Sort.HoldsK gi 3 w g 0 l.toArray:=fun j hj=>by
  rw[Sort.size_flatK] at hj
  have hj':j<l.length*3:=by simpa using hj
  have hc:=pC l j hj'
  rw[←htk,List.getElem?_take_of_lt hj',Array.getElem?_toList] at hc
  refine⟨?_,?_⟩
  ·unfold World.cell?
   simp only[hg,a_]
   exact hc
  ·unfold World.frozen?
   simp only[hg]
   simp
 have eg:∀ args w,(callFunc 140 args).run au w=.ok (.enter 140 args) w:=fun args w=>by go_simp
 have hcon:=Go.Proofs.AnyQ.slices_SortFunc Dq 3 Tryz.isAgg26 Tryz.sizeOf26 gi gj (fun x v hv=>by simp only[gi,aF,aE,or_false] at hv;rcases hv with rfl|rfl|rfl<;>rfl) nQ KN 140 #[] g 0 cap l.toArray w eg (fun m os dk _ x y=>zU x y _) hH hgl (by simpa using hl)
 change Calls au 139 _ _ _ at hcon
 rw[bH] at hcon
 refine hcon.mono ?_
 rintro e w' ⟨he,d',n,os,hp,hs,rfl⟩
 obtain⟨l',rfl⟩:∃ l':List (Int×Int×Int),d'=l'.toArray:=⟨d'.toList,by simp⟩
 have hll:l'.length=l.length:=by have:=hp.1;simpa using this
 have hsz:=Go.Proofs.size_sortWorldK_c gi 3 w g 0 n l'.toArray os
 have hnew:(Go.Proofs.sortWorldK gi 3 w g 0 n l'.toArray os).heap[g]?=some (.cells (Sort.putCells id 0 (Sort.flatK gi 3 l'.toArray) cur) 26 (0,0)):=by
  show ((w.heap.modify g (Sort.onCells (Sort.putCells id 0 (Sort.flatK gi 3 l'.toArray))))++os)[g]?=_
  rw[Array.getElem?_append_left (by simpa using hgl),Array.getElem?_modify,if_pos rfl,hg]
  rfl
 have hcs2:(Sort.putCells id 0 (Sort.flatK gi 3 l'.toArray) cur).size=cur.size:=by simp[Sort.putCells]
 refine⟨he,l',?_,fun i j hi hj hij=>?_,⟨jV l',.inr ⟨g,cap,_,by rw[hll],hV,hnew,by omega,hcm,by rw[hcs2,hcs],?_⟩⟩,⟨rfl,rfl,rfl,hsz,fun b hb hbg=>?_⟩⟩
 ·have:=hp.2.2
  simp only[List.extract_toArray,List.extract_eq_take_drop,aB,Nat.sub_zero] at this
  rwa [aN al,aN al] at this
 ·have:=hs i j (aZ _) hij al
  rw[ow] at this
  simpa [hi,hj] using this
 ·apply List.ext_getElem?
  intro j
  by_cases hj:j<l'.length*3
  ·rw[List.getElem?_take_of_lt hj,Array.getElem?_toList,pC l' j hj]
   have hjc:j<cur.size:=by rw[hcs];exact aA hj (bm 3 al)
   simp only[Sort.putCells,Array.getElem?_mapIdx,Array.getElem?_eq_getElem hjc,Option.map_some,aZ,true_and,a_,Sort.size_flatK,bH,hj,if_true,Nat.sub_zero,id_eq]
  ·rw[List.getElem?_eq_none (by rw[aK];omega),List.getElem?_eq_none (by rw[jV];omega)]
 ·have hb':b<(w.heap.modify g (Sort.onCells (Sort.putCells id 0 (Sort.flatK gi 3 l'.toArray)))).size:=by simpa using hb
  show ((w.heap.modify g (Sort.onCells (Sort.putCells id 0 (Sort.flatK gi 3 l'.toArray))))++os)[b]?=w.heap[b]?
  rw[Array.getElem?_append_left hb',Array.getElem?_modify,if_neg (fun e=>hbg (by rw[←e];exact hV))]
theorem zX (w:World) (n:Nat) (hn:n≤1048576):Calls au 211 #[ai none 0 0,ae af (n:Int)] w fun e w'=>∃ v,e=.returned v∧Row w' (fun b=>w.heap.size≤b∧b<w'.heap.size) 26 3 v 0 []∧Grow w w':=by
 obtain⟨i,hi,hz,hs,hb⟩:=Ex.info
 have hw1:IntKind.i64.wrap (n:Int)=(n:Int):=by rw[IntKind.wrap_i64];omega
 have hw2:wrap64 (n:Int)=(n:Int):=by unfold wrap64;omega
 by_cases h0:n=0
 ·subst h0
  go_enter Tryz.func211,Tryz.ntmps211
  go_wp2_with fail
  go_ret
  exact⟨_,rfl,Row.nil,Grow.refl _⟩
 have hpos:decide ((n:Int) > 0)=true:=decide_eq_true al
 have hpos2:decide ((0:Int)<(n:Int))=true:=decide_eq_true al
 go_enter Tryz.func211,Tryz.ntmps211
 go_wp2_with (at_builtin;refine Lib.wpList_append_run _ rfl _ _ _ _ rfl _ _ rfl rfl _ _ (Lib.run_append_nil_zeros _ 41 3 _ 26 i (.agg #[ae af 0,ae af 0,ae af 0]) .i64 .i64 Tryz.underlying41 Tryz.underlying3 hi hz n al al al (by rw[hb];omega)) ?_)
 have hge:=grownCap_ge w n 0 26
 have hle:grownCap w n 0 26≤maxLen:=grownCap_le_maxLen w n 0 26 (by unfold maxLen;omega)
 generalize grownCap w n 0 26=cap at hge hle
 have hcs:(Builtin.zeroCells #[Value.int .i64 0,ae af 0,ae af 0] n++Builtin.zeroCells #[Value.int .i64 0,ae af 0,ae af 0] (cap-n)).size=cap*3:=by
  rw[Array.size_append,size_zeroCells,size_zeroCells,show (#[Value.int .i64 0,ae af 0,ae af 0]:Array Value).size=3 from rfl];omega
 generalize Builtin.zeroCells #[Value.int .i64 0,ae af 0,ae af 0] n++Builtin.zeroCells #[Value.int .i64 0,ae af 0,ae af 0] (cap-n)=cur at hcs
 have hc0:¬ cap<0:=by omega
 go_wp2_with fail
 go_ret
 refine⟨_,rfl,⟨rfl,.inr ⟨w.heap.size,cap,cur,rfl,⟨aC _,by simp⟩,?_,aZ _,hle,hcs,by simp⟩⟩,Grow.drew ((Below.refl _ _).alloc (aC _) _)⟩
 exact heap_alloc_new w _
theorem ui (w:World) (b:Nat) (A:Option Addr) (c:Nat) (l:List (Int×Int×Int)) (hB:ct w b 41 #[.slice A l.length c,ai none 0 0]) (D:Nat→Prop) (hI:In w D 3 A l.length (dN l)) (hn:l.length≤1048576) :
 Calls au 138 #[.slice (some ⟨b,0,none⟩) 2 2] w fun e w'=>∃ v,e=.returned v∧Row w' (fun b=>w.heap.size≤b∧b<w'.heap.size) 26 3 v l.length (dN l)∧Grow w w':=by
 have e0:=hB.cell 0
 have e1:=hB.cell 1
 obtain⟨n,HN⟩:∃ n:Nat,Hid (n=l.length):=⟨_,rfl⟩
 have hnl:=HN.out
 rw[←hnl] at e0 e1 hI hn hB ⊢
 have hw1:IntKind.i64.wrap (n:Int)=(n:Int):=by rw[IntKind.wrap_i64];omega
 have hw2:wrap64 (n:Int)=(n:Int):=by unfold wrap64;omega
 have hneg:decide ((n:Int)<0)=false:=decide_eq_false al
 have hG:=zX w n hn
 clear hnl
 go_enter Tryz.func138,Tryz.ntmps138
 go_wp2_with fail
 go_loopw [3,11] (fun s i wr=>((s=ae af 0∧i=ae af 0)∨(s=ae af (n:Int)∧i=ae af 1)∨(s=ae af (n:Int)∧i=ae af 2))∧w=wr) (fun _ i _=>2-(intOf i).toNat)
 case atStart=>exact⟨.inl ⟨rfl,rfl⟩,rfl⟩
 case round=>
  obtain⟨hsi,rfl⟩:=hrel
  rcases hsi with ⟨rfl,rfl⟩|⟨rfl,rfl⟩|⟨rfl,rfl⟩
  ·go_wp2_with fail
   go_roundw
   case rel=>exact⟨.inr (.inl ⟨by first|rfl|simp[hw1]|simp[hw2],rfl⟩),by trivial⟩
   case measure=>simp[intOf]
  ·go_wp2_with fail
   go_roundw
   case rel=>exact⟨.inr (.inr ⟨by first|rfl|simp[hw1]|simp[hw2],rfl⟩),by trivial⟩
   case measure=>simp[intOf]
  ·go_wp2_with fail
   refine hG.mono ?_
   rintro e w1 ⟨v1,rfl,nJ,hg1⟩
   go_wp2_with fail
   go_loopw [6,27] (fun v i wr=>((i=ae af 0∧Row wr (fun b=>w.heap.size≤b∧b<wr.heap.size) 26 3 v 0 [])∨(i=ae af 1∧Row wr (fun b=>w.heap.size≤b∧b<wr.heap.size) 26 3 v n (dN l))∨(i=ae af 2∧Row wr (fun b=>w.heap.size≤b∧b<wr.heap.size) 26 3 v n (dN l)))∧Grow w wr) (fun _ i _=>2-(intOf i).toNat)
   case atStart=>exact⟨.inl ⟨rfl,nJ⟩,hg1⟩
   case round=>
    obtain⟨hsi,hgr⟩:=hrel
    have e0:=(hB.grow hgr).cell 0
    have e1:=(hB.grow hgr).cell 1
    have hwr:=hgr.size
    rcases hsi with ⟨rfl,hR⟩|⟨rfl,hR⟩|⟨rfl,hR⟩
    ·go_wp2_with (at_builtin;refine stay ?_)
     refine bV ?_
     refine eD Ex _ rfl (.tmp 31) (.tmp 32) rfl _ 0 [] rfl hR _ A n c (dN l) rfl (hI.grow hgr).reads (zV l) al ?_
     intro v2 w2 hR2 hj2
     have hg2:Grow w w2:=Below.trans hgr (hj2.below (B:=w.heap.size) (fun b hb=>hb.1) hwr)
     have hR2:=hR2.mono (V':=(fun b=>w.heap.size≤b∧b<w2.heap.size)) fun b hb=>hb.elim (fun h=>⟨h.1,aA h.2 hj2.size⟩) fun h=>⟨aH hwr h.1,h.2⟩
     simp only[a_,aR] at hR2
     go_wp2_with fail
     go_roundw
     case rel=>exact⟨.inr (.inl ⟨rfl,hR2⟩),hg2⟩
     case measure=>simp[intOf]
    ·go_wp2_with (at_builtin;refine stay ?_)
     refine bV ?_
     refine eD Ex _ rfl (.tmp 31) (.tmp 32) rfl _ n (dN l) rfl hR 0 none 0 0 [] rfl Reads.nil (by simp) al ?_
     intro v2 w2 hR2 hj2
     have hg2:Grow w w2:=Below.trans hgr (hj2.below (B:=w.heap.size) (fun b hb=>hb.1) hwr)
     have hR2:=hR2.mono (V':=(fun b=>w.heap.size≤b∧b<w2.heap.size)) fun b hb=>hb.elim (fun h=>⟨h.1,aA h.2 hj2.size⟩) fun h=>⟨aH hwr h.1,h.2⟩
     simp only[Nat.add_zero,bf] at hR2
     go_wp2_with fail
     go_roundw
     case rel=>exact⟨.inr (.inr ⟨rfl,hR2⟩),hg2⟩
     case measure=>simp[intOf]
    ·go_wp2_with fail
     go_ret
     exact⟨_,rfl,hR,hgr⟩
theorem rn {w:World} {D:Nat→Prop} {A:Option Addr} {l:List (Int×Int×Int)} (h:In w D 3 A l.length (dN l)) {k:Nat} (hk:k<l.length) :
 ∃ ad:Addr,A=some ad∧∀ w1,Grow w w1→w1.cell? (ad.add (k*3))=some (ae af l[k].1)∧w1.cell? ⟨(ad.add (k*3)).block,(ad.add (k*3)).off+1,none⟩=some (ae af l[k].2.1)∧w1.cell? ⟨(ad.add (k*3)).block,(ad.add (k*3)).off+2,none⟩=some (ae af l[k].2.2):=by
 obtain⟨ad,hq,e,_,hb,e0,e1⟩:=In.iS (cells:=gi) h al gj hk
 exact⟨ad,e,fun w1 hg=>⟨(hg.cell (by rw[block_add];exact hb)).trans (e0 _ rfl),(hg.cell (p:=⟨(ad.add (k*3)).block,(ad.add (k*3)).off+1,none⟩) (show (ad.add (k*3)).block<_ by rw[block_add];exact hb)).trans (e1 0 _ rfl),(hg.cell (p:=⟨(ad.add (k*3)).block,(ad.add (k*3)).off+2,none⟩) (show (ad.add (k*3)).block<_ by rw[block_add];exact hb)).trans (e1 1 _ rfl)⟩⟩
theorem sF (w:World) (A:Option Addr) (c:Nat) (l:List (Int×Int×Int)) (D:Nat→Prop) (hI:In w D 3 A l.length (dN l)) (hn:l.length≤1048576) (hne:∀ i j (hi:i<l.length) (hj:j<l.length),i<j→l[i]≠l[j]) :
 Calls au 142 #[.slice A l.length c] w fun e w'=>e=.returned (.slice A l.length c)∧Grow w w':=by
 obtain⟨n,HN⟩:∃ n:Nat,Hid (n=l.length):=⟨_,rfl⟩
 rw[←HN.out]
 rw[←HN.out] at hn
 by_cases h2:n<2
 ·have d1:decide ((n:Int)<2)=true:=decide_eq_true al
  go_enter Tryz.func142,Tryz.ntmps142
  go_wp2_with fail
  go_ret
  exact⟨rfl,Grow.refl _⟩
 have d1:decide ((n:Int)<2)=false:=decide_eq_false al
 go_enter Tryz.func142,Tryz.ntmps142
 go_wp2_with fail
 clear d1
 go_loopw [3] (fun i wr=>∃ k:Nat,1≤k∧k≤n∧i=ae af (k:Int)∧Grow w wr) (fun i _=>n-(intOf i).toNat)
 case atStart=>exact⟨1,by omega,by omega,rfl,Grow.refl _⟩
 case round=>
  obtain⟨k,hk1,hkn,rfl,hgr⟩:=hrel
  by_cases hlt:k<n
  ·have hkl:k<l.length:=by rw[←HN.out];exact hlt
   have hpl:k-1<l.length:=by omega
   obtain⟨ad,rfl,hc⟩:=rn hI hkl
   obtain⟨Jv,e',hp⟩:=rn hI hpl
   cases e'
   have hneq:=hne (k-1) k hpl hkl al
   have hv:(l[k].1,l[k].2.1,l[k].2.2)≠(l[k-1].1,l[k-1].2.1,l[k-1].2.2):=fun e=>hneq e.symm
   generalize l[k]=x at hc hv
   generalize l[k-1]=y at hp hv
   have hv:¬ (x.1=y.1∧x.2.1=y.2.1∧x.2.2=y.2.2):=fun ⟨a,b,c⟩=>hv (by rw[a,b,c])
   have d2:decide ((k:Int)<(n:Int))=true:=decide_eq_true al
   have hk2:wrap64 ((k:Int)-1)=((k-1:Nat):Int):=by unfold wrap64;omega
   have hk3:IntKind.i64.wrap ((k:Int)-1)=((k-1:Nat):Int):=by rw[IntKind.wrap_i64];omega
   obtain⟨q,HQ⟩:∃ q:Nat,Hid (q=k-1):=⟨_,rfl⟩
   rw[←HQ.out] at hk2 hk3 hp
   have JD:q<n:=by have:=HQ.out;omega
   go_wp2_with fail
   clear d2
   refine bL 10 61 [] rfl rfl am am am ?_ ?_
   ·intro x hx φ he
    cases hx
   intro ops' A' K' T hops hA' hK hT
   refine bP 16 (.slice (some ad) n c) ?_
   refine bP 17 (ae af (k:Int)) ?_
   refine cm 18 (.tmp 16) (.tmp 17) (.slice (some ad) n c) (ae af (k:Int)) (.pointer (some (ad.add (k*3)))) (fun ρ h1 h2 kk w2 (hg:Grow _ w2) hb hf=>by clear hk2 hk3;go_simp;try (intro hlt;omega)) ?_
   refine bI 19 (.tmp 18) (.pointer (some (ad.add (k*3)))) (.agg #[ae af x.1,ae af x.2.1,ae af x.2.2]) (fun ρ h1 kk w2 (hg:Grow _ w2) hb hf=>by obtain⟨c0,c1,c2⟩:=hc _ (hgr.trans hg);clear hc hp hk2 hk3;go_simp) ?_
   refine bP 20 (.slice (some ad) n c) ?_
   refine bP 21 (ae af (k:Int)) ?_
   refine cm 22 (.tmp 21) (.const (ae af 1)) (ae af (k:Int)) (ae af 1) (ae af (q:Int)) (fun ρ h1 h2 kk w2 (hg:Grow _ w2) hb hf=>by clear hc hp;go_simp) ?_
   refine cm 23 (.tmp 20) (.tmp 22) (.slice (some ad) n c) (ae af (q:Int)) (.pointer (some (ad.add (q*3)))) (fun ρ h1 h2 kk w2 (hg:Grow _ w2) hb hf=>by clear hk2 hk3;go_simp;try (intro hlt;omega)) ?_
   refine bI 24 (.tmp 23) (.pointer (some (ad.add (q*3)))) (.agg #[ae af y.1,ae af y.2.1,ae af y.2.2]) (fun ρ h1 kk w2 (hg:Grow _ w2) hb hf=>by obtain⟨c0,c1,c2⟩:=hp _ (hgr.trans hg);clear hc hp hk2 hk3;go_simp) ?_
   refine cm 25 (.tmp 19) (.tmp 24) (.agg #[ae af x.1,ae af x.2.1,ae af x.2.2]) (.agg #[ae af y.1,ae af y.2.1,ae af y.2.2]) (.bool false) (fun ρ h1 h2 kk w2 (hg:Grow _ w2) hb hf=>by clear hc hp hk2 hk3;go_simp;exact fun a b c=>hv ⟨a,b,c⟩) ?_
   refine ce (fun _ _ w2 (hg:Grow _ w2) _ bR=>hT _ _ ?_)
   clear hops hA' hK hT
   simp only[cj,Act.put,aw,ay,az,ax,aB]
   have hg3:=hgr.trans hg
   clear hk2 hk3 hc hp
   go_wp2_with fail
   go_roundw
   case rel=>exact⟨k+1,by omega,by omega,by go_num,hg3⟩
   case measure=>simp[intOf];omega
  ·obtain rfl:k=n:=by omega
   go_wp2_with fail
   go_ret
   exact⟨rfl,hgr⟩
theorem zY (w:World) (A:Option Addr) (n c:Nat) (hc:n≤c):Calls au 141 #[.slice A n c] w fun e w'=>e=.returned (.slice A n n)∧w=w':=by
 have h1:¬ c<n:=by omega
 have h2:¬ ((c:Int)<(n:Int)):=by omega
 go_enter Tryz.func141,Tryz.ntmps141
 cases A with
 | none=>
   go_wp2_with fail
   go_ret
   exact⟨rfl,rfl⟩
 | some a=>
   go_wp2_with fail
   go_ret
   exact⟨rfl,rfl⟩
theorem zZ (w:World) (A:Option Addr) (c:Nat) (l:List (Int×Int×Int)) (D:Nat→Prop) (hI:In w D 3 A l.length (dN l)) (hn:l.length≤1048576) (hnd:l.Nodup) :
 Calls au 60 #[.slice A l.length c,ai none 0 0] w fun e w'=>∃ (A2:Option Addr) (l2:List (Int×Int×Int)),e=.returned (.slice A2 l.length l.length)∧l2.Perm l∧In w' (fun b=>w.heap.size≤b∧b<w'.heap.size) 3 A2 l.length (dN l2)∧Grow w w':=by
 have ga:=bN w (.cells #[.slice A l.length c,ai none 0 0] 41)
 have hC:=ui (w.alloc (.cells #[.slice A l.length c,ai none 0 0] 41)) w.heap.size A c l (ct.made w _ _) D (hI.grow ga) hn
 obtain⟨n,HN⟩:∃ n:Nat,Hid (n=l.length):=⟨_,rfl⟩
 rw[←HN.out] at hC ga ⊢
 go_enter Tryz.func60,Tryz.ntmps60
 go_wp2_with fail
 refine hC.mono ?_
 rintro e w1 ⟨v1,rfl,hR,hg1⟩
 have hgw1:=ga.trans hg1
 have hR:=hR.mono (V':=fun b=>w.heap.size≤b∧b<w1.heap.size) fun b hb=>⟨aH ga.size hb.1,hb.2⟩
 rw[HN.out] at hR
 have hS:=zW w1 _ v1 l hR al
 go_wp2_with fail
 refine hS.mono ?_
 rintro e w2 ⟨rfl,l2,hp,hs,hR2,hj2⟩
 have hll:l2.length=l.length:=hp.length_eq
 obtain⟨A2,c2,rfl,hI2,hc2,hm2⟩:=hR2.fw
 have nZ:Grow w w2:=Below.trans hgw1 (hj2.below (B:=w.heap.size) (fun b hb=>hb.1) hgw1.size)
 have Nw:l2.Nodup:=hp.nodup_iff.2 hnd
 have hK:=sF w2 A2 c2 l2 _ hI2 al fun i j hi hj hij=>List.pairwise_iff_getElem.1 Nw i j hi hj hij
 have HL:Hid (l2.length=n):=Lib.hid (by rw[hll,HN.out])
 have hsz:=hj2.size
 clear hll
 go_wp2_with fail
 refine hK.mono ?_
 rintro e w3 ⟨rfl,hg3⟩
 have hP:=zY w3 A2 l2.length c2 hc2
 go_wp2_with fail
 refine hP.mono ?_
 rintro e w4 ⟨rfl,rfl⟩
 go_wp2_with fail
 go_ret
 rw[HL.out] at hI2
 exact⟨A2,l2,by rw[←HL.out];rfl,hp,(In.grow hI2 hg3).mono fun b hb=>⟨hb.1,aA hb.2 (aH hsz hg3.size)⟩,nZ.trans hg3⟩
end Go.Proofs.YtmijcbfgfkeodaaGreatDoor
end
section
namespace Go.Proofs.YtmijcbfgfkeodaaGreatDoor
open Go.RowKit Go.Hop
def eJ (x:fl) (l:List En):fl:=l.foldl (fun x e=>(eh x e).2.2) x
theorem pD (x:fl) (l:List En) (e:En):eJ x (l++[e])=(eh (eJ x l) e).2.2:=by simp[eJ]
theorem z_ (x:fl) (l l':List En):eJ x (l++l')=eJ (eJ x l) l':=by simp[eJ]
def lV (x:fl) (e:En):List (Int×Int×Int):=if (eh x e).1=1 then [(e.ag,e.sh,e.sq)] else []
def dW:fl→List En→List (Int×Int×Int)
 | _,[]=>[]
 | x,e :: l=>lV x e++dW (eh x e).2.2 l
theorem pE (x:fl) (l l':List En):dW x (l++l')=dW x l++dW (eJ x l) l':=by
 induction l generalizing x with
 | nil=>rfl
 | cons e l ih=>rw[bA,dW,dW,ih,aM];rfl
theorem uj (x:fl) (l:List En) (e:En):dW x (l++[e])=dW x l++lV (eJ x l) e:=by
 rw[pE,dW,dW,bf]
theorem jW (x:fl) (l:List En):(dW x l).length≤l.length:=by
 induction l generalizing x with
 | nil=>exact aC _
 | cons e l ih=>
   rw[dW,aD,aL]
   have h1:=ih (eh x e).2.2
   have h2:(lV x e).length≤1:=by unfold lV;split<;>simp
   omega
theorem iB {e:En} (h:e.Ok):e.ds.length≤8∧e.sq≤9223372036854775807:=by
 rcases h.2 with h|h
 ·obtain⟨_,_,_,_,h5,_,h7,_⟩:=h
  exact⟨h7.2,h5.2⟩
 ·obtain⟨_,_,_,h4,_,h6,_⟩:=h
  rw[h6,h4]
  exact⟨by simp,by omega⟩
theorem nu {n:Nat} {x:fl} (hx:nq n x):∀ (l:List En),(∀ e∈l,e.Ok)→nq (n+8*l.length) (eJ x l):=by
 intro l
 induction l generalizing n x with
 | nil=>intro _;exact hx
 | cons e l ih=>
   intro h
   have h1:=iB (h e (by simp))
   have h2:=ih (hx.step e h1.2) (fun e he=>h e (bb _ he))
   exact nq.more h2 (by rw[aL];omega)
theorem uk {q:List El} (hq:∀ x∈q,x.e.Ok∧x.e.se.size≤maxLen) (j:Nat) (hj:j≤q.length):nq (8*j) (eJ fl.new ((q.map El.e).take j)):=by
 have h:=nu nq.new ((q.map El.e).take j) fun e he=>by
  obtain⟨x,hx,rfl⟩:=List.mem_map.1 (bp he)
  exact (hq x hx).1
 rwa [aK,aP,bF hj,a_] at h
def lj (x:fl) (id:Int×Int×Int):Prop:=0<id.2.2∧W.seen (dx x.pl (id.1,id.2.1)).F (dx x.pl (id.1,id.2.1)).M id.2.2=true∧id.2.2 ∉ (dx x.pl (id.1,id.2.1)).B
theorem yv (w:World) (m n:Nat) (x:fl) (ag sh sq:Int) (V:Nat→Prop) (hV:∀ b,V b→b<w.heap.size) (hx:nq n x) (im:sq≤9223372036854775807) (hh:lj x (ag,sh,sq)) (h:eQ m x w V) :
 Calls au 20 #[((m:Nat):Value),.agg #[ae af ag,ae af sh,ae af sq]] w fun en w'=>en=.returned (.bool true)∧Grow w w':=by
 have sR:∀ (vs:Array Value) (w:World),(callFunc 54 vs).run au w=.ok (.enter 54 vs) w:=fun vs w=>by go_simp
 have Fg:∀ (vs:Array Value) (w:World),(callFunc 55 vs).run au w=.ok (.enter 55 vs) w:=fun vs w=>by go_simp
 have hg0:=bN w (.cells #[ae af ag,ae af sh,ae af sq] 26)
 have du:=ct.made w 26 #[ae af ag,ae af sh,ae af sq]
 obtain⟨y,HY⟩:∃ y:Nat,Hid (y=w.heap.size):=⟨_,rfl⟩
 obtain⟨wa,dq⟩:∃ wa:World,Hid (wa=w.alloc (.cells #[ae af ag,ae af sh,ae af sq] 26)):=⟨_,rfl⟩
 rw[←dq.out] at hg0 du
 rw[←HY.out] at du
 obtain⟨h0,hse,hb⟩:=hh
 have hI:=hx.win (ag,sh)
 have hBl:=hx.bad (ag,sh)
 dsimp only at h0 hse hb
 have rf:=l4 wa m x.q (ud x.d9) x.pl V (fun b hb=>aA (hV b hb) hg0.size) ag sh (eA.framed m _ _ _ w wa V h fun b hb=>hg0.block b (hV b hb))
 generalize dx x.pl (ag,sh)=p at rf hI hBl hse hb
 obtain⟨F,M,B⟩:=p
 dsimp only at hI hBl hse hb
 have hlt:decide ((0:Int)<sq)=true:=decide_eq_true h0
 have y0:=du.cell 0
 have y1:=du.cell 1
 go_enter Tryz.func20,Tryz.ntmps20
 go_wp2_with fail
 rw[←dq.out,←HY.out]
 go_wp2_with fail
 clear y0 y1
 refine rf.mono ?_
 rintro en w0 ⟨s,bE,bS,p,g,v,dL,R,rfl,_,hgc,U,hM0,_⟩
 obtain⟨_,hp0,_⟩:=(Many.pick _ 4 _ rfl hM0).fst
 obtain⟨_,hw0,_⟩:=(Many.pick _ 5 _ rfl hM0).fst
 obtain⟨UB,ub,_⟩:=(Many.pick _ 6 _ rfl hM0).fst
 obtain⟨Ab,cb,rfl,hRb,_,_⟩:=Own.reads (show Own w0 UB 2 1 v B.length (lI B) from ub)
 obtain⟨nb,zC⟩:∃ nb:Nat,Hid (B.length=nb):=⟨_,Lib.hid rfl⟩
 rw[zC.out] at hRb hBl
 have hp0:ct w0 p 124 #[((g:Nat):Value),.slice Ab B.length cb]:=hp0.2
 rw[zC.out] at hp0
 have hw0:=hw0.2
 have hY0:=du.grow hgc
 have sS:∀ w1,Grow w0 w1→Calls au 54 #[((g:Nat):Value),ae af sq] w1 fun en w'=>en=.returned (.bool true)∧Grow w1 w':=fun w1 hg=>by
  have h:=W.gX w1 g F M sq (hw0.grow hg) hI ⟨by omega,im⟩
  rw[hse] at h
  exact h
 have KB:∀ w1,Grow w0 w1→Calls au 55 #[.slice Ab nb cb,ae af sq] w1 fun en w'=>en=.returned (.bool false)∧Grow w1 w':=fun w1 hg=>by
  have h:=nm w1 (fun b=>b<w0.heap.size) Ab nb cb B sq (In.grow (Reads.fw (V:=fun b=>b<w0.heap.size) hRb (aC _) fun _ h=>h) hg) al
  rw[decide_eq_false hb] at h
  exact h
 clear ub hM0 hRb rf h
 go_wp2_with fail
 refine bL 23 34 [(10,.inl (.bool true)),(19,.inl (.bool false))] rfl rfl am am am ?_ ?_
 ·intro x hx φ he
  simp only[aF,aE,or_false] at hx
  rcases hx with rfl|rfl<;>cases he
 intro ops' A' K' T hops hA' hK hT
 refine bQ 12 (.tmp 3) (((y:Nat):Value)) (.pointer (some ⟨y,2,none⟩)) ?_
 refine bI 13 (.tmp 12) (.pointer (some ⟨y,2,none⟩)) (ae af sq) (fun ρ h1 kk w1 (hg:Grow _ w1) hb hf=>by have c:=(hY0.grow hg).cell 2;go_simp) ?_
 refine cm 14 (.tmp 13) (.const (ae af 0)) (ae af sq) (ae af 0) (.bool true) (fun ρ h1 h2 kk w1 (hg:Grow _ w1) hb hf=>by go_simp;try exact hlt) ?_
 refine bP 15 (.bool true) ?_
 refine da 16 (cx hops 3 true 15 true) (((p:Nat):Value)) ?_
 refine bX 17 (cx hops 3 true 15 true) (.tmp 16) (((p:Nat):Value)) (((p:Nat):Value)) (fun ρ h1 kk w1 (hg:Grow _ w1) hb hf=>by go_simp) ?_
 refine bX 18 (cx hops 3 true 15 true) (.tmp 17) (((p:Nat):Value)) (((p:Nat):Value)) (fun ρ h1 kk w1 (hg:Grow _ w1) hb hf=>by go_simp) ?_
 refine bX 19 (cx hops 3 true 15 true) (.tmp 18) (((p:Nat):Value)) (((g:Nat):Value)) (fun ρ h1 kk w1 (hg:Grow _ w1) hb hf=>by have c:=(hp0.grow hg).cell 0;go_simp) ?_
 refine bX 20 (cx hops 3 true 15 true) (.tmp 3) (((y:Nat):Value)) (.pointer (some ⟨y,2,none⟩)) (fun ρ h1 kk w1 (hg:Grow _ w1) hb hf=>by go_simp) ?_
 refine bX 21 (cx hops 3 true 15 true) (.tmp 20) (.pointer (some ⟨y,2,none⟩)) (ae af sq) (fun ρ h1 kk w1 (hg:Grow _ w1) hb hf=>by have c:=(hY0.grow hg).cell 2;go_simp) ?_
 refine cC 22 aj ak (dF hops 3 true aj 15 aj true aj) (.bool true) (by rw[hK.out];rfl) 54 _ _ aj [((g:Nat):Value),ae af sq] aj sR (fun kk w1 (hg:Grow _ w1) hb hf=>b_ aj (by exact (sS w1 hg))) ?_
 refine cG 23 true (.bool true) ?_
 refine bP 24 (.bool true) ?_
 refine da 25 (cx hops 12 true 24 true) (((p:Nat):Value)) ?_
 refine bX 26 (cx hops 12 true 24 true) (.tmp 25) (((p:Nat):Value)) (((p:Nat):Value)) (fun ρ h1 kk w1 (hg:Grow _ w1) hb hf=>by go_simp) ?_
 refine bX 27 (cx hops 12 true 24 true) (.tmp 26) (((p:Nat):Value)) (.pointer (some ⟨p,1,none⟩)) (fun ρ h1 kk w1 (hg:Grow _ w1) hb hf=>by go_simp) ?_
 refine bX 28 (cx hops 12 true 24 true) (.tmp 27) (.pointer (some ⟨p,1,none⟩)) (.slice Ab nb cb) (fun ρ h1 kk w1 (hg:Grow _ w1) hb hf=>by have c:=(hp0.grow hg).cell 1;go_simp) ?_
 refine bX 29 (cx hops 12 true 24 true) (.tmp 3) (((y:Nat):Value)) (.pointer (some ⟨y,2,none⟩)) (fun ρ h1 kk w1 (hg:Grow _ w1) hb hf=>by go_simp) ?_
 refine bX 30 (cx hops 12 true 24 true) (.tmp 29) (.pointer (some ⟨y,2,none⟩)) (ae af sq) (fun ρ h1 kk w1 (hg:Grow _ w1) hb hf=>by have c:=(hY0.grow hg).cell 2;go_simp) ?_
 refine cC 31 aj ak (dF hops 12 true aj 24 aj true aj) (.bool false) (by rw[hK.out];rfl) 55 _ _ aj [.slice Ab nb cb,ae af sq] aj Fg (fun kk w1 (hg:Grow _ w1) hb hf=>b_ aj (by exact (KB w1 hg))) ?_
 refine bX 32 (cx hops 12 true 24 true) (.tmp 31) (.bool false) (.bool true) (fun ρ h1 kk w1 (hg:Grow _ w1) hb hf=>by go_simp) ?_
 refine cG 33 true (.bool true) ?_
 refine bP 4 (.bool true) ?_
 refine ce (fun _ _ w1 (hg:Grow _ w1) _ bR=>hT _ _ ?_)
 clear hops hA' hK hT
 simp only[cj,Act.put,aw,ay,az,ax,aB]
 go_wp2_with fail
 go_ret
 exact⟨rfl,(hg0.trans hgc).trans hg⟩
theorem ul (w:World) (q:List El) (hq:∀ x∈q,x.e.Ok∧x.e.se.size≤maxLen) (JD:q.length≤1000) (A:Option Addr) (c:Nat) (D0:Nat→Prop) (hE:lh w D0 A q) (hDl:∀ b,D0 b→b<w.heap.size) :
 Calls au 19 #[.slice A q.length c] w fun e w'=>∃ m,e=.returned (((m:Nat):Value))∧eQ m (eJ fl.new (q.map El.e)) w' (New w w')∧Grow w w':=by
 obtain⟨n,HN⟩:∃ n:Nat,Hid (n=q.length):=⟨_,rfl⟩
 rw[←HN.out]
 rw[←HN.out] at JD
 have Fp:=pu w
 go_enter Tryz.func19,Tryz.ntmps19
 go_wp2_with fail
 refine Fp.mono ?_
 rintro e w1 ⟨m,rfl,hM1,hg1⟩
 have hS1:Solo (fun b=>w.heap.size≤b) (Many [eQ m fl.new]) w1:=⟨fun b hb=>aH hg1.size hb,New w w1,Many.one hM1,fun b hb=>⟨hb.1,hb.2⟩⟩
 have J1:Just (fun b=>w.heap.size≤b) w w1:=Just.bJ hg1
 go_wp2_with fail
 go_loopw [9] (fun x wr=>∃ j:Nat,j≤n∧x=ae af (j:Int)∧Solo (fun b=>w.heap.size≤b) (Many [eQ m (eJ fl.new ((q.map El.e).take j))]) wr∧Just (fun b=>w.heap.size≤b) w wr) (fun x _=>n-(intOf x).toNat)
 case atStart=>exact⟨0,by omega,rfl,by rw[bw];exact hS1,J1⟩
 case round=>
  clear hS1 J1 Fp hM1 hg1
  obtain⟨j,hjn,rfl,hS,hJ⟩:=hrel
  have hgr:Grow w wr:=hJ.below (fun b hb=>hb) (aC _)
  have hF:bM [eQ m (eJ fl.new ((q.map El.e).take j))]:=bM.nil.cons (eQ.framed _ _)
  by_cases hj':j<n
  ·have hj:j<q.length:=by rw[←HN.out];exact hj'
   have hEr:=hE.grow hgr
   obtain⟨ad,hkq,rfl,Nx,hBb,e0,e1⟩:=hEr.1.iS al kG hj
   have gy:=hEr.2 q[j] (aO hkq)
   have xe:=hq q[j] (aO hkq)
   have hsn:(q.map El.e).take (j+1)=(q.map El.e).take j++[q[j].e]:=by
    rw[aI (by simpa using hkq)]
    simp
   have HS:=Lib.hid hsn
   clear hsn
   generalize q[j]=b at gy e0 e1 xe HS
   obtain⟨⟨k,ag,sh,sq,ep,ds,se,fr,tg⟩,Ab,cb⟩:=b
   have hd0:fV wr D0 Ab ds.length ds:=gy.1
   have e2:=e1 1 (ae af sh) rfl
   have e3:=e1 2 (ae af sq) rfl
   have e4:=e1 3 (ae af ep) rfl
   have e5:=e1 4 (.slice Ab ds.length cb) rfl
   have e6:=e1 5 (.string se) rfl
   have e7:=e1 6 (ae af fr) rfl
   have e8:=e1 7 (ae af tg) rfl
   have e1:=e1 0 (ae af ag) rfl
   have e0:=e0 (ae af k) rfl
   clear gy
   have hga:=bN wr (.cells #[ae af k,ae af ag,ae af sh,ae af sq,ae af ep,.slice Ab ds.length cb,.string se,ae af fr,ae af tg] 32)
   have du:=ct.made wr 32 #[ae af k,ae af ag,ae af sh,ae af sq,ae af ep,.slice Ab ds.length cb,.string se,ae af fr,ae af tg]
   obtain⟨y,HY⟩:∃ y:Nat,Hid (y=wr.heap.size):=⟨_,rfl⟩
   obtain⟨wa,dq⟩:∃ wa:World,Hid (wa=wr.alloc (.cells #[ae af k,ae af ag,ae af sh,ae af sq,ae af ep,.slice Ab ds.length cb,.string se,ae af fr,ae af tg] 32)):=⟨_,rfl⟩
   rw[←dq.out] at hga du
   rw[←HY.out] at du
   have ez:=hS.join hF hga (R:=Cell y 32 #[ae af k,ae af ag,ae af sh,ae af sq,ae af ep,.slice Ab ds.length cb,.string se,ae af fr,ae af tg]) (U:=fun b=>b=y) ⟨rfl,du⟩ (fun b hb=>by have:=HY.out;have:=du.lt;omega)
   have eP:=hF.cons (Cell.framed y 32 #[ae af k,ae af ag,ae af sh,ae af sq,ae af ep,.slice Ab ds.length cb,.string se,ae af fr,ae af tg])
   have Ja:=hJ.trans (Just.bJ (V:=fun b=>w.heap.size≤b) hga)
   have hda:=In.grow hd0 hga
   have hxo:nq (8*j) (eJ fl.new ((q.map El.e).take j)):=uk hq j al
   have Ds:=Solo.zw 1 rfl eP ez (fun U hU ey Gv=>ri wa m (eJ fl.new ((q.map El.e).take j)) (8*j) ⟨k,ag,sh,sq,ep,ds,se,fr,tg⟩ Ab cb D0 U ey xe.1 xe.2 hda (fun b hb=>aA (hDl b hb) Ja.size) (fun b hb hu=>by have:=hDl b hb;have:=Gv b hu;omega) hxo al hU)
   have hya:=ez.blk 0 rfl
   go_wp2_with fail
   rw[←dq.out,←HY.out]
   clear e0 e1 e2 e3 e4 e5 e6 e7 e8 du
   go_wp2_with (refine bY rfl 32 _ rfl _ rfl (hya) Tryz.underlying32 am ?_)
   refine Ds.mono ?_
   rintro e w2 ⟨rfl,hj2,hS2⟩
   have hS2:=hS2.drop1
   rw[←pD,←HS.out] at hS2
   have J2:=Ja.trans hj2
   clear hS ez Ds hya hxo
   go_wp2_with fail
   go_roundw
   case rel=>exact⟨j+1,by omega,by go_num,hS2,J2⟩
   case measure=>simp[intOf];omega
  ·obtain rfl:j=n:=by omega
   have hTL:(q.map El.e).take j=q.map El.e:=aN (by rw[aP,←HN.out];omega)
   rw[hTL] at hS
   obtain⟨_,V,hM,QZ⟩:=hS
   go_wp2_with fail
   go_ret
   exact⟨m,rfl,eQ.wide m _ wr V _ (fun b hb=>QZ b hb) (Many.one' (eQ.wide m _) hM),hgr⟩
end Go.Proofs.YtmijcbfgfkeodaaGreatDoor
end
section
namespace Go.Proofs.YtmijcbfgfkeodaaGreatDoor.W
def mem (F:Int) (M:Nat) (x:Int):Bool:=decide (x≤F) || (decide (F<x) && M.testBit (x-F-1).toNat)
theorem xf {F:Int} {M:Nat} (ho:M % 2=1) (x:Int):mem (F+1) (M / 2) x=mem F M x:=by
 unfold mem
 rw[Bool.eq_iff_iff]
 simp only[Bool.or_eq_true,aS,decide_eq_true_eq]
 rcases Int.lt_trichotomy x (F+1) with h|h|h
 ·constructor<;>intro _<;>left<;>omega
 ·constructor
  ·intro _
   right
   refine⟨by omega,?_⟩
   have:(x-F-1).toNat=0:=by omega
   rw[this,Nat.testBit_zero];simpa using ho
  ·intro _;left;omega
 ·have e:(x-F-1).toNat=(x-(F+1)-1).toNat+1:=by omega
  rw[e,Nat.testBit_succ]
  constructor
  ·rintro (h1|⟨_,h1⟩)
   ·omega
   ·exact .inr ⟨by omega,h1⟩
  ·rintro (h1|⟨_,h1⟩)
   ·omega
   ·exact .inr ⟨by omega,h1⟩
theorem rp:∀ (k:Nat) (F:Int) (M:Nat) (x:Int),mem (strip k F M).1 (strip k F M).2 x=mem F M x
 | 0,F,M,x=>by unfold strip;rfl
 | k+1,F,M,x=>by
   unfold strip
   split
   ·rename_i ho
    rw[rp k,xf ho]
   ·rfl
theorem yx {F:Int} {M:Nat} {n:Int} (h:F<n) (x:Int):mem (put F M n).1 (put F M n).2 x=(mem F M x || decide (x=n)):=by
 unfold put
 rw[rp]
 unfold mem
 rw[Bool.eq_iff_iff]
 simp only[Nat.testBit_or,Nat.testBit_two_pow,Bool.or_eq_true,aS,decide_eq_true_eq]
 constructor
 ·rintro (h1|⟨h1,h2|h2⟩)
  ·exact .inl (.inl h1)
  ·exact .inl (.inr ⟨h1,h2⟩)
  ·exact .inr al
 ·rintro ((h1|⟨h1,h2⟩)|h1)
  ·exact .inl h1
  ·exact .inr ⟨h1,.inl h2⟩
  ·exact .inr ⟨by omega,.inr (by rw[h1])⟩
structure Low (k:Int) (F:Int) (M:Nat):Prop where
 inv:fu F M
 top:∀ x,mem F M x=true→x≤k
 even:M % 2=0
end Go.Proofs.YtmijcbfgfkeodaaGreatDoor.W
end
