/- Csort, Call, Call2, Ga1, Bk1, Bk2. -/
import Derived.Shelf.SlSortCmp.WholeK
import Derived.Shelf.SlSortCmp.NoneTotal
import Derived.Test.YtmijcbfgfkeodaaGreatDoorHz18
set_option linter.all false
set_option maxRecDepth 100000
section
namespace Go.Proofs.YtmijcbfgfkeodaaGreatDoor.K
open Go.RowKit Go.Hop Go.Shelf
def sortDl_ren:Go.Shelf.Ren:=⟨fun|6=>134|15=>208|14=>209|28=>265|29=>266|20=>267|21=>268|22=>269|23=>270|24=>271|25=>272|26=>273|27=>274|46=>316|47=>312|48=>313|49=>317|50=>318|57=>349|n=>n,fun|22=>30|24=>29|25=>230|3=>3|39=>86|0=>0|53=>85|55=>27|4=>4|46=>341|45=>340|50=>346|5=>5|9=>9|66=>385|70=>388|76=>411|77=>412|n=>n,fun|n=>n⟩
theorem sortDl:Go.Proofs.SlLaysF0.n6 Tryz.prog sortDl_ren:={
 mixed:=by kernel_rfl
 f6:=⟨Tryz.f134.name,by decide,Tryz.func134.trans (congrArg some (by kernel_rfl))⟩
 f14:=⟨Tryz.f209.name,by decide,Tryz.func209.trans (congrArg some (by kernel_rfl))⟩
 f15:=Tryz.func208.trans (congrArg some (by kernel_rfl))
 f20:=⟨Tryz.f267.name,by decide,Tryz.func267.trans (congrArg some (by kernel_rfl))⟩
 f21:=⟨Tryz.f268.name,by decide,Tryz.func268.trans (congrArg some (by kernel_rfl))⟩
 f22:=⟨Tryz.f269.name,by decide,Tryz.func269.trans (congrArg some (by kernel_rfl))⟩
 f23:=⟨Tryz.f270.name,by decide,Tryz.func270.trans (congrArg some (by kernel_rfl))⟩
 f24:=⟨Tryz.f271.name,by decide,Tryz.func271.trans (congrArg some (by kernel_rfl))⟩
 f25:=⟨Tryz.f272.name,by decide,Tryz.func272.trans (congrArg some (by kernel_rfl))⟩
 f26:=⟨Tryz.f273.name,by decide,Tryz.func273.trans (congrArg some (by kernel_rfl))⟩
 f27:=⟨Tryz.f274.name,by decide,Tryz.func274.trans (congrArg some (by kernel_rfl))⟩
 f28:=Tryz.func265.trans (congrArg some (by kernel_rfl))
 f29:=Tryz.func266.trans (congrArg some (by kernel_rfl))
 f46:=⟨Tryz.f316.name,by decide,Tryz.func316.trans (congrArg some (by kernel_rfl))⟩
 f47:=Tryz.func312.trans (congrArg some (by kernel_rfl))
 f48:=Tryz.func313.trans (congrArg some (by kernel_rfl))
 f49:=⟨Tryz.f317.name,by decide,Tryz.func317.trans (congrArg some (by kernel_rfl))⟩
 f50:=⟨Tryz.f318.name,by decide,Tryz.func318.trans (congrArg some (by kernel_rfl))⟩
 f57:=⟨Tryz.f349.name,by decide,Tryz.func349.trans (congrArg some (by kernel_rfl))⟩
 t0:=Tryz.underlying0
 a0:=Tryz.isAgg0
 z0:=Tryz.sizeOf0
 v0:=Tryz.zeroValue0
 t3:=Tryz.underlying3
 a3:=Tryz.isAgg3
 z3:=Tryz.sizeOf3
 v3:=Tryz.zeroValue3
 t4:=Tryz.underlying4
 a4:=Tryz.isAgg4
 z4:=Tryz.sizeOf4
 v4:=Tryz.zeroValue4
 t5:=Tryz.underlying5
 a5:=Tryz.isAgg5
 z5:=Tryz.sizeOf5
 v5:=Tryz.zeroValue5
 t9:=Tryz.underlying9
 a9:=Tryz.isAgg9
 z9:=Tryz.sizeOf9
 v9:=Tryz.zeroValue9
 t22:=Tryz.underlying30
 a22:=Tryz.isAgg30
 z22:=Tryz.sizeOf30
 v22:=Tryz.zeroValue30
 t25:=Tryz.underlying230
 a25:=Tryz.isAgg230
 z25:=Tryz.sizeOf230
 v25:=Tryz.zeroValue230
 t39:=Tryz.underlying86
 a39:=Tryz.isAgg86
 z39:=Tryz.sizeOf86
 v39:=Tryz.zeroValue86
 t45:=Tryz.underlying340
 a45:=Tryz.isAgg340
 z45:=Tryz.sizeOf340
 v45:=Tryz.zeroValue340
 t46:=Tryz.underlying341
 a46:=Tryz.isAgg341
 z46:=Tryz.sizeOf341
 v46:=Tryz.zeroValue341
 t50:=Tryz.underlying346
 a50:=Tryz.isAgg346
 z50:=Tryz.sizeOf346
 v50:=Tryz.zeroValue346
 t53:=Tryz.underlying85
 a53:=Tryz.isAgg85
 z53:=Tryz.sizeOf85
 v53:=Tryz.zeroValue85
 t55:=Tryz.underlying27
 a55:=Tryz.isAgg27
 z55:=Tryz.sizeOf27
 v55:=Tryz.zeroValue27
 t66:=Tryz.underlying385
 a66:=Tryz.isAgg385
 z66:=Tryz.sizeOf385
 v66:=Tryz.zeroValue385
 t70:=Tryz.underlying388
 a70:=Tryz.isAgg388
 z70:=Tryz.sizeOf388
 v70:=Tryz.zeroValue388
 t76:=Tryz.underlying411
 a76:=Tryz.isAgg411
 z76:=Tryz.sizeOf411
 v76:=Tryz.zeroValue411
 t77:=Tryz.underlying412
 a77:=Tryz.isAgg412
 z77:=Tryz.sizeOf412
 v77:=Tryz.zeroValue412 }
end Go.Proofs.YtmijcbfgfkeodaaGreatDoor.K
namespace Go.Proofs.YtmijcbfgfkeodaaGreatDoor.K
open Go.RowKit Go.Hop Go.Shelf
def cmpT (a b:ByteArray):Int:=if slt a b then -1 else if slt b a then 1 else 0
theorem gtr_is (a b:ByteArray):(!(Op.bytesLess a.toList b.toList || a.toList == b.toList))=slt b a:=by
 cases h1:slt a b with
 | true=>
   have h2:=slt_no h1
   unfold slt at h1
   rw[h1,h2];rfl
 | false=>
   have h1':=h1
   unfold slt at h1'
   rw[h1',Bool.false_or]
   cases h2:slt b a with
   | false=>
     have:=slt_tri h1 h2
     subst this
     simp
   | true=>
     have hne:a.toList≠b.toList:=fun e=>by
      have:=txt_eq.1 e
      rw[this,slt_irr] at h2;cases h2
     simp[hne]
theorem isNaN_any (w:World) (a:ByteArray):Calls Tryz.prog 210 #[.string a] w fun e w'=>e=.returned (.bool false)∧w=w':=by
 go_enter Tryz.func210,Tryz.ntmps210
 go_wp2_with fail
 go_ret
 exact⟨by simp,rfl⟩
theorem Compare_any (w:World) (a b:ByteArray):Calls Tryz.prog 136 #[.string a,.string b] w fun e w'=>e=.returned (.int .i64 (cmpT a b))∧w=w':=by
 have hg:=gtr_is a b
 unfold cmpT
 cases h1:slt a b with
 | true=>
   rw[if_pos rfl]
   unfold slt at h1
   go_enter Tryz.func136,Tryz.ntmps136
   go_wp2_with (go_at_call 210;refine (isNaN_any _ _).mono ?_;rintro e w' ⟨rfl,rfl⟩)
   go_ret
   exact⟨rfl,rfl⟩
 | false=>
   rw[if_neg (by simp)]
   unfold slt at h1
   cases h2:slt b a with
   | true=>
     rw[if_pos rfl]
     rw[h2] at hg
     go_enter Tryz.func136,Tryz.ntmps136
     go_wp2_with (go_at_call 210;refine (isNaN_any _ _).mono ?_;rintro e w' ⟨rfl,rfl⟩)
     all_goals first|(go_ret;exact⟨rfl,rfl⟩)|simp_all
   | false=>
     rw[if_neg (by simp)]
     rw[h2] at hg
     go_enter Tryz.func136,Tryz.ntmps136
     go_wp2_with (go_at_call 210;refine (isNaN_any _ _).mono ?_;rintro e w' ⟨rfl,rfl⟩)
     all_goals first|(go_ret;exact⟨rfl,rfl⟩)|simp_all
theorem cmp_any (x y:Dl) (W:World):Calls Tryz.prog 135 #[.agg #[.string x.1,.int .u64 (x.2:Int)],.agg #[.string y.1,.int .u64 (y.2:Int)]] W fun e w'=>e=.returned (.int .i64 (cmpT x.1 y.1))∧∃ q os',w'=Sort.grow (W.drewN q) os':=by
 have hcon:=fun W'=>Compare_any W' x.1 y.1
 generalize cmpT x.1 y.1=r at hcon ⊢
 go_enter Tryz.func135,Tryz.ntmps135
 go_wp2_with (go_at_call 136;refine (hcon _).mono ?_;rintro e w' ⟨rfl,rfl⟩)
 go_ret
 exact⟨rfl,0,_,by rw[Sort.alloc_eq_grow,Sort.alloc_eq_grow,Sort.grow_grow];rfl⟩
theorem ltOf_is (x y:Dl):Go.Proofs.ltOf (fun x y:Dl=>cmpT x.1 y.1) x y=slt x.1 y.1:=by
 unfold Go.Proofs.ltOf cmpT
 cases h1:slt x.1 y.1<;>cases h2:slt y.1 x.1<;>simp[h1,h2]
theorem swo:Sort.SWO (Go.Proofs.ltOf fun x y:Dl=>cmpT x.1 y.1) where
 irrefl x:=by rw[ltOf_is];exact slt_irr _
 trans x y z h k:=by rw[ltOf_is] at *;exact slt_tr h k
 ntrans x y z h k:=by
  rw[ltOf_is] at *
  cases hz:slt x.1 z.1 with
  | false=>rfl
  | true=>
    cases hzy:slt z.1 y.1 with
    | true=>rw[slt_tr hz hzy] at h;cases h
    | false=>have e:=slt_tri k hzy;rw[e,hz] at h;cases h
theorem cell_flat (l:List Dl) (j:Nat) (hj:j<l.length*2):(dcells l)[j]?=some (Sort.flatK dcell 2 l.toArray)[j]!:=by
 have h:=flat_get dcell 2 dcell_len l (j / 2) (j % 2) (by omega) (Nat.mod_lt _ (by omega))
 rw[show j / 2*2+j % 2=j by omega] at h
 unfold dcells
 rw[h,Sort.get_flatK dcell 2 l.toArray j (by simpa using hj)]
 have h2:j / 2<l.length:=by omega
 have h3:l.toArray[j / 2]! = l[j / 2]:=by simp[h2]
 rw[h3]
 have h4:j % 2<(dcell l[j / 2]).length:=by rw[dcell_len];exact Nat.mod_lt _ (by omega)
 rw[List.getElem?_eq_getElem h4]
 simp[h4]
theorem sort_any (w:World) (g c:Nat) (l:List Dl) (cur:Array Value) (hg:w.heap[g]?=some (.cells cur 29 (0,0))) (hcur:cur.toList.take (l.length*2)=dcells l) (hl:l.length<4611686018427387904) :
 Calls Tryz.prog 134 #[.slice (some ⟨g,0,none⟩) l.length c,.func (.func 135) #[] #[]] w fun e w'=>e=.returned (.tuple #[])∧∃ l':List Dl,l'.Perm l∧(∀ i j (hi:i<l'.length) (hj:j<l'.length),i<j→slt l'[j].1 l'[i].1=false)∧In w' (fun b=>b=g) 2 (some ⟨g,0,none⟩) l.length (dcells l')∧Just (fun b=>b=g) w w':=by
 have hgl:g<w.heap.size:=(Array.getElem?_eq_some_iff.1 hg).1
 have hH:Sort.HoldsK dcell 2 w g 0 l.toArray:=fun j hj=>by
  rw[Sort.size_flatK] at hj
  have hj':j<l.length*2:=by simpa using hj
  have hc:=cell_flat l j hj'
  rw[←hcur,List.getElem?_take_of_lt hj',Array.getElem?_toList] at hc
  refine⟨?_,?_⟩
  ·unfold World.cell?
   simp only[hg,Nat.zero_add]
   exact hc
  ·unfold World.frozen?
   simp only[hg]
   simp
 have eg:∀ args w,(callFunc 135 args).run Tryz.prog w=.ok (.enter 135 args) w:=fun args w=>by go_simp
 have hcon:=Go.Proofs.AnyQ.slices_SortFunc sortDl 2 Tryz.isAgg29 Tryz.sizeOf29 dcell dcell_len (fun x v hv=>by simp only[dcell,List.mem_cons,List.not_mem_nil,or_false] at hv;rcases hv with rfl|rfl<;>rfl) (fun x y:Dl=>cmpT x.1 y.1) swo 135 #[] g 0 c l.toArray w eg (fun m os dk _ x y=>cmp_any x y _) hH hgl (by simpa using hl)
 change Calls Tryz.prog 134 _ _ _ at hcon
 rw[List.size_toArray] at hcon
 refine hcon.mono ?_
 rintro e w' ⟨he,d',n,os,hp,hs,rfl⟩
 obtain⟨l',rfl⟩:∃ l':List Dl,d'=l'.toArray:=⟨d'.toList,by simp⟩
 have hll:l'.length=l.length:=by have:=hp.1;simpa using this
 have hH':=Go.Proofs.holdsK_sortWorldK dcell 2 w g 0 n l.toArray l'.toArray os hgl hH hp.1
 have hsz:=Go.Proofs.size_sortWorldK_c dcell 2 w g 0 n l'.toArray os
 refine⟨he,l',?_,fun i j hi hj hij=>?_,⟨by rw[dcells_len,hll],fun hn=>⟨_,rfl,rfl,Nat.lt_of_lt_of_le hgl hsz,fun j u hu=>?_⟩⟩,⟨rfl,rfl,rfl,hsz,fun b hb hbg=>?_⟩⟩
 ·have:=hp.2.2
  simp only[List.extract_toArray,List.extract_eq_take_drop,List.drop_zero,Nat.sub_zero] at this
  rwa [List.take_of_length_le (by omega),List.take_of_length_le (by omega)] at this
 ·have:=hs i j (Nat.zero_le _) hij (by omega)
  rw[ltOf_is] at this
  simpa [hi,hj] using this
 ·have hj:j<l'.length*2:=by
   have:=(List.getElem?_eq_some_iff.1 hu).1
   rwa [dcells_len] at this
  have h1:=(hH' j (by simpa [Sort.size_flatK] using hj)).1
  rw[Addr.add_lit,←hu,cell_flat l' j hj]
  exact h1
 ·have hb':b<(w.heap.modify g (Sort.onCells (Sort.putCells id 0 (Sort.flatK dcell 2 l'.toArray)))).size:=by simpa using hb
  show ((w.heap.modify g (Sort.onCells (Sort.putCells id 0 (Sort.flatK dcell 2 l'.toArray))))++os)[b]?=w.heap[b]?
  rw[Array.getElem?_append_left hb',Array.getElem?_modify,if_neg (fun e=>hbg e.symm)]
end Go.Proofs.YtmijcbfgfkeodaaGreatDoor.K
end
section
namespace Go.Proofs.YtmijcbfgfkeodaaGreatDoor.K
open Go.RowKit Go.Hop
theorem srt_mem {q:Sm} (hs:Srt q) {x:ByteArray} {v:Nat}:lk q x=some v↔(x,v)∈q:=⟨lk_mem,fun h=>srt_lk hs h⟩
theorem sorted_is {q l:Sm} (hq:Srt q) (hp:l.Perm q) (hs:∀ i j (hi:i<l.length) (hj:j<l.length),i<j→slt l[j].1 l[i].1=false):l=q:=by
 have hn:(q.map (·.1)).Nodup:=by
  unfold List.Nodup
  rw[List.pairwise_map]
  exact hq.imp fun h e=>by rw[e,slt_irr] at h;cases h
 have hnl:(l.map (·.1)).Nodup:=(hp.map (·.1)).nodup_iff.2 hn
 have hl:Srt l:=by
  refine List.pairwise_iff_getElem.2 fun i j hi hj hij=>?_
  cases h:slt l[i].1 l[j].1 with
  | true=>rfl
  | false=>
    have e:=slt_tri h (hs i j hi hj hij)
    have:=(List.pairwise_iff_getElem.1 hnl) i j (by simpa using hi) (by simpa using hj) hij
    simp only[List.getElem_map] at this
    exact absurd e this
 refine srt_ext hl hq fun x=>?_
 cases h1:lk l x with
 | some v=>exact ((srt_mem hq).2 (hp.mem_iff.1 ((srt_mem hl).1 h1))).symm
 | none=>
   cases h2:lk q x with
   | none=>rfl
   | some v=>rw[(srt_mem hl).2 (hp.mem_iff.2 ((srt_mem hq).1 h2))] at h1;cases h1
theorem perm_of {l q:List Dl} (h1:l.Nodup) (h2:q.Nodup) (h:∀ d,d∈l↔d∈q):l.Perm q:=(List.perm_ext_iff_of_nodup h1 h2).2 h
theorem clip_any (w:World) (A:Option Addr) (n c:Nat) (hn:n≤c) :
 Calls Tryz.prog 137 #[.slice A n c] w fun e w'=>e=.returned (.slice A n n)∧w=w':=by
 go_enter Tryz.func137,Tryz.ntmps137
 go_wp2_with fail
 go_ret
 exact⟨rfl,rfl⟩
set_option maxHeartbeats 1000000 in
theorem All_some (hnone:∀ w:World,Calls Tryz.prog 134 #[.slice none 0 0,.func (.func 135) #[] #[]] w fun e w'=>e=.returned (.tuple #[])∧w'=w) (w:World) (s:Nat) (q:Sm) (V:Nat→Prop) (h:SumsAt s q w V) (hq:q.length≤1048576) :
 Calls Tryz.prog 59 #[.pointer (some ⟨s,0,none⟩)] w fun e w'=>∃ A,e=.returned (.slice A q.length q.length)∧In w' (New w w') 2 A q.length (dcells q)∧Grow w w':=by
 obtain⟨h1,h2,b,h3,h4,hB0,hM0⟩:=h
 have c0:=hB0.cell 0
 obtain⟨w1,hrun,⟨left0,hsr0,hleft0⟩,hg1,hsz1⟩:=SMap.range smT hM0
 have hnd:q.Nodup:=h2.srt.imp fun h e=>by rw[e,slt_irr] at h;cases h
 obtain⟨r,HR⟩:∃ r:Nat,Hid (r=w.heap.size):=⟨_,rfl⟩
 go_enter Tryz.func59,Tryz.ntmps59
 go_wp2_with fail
 rw[←HR.out] at hsr0 ⊢
 clear hrun c0
 go_loopw [3] (fun o wr=>∃ (left:ByteArray→Bool) (cnt:Nat) (es:List Dl),Own wr (fun b=>New w wr b∧b≠r) 29 2 o es.length (dcells es)∧SRange Tryz.prog 9 27 .u64 wr b r q.length (fq q) left cnt∧es.Nodup∧(∀ d,d∈es↔d∈q∧left d.1=false)∧Grow w wr) (fun _ wr=>wr.rangeLeft b r)
 case atStart=>
  refine⟨left0,_,[],Own.nil,hsr0,List.nodup_nil,fun d=>⟨fun h=>absurd h List.not_mem_nil,fun ⟨hd,hl⟩=>?_⟩,hg1⟩
  have:(lk q d.1).isSome=true:=by rw[srt_lk h2.srt hd];rfl
  rw[hleft0 d.1 (h2.txt d hd),fq_some,this] at hl
  cases hl
 case round=>
  clear hsr0 hleft0 hg1
  obtain⟨left,cnt,es,hO,hsr,hnd2,hes,hgw⟩:=hrel
  obtain⟨A1,c1,rfl,hI1,hn1,hm1⟩:=hO.in_
  have hel:es.length≤q.length:=by
   have hp:=perm_of hnd2 (hnd.filter fun d => !left d.1) (fun d=>by rw[hes,List.mem_filter];simp)
   rw[hp.length_eq]
   exact List.length_filter_le _ _
  rcases hsr.next smT 0 with ⟨h0,hl0,hrun⟩|⟨x,v,w3,cnt3,hxl,hlx,hfx,hwv,hrun,hsr3,hlt,hj3,hen⟩
  ·have hperm:es.Perm q:=perm_of hnd2 hnd fun d=>by rw[hes,hl0];simp
   have hlen:=Lib.hid hperm.length_eq
   have hrl:=hsr.lt
   rcases hO.2 with ⟨hv,hn0⟩|⟨g,cap,cur,hv,hVg,hgc,hnc,hcm,hsz,htk⟩
   ·obtain rfl:es=[]:=List.eq_nil_of_length_eq_zero hn0
    obtain rfl:q=[]:=List.eq_nil_of_length_eq_zero hlen.out.symm
    injection hv with hv1 hv2 hv3
    subst hv1 hv3
    clear hO hI1
    go_wp2_with fail
    refine (hnone _).mono ?_
    rintro e w5 ⟨rfl,rfl⟩
    go_wp2_with fail
    refine (clip_any _ none 0 0 (Nat.le_refl _)).mono ?_
    rintro e w6 ⟨rfl,rfl⟩
    go_wp2_with fail
    go_ret
    exact⟨none,rfl,In.nil,hgw⟩
   ·injection hv with hv1 hv2 hv3
    subst hv1 hv3
    have hsort:=sort_any wr g c1 es cur hgc htk (by omega)
    clear hO hI1 hgc htk hcm hsz
    go_wp2_with fail
    refine hsort.mono ?_
    rintro e w5 ⟨rfl,l',hp,hs,hI,hj⟩
    obtain rfl:l'=q:=sorted_is h2.srt (hp.trans hperm) hs
    clear hsort
    go_wp2_with fail
    refine (clip_any _ (some ⟨g,0,none⟩) es.length c1 hn1).mono ?_
    rintro e w6 ⟨rfl,rfl⟩
    go_wp2_with fail
    go_ret
    have hs5:=hj.size
    refine⟨some ⟨g,0,none⟩,by first|rfl|(rw[hlen.out];rfl),?_,Below.trans hgw (hj.below (B:=w.heap.size) (fun b hb=>by rw[hb];exact hVg.1.1) hgw.size)⟩
    rw[hlen.out] at hI
    exact In.mono hI fun b hb=>by rw[hb];exact⟨hVg.1.1,Nat.lt_of_lt_of_le hVg.1.2 hs5⟩
  ·obtain⟨v',hv'⟩:∃ v',lk q x=some v':=by
    unfold fq at hfx
    cases hl:lk q x with
    | none=>rw[hl] at hfx;cases hfx
    | some v'=>exact⟨v',rfl⟩
   obtain rfl:v=(v':Int):=by unfold fq at hfx;rw[hv'] at hfx;injection hfx with hfx;exact hfx.symm
   have hmem:=(srt_mem h2.srt).1 hv'
   have hrw:w.heap.size≤r:=by rw[HR.out];exact Nat.le_refl _
   have hbr:b≠r:=hsr.ne.symm
   have hbl:=hM0.lt
   have hrl:=hsr.lt
   have hg3:Grow w w3:=Below.trans hgw (hj3.below (B:=w.heap.size) (fun b hb=>by rw[hb];exact hrw) hgw.size)
   have hs3:=hj3.size
   have hO3:Own w3 (fun b=>New w wr b∧b≠r) 29 2 (.slice A1 es.length c1) es.length (dcells es):=hO.keep fun b hb=>hj3.block b hb.1.2 hb.2
   have hmeas:w3.rangeLeft b r<wr.rangeLeft b r:=by rw[hsr3.left_eq,hsr.left_eq];exact hlt
   have hnot:(x,v') ∉ es:=fun h=>by have:=((hes _).1 h).2;rw[hlx] at this;cases this
   have hga:Grow w3 (w3.alloc (.cells #[.string x,.int .u64 (v':Int)] 29)):=(Below.refl _ _).alloc (Nat.le_refl _) _
   clear hO hI1 hfx hwv
   go_wp2_with (at_builtin;refine stay ?_)
   refine stay_out ?_
   refine wpList_own (V:=fun b=>New w wr b∧b≠r) deltaE _ rfl (.tmp 16) (.tmp 20) rfl (.slice A1 es.length c1) es.length (dcells es) rfl (hO3.grow (fun b hb=>by have:=hb.1.2;omega) hga) (w3.heap.size+1) (some ⟨w3.heap.size,0,none⟩) 1 1 (dcells [(x,v')]) rfl (reads_laid w3 _ 29 _ rfl _ rfl) (dcells_one _) (by omega) ?_
   intro v5 w5 hO5 hj5
   have hs5:=hj5.size
   simp at hs5
   have hg5:Grow w w5:=Below.trans (below_trans hg3 hga hg3.size) (hj5.below (B:=w.heap.size) (fun b hb=>hb.1.1) (by simp;omega))
   have hO6:Own w5 (fun b=>New w w5 b∧b≠r) 29 2 v5 (es++[(x,v')]).length (dcells (es++[(x,v')])):=by
    rw[List.length_append]
    have:dcells (es++[(x,v')])=dcells es++dcells [(x,v')]:=by unfold dcells;rw[List.flatMap_append]
    rw[this]
    refine hO5.mono fun b hb=>?_
    rcases hb with hb|hb
    ·exact⟨⟨hb.1.1,by have:=hb.1.2;omega⟩,hb.2⟩
    ·have h6:=hb.1
     simp at h6
     exact⟨⟨by omega,hb.2⟩,by omega⟩
   have hsr5:=(hsr3.grow hga).just hj5 (fun h=>by have:=h.1.1;omega) (fun h=>h.2 rfl)
   have hmeas5:w5.rangeLeft b r<wr.rangeLeft b r:=by rw[hsr5.left_eq,hsr.left_eq];exact hlt
   have hes5:∀ d,d∈es++[(x,v')]↔d∈q∧(left d.1 && decide (d.1≠x))=false:=fun d=>by
    rw[List.mem_append,List.mem_singleton,hes]
    constructor
    ·rintro (⟨h,hl⟩|rfl)
     ·exact⟨h,by rw[hl];rfl⟩
     ·exact⟨hmem,by simp⟩
    ·rintro ⟨h,hl⟩
     by_cases hdx:d.1=x
     ·right
      have h8:=srt_lk h2.srt h
      rw[hdx,hv'] at h8
      injection h8 with h8
      exact Prod.ext hdx h8.symm
     ·left
      refine⟨h,?_⟩
      simpa [hdx] using hl
   have hnd5:(es++[(x,v')]).Nodup:=List.nodup_append.2 ⟨hnd2,by simp,fun a ha c hc e=>by rw[List.mem_singleton.1 hc] at e;exact hnot (e▸ha)⟩
   clear hO5 hj5 hO3 hj3 hmeas hsr3 hes hnd2 hg3 hga
   generalize es++[(x,v')]=es5 at hO6 hes5 hnd5
   go_wp2_with fail
   go_roundw
   case rel=>exact⟨_,cnt3,es5,hO6,hsr5,hnd5,hes5,hg5⟩
   case measure=>exact hmeas5
theorem sort_none (w:World):Calls Tryz.prog 134 #[.slice none 0 0,.func (.func 135) #[] #[]] w fun e w'=>e=.returned (.tuple #[])∧w'=w:=
 Go.Proofs.AnyF.slices_SortFunc_none sortDl none 0 _ w
end Go.Proofs.YtmijcbfgfkeodaaGreatDoor.K
end
section
namespace Go.Proofs.YtmijcbfgfkeodaaGreatDoor
open Go.RowKit Go.Hop
def GapT (m:Nat) (k:Nat) (L:List Nat):Thing:=fun w V=>(L=[]∧MachAt m [] [] none w V)∨(L≠[]∧∃ (F:Int) (M:Nat),W.Low (k:Int) F M∧(∀ x:Int,W.mem F M x=(decide (x≤0) || decide (∃ n∈L,x=(n:Nat))))∧MachAt m (smA L.sum) [(1,.int .i64 1)] (some ((1,0),F,M)) w V)
theorem GapT.framed (m k:Nat) (L:List Nat):Framed (GapT m k L):=fun w w' V h hk=>h.elim (fun ⟨a,b⟩ => .inl ⟨a,MachAt.framed _ _ _ _ w w' V b hk⟩) fun ⟨a,F,M,b,c,d⟩ => .inr ⟨a,F,M,b,c,MachAt.framed _ _ _ _ w w' V d hk⟩
theorem sum_le {L:List Nat} {k:Nat} (h:∀ n∈L,n≤k):L.sum≤L.length*k:=by
 induction L with
 | nil=>simp
 | cons a L ih=>
   have h1:=ih fun n hn=>h n (List.mem_cons_of_mem _ hn)
   have h2:=h a (by simp)
   rw[List.sum_cons,List.length_cons,Nat.succ_mul]
   omega
theorem gap_ok {i:Nat} (h1:1≤i) (h2:i≤100):(enA 1 (i:Int) 1 i 0 0).Ok:=enA_ok (by omega) (by omega) (by omega) (by omega) (by omega) (by omega)
theorem mem_more {F F':Int} {M M':Nat} {L:List Nat} {i:Nat} (h:∀ x:Int,W.mem F M x=(decide (x≤0) || decide (∃ n∈L,x=(n:Nat)))) (h':∀ x,W.mem F' M' x=(W.mem F M x || decide (x=(i:Int)))) (x:Int):W.mem F' M' x=(decide (x≤0) || decide (∃ n∈L++[i],x=(n:Nat))):=by
 rw[h',h,Bool.eq_iff_iff]
 simp only[Bool.or_eq_true,decide_eq_true_eq,List.mem_append,List.mem_singleton]
 constructor
 ·rintro ((h|⟨n,hn,e⟩)|h)
  ·exact .inl h
  ·exact .inr ⟨n,.inl hn,e⟩
  ·exact .inr ⟨i,.inr rfl,h⟩
 ·rintro (h|⟨n,hn|hn,e⟩)
  ·exact .inl (.inl h)
  ·exact .inl (.inr ⟨n,hn,e⟩)
  ·exact .inr (by rw[e,hn])
theorem gap_step (w:World) (m k i:Nat) (L:List Nat) (hk:k≤31) (hi1:1≤i) (hik:i≤k) (hLk:∀ n∈L,1≤n∧n≤k) (hLn:L.length≤31) (hni:i ∉ L) (A:Option Addr) (c:Nat) (D V:Nat→Prop) (hV:∀ b,V b→b<w.heap.size) (hd:DIn w D A 1 [(tA1,i)]) (hDl:∀ b,D b→b<w.heap.size) (hDV:∀ b,D b→¬ V b) (h:GapT m k L w V) :
 Calls Tryz.prog 13 #[.pointer (some ⟨m,0,none⟩),.agg ((enA 1 (i:Int) 1 i 0 0).agg A c)] w fun en w'=>en=.returned (.tuple #[.int .i64 1,.int .u64 0])∧GapT m k (L++[i]) w' (Ext V w w')∧Just V w w':=by
 have hok:=gap_ok hi1 (show i≤100 by omega)
 rcases h with ⟨rfl,h⟩|⟨hL,F,M,hlow,hmem,h⟩
 ·have hlow:W.Low (k:Int) 0 0:=W.Low.none (by omega)
  have hB:W.addB 0 0 (i:Int)=true:=by
   rw[hlow.addB (by omega) (by omega)]
   have:W.mem 0 0 (i:Int)=false:=by unfold W.mem;simp;omega
   rw[this];rfl
  have hsf:W.far 0 (i:Int)=false∧W.seen 0 0 (i:Int)=false:=by
   unfold W.addB at hB
   simpa using hB
  have hadd:K.addM [] [(tA1,i)]=smA (0+i):=addM_smA 0 i hi1 (by omega)
  refine (mach_ack_0 w m [] [] 0 0 (enA 1 (i:Int) 1 i 0 0) A c D V hV hok rfl hd hDl hDV (by simp) hsf.2 hsf.1 ⟨0,rfl,by show (0:Int)≤1;omega⟩ (mayE_smA 0 i (by omega)) h).mono fun en w' ⟨r1,r2,r3⟩=>⟨r1,.inr ⟨by simp,(W.addS 0 0 (i:Int)).1,(W.addS 0 0 (i:Int)).2,(hlow.add (by omega) (by omega)).1,?_,?_⟩,r3⟩
  ·refine mem_more (L:=[]) (fun x=>?_) (hlow.add (by omega) (by omega)).2
   unfold W.mem
   simp
  ·have r2:MachAt m (K.addM [] [(tA1,i)]) [(1,.int .i64 1)] (some ((1,0),(W.addS 0 0 (i:Int)).1,(W.addS 0 0 (i:Int)).2)) w' (Ext V w w'):=r2
   rw[hadd,Nat.zero_add] at r2
   simpa using r2
 ·have hB:W.addB F M (i:Int)=true:=by
   rw[hlow.addB (by omega) (by omega),hmem]
   have:(decide ((i:Int)≤0) || decide (∃ n∈L,(i:Int)=(n:Nat)))=false:=by
    rw[Bool.or_eq_false_iff]
    refine⟨decide_eq_false (by omega),decide_eq_false ?_⟩
    rintro ⟨n,hn,e⟩
    have:i=n:=by omega
    exact hni (this▸hn)
   rw[this];rfl
  have hsf:W.far F (i:Int)=false∧W.seen F M (i:Int)=false:=by
   unfold W.addB at hB
   simpa using hB
  have hs:=sum_le (fun n hn=>(hLk n hn).2)
  have hs2:L.length*k≤31*31:=Nat.mul_le_mul hLn hk
  have hq:=smA_len L.sum
  have hadd:K.addM (smA L.sum) [(tA1,i)]=smA (L.sum+i):=addM_smA L.sum i hi1 (by omega)
  refine (mach_ack_1 w m (smA L.sum) [(1,.int .i64 1)] F M (enA 1 (i:Int) 1 i 0 0) A c D V hV hok rfl hd hDl hDV (by omega) hlow.inv hsf.2 hsf.1 ⟨1,rfl,by show (1:Int)≤1;omega⟩ (mayE_smA L.sum i (by omega)) h).mono fun en w' ⟨r1,r2,r3⟩=>⟨r1,.inr ⟨by simp,(W.addS F M (i:Int)).1,(W.addS F M (i:Int)).2,(hlow.add (by omega) (by omega)).1,mem_more hmem (hlow.add (by omega) (by omega)).2,?_⟩,r3⟩
  have r2:MachAt m (K.addM (smA L.sum) [(tA1,i)]) (gput [(1,.int .i64 1)] 1 (.int .i64 1)) (some ((1,0),(W.addS F M (i:Int)).1,(W.addS F M (i:Int)).2)) w' (Ext V w w'):=r2
  rw[hadd,gput_one 1] at r2
  rw[List.sum_append]
  simpa using r2
theorem gap_full {m k:Nat} {L:List Nat} {w:World} {V:Nat→Prop} (h:GapT m k L w V) (hk:1≤k) (hall:∀ n,1≤n→n≤k→n∈L):MachAt m (smA L.sum) [(1,.int .i64 1)] (some ((1,0),(k:Int),0)) w V:=by
 rcases h with ⟨rfl,_⟩|⟨_,F,M,hlow,hmem,h⟩
 ·exact absurd (hall 1 (Nat.le_refl _) hk) (by simp)
 ·obtain⟨rfl,rfl⟩:=hlow.full fun x h1 h2=>by
   rw[hmem]
   obtain⟨n,rfl⟩:=Int.eq_ofNat_of_zero_le (show 0≤x by omega)
   rw[Bool.or_eq_true]
   exact .inr (decide_eq_true ⟨n,hall n (by omega) (by omega),rfl⟩)
  exact h
end Go.Proofs.YtmijcbfgfkeodaaGreatDoor
end
section
namespace Go.Proofs.YtmijcbfgfkeodaaGreatDoor
open Go.RowKit Go.Hop Go.Proofs.YtmijcbfgfkeodaaGreatDoor.V
def recB (k:Nat) (ns:List Nat):List UInt8:=enc k++ns.flatMap enc
theorem recs_len:∀ (ns:List Nat),(∀ x∈ns,x<18446744073709551616)→(ns.flatMap enc).length≤ns.length*10
 | [],_=>by simp
 | x :: ns,h=>by
   have:=recs_len ns fun y hy=>h y (by simp[hy])
   have:=enc_ten (h x (by simp))
   simp only[List.flatMap_cons,List.length_append,List.length_cons]
   omega
theorem record_any (w:World) (k:Nat) (A:Option Addr) (n c:Nat) (ns:List Nat) (D:Nat→Prop) (h:In w D 1 A n (ns.map fun (x:Nat) => .int .i64 (x:Int))) (hk:k<18446744073709551616) (hn:n≤8) (hs:∀ x∈ns,x≤9223372036854775807) :
 Calls Tryz.prog 150 #[.int .u64 (k:Int),.slice A n c] w fun e w'=>∃ v,e=.returned v∧Grow w w'∧IsBytes (recB k ns) v w':=by
 have hln:ns.length=n:=by have:=h.1;simpa using this
 have hP:=vPut_is w _ [] k (isBytes_nil w) (by simp) hk
 go_enter Tryz.func150,Tryz.ntmps150
 go_wp2_with fail
 refine hP.mono ?_
 rintro e w1 ⟨v1,rfl,hg1,hI1⟩
 have hk10:=enc_ten hk
 go_wp2_with fail
 go_loopw [5,12] (fun v i wr=>∃ j:Nat,j≤n∧i=.int .i64 (j:Int)∧IsBytes (recB k (ns.take j)) v wr∧Grow w wr) (fun _ i _=>n-(intOf i).toNat)
 case atStart=>exact⟨0,by omega,rfl,by simpa [recB] using hI1,hg1⟩
 case round=>
  obtain⟨j,hjn,rfl,hB,hgr⟩:=hrel
  by_cases hj:j<n
  ·obtain⟨ad,hA,hD,hlt,hc⟩:=(h.grow hgr).2 (by omega)
   subst hA
   have hq:j<ns.length:=by omega
   have e0:=hc j (.int .i64 (ns[j]:Int)) (by simp[hq])
   have e1:wr.cell? (ad.add (j*1))=some (.int .i64 (ns[j]:Int)):=by rw[Nat.mul_one];exact e0
   have hsn:ns.take (j+1)=ns.take j++[ns[j]]:=List.take_succ_eq_append_getElem hq
   have HS:=Lib.hid hsn
   have hsm:=hs _ (List.getElem_mem hq)
   have hl:=recs_len (ns.take j) fun x hx=>by have:=hs x (List.mem_of_mem_take hx);omega
   rw[List.length_take,Nat.min_eq_left (by omega)] at hl
   clear hsn hc
   generalize ns[j]=x at e0 e1 hsm HS
   have hx:IntKind.u64.wrap (x:Int)=(x:Int):=by rw[wrap_u64];omega
   have hL0:(recB k (ns.take j)).length≤1099511627776:=by unfold recB;rw[List.length_append];omega
   have HL:=Lib.hid hl
   clear hl
   have hP:=vPut_is wr u5 _ x hB hL0 (by omega)
   go_wp2_with fail
   refine hP.mono ?_
   rintro e w2 ⟨v2,rfl,hg2,hI2⟩
   have hI3:IsBytes (recB k (ns.take (j+1))) v2 w2:=by
    rw[HS.out]
    unfold recB at hI2 ⊢
    rw[List.flatMap_append,List.flatMap_singleton,←List.append_assoc]
    exact hI2
   go_wp2_with fail
   go_roundw
   case rel=>exact⟨j+1,by omega,by go_num,hI3,hgr.trans hg2⟩
   case measure=>simp[intOf];omega
  ·obtain rfl:j=n:=by omega
   rw[List.take_of_length_le (by omega)] at hB
   go_wp2_with fail
   go_ret
   exact⟨_,rfl,hgr,hB⟩
theorem bEpoch_any (w:World) (n:Nat) (hn:n≤9223372036854775807):Calls Tryz.prog 69 #[.int .i64 (n:Int)] w fun e w'=>∃ v,e=.returned v∧Grow w w'∧IsBytes (recB 1 [n]) v w':=by
 have hga:=grow_alloc w (.cells #[.int .i64 (n:Int)] 2)
 have hB:=Blk.made w 2 #[.int .i64 (n:Int)]
 have hR:=record_any _ 1 (some ⟨w.heap.size,0,none⟩) 1 1 [n] (fun b=>b=w.heap.size) (hB.in_ (size:=1) (n:=1) rfl) (by decide) (by decide) (by intro x hx;simp only[List.mem_cons,List.not_mem_nil,or_false] at hx;omega)
 go_enter Tryz.func69,Tryz.ntmps69
 go_wp2_with fail
 refine hR.mono ?_
 rintro e w1 ⟨v,rfl,hg,hI⟩
 go_wp2_with fail
 go_ret
 exact⟨v,rfl,hga.trans hg,hI⟩
theorem bDone_any (w:World) (k n:Nat) (hk:k≤9223372036854775807) (hn:n≤9223372036854775807):Calls Tryz.prog 347 #[.int .i64 (k:Int),.int .i64 (n:Int)] w fun e w'=>∃ v,e=.returned v∧Grow w w'∧IsBytes (recB 5 [k,n]) v w':=by
 have hga:=grow_alloc w (.cells #[.int .i64 (k:Int),.int .i64 (n:Int)] 2)
 have hB:=Blk.made w 2 #[.int .i64 (k:Int),.int .i64 (n:Int)]
 have hR:=record_any _ 5 (some ⟨w.heap.size,0,none⟩) 2 2 [k,n] (fun b=>b=w.heap.size) (hB.in_ (size:=1) (n:=2) rfl) (by decide) (by decide) (by intro x hx;simp only[List.mem_cons,List.not_mem_nil,or_false] at hx;omega)
 go_enter Tryz.func347,Tryz.ntmps347
 go_wp2_with fail
 refine hR.mono ?_
 rintro e w1 ⟨v,rfl,hg,hI⟩
 go_wp2_with fail
 go_ret
 exact⟨v,rfl,hga.trans hg,hI⟩
def IsIn (size n:Nat) (xs:List Value) (u:Value) (w:World):Prop:=∃ A,u=.slice A n n∧In w (fun _=>True) size A n xs
theorem isIn_lasting (size n:Nat) (xs:List Value):Lasting (IsIn size n xs):=fun u w w' ⟨A,e,h⟩ hg=>⟨A,e,h.grow hg⟩
theorem isIn_blk {w:World} {x:Nat} {t:TypeId} {cs:Array Value} (h:Blk w x t cs) {size n:Nat} (hn:cs.toList.length=n*size):IsIn size n cs.toList (.slice (some ⟨x,0,none⟩) n n) w:=⟨_,rfl,(h.in_ hn).mono fun _ _=>trivial⟩
theorem ints3_made {w:World} {o:Oper} {ρ:Operand→Value} {x y z:Operand} {a b c:Int} (ho:o.op=.buildSlice 52 3 #[(0,x),(1,y),(2,z)]) (hx:ρ x=.int .i64 a) (hy:ρ y=.int .i64 b) (hz:ρ z=.int .i64 c) :
 flowUpon Tryz.prog (fun u w'=>Grow w w'∧IsIn 1 3 [.int .i64 a,.int .i64 b,.int .i64 c] u w') ((execOp ρ o).run Tryz.prog w):=by
 obtain⟨dst,op,ty,pos,after,guard⟩:=o
 simp only at ho
 subst ho
 exact flowUpon_value (u := .slice (some ⟨w.heap.size,0,none⟩) 3 3) (w:=w.alloc (.cells #[.int .i64 a,.int .i64 b,.int .i64 c] 2)) (by go_simp) ⟨(Below.refl _ w).alloc (Nat.le_refl _) _,isIn_blk (Blk.made w _ _) rfl⟩
theorem delta_made {w:World} {o:Oper} {ρ:Operand→Value} {x:Operand} {s:ByteArray} {n:Int} (ho:o.op=.buildSlice 30 1 #[(0,x)]) (hx:ρ x=.agg #[.string s,.int .u64 n]) :
 flowUpon Tryz.prog (fun u w'=>Grow w w'∧IsIn 2 1 [.string s,.int .u64 n] u w') ((execOp ρ o).run Tryz.prog w):=by
 obtain⟨dst,op,ty,pos,after,guard⟩:=o
 simp only at ho
 subst ho
 exact flowUpon_value (u := .slice (some ⟨w.heap.size,0,none⟩) 1 1) (w:=w.alloc (.cells #[.string s,.int .u64 n] 29)) (by go_simp) ⟨(Below.refl _ w).alloc (Nat.le_refl _) _,isIn_blk (Blk.made w _ _) rfl⟩
theorem record_is (w:World) (k n:Nat) (ns:List Nat) (u:Value) (h:IsIn 1 n (ns.map fun (x:Nat) => .int .i64 (x:Int)) u w) (hk:k<18446744073709551616) (hn:n≤8) (hs:∀ x∈ns,x≤9223372036854775807) :
 Calls Tryz.prog 150 #[.int .u64 (k:Int),u] w fun e w'=>∃ v,e=.returned v∧Grow w w'∧IsBytes (recB k ns) v w':=by
 obtain⟨A,rfl,h⟩:=h
 exact record_any w k A n n ns _ h hk hn hs
theorem ePut_is (w:World) (u v:Value) (l:List UInt8) (n:Nat) (ds:List Dl) (hu:IsBytes l u w) (hl:l.length≤1048576) (hd:IsIn 2 n (dcells ds) v w) (hn:n≤1048576) (hs:∀ d∈ds,Small d) :
 Calls Tryz.prog 154 #[u,v] w fun e w'=>∃ v,e=.returned v∧Grow w w'∧IsBytes (l++dsB ds) v w':=by
 obtain⟨A,rfl,h⟩:=hd
 exact eDput_any w u l _ A n n ds hu hl h hn hs
theorem recB_len (k:Nat) (ns:List Nat) (hk:k<18446744073709551616) (h:∀ x∈ns,x<18446744073709551616):(recB k ns).length≤10+ns.length*10:=by
 have:=enc_ten hk
 have:=recs_len ns h
 unfold recB
 rw[List.length_append]
 omega
theorem bSample_any (w:World) (s:ByteArray) (x:Nat) (hs:Small (s,x)):Calls Tryz.prog 72 #[.agg #[.string s,.int .u64 (x:Int)]] w fun e w'=>∃ v,e=.returned v∧Grow w w'∧IsBytes (recB 2 []++dsB [(s,x)]) v w':=by
 have k150:∀ (vs:Array Value) (w:World),(callFunc 150 vs).run Tryz.prog w=.ok (.enter 150 vs) w:=fun vs w=>by go_simp
 have k154:∀ (vs:Array Value) (w:World),(callFunc 154 vs).run Tryz.prog w=.ok (.enter 154 vs) w:=fun vs w=>by go_simp
 have hga:=grow_alloc w (.cells #[.string s,.int .u64 (x:Int)] 29)
 have hBy:=Blk.made w 29 #[.string s,.int .u64 (x:Int)]
 obtain⟨y,HY⟩:∃ y:Nat,Hid (y=w.heap.size):=⟨_,rfl⟩
 obtain⟨wa,HA_⟩:∃ wa:World,Hid (wa=w.alloc (.cells #[.string s,.int .u64 (x:Int)] 29)):=⟨_,rfl⟩
 rw[←HA_.out] at hga hBy
 rw[←HY.out] at hBy
 have hl:=recB_len 2 [] (by decide) (by simp)
 have hsm:∀ d∈[(s,x)],Small d:=fun d hd=>by rw[List.mem_singleton.1 hd];exact hs
 go_enter Tryz.func72,Tryz.ntmps72
 go_wp2_with fail
 rw[←HA_.out,←HY.out]
 refine wp_region_flow 5 7 [(0,.inr (fun _=>IsBytes (recB 2 []))),(2,.inr (fun _=>IsIn 2 1 [.string s,.int .u64 (x:Int)])),(3,.inr (fun _=>IsBytes (recB 2 []++dsB [(s,x)])))] rfl rfl (by kernel_rfl) (by kernel_rfl) (by kernel_rfl) ?_ ?_
 ·intro x hx φ he
  simp only[List.mem_cons,List.not_mem_nil,or_false] at hx
  rcases hx with rfl|rfl|rfl<;>cases he
  all_goals first|exact lasts_quiet (lasting_bytes _)|exact lasts_quiet (isIn_lasting _ _ _)
 intro ops' A' K' T hops hA' hK hT
 refine fl_callAny 3 (by rfl) (by decide) (wanted_none (by rfl)) (fun _=>IsBytes (recB 2 [])) (by rw[hK.out];rfl) 150 _ _ (by rfl) [.int .u64 2,.slice none 0 0] (by rfl) k150 (fun kk w1 (hg:Grow _ w1) hb hf=>calls_behindAny (φ:=fun _=>IsBytes (recB 2 [])) (by rfl) (by exact record_any w1 2 none 0 0 [] (fun _=>True) In.nil (by decide) (by decide) (by simp))) (fun v3=>?_)
 refine fl_op1N 4 (.tmp 1) (.pointer (some ⟨y,0,none⟩)) (.agg #[.string s,.int .u64 (x:Int)]) (fun ρ h1 kk w1 (hg:Grow _ w1) hb hf=>by have c0:=(hBy.grow hg).cell 0;have c1:=(hBy.grow hg).cell 1;go_simp) ?_
 refine fl_any1 5 (by rfl) (by decide) (wanted_none (by rfl)) (fun _=>IsIn 2 1 [.string s,.int .u64 (x:Int)]) (by rw[hK.out];rfl) (.tmp 4) (.agg #[.string s,.int .u64 (x:Int)]) (by rfl) (fun ρ h1 kk w1 (hg:Grow _ w1) hb hf=>by refine upon_behindAny (φ:=fun _=>IsIn 2 1 [.string s,.int .u64 (x:Int)]) (by rfl) ?_;exact delta_made rfl h1) (fun v5=>?_)
 refine fl_callAny 6 (by rfl) (by decide) (wanted_none (by rfl)) (fun _=>IsBytes (recB 2 []++dsB [(s,x)])) (by rw[hK.out];rfl) 154 _ _ (by rfl) [v3,v5] (by rfl) k154 (fun kk w1 (hg:Grow _ w1) hb hf=>calls_behindAny (φ:=fun _=>IsBytes (recB 2 []++dsB [(s,x)])) (by rfl) (by exact ePut_is w1 v3 v5 _ 1 [(s,x)] (facts_take (facts_pass hf) (by rw[hA'.out];kernel_rfl)) (by simp at hl;omega) (facts_take hf (by rw[hA'.out];kernel_rfl)) (by decide) hsm)) (fun v6=>?_)
 refine fl_mvN 2 (v6) ?_
 refine fl_end (fun _ _ w1 (hg:Grow _ w1) _ hfacts=>hT _ _ ?_)
 clear hops hA' hK hT
 simp only[putsL,Act.put,List.setIfInBounds_toArray,List.set_cons_zero,List.set_cons_succ,List.drop_succ_cons,List.drop_zero]
 have hE:=hfacts.1
 clear hfacts
 go_wp2_with fail
 go_ret
 exact⟨_,rfl,hga.trans hg,hE⟩
theorem bBatch_any (w:World) (k sq:Nat) (A:Option Addr) (n c:Nat) (ds:List Dl) (D:Nat→Prop) (hd:DIn w D A n ds) (hn:n≤8) (hk:k≤9223372036854775807) (hsq:sq≤9223372036854775807) (hs:∀ d∈ds,Small d):Calls Tryz.prog 160 #[.int .i64 (k:Int),.agg #[.int .i64 (sq:Int),.slice A n c]] w fun e w'=>∃ v,e=.returned v∧Grow w w'∧IsBytes (recB 3 [k,sq,n]++dsB ds) v w':=by
 have k150:∀ (vs:Array Value) (w:World),(callFunc 150 vs).run Tryz.prog w=.ok (.enter 150 vs) w:=fun vs w=>by go_simp
 have k154:∀ (vs:Array Value) (w:World),(callFunc 154 vs).run Tryz.prog w=.ok (.enter 154 vs) w:=fun vs w=>by go_simp
 have hga:=grow_alloc w (.cells #[.int .i64 (sq:Int),.slice A n c] 159)
 have hBy:=Blk.made w 159 #[.int .i64 (sq:Int),.slice A n c]
 obtain⟨y,HY⟩:∃ y:Nat,Hid (y=w.heap.size):=⟨_,rfl⟩
 obtain⟨wa,HA_⟩:∃ wa:World,Hid (wa=w.alloc (.cells #[.int .i64 (sq:Int),.slice A n c] 159)):=⟨_,rfl⟩
 rw[←HA_.out] at hga hBy
 rw[←HY.out] at hBy
 have hda:=In.grow hd hga
 have hl:=recB_len 3 [k,sq,n] (by decide) (by intro x hx;simp only[List.mem_cons,List.not_mem_nil,or_false] at hx;omega)
 have hl2:(recB 3 [k,sq,n]).length≤1048576:=by simp at hl;omega
 clear hl
 go_enter Tryz.func160,Tryz.ntmps160
 go_wp2_with fail
 rw[←HA_.out,←HY.out]
 refine wp_region_flow 12 16 [(6,.inr (fun _=>IsIn 1 3 ([k,sq,n].map fun (x:Nat) => .int .i64 (x:Int)))),(7,.inr (fun _=>IsBytes (recB 3 [k,sq,n]))),(10,.inr (fun _=>IsBytes (recB 3 [k,sq,n]++dsB ds)))] rfl rfl (by kernel_rfl) (by kernel_rfl) (by kernel_rfl) ?_ ?_
 ·intro x hx φ he
  simp only[List.mem_cons,List.not_mem_nil,or_false] at hx
  rcases hx with rfl|rfl|rfl<;>cases he
  all_goals first|exact lasts_quiet (lasting_bytes _)|exact lasts_quiet (isIn_lasting _ _ _)
 intro ops' A' K' T hops hA' hK hT
 refine fl_mvN 5 (.int .i64 (k:Int)) ?_
 refine fl_op1G 6 (.tmp 3) (.pointer (some ⟨y,0,none⟩)) (.pointer (some ⟨y,0,none⟩)) ?_
 refine fl_op1N 7 (.tmp 6) (.pointer (some ⟨y,0,none⟩)) (.int .i64 (sq:Int)) (fun ρ h1 kk w1 (hg:Grow _ w1) hb hf=>by have c0:=(hBy.grow hg).cell 0;go_simp) ?_
 refine fl_op1G 8 (.tmp 3) (.pointer (some ⟨y,0,none⟩)) (.pointer (some ⟨y,1,none⟩)) ?_
 refine fl_op1N 9 (.tmp 8) (.pointer (some ⟨y,1,none⟩)) (.slice A n c) (fun ρ h1 kk w1 (hg:Grow _ w1) hb hf=>by have c1:=(hBy.grow hg).cell 1;go_simp) ?_
 refine fl_op1G 10 (.tmp 9) (.slice A n c) (.int .i64 (n:Int)) ?_
 refine fl_any 11 (by rfl) (by decide) (wanted_none (by rfl)) (fun _=>IsIn 1 3 ([k,sq,n].map fun (x:Nat) => .int .i64 (x:Int))) (by rw[hK.out];rfl) (fun kk w1 (hg:Grow _ w1) hb hf=>by refine upon_behindAny (φ:=fun _=>IsIn 1 3 ([k,sq,n].map fun (x:Nat) => .int .i64 (x:Int))) (by rfl) ?_;exact ints3_made rfl rfl rfl rfl) (fun v11=>?_)
 refine fl_callAny 12 (by rfl) (by decide) (wanted_none (by rfl)) (fun _=>IsBytes (recB 3 [k,sq,n])) (by rw[hK.out];rfl) 150 _ _ (by rfl) [.int .u64 3,v11] (by rfl) k150 (fun kk w1 (hg:Grow _ w1) hb hf=>calls_behindAny (φ:=fun _=>IsBytes (recB 3 [k,sq,n])) (by rfl) (by exact record_is w1 3 3 [k,sq,n] v11 (facts_take hf (by rw[hA'.out];kernel_rfl)) (by decide) (by decide) (by intro x hx;simp only[List.mem_cons,List.not_mem_nil,or_false] at hx;omega))) (fun v12=>?_)
 refine fl_op1G 13 (.tmp 3) (.pointer (some ⟨y,0,none⟩)) (.pointer (some ⟨y,1,none⟩)) ?_
 refine fl_op1N 14 (.tmp 13) (.pointer (some ⟨y,1,none⟩)) (.slice A n c) (fun ρ h1 kk w1 (hg:Grow _ w1) hb hf=>by have c1:=(hBy.grow hg).cell 1;go_simp) ?_
 refine fl_callAny 15 (by rfl) (by decide) (wanted_none (by rfl)) (fun _=>IsBytes (recB 3 [k,sq,n]++dsB ds)) (by rw[hK.out];rfl) 154 _ _ (by rfl) [v12,.slice A n c] (by rfl) k154 (fun kk w1 (hg:Grow _ w1) hb hf=>calls_behindAny (φ:=fun _=>IsBytes (recB 3 [k,sq,n]++dsB ds)) (by rfl) (by exact eDput_any w1 v12 _ D A n c ds (facts_take hf (by rw[hA'.out];kernel_rfl)) hl2 (In.grow hda hg) (by omega) hs)) (fun v15=>?_)
 refine fl_mvN 4 (v15) ?_
 refine fl_end (fun _ _ w1 (hg:Grow _ w1) _ hfacts=>hT _ _ ?_)
 clear hops hA' hK hT
 simp only[putsL,Act.put,List.setIfInBounds_toArray,List.set_cons_zero,List.set_cons_succ,List.drop_succ_cons,List.drop_zero]
 have hE:=hfacts.1
 clear hfacts
 go_wp2_with fail
 go_ret
 exact⟨_,rfl,hga.trans hg,hE⟩
end Go.Proofs.YtmijcbfgfkeodaaGreatDoor
end
