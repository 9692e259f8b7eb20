/- Lsort, Lname, Lplain, More. -/
import Derived.Test.YtmijcbfgfkeodaaGreatDoorHz02
import Derived.Shelf.SlSortCmp.InsertionK
import Derived.Ground.SlsfProg
import Derived.Lib.Bytealg
import Derived.Lib.SplitLaws
import Derived.Lib.CutLaws
import Derived.Lib.IndexBytes
import Derived.Lib.Join
set_option linter.all false
set_option maxRecDepth 100000
section
namespace Go.Proofs.YtmijcbfgfkeodaaGreatDoor.L
open Go.Shelf
def insL_ren:Go.Shelf.Ren:=⟨fun|20=>357|n=>n,fun|24=>90|22=>91|3=>3|25=>368|4=>4|0=>0|n=>n,fun|n=>n⟩
theorem insL:Go.Proofs.SlLaysF0.n20 Tryz.prog insL_ren:={
 mixed:=by kernel_rfl
 f20:=⟨Tryz.f357.name,by decide,Tryz.func357.trans (congrArg some (by kernel_rfl))⟩
 t0:=Tryz.underlying0
 a0:=Tryz.isAgg0
 z0:=Tryz.sizeOf0
 v0:=Tryz.zeroValue0
 t3:=Tryz.underlying3
 a3:=Tryz.isAgg3
 z3:=Tryz.sizeOf3
 v3:=Tryz.zeroValue3
 t4:=Tryz.underlying4
 a4:=Tryz.isAgg4
 z4:=Tryz.sizeOf4
 v4:=Tryz.zeroValue4
 t22:=Tryz.underlying91
 a22:=Tryz.isAgg91
 z22:=Tryz.sizeOf91
 v22:=Tryz.zeroValue91
 t25:=Tryz.underlying368
 a25:=Tryz.isAgg368
 z25:=Tryz.sizeOf368
 v25:=Tryz.zeroValue368 }
end Go.Proofs.YtmijcbfgfkeodaaGreatDoor.L
namespace Go.Proofs.YtmijcbfgfkeodaaGreatDoor.L
open Go.RowKit Go.Hop Go.Shelf
theorem clone_lab (w:World) (V:Nat→Prop) (A:Option Addr) (n c:Nat) (l:List Lb) (h:In w V 2 A n (lcells l)) (hn:n≤1048576) :
 Calls Tryz.prog 298 #[.slice A n c] w fun e w'=>∃ v,e=.returned v∧Own w' (New w w') 90 2 v n (lcells l)∧Grow w w':=by
 have hnil:=fun (w':World)=>Lib.run_eql_slice_nil (P:=Tryz.prog) w' 91 90 A n c 0 0 Tryz.underlying91
 cases A with
 | none=>
   have hn0:n=0:=by
    rcases Nat.eq_zero_or_pos n with h0|h0
    ·exact h0
    ·obtain⟨_,e,_⟩:=h.2 h0;cases e
   subst hn0
   obtain rfl:l=[]:=List.eq_nil_of_length_eq_zero (LIn.len h)
   go_enter Tryz.func298,Tryz.ntmps298
   go_wp2_with fail
   go_ret
   exact⟨_,rfl,Own.nil,Grow.refl _⟩
 | some ad=>
   go_enter Tryz.func298,Tryz.ntmps298
   go_wp2_with (at_builtin;refine stay ?_)
   refine stay_out ?_
   refine wpList_own (V:=fun b=>b=w.heap.size) labelE _ rfl (.tmp 5) (.tmp 6) rfl (.slice (some ⟨w.heap.size,0,none⟩) 0 0) 0 [] rfl (made_own w _ _) w.heap.size (some ad) n c (lcells l) rfl (Reads.alloc (In.reads h) (Nat.le_refl _) _) (lcells_one l) (by omega) ?_
   intro v1 w1 hO1 hj1
   simp only[Nat.zero_add,List.nil_append] at hO1
   obtain⟨hO2,hg1⟩:=own_new hO1 hj1
   go_wp2_with fail
   go_ret
   exact⟨v1,rfl,hO2,hg1⟩
theorem clip_lab (w:World) (A:Option Addr) (n c:Nat) (hn:n≤c) :
 Calls Tryz.prog 192 #[.slice A n c] w fun e w'=>e=.returned (.slice A n n)∧w=w':=by
 go_enter Tryz.func192,Tryz.ntmps192
 go_wp2_with fail
 go_ret
 exact⟨rfl,rfl⟩
theorem cmpL_any (x y:Lb) (W:World):Calls Tryz.prog 300 #[.agg #[.string x.1,.string x.2],.agg #[.string y.1,.string y.2]] W fun e w'=>e=.returned (.int .i64 (cmpT x.1 y.1))∧∃ q os',w'=Sort.grow (W.drewN q) os':=by
 have hcon:=fun W'=>Compare_any W' x.1 y.1
 generalize cmpT x.1 y.1=r at hcon ⊢
 go_enter Tryz.func300,Tryz.ntmps300
 go_wp2_with (go_at_call 136;refine (hcon _).mono ?_;rintro e w' ⟨rfl,rfl⟩)
 go_ret
 exact⟨rfl,0,_,by rw[Sort.alloc_eq_grow,Sort.alloc_eq_grow,Sort.grow_grow];rfl⟩
theorem ltL_is (x y:Lb):Go.Proofs.ltOf (fun x y:Lb=>cmpT x.1 y.1) x y=slt x.1 y.1:=by
 unfold Go.Proofs.ltOf cmpT
 cases h1:slt x.1 y.1<;>cases h2:slt y.1 x.1<;>simp[h1,h2]
theorem swoL:Sort.SWO (Go.Proofs.ltOf fun x y:Lb=>cmpT x.1 y.1) where
 irrefl x:=by rw[ltL_is];exact slt_irr _
 trans x y z h k:=by rw[ltL_is] at *;exact slt_tr h k
 ntrans x y z h k:=by rw[ltL_is] at *;exact slt_ntr h k
theorem cell_flatL (l:List Lb) (j:Nat) (hj:j<l.length*2):(lcells l)[j]?=some (Sort.flatK lcell 2 l.toArray)[j]!:=by
 have h:=flat_get lcell 2 lcell_len l (j / 2) (j % 2) (by omega) (Nat.mod_lt _ (by omega))
 rw[show j / 2*2+j % 2=j by omega] at h
 unfold lcells
 rw[h,Sort.get_flatK lcell 2 l.toArray j (by simpa using hj)]
 have h2:j / 2<l.length:=by omega
 have h3:l.toArray[j / 2]! = l[j / 2]:=by simp[h2]
 rw[h3]
 have h4:j % 2<(lcell l[j / 2]).length:=by rw[lcell_len];exact Nat.mod_lt _ (by omega)
 rw[List.getElem?_eq_getElem h4]
 simp[h4]
structure ByName (q l:List Lb):Prop where
 perm:q.Perm l
 srt:q.Pairwise fun a b=>slt b.1 a.1=false
theorem ins_any (w:World) (g c:Nat) (l:List Lb) (cur:Array Value) (hg:w.heap[g]?=some (.cells cur 90 (0,0))) (hcur:cur.toList.take (l.length*2)=lcells l) (hl:l.length<4611686018427387904) :
 Calls Tryz.prog 357 #[.slice (some ⟨g,0,none⟩) l.length c,.int .i64 0,.int .i64 (l.length:Int),.func (.func 300) #[] #[]] w fun e w'=>e=.returned (.tuple #[])∧∃ q:List Lb,ByName q l∧In w' (fun b=>b=g) 2 (some ⟨g,0,none⟩) l.length (lcells q)∧Just (fun b=>b=g) w w':=by
 have hgl:g<w.heap.size:=(Array.getElem?_eq_some_iff.1 hg).1
 have hH:Sort.HoldsK lcell 2 w g 0 l.toArray:=fun j hj=>by
  rw[Sort.size_flatK] at hj
  have hj':j<l.length*2:=by simpa using hj
  have hc:=cell_flatL l j hj'
  rw[←hcur,List.getElem?_take_of_lt hj',Array.getElem?_toList] at hc
  refine⟨?_,?_⟩
  ·unfold World.cell?
   simp only[hg,Nat.zero_add]
   exact hc
  ·unfold World.frozen?
   simp only[hg]
   simp
 have eg:∀ args w,(callFunc 300 args).run Tryz.prog w=.ok (.enter 300 args) w:=fun args w=>by go_simp
 have hcon:=Go.Proofs.AnyQ.insertionSortCmpFunc insL 2 Tryz.isAgg90 Tryz.sizeOf90 lcell lcell_len (fun x v hv=>by simp only[lcell,List.mem_cons,List.not_mem_nil,or_false] at hv;rcases hv with rfl|rfl<;>rfl) (fun x y:Lb=>cmpT x.1 y.1) 300 #[] g 0 c 0 l.length l.toArray w eg (fun m os dk _ x y=>cmpL_any x y _) hH hgl (Nat.zero_le _) (by simp) (by simpa using hl)
 change Calls Tryz.prog 357 _ _ _ at hcon
 rw[List.size_toArray] at hcon
 refine hcon.mono ?_
 rintro e w' ⟨he,n,os,rfl⟩
 have hh:=Sort.insertionSort_holds swoL l.toArray 0 l.length (Nat.zero_le _) (by simp)
 generalize Sort.insertionSort (Go.Proofs.ltOf fun x y:Lb=>cmpT x.1 y.1) l.toArray 0 l.length=d' at hh ⊢
 obtain⟨q,rfl⟩:∃ q:List Lb,d'=q.toArray:=⟨d'.toList,by simp⟩
 have hp:=hh.1
 have hs:=hh.2
 have hll:q.length=l.length:=by have:=hp.1;simpa using this
 have hH':=Go.Proofs.holdsK_sortWorldK_c lcell 2 w g 0 l.toArray q.toArray n os hH hgl hp.1
 have hsz:=Go.Proofs.size_sortWorldK_c lcell 2 w g 0 n q.toArray os
 refine⟨he,q,⟨?_,List.pairwise_iff_getElem.2 fun i j hi hj hij=>?_⟩,⟨by rw[lcells_len,hll],fun hn=>⟨_,rfl,rfl,Nat.lt_of_lt_of_le hgl hsz,fun j u hu=>?_⟩⟩,⟨rfl,rfl,rfl,hsz,fun b hb hbg=>?_⟩⟩
 ·have:=hp.2.2
  simp only[List.extract_toArray,List.extract_eq_take_drop,List.drop_zero,Nat.sub_zero] at this
  rwa [List.take_of_length_le (by omega),List.take_of_length_le (by omega)] at this
 ·have:=hs i j (Nat.zero_le _) hij (by omega)
  rw[ltL_is] at this
  simpa [hi,hj] using this
 ·have hj:j<q.length*2:=by
   have:=(List.getElem?_eq_some_iff.1 hu).1
   rwa [lcells_len] at this
  have h1:=(hH' j (by simpa [Sort.size_flatK] using hj)).1
  rw[Addr.add_lit,←hu,cell_flatL q j hj]
  exact h1
 ·have hb':b<(w.heap.modify g (Sort.onCells (Sort.putCells id 0 (Sort.flatK lcell 2 q.toArray)))).size:=by simpa using hb
  show ((w.heap.modify g (Sort.onCells (Sort.putCells id 0 (Sort.flatK lcell 2 q.toArray))))++os)[b]?=w.heap[b]?
  rw[Array.getElem?_append_left hb',Array.getElem?_modify,if_neg (fun e=>hbg e.symm)]
theorem ins_none (w:World) (A:Option Addr) (c:Nat) (f:Value):Calls Tryz.prog 357 #[.slice A 0 c,.int .i64 0,.int .i64 0,f] w fun e w'=>e=.returned (.tuple #[])∧w=w':=by
 go_enter Tryz.func357,Tryz.ntmps357
 go_wp2_with fail
 go_loop [8] (fun i=>i=.int .i64 1) (fun _=>0)
 case atStart=>rfl
 case round=>
  obtain rfl:=hrel
  go_wp2_with fail
  go_end0
  exact⟨rfl,rfl⟩
theorem stable_any (w:World) (A:Option Addr) (n c:Nat) (l:List Lb) (hn:n≤19) (V:Nat→Prop) (hO:Own w V 90 2 (.slice A n c) n (lcells l)) :
 Calls Tryz.prog 299 #[.slice A n c,.func (.func 300) #[] #[]] w fun e w'=>e=.returned (.tuple #[])∧∃ q:List Lb,ByName q l∧In w' V 2 A n (lcells q)∧Just V w w':=by
 have hl:l.length=n:=by have:=hO.1;rw[lcells_len] at this;omega
 have hins:Calls Tryz.prog 357 #[.slice A n c,.int .i64 0,.int .i64 (n:Int),.func (.func 300) #[] #[]] w fun e w'=>e=.returned (.tuple #[])∧∃ q:List Lb,ByName q l∧In w' V 2 A n (lcells q)∧Just V w w':=by
  rcases hO.2 with ⟨h1,h0⟩|⟨g,cap,cur,h1,hV,hg,hnc,hcm,hsz,htk⟩
  ·subst h0
   obtain rfl:l=[]:=List.eq_nil_of_length_eq_zero hl
   refine (ins_none w A c _).mono ?_
   rintro e w' ⟨he,rfl⟩
   exact⟨he,[],⟨List.Perm.refl _,List.Pairwise.nil⟩,In.nil,Just.of_grow (Grow.refl _)⟩
  ·injection h1 with h1 _ h3
   subst h1 h3
   rw[←hl] at htk
   have:=ins_any w g c l cur hg htk (by omega)
   rw[hl] at this
   refine this.mono ?_
   rintro e w' ⟨he,q,hq,hI,hj⟩
   exact⟨he,q,hq,hI.mono fun b hb=>by rw[hb];exact hV,hj.imp fun b hb=>by rw[hb];exact hV⟩
 have hst:Calls Tryz.prog 343 #[.slice A n c,.int .i64 (n:Int),.func (.func 300) #[] #[]] w fun e w'=>e=.returned (.tuple #[])∧∃ q:List Lb,ByName q l∧In w' V 2 A n (lcells q)∧Just V w w':=by
  have h20:decide ((20:Int)≤(n:Int))=false:=decide_eq_false (by omega)
  have h20':decide ((20:Int)<(n:Int))=false:=decide_eq_false (by omega)
  clear hO
  go_enter Tryz.func343,Tryz.ntmps343
  go_wp2_with fail
  go_loop [7,8] (fun a b=>a=.int .i64 0∧b=.int .i64 20) (fun _ _=>0)
  case atStart=>exact⟨rfl,rfl⟩
  case round=>
   obtain⟨rfl,rfl⟩:=hrel
   go_wp2_with fail
   refine hins.mono ?_
   rintro e w2 ⟨rfl,H⟩
   clear hins
   have HH:=Lib.hid H
   clear H
   go_wp2_with fail
   go_loop [6] (fun a=>a=.int .i64 20) (fun _=>0)
   case atStart=>rfl
   case round=>
    obtain rfl:=hrel
    go_wp2_with fail
    go_end0
    exact⟨rfl,HH.out⟩
 clear hins hO
 go_enter Tryz.func299,Tryz.ntmps299
 go_wp2_with fail
 refine hst.mono ?_
 rintro e w2 ⟨rfl,H⟩
 clear hst
 have HH:=Lib.hid H
 clear H
 go_wp2_with fail
 go_end0
 exact⟨rfl,HH.out⟩
theorem sorted_any (w:World) (V:Nat→Prop) (A:Option Addr) (n c:Nat) (l:List Lb) (h:In w V 2 A n (lcells l)) (hn:n≤19) :
 Calls Tryz.prog 240 #[.slice A n c] w fun e w'=>∃ A' q,e=.returned (.slice A' n n)∧ByName q l∧In w' (New w w') 2 A' n (lcells q)∧Grow w w':=by
 go_enter Tryz.func240,Tryz.ntmps240
 go_wp2_with fail
 refine (clone_lab w V A n c l h (by omega)).mono ?_
 rintro e w1 ⟨v,rfl,hO,hg1⟩
 obtain⟨A1,c1,rfl,_,hnc,_⟩:=hO.in_
 have hst:=stable_any w1 A1 n c1 l hn (New w w1) hO
 clear hO
 go_wp2_with fail
 refine hst.mono ?_
 rintro e w2 ⟨rfl,q,hq,hI,hj⟩
 clear hst
 go_wp2_with (go_at_call 192;refine (clip_lab _ _ _ _ hnc).mono ?_;rintro e w' ⟨rfl,rfl⟩)
 go_ret
 have hs:=hg1.size
 have hs2:=hj.size
 exact⟨A1,q,rfl,hq,hI.mono fun b hb=>⟨hb.1,by have:=hb.2;omega⟩,Below.trans hg1 (hj.below (B:=w.heap.size) (fun b hb=>hb.1) hs)⟩
end Go.Proofs.YtmijcbfgfkeodaaGreatDoor.L
end
section
namespace Go.Proofs.YtmijcbfgfkeodaaGreatDoor.L
open Go.RowKit Go.Hop
def okc (c:Nat):Bool:=(decide (97≤c) && decide (c≤122)) || (decide (48≤c) && decide (c≤57)) || decide (c=95)
theorem okc_is (c:Nat):okc c=true↔(97≤c∧c≤122)∨(48≤c∧c≤57)∨c=95:=by
 unfold okc
 simp only[Bool.or_eq_true,Bool.and_eq_true,decide_eq_true_eq]
 omega
def allB (s:ByteArray):Bool:=s.data.toList.all fun c=>okc c.toNat
def nameB (s:ByteArray):Bool:=decide (1≤s.size) && decide (s.size≤32) && allB s
theorem all_take {s:ByteArray} {k:Nat} (hk:k<s.size) (h:(s.data.toList.take k).all (fun c=>okc c.toNat)=true) (hc:okc s[k].toNat=true):(s.data.toList.take (k+1)).all (fun c=>okc c.toNat)=true:=by
 have hl:k<s.data.toList.length:=by simpa using hk
 rw[List.take_succ_eq_append_getElem hl,List.all_append,h,Bool.true_and]
 simp only[List.all_cons,List.all_nil,Bool.and_true]
 exact hc
theorem all_no {s:ByteArray} {k:Nat} (hk:k<s.size) (hc:okc s[k].toNat=false):allB s=false:=by
 have hl:k<s.data.toList.length:=by simpa using hk
 refine List.all_eq_false.2 ⟨s.data.toList[k],List.getElem_mem hl,?_⟩
 have:s.data.toList[k]=s[k]:=by rw[Array.getElem_toList];rfl
 rw[this,hc];simp
theorem name_no {s:ByteArray} {k:Nat} (hk:k<s.size) (hc:okc s[k].toNat=false):nameB s=false:=by
 unfold nameB;rw[all_no hk hc,Bool.and_false]
theorem u8_cmp (c:UInt8):0≤(c.toNat:Int)∧(c.toNat:Int)≤255:=by have:=c.toNat_lt;omega
set_option maxHeartbeats 1000000 in
theorem Name_any (w:World) (s:ByteArray) (hs:s.size≤maxLen):Calls Tryz.prog 297 #[.string s] w fun e w'=>e=.returned (.bool (nameB s))∧w=w':=by
 unfold maxLen at hs
 by_cases h0:s.size=0
 ·have he:nameB s=false:=by unfold nameB;rw[decide_eq_false (by omega),Bool.false_and,Bool.false_and]
  rw[he]
  have hee:(s == (⟨#[]⟩:ByteArray))=true:=by
   have:s=⟨#[]⟩:=ByteArray.ext (Array.eq_empty_of_size_eq_zero h0)
   rw[this];rfl
  obtain rfl:s=⟨#[]⟩:=ByteArray.ext (Array.eq_empty_of_size_eq_zero h0)
  clear h0 hee he
  go_enter Tryz.func297,Tryz.ntmps297
  go_wp2
  go_ret
  exact⟨rfl,rfl⟩
 ·have hne:s.toList=[]↔False:=by
   constructor
   ·intro h
    have h2:s.data.toList=[]:=by rw[←Lib.toList_data];exact h
    have:s.size=0:=by show s.data.size=0;rw[←Array.length_toList,h2];rfl
    exact h0 this
   ·exact False.elim
  have hne2:s.toList.isEmpty=false:=by
   cases h:s.toList with
   | nil=>exact (hne.1 h).elim
   | cons _ _=>rfl
  have HNE:=Lib.hid hne
  clear hne
  by_cases h32:s.size≤32
  ·have hd:decide ((32:Int)<(s.size:Int))=false:=decide_eq_false (by omega)
   go_enter Tryz.func297,Tryz.ntmps297
   go_wp2
   go_loop [14] (fun i=>∃ k:Nat,k≤s.size∧i=.int .i64 (k:Int)∧(s.data.toList.take k).all (fun c=>okc c.toNat)=true) (fun i=>s.size-(intOf i).toNat)
   case atStart=>exact⟨0,Nat.zero_le _,rfl,rfl⟩
   case round=>
    obtain⟨k,hk,rfl,hall⟩:=hrel
    have HA:=Lib.hid hall
    clear hall
    by_cases hlt:k<s.size
    ·have hlt':decide ((k:Int)<(s.size:Int))=true:=decide_eq_true (by omega)
     have hb:=u8_cmp s[k]
     have HY:Hid (okc s[k].toNat=true→(s.data.toList.take (k+1)).all (fun c=>okc c.toNat)=true):=Lib.hid fun h=>all_take hlt HA.out h
     have HN:Hid (okc s[k].toNat=false→nameB s=false):=Lib.hid fun h=>name_no hlt h
     have HI:Hid (okc s[k].toNat=true↔_):=Lib.hid (okc_is s[k].toNat)
     go_wp2
     all_goals first
      | (go_ret;exact⟨ret_bool (HN.out (by rw[Bool.eq_false_iff,ne_eq,HI.out];(try simp only[bne_iff_ne,ne_eq,bne_eq_false_iff_eq] at *);omega)).symm,rfl⟩)
      | (go_round
         case rel=>exact⟨k+1,by omega,by go_num,HY.out (HI.out.2 (by (try simp only[bne_iff_ne,ne_eq,bne_eq_false_iff_eq] at *);omega))⟩
         case measure=>simp[intOf];omega)
    ·obtain rfl:k=s.size:=by omega
     have hlt':decide ((s.size:Int)<(s.size:Int))=false:=decide_eq_false (by omega)
     have ht:nameB s=true:=by
      have:=HA.out
      rw[List.take_of_length_le (by simp)] at this
      unfold nameB allB
      rw[this,decide_eq_true (by omega),decide_eq_true (by omega)];rfl
     have HT:=Lib.hid ht
     clear ht
     go_wp2
     go_ret
     exact⟨ret_bool HT.out.symm,rfl⟩
  ·have hd:decide ((32:Int)<(s.size:Int))=true:=decide_eq_true (by omega)
   have he:nameB s=false:=by unfold nameB;rw[decide_eq_false h32,Bool.and_false,Bool.false_and]
   rw[he]
   clear he
   go_enter Tryz.func297,Tryz.ntmps297
   go_wp2
   go_ret
   exact⟨rfl,rfl⟩
def cutAll (c:UInt8):List UInt8→List (List UInt8)
 | []=>[[]]
 | b :: r=>if b=c then [] :: cutAll c r else match cutAll c r with
   | []=>[[b]]
   | p :: ps=>(b :: p) :: ps
theorem cutAll_no {c:UInt8}:∀ {a:List UInt8},c ∉ a→cutAll c a=[a]
 | [],_=>rfl
 | b :: r,h=>by
   have h1:b≠c:=fun e=>h (by rw[e];exact List.mem_cons_self)
   have h2:=cutAll_no (c:=c) (a:=r) fun hr=>h (List.mem_cons_of_mem _ hr)
   unfold cutAll
   rw[if_neg h1,h2]
theorem cutAll_hit {c:UInt8} {r:List UInt8}:∀ {a:List UInt8},c ∉ a→cutAll c (a++c :: r)=a :: cutAll c r
 | [],_=>by rw[List.nil_append,cutAll,if_pos rfl]
 | b :: a,h=>by
   have h1:b≠c:=fun e=>h (by rw[e];exact List.mem_cons_self)
   have h2:=cutAll_hit (c:=c) (r:=r) (a:=a) fun hr=>h (List.mem_cons_of_mem _ hr)
   rw[List.cons_append,cutAll,if_neg h1,h2]
theorem cut_cases (c:UInt8) (s:List UInt8):c ∉ s∨∃ a r,s=a++c :: r∧c ∉ a:=by
 by_cases h:c∈s
 ·obtain⟨a,r,e,ha⟩:=List.eq_append_cons_of_mem h
  exact .inr ⟨a,r,e,ha⟩
 ·exact .inl h
theorem index_hit1 {c:UInt8} {r:List UInt8}:∀ {a:List UInt8},c ∉ a→Lib.index (a++c :: r) [c]=(a.length:Int)
 | [],_=>by rw[Lib.index_one];simp[Lib.indexByte]
 | b :: a,h=>by
   have h1:(b == c)=false:=beq_eq_false_iff_ne.2 fun e=>h (by rw[e];exact List.mem_cons_self)
   have h2:=index_hit1 (c:=c) (r:=r) (a:=a) fun hr=>h (List.mem_cons_of_mem _ hr)
   rw[Lib.index_one] at h2 ⊢
   rw[List.cons_append,Lib.indexByte,h1,h2]
   have:((a.length:Int) == -1)=false:=beq_eq_false_iff_ne.2 (by omega)
   rw[this]
   simp
theorem split_is (c:UInt8):∀ (n:Nat) (s:List UInt8),s.length≤n→Lib.splitK [c] 0 (Lib.count s [c]) s=cutAll c s
 | 0,s,h=>by
   obtain rfl:s=[]:=List.eq_nil_of_length_eq_zero (by omega)
   rfl
 | n+1,s,h=>by
   rw[Lib.count_one]
   rcases cut_cases c s with hno|⟨a,r,rfl,ha⟩
   ·rw[List.count_eq_zero.2 hno,cutAll_no hno];rfl
   ·rw[List.count_append,List.count_eq_zero.2 ha,List.count_cons_self,Nat.zero_add]
    rw[cutAll_hit ha,Lib.splitK,index_hit1 ha]
    have:((a.length:Int) == -1)=false:=beq_eq_false_iff_ne.2 (by omega)
    rw[this,←split_is c n r (by simp at h;omega),Lib.count_one]
    simp
def mk (l:List UInt8):ByteArray:=⟨l.toArray⟩
theorem mk_data (l:List UInt8):(mk l).data.toList=l:=rfl
def labelOf (p:List UInt8):Lb:=(mk (Lib.cut p [61]).1,mk (Lib.cut p [61]).2.1)
def labelsOf (s:ByteArray):List Lb:=(cutAll 44 s.data.toList).map labelOf
theorem name_small {s:ByteArray} (h:nameB s=true):1≤s.size∧s.size≤32:=by
 unfold nameB at h
 simp only[Bool.and_eq_true,decide_eq_true_eq] at h
 exact h.1
def okL (d:Lb):Bool:=nameB d.1 && nameB d.2
def fineB (l:List Lb):Bool:=l.all okL && decide ((l.map (·.1)).Nodup) && !l.isEmpty
def rightE (l:List Lb):Int:=if 8<l.length then 3 else if fineB l then 0 else 1
theorem fineB_is (l:List Lb):fineB l=true↔(∀ d∈l,okL d=true)∧(l.map (·.1)).Nodup∧l≠[]:=by
 unfold fineB
 cases l with
 | nil=>simp
 | cons a l=>simp only[Bool.and_eq_true,List.all_eq_true,decide_eq_true_eq,List.isEmpty_cons,Bool.not_false,and_true,ne_eq,reduceCtorEq,not_false_eq_true]
theorem fine_perm {p q:List Lb} (h:p.Perm q):fineB p=fineB q:=by
 rw[Bool.eq_iff_iff,fineB_is,fineB_is,(h.map (·.1)).nodup_iff]
 constructor
 ·rintro ⟨h1,h2,h3⟩
  exact⟨fun d hd=>h1 d (h.mem_iff.2 hd),h2,fun e=>h3 (by rw[e] at h;exact h.eq_nil)⟩
 ·rintro ⟨h1,h2,h3⟩
  exact⟨fun d hd=>h1 d (h.mem_iff.1 hd),h2,fun e=>h3 (by rw[e] at h;exact h.symm.eq_nil)⟩
theorem right_perm {p q:List Lb} (h:p.Perm q):rightE p=rightE q:=by unfold rightE;rw[h.length_eq,fine_perm h]
theorem right_zero {l:List Lb} (h:rightE l=0):l.length≤8∧fineB l=true:=by
 unfold rightE at h
 split at h
 ·cases h
 ·split at h
  ·exact⟨by omega,by assumption⟩
  ·cases h
theorem right_ok {l:List Lb} (h8:l.length≤8) (h:fineB l=true):rightE l=0:=by unfold rightE;rw[if_neg (by omega),if_pos h]
theorem right_bad {l:List Lb} (h8:l.length≤8) (h:fineB l=false):rightE l=1:=by unfold rightE;rw[if_neg (by omega),if_neg (by rw[h];simp)]
theorem right_long {l:List Lb} (h8:8<l.length):rightE l=3:=by unfold rightE;rw[if_pos h8]
theorem bad_one {l:List Lb} {d:Lb} (hd:d∈l) (h:okL d=false):fineB l=false:=by
 cases hf:fineB l with
 | false=>rfl
 | true=>have:=((fineB_is l).1 hf).1 d hd;rw[h] at this;cases this
theorem bad_two {l:List Lb} {i j:Nat} (hi:i<l.length) (hj:j<l.length) (hij:i<j) (h:l[i].1=l[j].1):fineB l=false:=by
 cases hf:fineB l with
 | false=>rfl
 | true=>
   have h2:=List.pairwise_iff_getElem.1 ((fineB_is l).1 hf).2.1 i j (by simpa using hi) (by simpa using hj) hij
   simp only[List.getElem_map] at h2
   exact absurd h h2
theorem fine_mk {l:List Lb} (h0:l≠[]) (h1:∀ d∈l,okL d=true) (h2:∀ i j (hi:i<l.length) (hj:j<l.length),i<j→l[i].1≠l[j].1):fineB l=true:=
 (fineB_is l).2 ⟨h1,List.pairwise_iff_getElem.2 fun i j hi hj hij=>by
  simp only[List.getElem_map]
  exact h2 i j (by simpa using hi) (by simpa using hj) hij,h0⟩
theorem ByName.step {q l:List Lb} (h:ByName q l) (ha:∀ i (hi:i+1<q.length),q[i].1≠q[i+1].1):∀ i j (hi:i<q.length) (hj:j<q.length),i<j→q[i].1≠q[j].1:=fun i j hi hj hij e=>by
 have hs:=List.pairwise_iff_getElem.1 h.srt
 have h1:=hs i (i+1) hi (by omega) (by omega)
 by_cases hj1:j=i+1
 ·subst hj1;exact ha i (by omega) e
 ·have h2:=hs (i+1) j (by omega) hj (by omega)
  rw[←e] at h2
  exact ha i (by omega) (slt_tri h2 h1)
theorem ByName.len {q l:List Lb} (h:ByName q l):q.length=l.length:=h.perm.length_eq
def can (l:List Lb):List Lb:=l.mergeSort fun a b => !slt b.1 a.1
theorem can_by (l:List Lb):ByName (can l) l:=by
 refine⟨List.mergeSort_perm ..,?_⟩
 have:=List.pairwise_mergeSort (le:=fun a b:Lb => !slt b.1 a.1) (fun a b c h k=>by
  simp only[Bool.not_eq_true'] at *
  exact slt_ntr k h) (fun a b=>by
  cases h:slt b.1 a.1 with
  | false=>rfl
  | true=>rw[slt_no h];rfl) l
 exact this.imp fun h=>by simpa using h
theorem strict_one:∀ {p q:List Lb},p.Pairwise (fun a b=>slt a.1 b.1=true)→q.Pairwise (fun a b=>slt a.1 b.1=true)→p.Perm q→p=q
 | [],q,_,_,h=>h.nil_eq
 | a :: p,[],_,_,h=>h.eq_nil
 | a :: p,b :: q,hp,hq,h=>by
   have hp':=List.pairwise_cons.1 hp
   have hq':=List.pairwise_cons.1 hq
   have e:a=b:=by
    rcases List.mem_cons.1 (h.mem_iff.1 List.mem_cons_self) with e|h1
    ·exact e
    ·rcases List.mem_cons.1 (h.mem_iff.2 List.mem_cons_self) with e|h2
     ·exact e.symm
     ·have:=slt_tr (hp'.1 b h2) (hq'.1 a h1)
      rw[slt_irr] at this;cases this
   subst e
   rw[strict_one hp'.2 hq'.2 ((List.perm_cons a).1 h)]
theorem ByName.strict {q l:List Lb} (h:ByName q l) (hn:(l.map (·.1)).Nodup):q.Pairwise fun a b=>slt a.1 b.1=true:=by
 have hn':(q.map (·.1)).Nodup:=(h.perm.map (·.1)).nodup_iff.2 hn
 refine List.pairwise_iff_getElem.2 fun i j hi hj hij=>?_
 have h1:=List.pairwise_iff_getElem.1 h.srt i j hi hj hij
 cases h2:slt q[i].1 q[j].1 with
 | true=>rfl
 | false=>
   have e:=slt_tri h2 h1
   have:=List.pairwise_iff_getElem.1 hn' i j (by simpa using hi) (by simpa using hj) hij
   simp only[List.getElem_map] at this
   exact absurd e this
theorem ByName.can_ {q l:List Lb} (h:ByName q l) (hn:(l.map (·.1)).Nodup):q=can l:=strict_one (h.strict hn) ((can_by l).strict hn) (h.perm.trans (can_by l).perm.symm)
def partL (d:Lb):List UInt8:=d.1.data.toList++61 :: d.2.data.toList
def txtL (q:List Lb):List UInt8:=Lib.join (q.map partL) [44]
def txt (q:List Lb):ByteArray:=mk (txtL q)
def textOf (l:List Lb):ByteArray:=if rightE l=0 then txt (can l) else mk []
theorem txtL_cons (d:Lb) (q:List Lb):txtL (d :: q)=partL d++(q.map fun d=>44 :: partL d).flatten:=by
 unfold txtL
 rw[List.map_cons,Lib.join_cons]
 unfold Lib.joinTail
 rw[List.map_map]
 rfl
def parseOk (s:ByteArray):Bool:=decide (rightE (labelsOf s)=0) && decide (txt (can (labelsOf s))=s)
def parseL (s:ByteArray):List Lb:=if parseOk s then labelsOf s else []
def parseE (s:ByteArray):Int:=if parseOk s then 0 else 12
theorem part_len {d:Lb} (h:okL d=true):(partL d).length≤65:=by
 unfold okL at h
 simp only[Bool.and_eq_true] at h
 have h1:=(name_small h.1).2
 have h2:=(name_small h.2).2
 have e1:d.1.data.toList.length=d.1.size:=by rw[Array.length_toList];rfl
 have e2:d.2.data.toList.length=d.2.size:=by rw[Array.length_toList];rfl
 unfold partL
 rw[List.length_append,List.length_cons]
 omega
theorem txt_len:∀ (q:List Lb),(∀ d∈q,okL d=true)→(txtL q).length≤66*q.length
 | [],_=>by show 0≤_;omega
 | d :: q,h=>by
   rw[txtL_cons,List.length_append,List.length_cons]
   have h1:=part_len (h d List.mem_cons_self)
   have h2:∀ r:List Lb,(∀ d∈r,okL d=true)→((r.map fun d=>44 :: partL d).flatten).length≤66*r.length:=by
    intro r
    induction r with
    | nil=>intro _;simp
    | cons a r ih=>
      intro hr
      rw[List.map_cons,List.flatten_cons,List.length_append,List.length_cons,List.length_cons]
      have:=part_len (hr a List.mem_cons_self)
      have:=ih fun x hx=>hr x (List.mem_cons_of_mem _ hx)
      omega
   have:=h2 q fun x hx=>h x (List.mem_cons_of_mem _ hx)
   omega
end Go.Proofs.YtmijcbfgfkeodaaGreatDoor.L
end
section
namespace Go.Hop
open Go.RowKit
def New (w w':World) (b:Nat):Prop:=w.heap.size≤b∧b<w'.heap.size
theorem own_new {w w1:World} {t e:TypeId} {size:Nat} {v:Value} {n:Nat} {xs:List Value} (hO:Own w1 (Ext (fun b=>b=w.heap.size) (w.alloc (.cells #[] t)) w1) e size v n xs) (hj:Just (fun b=>b=w.heap.size) (w.alloc (.cells #[] t)) w1):Own w1 (New w w1) e size v n xs∧Grow w w1:=by
 have hs:w.heap.size<w1.heap.size:=by have:=hj.size;simp at this;omega
 refine⟨hO.mono (fun b hb=>?_),((Below.refl w.heap.size w).alloc (Nat.le_refl _) (.cells #[] t)).trans (hj.below (B:=w.heap.size) (fun b hb=>by rw[hb];exact Nat.le_refl _) (by simp))⟩
 rcases hb with rfl|⟨h1,h2⟩
 ·exact⟨Nat.le_refl _,hs⟩
 ·simp at h1;exact⟨by omega,h2⟩
theorem made_own (w:World) (e:TypeId) (size:Nat):Own (w.alloc (.cells #[] e)) (fun b=>b=w.heap.size) e size (.slice (some ⟨w.heap.size,0,none⟩) 0 0) 0 []:=
 ⟨by simp,.inr ⟨w.heap.size,0,#[],rfl,rfl,heap_alloc_new w _,Nat.le_refl _,Nat.zero_le _,.inl (by simp),by simp⟩⟩
section
variable {P P' Q:Nat→Prop} {S S' R:Thing} {w w':World}
theorem Duo.leftE {Pr:Program} {f:FuncId} {args:Array Value} {ι:Type} {C:ι→Ending→Prop} {S':ι→Thing} (h:Duo P S R w) (hR:Framed R) (hc:∀ V:Nat→Prop,S w V→(∀ b,V b→b<w.heap.size)→Calls Pr f args w fun e w'=>∃ i,C i e∧S' i w' (Ext V w w')∧Just V w w') :
 Calls Pr f args w fun e w'=>∃ i,C i e∧Just P w w'∧Duo P (S' i) R w':=by
 obtain⟨h0,V,U,h1,h2,h3,h4,h5⟩:=h
 refine (hc V h1 (fun b hb=>(h4 b hb).2)).mono fun e w' ⟨i,he,hs,hj⟩=>⟨i,he,hj.imp fun k hk=>(h4 k hk).1,fun b hb=>h0 b (Nat.le_trans hj.size hb),Ext V w w',U,hs,hR w w' U h2 (fun b hb=>hj.block b (h5 b hb).2 (fun hv=>h3 b hv hb)),fun b hb hu=>?_,ext_lt h4 h0 hj.size,fun b hb=>⟨(h5 b hb).1,Nat.lt_of_lt_of_le (h5 b hb).2 hj.size⟩⟩
 rcases hb with hb|⟨hb,_⟩
 ·exact h3 b hb hu
 ·have:=(h5 b hu).2;omega
theorem Solo.callE {Pr:Program} {f:FuncId} {args:Array Value} {ι:Type} {C:ι→Ending→Prop} {S':ι→Thing} (h:Solo P S w) (hc:∀ V:Nat→Prop,S w V→(∀ b,V b→b<w.heap.size)→Calls Pr f args w fun e w'=>∃ i,C i e∧S' i w' (Ext V w w')∧Just V w w') :
 Calls Pr f args w fun e w'=>∃ i,C i e∧Just P w w'∧Solo P (S' i) w':=by
 obtain⟨h0,V,h1,h2⟩:=h
 exact (hc V h1 (fun b hb=>(h2 b hb).2)).mono fun e w' ⟨i,he,hs,hj⟩=>⟨i,he,hj.imp fun k hk=>(h2 k hk).1,fun b hb=>h0 b (Nat.le_trans hj.size hb),Ext V w w',hs,ext_lt h2 h0 hj.size⟩
theorem Solo.turn (h:Solo P S w) (hS:∀ V,S w V→S' w V):Solo P S' w:=by
 obtain⟨h0,V,h1,h2⟩:=h
 exact⟨h0,V,hS V h1,h2⟩
end
def AppRow (R:Nat→Prop) (I0:World→Prop) (m1:Nat) (st:List (Nat×Nat)):Stages where
 G:=Just R
 T:=fun _=>Just R
 I := fun k w=>match k with
   | 0=>I0 w
   | _=>True
 muts:=[m1]
 stage:=fun j=>if j=m1 then some 0 else st.lookup j
theorem appRow_ok {R:Nat→Prop} {I0:World→Prop} {m1:Nat} {st:List (Nat×Nat)} (hI:∀ a b,I0 a→Grow a b→I0 b):(AppRow R I0 m1 st).Ok:=by
 refine⟨fun _ _ _=>Just.trans,fun _ _ h=>Just.of_grow h,fun _ _ _ h=>h,fun k a b h hg=>?_⟩
 rcases k with _|k
 ·exact hI a b h hg
 ·exact trivial
def PastB (B:Nat) (φ:Value→World→Prop):Prop:=∀ u w w',φ u w→Just (fun b=>b<B) w w'→φ u w'
theorem lasts_row {R:Nat→Prop} {I0:World→Prop} {m1:Nat} {st:List (Nat×Nat)} {B:Nat} (hRB:∀ x,R x→x<B) {φ:Value→World→Prop} (h:PastB B φ):Lasts (AppRow R I0 m1 st) (fun _ u w=>φ u w):=fun _ u w w' hu=>
 ⟨fun hg=>h u w w' hu (Just.of_grow hg),fun _ ht=>h u w w' hu (Just.imp ht hRB)⟩
theorem lasts_row_once {R:Nat→Prop} {I0:World→Prop} {m1:Nat} {st:List (Nat×Nat)} {φ:Value→World→Prop} (h:Lasting φ):Lasts (AppRow R I0 m1 st) (Once φ):=fun k u w w' hu=>by
 rcases k with _|k
 ·exact hu.elim
 ·exact⟨fun hg=>h u w w' hu hg,fun hk=>by simp[AppRow] at hk⟩
section
variable {α:Type} (e:TypeId) (size:Nat) (cells:α→List Value) (good:World→(Nat→Prop)→α→Prop)
def NewG (B:Nat) (X:α→Prop) (u:Value) (w:World):Prop:=∃ (b:α) (H:Nat),X b∧u=.agg (cells b).toArray∧good w (fun x=>B≤x∧x<H) b∧H≤w.heap.size
def RowG (B:Nat) (X:α→Prop) (u:Value) (w:World):Prop:=∃ (b:α) (H:Nat) (A:Option Addr),X b∧u=.slice A 1 1∧In w (fun x=>B≤x) size A 1 (cells b)∧good w (fun x=>B≤x∧x<H) b∧H≤w.heap.size
def FinG (R:Nat→Prop) (B:Nat) (q:List α) (X:α→Prop) (u:Value) (w:World):Prop:=
 ∃ (b:α) (R' D':Nat→Prop),X b∧Row w R' e size u (q.length+1) ((q++[b]).flatMap cells)∧good w D' b∧(∀ x,R' x→(R x∨B≤x)∧x<w.heap.size∧¬ D' x)∧(∀ x,D' x→B≤x∧x<w.heap.size)
variable {e size cells good}
variable {R:Nat→Prop} {B:Nat} {q:List α} {X:α→Prop}
def GoodJust (good:World→(Nat→Prop)→α→Prop):Prop:=∀ (w w':World) (D U:Nat→Prop) (a:α),good w D a→Just U w w'→(∀ b,D b→¬ U b)→good w' D a
theorem finG_just (hG:GoodJust good) {U:Nat→Prop} {u:Value} {w w':World} (h:FinG e size cells good R B q X u w) (hj:Just U w w') (hd:∀ x,x<w.heap.size→(R x∨B≤x)→¬ U x):FinG e size cells good R B q X u w':=by
 obtain⟨b,R',D',h1,h3,h4,h5,h6⟩:=h
 exact⟨b,R',D',h1,h3.just hj fun x hx=>hd x (h5 x hx).2.1 (h5 x hx).1,hG _ _ _ _ _ h4 hj fun x hx=>hd x (h6 x hx).2 (.inr (h6 x hx).1),fun x hx=>⟨(h5 x hx).1,Nat.lt_of_lt_of_le (h5 x hx).2.1 hj.size,(h5 x hx).2.2⟩,fun x hx=>⟨(h6 x hx).1,Nat.lt_of_lt_of_le (h6 x hx).2 hj.size⟩⟩
theorem finG_lasting (hG:GoodJust good):Lasting (FinG e size cells good R B q X):=fun _ _ _ h hg=>finG_just hG h (U:=fun _=>False) (Just.of_grow hg) fun _ _ _ h=>h
theorem newG_past (hG:GoodJust good):PastB B (NewG cells good B X):=fun u w w' hu hj=>by
 obtain⟨b,H,h1,h2,h3,h4⟩:=hu
 exact⟨b,H,h1,h2,hG _ _ _ _ _ h3 hj fun x hx h=>Nat.lt_irrefl _ (Nat.lt_of_lt_of_le h hx.1),Nat.le_trans h4 hj.size⟩
theorem rowG_past (hG:GoodJust good):PastB B (RowG size cells good B X):=fun u w w' hu hj=>by
 obtain⟨b,H,A,h1,h2,h3,h4,h5⟩:=hu
 exact⟨b,H,A,h1,h2,h3.just hj fun x hx h=>Nat.lt_irrefl _ (Nat.lt_of_lt_of_le h hx),hG _ _ _ _ _ h4 hj fun x hx h=>Nat.lt_irrefl _ (Nat.lt_of_lt_of_le h hx.1),Nat.le_trans h5 hj.size⟩
theorem rowG_made {P:Program} (hG:GoodJust good) {w:World} {u:Value} {ρ:Operand→Value} {o:Oper} (hl:∀ b,(cells b).length=size) (h:NewG cells good B X u w) (hs:B≤w.heap.size)
 (hrun:∀ b:α,u=.agg (cells b).toArray→(execOp ρ o).run P w=.ok (.value (.slice (some ⟨w.heap.size,0,none⟩) 1 1)) (w.alloc (.cells (cells b).toArray e))) :
 flowUpon P (fun v w'=>Grow w w'∧RowG size cells good B X v w') ((execOp ρ o).run P w):=by
 obtain⟨b,H,e1,e2,hb,hH⟩:=h
 have hg:Grow w (w.alloc (.cells (cells b).toArray e)):=(Below.refl _ w).alloc (Nat.le_refl _) _
 refine flowUpon_value (hrun b e2) ⟨hg,b,H,some ⟨w.heap.size,0,none⟩,e1,rfl,?_,hG _ _ _ _ _ hb (Just.of_grow (V:=fun _=>False) hg) (fun _ _ h=>h),Nat.le_trans hH hg.size⟩
 obtain⟨h3,h4⟩:=reads_laid w (cells b).toArray e (0,0) (n:=1) (size:=size) (by simp[hl]) _ rfl
 exact⟨by simp[hl],fun hn=>⟨_,rfl,hs,by simp,by obtain⟨ad,e,_,hc⟩:=h4 hn;injection e with e;rw[e];simpa using hc⟩⟩
theorem finG_append {P:Program} {t:TypeId} {bytes:Nat} {z:Value} (E:Elem P t e size bytes z) (hG:GoodJust good) (hone:∀ b,∀ u∈cells b,u.oneCell'=true) {w:World} {v u:Value} {ρ:Operand→Value} {o:Oper} {x y:Operand} (hRB:∀ x,R x→x<B)
 (h:Row w R e size v q.length (q.flatMap cells)) (hu:RowG size cells good B X u w) (hBw:B≤w.heap.size) (hbytes:(q.length+1)*bytes≤140737488355328)
 (h1:ρ x=v) (h2:ρ y=u) (ho:o.op=.call { callee := .builtin .append,args:=#[x,y],argTypes:=#[t,t] }) :
 flowUpon P (fun v' w'=>Just R w w'∧FinG e size cells good R B q X v' w') ((execOp ρ o).run P w):=by
 obtain⟨b,H,A,e1,rfl,hI,hb,hH⟩:=hu
 refine flow_append_row E ho h1 h h2 hI.reads (hone b) hbytes fun v' w' hR hj=>⟨hj,b,Ext R w w',fun x=>B≤x∧x<H,e1,?_,hG _ _ _ _ _ hb hj fun x hx hr=>?_,fun x hx=>?_,fun x hx=>⟨hx.1,Nat.lt_of_lt_of_le hx.2 (Nat.le_trans hH hj.size)⟩⟩
 ·rw[List.flatMap_append,List.flatMap_cons,List.flatMap_nil,List.append_nil];exact hR
 ·exact Nat.lt_irrefl _ (Nat.lt_of_lt_of_le (hRB x hr) hx.1)
 ·rcases hx with hx|hx
  ·have:=hRB x hx
   exact⟨.inl hx,by have:=hj.size;omega,fun hd=>by have h3:B≤x:=hd.1;omega⟩
  ·exact⟨.inr (by have:=hx.1;omega),hx.2,fun hd=>by have:=hx.1;have h3:x<H:=hd.2;omega⟩
end
section
variable {P:Program} {t e:TypeId} {size bytes:Nat} {z:Value}
end
end Go.Hop
end
