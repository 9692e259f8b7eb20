/- Lplain, Lright. -/
import Derived.Test.YtmijcbfgfkeodaaGreatDoorGz03
import Derived.Lib.SplitLaws
import Derived.Lib.CutLaws
import Derived.Lib.IndexBytes
import Derived.Lib.Join
set_option linter.all false
set_option maxRecDepth 100000
section
namespace Go.Proofs.YtmijcbfgfkeodaaGreatDoor.L
open Go.RowKit Go.Hop
def cutAll (c:UInt8):List UInt8→List (List UInt8)
 | []=>[[]]
 | b :: r=>if b=c then [] :: cutAll c r else match cutAll c r with
   | []=>[[b]]
   | p :: ps=>(b :: p) :: ps
theorem cutAll_no {c:UInt8}:∀ {a:List UInt8},c ∉ a→cutAll c a=[a]
 | [],_=>rfl
 | b :: r,h=>by
   have h1:b≠c:=fun e=>h (by rw[e];exact List.mem_cons_self)
   have h2:=cutAll_no (c:=c) (a:=r) fun hr=>h (List.mem_cons_of_mem _ hr)
   unfold cutAll
   rw[if_neg h1,h2]
theorem cutAll_hit {c:UInt8} {r:List UInt8}:∀ {a:List UInt8},c ∉ a→cutAll c (a++c :: r)=a :: cutAll c r
 | [],_=>by rw[List.nil_append,cutAll,if_pos rfl]
 | b :: a,h=>by
   have h1:b≠c:=fun e=>h (by rw[e];exact List.mem_cons_self)
   have h2:=cutAll_hit (c:=c) (r:=r) (a:=a) fun hr=>h (List.mem_cons_of_mem _ hr)
   rw[List.cons_append,cutAll,if_neg h1,h2]
theorem cut_cases (c:UInt8) (s:List UInt8):c ∉ s∨∃ a r,s=a++c :: r∧c ∉ a:=by
 by_cases h:c∈s
 ·obtain⟨a,r,e,ha⟩:=List.eq_append_cons_of_mem h
  exact .inr ⟨a,r,e,ha⟩
 ·exact .inl h
theorem index_hit1 {c:UInt8} {r:List UInt8}:∀ {a:List UInt8},c ∉ a→Lib.index (a++c :: r) [c]=(a.length:Int)
 | [],_=>by rw[Lib.index_one];simp[Lib.indexByte]
 | b :: a,h=>by
   have h1:(b == c)=false:=beq_eq_false_iff_ne.2 fun e=>h (by rw[e];exact List.mem_cons_self)
   have h2:=index_hit1 (c:=c) (r:=r) (a:=a) fun hr=>h (List.mem_cons_of_mem _ hr)
   rw[Lib.index_one] at h2 ⊢
   rw[List.cons_append,Lib.indexByte,h1,h2]
   have:((a.length:Int) == -1)=false:=beq_eq_false_iff_ne.2 (by omega)
   rw[this]
   simp
theorem split_is (c:UInt8):∀ (n:Nat) (s:List UInt8),s.length≤n→Lib.splitK [c] 0 (Lib.count s [c]) s=cutAll c s
 | 0,s,h=>by
   obtain rfl:s=[]:=List.eq_nil_of_length_eq_zero (by omega)
   rfl
 | n+1,s,h=>by
   rw[Lib.count_one]
   rcases cut_cases c s with hno|⟨a,r,rfl,ha⟩
   ·rw[List.count_eq_zero.2 hno,cutAll_no hno];rfl
   ·rw[List.count_append,List.count_eq_zero.2 ha,List.count_cons_self,Nat.zero_add]
    rw[cutAll_hit ha,Lib.splitK,index_hit1 ha]
    have:((a.length:Int) == -1)=false:=beq_eq_false_iff_ne.2 (by omega)
    rw[this,←split_is c n r (by simp at h;omega),Lib.count_one]
    simp
def mk (l:List UInt8):ByteArray:=⟨l.toArray⟩
theorem mk_data (l:List UInt8):(mk l).data.toList=l:=rfl
def labelOf (p:List UInt8):Lb:=(mk (Lib.cut p [61]).1,mk (Lib.cut p [61]).2.1)
def labelsOf (s:ByteArray):List Lb:=(cutAll 44 s.data.toList).map labelOf
theorem name_small {s:ByteArray} (h:nameB s=true):1≤s.size∧s.size≤32:=by
 unfold nameB at h
 simp only[Bool.and_eq_true,decide_eq_true_eq] at h
 exact h.1
def okL (d:Lb):Bool:=nameB d.1 && nameB d.2
def fineB (l:List Lb):Bool:=l.all okL && decide ((l.map (·.1)).Nodup) && !l.isEmpty
def rightE (l:List Lb):Int:=if 8<l.length then 3 else if fineB l then 0 else 1
theorem fineB_is (l:List Lb):fineB l=true↔(∀ d∈l,okL d=true)∧(l.map (·.1)).Nodup∧l≠[]:=by
 unfold fineB
 cases l with
 | nil=>simp
 | cons a l=>simp only[Bool.and_eq_true,List.all_eq_true,decide_eq_true_eq,List.isEmpty_cons,Bool.not_false,and_true,ne_eq,reduceCtorEq,not_false_eq_true]
theorem fine_perm {p q:List Lb} (h:p.Perm q):fineB p=fineB q:=by
 rw[Bool.eq_iff_iff,fineB_is,fineB_is,(h.map (·.1)).nodup_iff]
 constructor
 ·rintro ⟨h1,h2,h3⟩
  exact⟨fun d hd=>h1 d (h.mem_iff.2 hd),h2,fun e=>h3 (by rw[e] at h;exact h.eq_nil)⟩
 ·rintro ⟨h1,h2,h3⟩
  exact⟨fun d hd=>h1 d (h.mem_iff.1 hd),h2,fun e=>h3 (by rw[e] at h;exact h.symm.eq_nil)⟩
theorem right_perm {p q:List Lb} (h:p.Perm q):rightE p=rightE q:=by unfold rightE;rw[h.length_eq,fine_perm h]
theorem right_zero {l:List Lb} (h:rightE l=0):l.length≤8∧fineB l=true:=by
 unfold rightE at h
 split at h
 ·cases h
 ·split at h
  ·exact⟨by omega,by assumption⟩
  ·cases h
theorem right_ok {l:List Lb} (h8:l.length≤8) (h:fineB l=true):rightE l=0:=by unfold rightE;rw[if_neg (by omega),if_pos h]
theorem right_bad {l:List Lb} (h8:l.length≤8) (h:fineB l=false):rightE l=1:=by unfold rightE;rw[if_neg (by omega),if_neg (by rw[h];simp)]
theorem right_long {l:List Lb} (h8:8<l.length):rightE l=3:=by unfold rightE;rw[if_pos h8]
theorem bad_one {l:List Lb} {d:Lb} (hd:d∈l) (h:okL d=false):fineB l=false:=by
 cases hf:fineB l with
 | false=>rfl
 | true=>have:=((fineB_is l).1 hf).1 d hd;rw[h] at this;cases this
theorem bad_two {l:List Lb} {i j:Nat} (hi:i<l.length) (hj:j<l.length) (hij:i<j) (h:l[i].1=l[j].1):fineB l=false:=by
 cases hf:fineB l with
 | false=>rfl
 | true=>
   have h2:=List.pairwise_iff_getElem.1 ((fineB_is l).1 hf).2.1 i j (by simpa using hi) (by simpa using hj) hij
   simp only[List.getElem_map] at h2
   exact absurd h h2
theorem fine_mk {l:List Lb} (h0:l≠[]) (h1:∀ d∈l,okL d=true) (h2:∀ i j (hi:i<l.length) (hj:j<l.length),i<j→l[i].1≠l[j].1):fineB l=true:=
 (fineB_is l).2 ⟨h1,List.pairwise_iff_getElem.2 fun i j hi hj hij=>by
  simp only[List.getElem_map]
  exact h2 i j (by simpa using hi) (by simpa using hj) hij,h0⟩
theorem ByName.step {q l:List Lb} (h:ByName q l) (ha:∀ i (hi:i+1<q.length),q[i].1≠q[i+1].1):∀ i j (hi:i<q.length) (hj:j<q.length),i<j→q[i].1≠q[j].1:=fun i j hi hj hij e=>by
 have hs:=List.pairwise_iff_getElem.1 h.srt
 have h1:=hs i (i+1) hi (by omega) (by omega)
 by_cases hj1:j=i+1
 ·subst hj1;exact ha i (by omega) e
 ·have h2:=hs (i+1) j (by omega) hj (by omega)
  rw[←e] at h2
  exact ha i (by omega) (slt_tri h2 h1)
theorem ByName.len {q l:List Lb} (h:ByName q l):q.length=l.length:=h.perm.length_eq
def can (l:List Lb):List Lb:=l.mergeSort fun a b => !slt b.1 a.1
theorem can_by (l:List Lb):ByName (can l) l:=by
 refine⟨List.mergeSort_perm ..,?_⟩
 have:=List.pairwise_mergeSort (le:=fun a b:Lb => !slt b.1 a.1) (fun a b c h k=>by
  simp only[Bool.not_eq_true'] at *
  exact slt_ntr k h) (fun a b=>by
  cases h:slt b.1 a.1 with
  | false=>rfl
  | true=>rw[slt_no h];rfl) l
 exact this.imp fun h=>by simpa using h
theorem strict_one:∀ {p q:List Lb},p.Pairwise (fun a b=>slt a.1 b.1=true)→q.Pairwise (fun a b=>slt a.1 b.1=true)→p.Perm q→p=q
 | [],q,_,_,h=>h.nil_eq
 | a :: p,[],_,_,h=>h.eq_nil
 | a :: p,b :: q,hp,hq,h=>by
   have hp':=List.pairwise_cons.1 hp
   have hq':=List.pairwise_cons.1 hq
   have e:a=b:=by
    rcases List.mem_cons.1 (h.mem_iff.1 List.mem_cons_self) with e|h1
    ·exact e
    ·rcases List.mem_cons.1 (h.mem_iff.2 List.mem_cons_self) with e|h2
     ·exact e.symm
     ·have:=slt_tr (hp'.1 b h2) (hq'.1 a h1)
      rw[slt_irr] at this;cases this
   subst e
   rw[strict_one hp'.2 hq'.2 ((List.perm_cons a).1 h)]
theorem ByName.strict {q l:List Lb} (h:ByName q l) (hn:(l.map (·.1)).Nodup):q.Pairwise fun a b=>slt a.1 b.1=true:=by
 have hn':(q.map (·.1)).Nodup:=(h.perm.map (·.1)).nodup_iff.2 hn
 refine List.pairwise_iff_getElem.2 fun i j hi hj hij=>?_
 have h1:=List.pairwise_iff_getElem.1 h.srt i j hi hj hij
 cases h2:slt q[i].1 q[j].1 with
 | true=>rfl
 | false=>
   have e:=slt_tri h2 h1
   have:=List.pairwise_iff_getElem.1 hn' i j (by simpa using hi) (by simpa using hj) hij
   simp only[List.getElem_map] at this
   exact absurd e this
theorem ByName.can_ {q l:List Lb} (h:ByName q l) (hn:(l.map (·.1)).Nodup):q=can l:=strict_one (h.strict hn) ((can_by l).strict hn) (h.perm.trans (can_by l).perm.symm)
def partL (d:Lb):List UInt8:=d.1.data.toList++61 :: d.2.data.toList
def txtL (q:List Lb):List UInt8:=Lib.join (q.map partL) [44]
def txt (q:List Lb):ByteArray:=mk (txtL q)
def textOf (l:List Lb):ByteArray:=if rightE l=0 then txt (can l) else mk []
theorem txtL_cons (d:Lb) (q:List Lb):txtL (d :: q)=partL d++(q.map fun d=>44 :: partL d).flatten:=by
 unfold txtL
 rw[List.map_cons,Lib.join_cons]
 unfold Lib.joinTail
 rw[List.map_map]
 rfl
def parseOk (s:ByteArray):Bool:=decide (rightE (labelsOf s)=0) && decide (txt (can (labelsOf s))=s)
def parseL (s:ByteArray):List Lb:=if parseOk s then labelsOf s else []
def parseE (s:ByteArray):Int:=if parseOk s then 0 else 12
theorem part_len {d:Lb} (h:okL d=true):(partL d).length≤65:=by
 unfold okL at h
 simp only[Bool.and_eq_true] at h
 have h1:=(name_small h.1).2
 have h2:=(name_small h.2).2
 have e1:d.1.data.toList.length=d.1.size:=by rw[Array.length_toList];rfl
 have e2:d.2.data.toList.length=d.2.size:=by rw[Array.length_toList];rfl
 unfold partL
 rw[List.length_append,List.length_cons]
 omega
theorem txt_len:∀ (q:List Lb),(∀ d∈q,okL d=true)→(txtL q).length≤66*q.length
 | [],_=>by show 0≤_;omega
 | d :: q,h=>by
   rw[txtL_cons,List.length_append,List.length_cons]
   have h1:=part_len (h d List.mem_cons_self)
   have h2:∀ r:List Lb,(∀ d∈r,okL d=true)→((r.map fun d=>44 :: partL d).flatten).length≤66*r.length:=by
    intro r
    induction r with
    | nil=>intro _;simp
    | cons a r ih=>
      intro hr
      rw[List.map_cons,List.flatten_cons,List.length_append,List.length_cons,List.length_cons]
      have:=part_len (hr a List.mem_cons_self)
      have:=ih fun x hx=>hr x (List.mem_cons_of_mem _ hx)
      omega
   have:=h2 q fun x hx=>h x (List.mem_cons_of_mem _ hx)
   omega
theorem str_eqb {a b:ByteArray} (h:a≠b):(a.toList == b.toList)=false:=beq_eq_false_iff_ne.2 fun e=>h (txt_eq.1 e)
set_option maxHeartbeats 1000000 in
theorem Right_any (w:World) (V:Nat→Prop) (A:Option Addr) (n c:Nat) (l:List Lb) (h:In w V 2 A n (lcells l)) (hl:∀ d∈l,d.1.size≤maxLen∧d.2.size≤maxLen) (hn:n≤9223372036854775807) :
 Calls Tryz.prog 239 #[.slice A n c] w fun e w'=>e=.returned (.int .i64 (rightE l))∧Grow w w':=by
 have hll:=LIn.len h
 have kName:∀ (vs:Array Value) (w:World),(callFunc 297 vs).run Tryz.prog w=.ok (.enter 297 vs) w:=fun vs w=>by go_simp
 by_cases h8:8<n
 ·have hd:decide ((8:Int)<(n:Int))=true:=decide_eq_true (by omega)
  rw[right_long (by omega)]
  clear h
  go_enter Tryz.func239,Tryz.ntmps239
  go_wp2_with fail
  go_ret
  exact⟨rfl,Grow.refl _⟩
 have hd:decide ((8:Int)<(n:Int))=false:=decide_eq_false (by omega)
 have hl8:l.length≤8:=by omega
 have hso:=sorted_any w V A n c l h (by omega)
 obtain⟨R,HR⟩:∃ R:Int,Hid (R=rightE l):=⟨_,rfl⟩
 rw[←HR.out]
 clear h
 go_enter Tryz.func239,Tryz.ntmps239
 go_wp2_with fail
 refine hso.mono ?_
 rintro e w1 ⟨A1,q,rfl,hq,hI,hg1⟩
 clear hso
 have hql:q.length=n:=by rw[hq.len];exact hll
 have hqs:∀ d∈q,d.1.size≤maxLen∧d.2.size≤maxLen:=fun d hd=>hl d (hq.perm.mem_iff.1 hd)
 have HQL:=Lib.hid hql
 have HLL:=Lib.hid hll
 clear hql hll
 go_wp2_with fail
 go_loopw [13] (fun i wr=>∃ k:Nat,k≤n∧i=.int .i64 (k:Int)∧(∀ j (hj:j<q.length),j<k→okL q[j]=true)∧(∀ j (hj:j+1<q.length),j+1<k→q[j].1≠q[j+1].1)∧Grow w1 wr) (fun i _=>n-(intOf i).toNat)
 case atStart=>exact⟨0,by omega,rfl,fun _ _ h=>absurd h (by omega),fun _ _ h=>absurd h (by omega),Grow.refl _⟩
 case round=>
  obtain⟨i,hin,rfl,hok,hne,hgr⟩:=hrel
  have HOK:=Lib.hid hok
  have HNE:=Lib.hid hne
  clear hok hne
  have hgw:=below_trans hg1 hgr hg1.size
  by_cases hi:i<n
  ·have hit:decide ((i:Int)<(n:Int))=true:=decide_eq_true (by omega)
   obtain⟨ad,hqi,rfl,e0,e1⟩:=lab_at (hI.grow hgr) hi
   have ce0:=e0 wr (Grow.refl _)
   have ce1:=e1 wr (Grow.refl _)
   have hdm:q[i]∈q:=List.getElem_mem hqi
   have hds:=hqs _ hdm
   obtain⟨d,hdd⟩:∃ d,d=q[i]:=⟨_,rfl⟩
   rw[←hdd] at ce0 ce1 hdm hds
   have HD:=Lib.hid hdd
   clear hdd e0 e1
   obtain⟨x,HX⟩:∃ x:Nat,Hid (x=wr.heap.size):=⟨_,rfl⟩
   have hB:Blk (wr.alloc (.cells #[.string d.1,.string d.2] 90)) x 90 #[.string d.1,.string d.2]:=by rw[HX.out];exact Blk.made wr _ _
   have hgx:Grow wr (wr.alloc (.cells #[.string d.1,.string d.2] 90)):=(Below.refl _ _).alloc (Nat.le_refl _) _
   have hN1:=fun w1=>Name_any w1 d.1 hds.1
   have hN2:=fun w1=>Name_any w1 d.2 hds.2
   have hin2:¬ n≤i:=by omega
   cases hb1:nameB d.1 with
   | false=>
     have hn1:∀ w1,Calls Tryz.prog 297 #[.string d.1] w1 fun e w'=>e=.returned (.bool false)∧w1=w':=fun w1=>by have:=hN1 w1;rwa [hb1] at this
     have hR:R=1:=by
      rw[HR.out]
      exact right_bad hl8 (bad_one (hq.perm.mem_iff.1 hdm) (by unfold okL;rw[hb1];rfl))
     have HR1:=Lib.hid hR
     clear hR hb1 hN1 hN2
     go_wp2_with fail
     rw[←HX.out]
     generalize hwb:wr.alloc (.cells #[.string d.1,.string d.2] 90)=wb at hB hgx ⊢
     clear hwb
     refine wp_region_flow 25 47 [(2,.inl (.bool false))] rfl rfl (by kernel_rfl) (by kernel_rfl) (by kernel_rfl) ?_ ?_
     ·intro x hx φ he
      simp only[List.mem_cons,List.not_mem_nil,or_false] at hx
      rcases hx with rfl<;>cases he
     intro ops' A' K' T hops hA' hK hT
     refine fl_op1G 18 (.tmp 5) (.pointer (some ⟨x,0,none⟩)) (.pointer (some ⟨x,0,none⟩)) ?_
     refine fl_op1N 19 (.tmp 18) (.pointer (some ⟨x,0,none⟩)) (.string d.1) (fun ρ h1 kk w1 (hg:Grow _ w1) hb hf=>by have c:=(hB.grow hg).cell 0;go_simp) ?_
     refine fl_call 20 (by rfl) (by decide) (wanted_none (by rfl)) (.bool false) (by rw[hK.out];rfl) 297 _ _ (by rfl) [.string d.1] (by rfl) kName (fun kk w1 (hg:Grow _ w1) hb hf=>calls_behind (by rfl) (by exact grew_same (hn1 w1))) ?_
     refine fl_op1G 21 (.tmp 20) (.bool false) (.bool true) ?_
     refine fl_mvN 22 (.bool true) ?_
     refine fl_skipW 23 (wif hops 4 false 22 true) ?_
     refine fl_skipW 24 (wif hops 4 false 22 true) ?_
     refine fl_skipW 25 (wif hops 4 false 22 true) ?_
     refine fl_skipW 26 (wif hops 4 false 22 true) ?_
     refine fl_pickN 27 true (.bool true) ?_
     refine fl_mvN 28 (.bool true) ?_
     refine fl_skipW 29 (wif hops 10 false 28 true) ?_
     refine fl_skipW 30 (wif hops 10 false 28 true) ?_
     refine fl_skipW 31 (wif hops 10 false 28 true) ?_
     refine fl_skipW 32 (wanted_out hops 13 true (by rfl) 31 (by rfl) (by rfl)) ?_
     refine fl_skipW 33 (wanted_out hops 13 true (by rfl) 31 (by rfl) (by rfl)) ?_
     refine fl_skipW 34 (wanted_out hops 13 true (by rfl) 31 (by rfl) (by rfl)) ?_
     refine fl_skipW 35 (wanted_out hops 13 true (by rfl) 31 (by rfl) (by rfl)) ?_
     refine fl_skipW 36 (wanted_out hops 13 true (by rfl) 31 (by rfl) (by rfl)) ?_
     refine fl_skipW 37 (wanted_out hops 13 true (by rfl) 31 (by rfl) (by rfl)) ?_
     refine fl_skipW 38 (wanted_out hops 13 true (by rfl) 31 (by rfl) (by rfl)) ?_
     refine fl_skipW 39 (wanted_out hops 13 true (by rfl) 31 (by rfl) (by rfl)) ?_
     refine fl_skipW 40 (wanted_out hops 13 true (by rfl) 31 (by rfl) (by rfl)) ?_
     refine fl_skipW 41 (wif hops 10 false 28 true) ?_
     refine fl_pickN 42 true (.bool true) ?_
     refine fl_end (fun _ _ w1 (hg:Grow _ w1) _ hfacts=>hT _ _ ?_)
     clear hops hA' hK hT
     simp only[putsL,Act.put,List.setIfInBounds_toArray,List.set_cons_zero,List.set_cons_succ,List.drop_succ_cons,List.drop_zero]
     clear hfacts
     go_wp2_with fail
     go_ret
     have hg01:=below_trans hgw hgx hgw.size
     exact⟨ret_int HR1.out.symm,below_trans hg01 hg hg01.size⟩
   | true=>
     have hn1:∀ w1,Calls Tryz.prog 297 #[.string d.1] w1 fun e w'=>e=.returned (.bool true)∧w1=w':=fun w1=>by have:=hN1 w1;rwa [hb1] at this
     have HB1:=Lib.hid hb1
     clear hb1 hN1
     cases hb2:nameB d.2 with
     | false=>
       have hn2:∀ w1,Calls Tryz.prog 297 #[.string d.2] w1 fun e w'=>e=.returned (.bool false)∧w1=w':=fun w1=>by have:=hN2 w1;rwa [hb2] at this
       have hR:R=1:=by
        rw[HR.out]
        exact right_bad hl8 (bad_one (hq.perm.mem_iff.1 hdm) (by unfold okL;rw[HB1.out,hb2];rfl))
       have HR1:=Lib.hid hR
       clear hR hb2 hN2
       go_wp2_with fail
       rw[←HX.out]
       generalize hwb:wr.alloc (.cells #[.string d.1,.string d.2] 90)=wb at hB hgx ⊢
       clear hwb
       refine wp_region_flow 25 47 [(2,.inl (.bool true)),(7,.inl (.bool false))] rfl rfl (by kernel_rfl) (by kernel_rfl) (by kernel_rfl) ?_ ?_
       ·intro x hx φ he
        simp only[List.mem_cons,List.not_mem_nil,or_false] at hx
        rcases hx with rfl|rfl<;>cases he
       intro ops' A' K' T hops hA' hK hT
       refine fl_op1G 18 (.tmp 5) (.pointer (some ⟨x,0,none⟩)) (.pointer (some ⟨x,0,none⟩)) ?_
       refine fl_op1N 19 (.tmp 18) (.pointer (some ⟨x,0,none⟩)) (.string d.1) (fun ρ h1 kk w1 (hg:Grow _ w1) hb hf=>by have c:=(hB.grow hg).cell 0;go_simp) ?_
       refine fl_call 20 (by rfl) (by decide) (wanted_none (by rfl)) (.bool true) (by rw[hK.out];rfl) 297 _ _ (by rfl) [.string d.1] (by rfl) kName (fun kk w1 (hg:Grow _ w1) hb hf=>calls_behind (by rfl) (by exact grew_same (hn1 w1))) ?_
       refine fl_op1G 21 (.tmp 20) (.bool true) (.bool false) ?_
       refine fl_mvN 22 (.bool false) ?_
       refine fl_op1W 23 (wif hops 4 false 22 false) (.tmp 5) (.pointer (some ⟨x,0,none⟩)) (.pointer (some ⟨x,1,none⟩)) (fun ρ h1 kk w1 (hg:Grow _ w1) hb hf=>by go_simp) ?_
       refine fl_op1W 24 (wif hops 4 false 22 false) (.tmp 23) (.pointer (some ⟨x,1,none⟩)) (.string d.2) (fun ρ h1 kk w1 (hg:Grow _ w1) hb hf=>by have c:=(hB.grow hg).cell 1;go_simp) ?_
       refine fl_call 25 (by rfl) (by decide) (wanted_if hops 4 false (by rfl) 22 (by rfl) false (by rfl)) (.bool false) (by rw[hK.out];rfl) 297 _ _ (by rfl) [.string d.2] (by rfl) kName (fun kk w1 (hg:Grow _ w1) hb hf=>calls_behind (by rfl) (by exact grew_same (hn2 w1))) ?_
       refine fl_op1W 26 (wif hops 4 false 22 false) (.tmp 25) (.bool false) (.bool true) (fun ρ h1 kk w1 (hg:Grow _ w1) hb hf=>by go_simp) ?_
       refine fl_pickN 27 false (.bool true) ?_
       refine fl_mvN 28 (.bool true) ?_
       refine fl_skipW 29 (wif hops 10 false 28 true) ?_
       refine fl_skipW 30 (wif hops 10 false 28 true) ?_
       refine fl_skipW 31 (wif hops 10 false 28 true) ?_
       refine fl_skipW 32 (wanted_out hops 13 true (by rfl) 31 (by rfl) (by rfl)) ?_
       refine fl_skipW 33 (wanted_out hops 13 true (by rfl) 31 (by rfl) (by rfl)) ?_
       refine fl_skipW 34 (wanted_out hops 13 true (by rfl) 31 (by rfl) (by rfl)) ?_
       refine fl_skipW 35 (wanted_out hops 13 true (by rfl) 31 (by rfl) (by rfl)) ?_
       refine fl_skipW 36 (wanted_out hops 13 true (by rfl) 31 (by rfl) (by rfl)) ?_
       refine fl_skipW 37 (wanted_out hops 13 true (by rfl) 31 (by rfl) (by rfl)) ?_
       refine fl_skipW 38 (wanted_out hops 13 true (by rfl) 31 (by rfl) (by rfl)) ?_
       refine fl_skipW 39 (wanted_out hops 13 true (by rfl) 31 (by rfl) (by rfl)) ?_
       refine fl_skipW 40 (wanted_out hops 13 true (by rfl) 31 (by rfl) (by rfl)) ?_
       refine fl_skipW 41 (wif hops 10 false 28 true) ?_
       refine fl_pickN 42 true (.bool true) ?_
       refine fl_end (fun _ _ w1 (hg:Grow _ w1) _ hfacts=>hT _ _ ?_)
       clear hops hA' hK hT
       simp only[putsL,Act.put,List.setIfInBounds_toArray,List.set_cons_zero,List.set_cons_succ,List.drop_succ_cons,List.drop_zero]
       clear hfacts
       go_wp2_with fail
       go_ret
       have hg01:=below_trans hgw hgx hgw.size
       exact⟨ret_int HR1.out.symm,below_trans hg01 hg hg01.size⟩
     | true=>
       have hn2:∀ w1,Calls Tryz.prog 297 #[.string d.2] w1 fun e w'=>e=.returned (.bool true)∧w1=w':=fun w1=>by have:=hN2 w1;rwa [hb2] at this
       have hdo:okL d=true:=by unfold okL;rw[HB1.out,hb2];rfl
       have HOK1:Hid (∀ j (hj:j<q.length),j<i+1→okL q[j]=true):=Lib.hid fun j hj hji=>by
        rcases Nat.lt_or_ge j i with h|h
        ·exact HOK.out j hj h
        ·obtain rfl:j=i:=by omega
         rw[←HD.out];exact hdo
       clear hb2 hN2 HB1
       by_cases h0:i=0
       ·have hp0:decide ((0:Int)<(i:Int))=false:=decide_eq_false (by omega)
        have hi0:¬ 0<i:=by omega
        have H0:=Lib.hid h0
        clear h0
        go_wp2_with fail
        rw[←HX.out]
        generalize hwb:wr.alloc (.cells #[.string d.1,.string d.2] 90)=wb at hB hgx ⊢
        clear hwb
        refine wp_region_flow 25 47 [(2,.inl (.bool true)),(7,.inl (.bool true))] rfl rfl (by kernel_rfl) (by kernel_rfl) (by kernel_rfl) ?_ ?_
        ·intro x hx φ he
         simp only[List.mem_cons,List.not_mem_nil,or_false] at hx
         rcases hx with rfl|rfl<;>cases he
        intro ops' A' K' T hops hA' hK hT
        refine fl_op1G 18 (.tmp 5) (.pointer (some ⟨x,0,none⟩)) (.pointer (some ⟨x,0,none⟩)) ?_
        refine fl_op1N 19 (.tmp 18) (.pointer (some ⟨x,0,none⟩)) (.string d.1) (fun ρ h1 kk w1 (hg:Grow _ w1) hb hf=>by have c:=(hB.grow hg).cell 0;go_simp) ?_
        refine fl_call 20 (by rfl) (by decide) (wanted_none (by rfl)) (.bool true) (by rw[hK.out];rfl) 297 _ _ (by rfl) [.string d.1] (by rfl) kName (fun kk w1 (hg:Grow _ w1) hb hf=>calls_behind (by rfl) (by exact grew_same (hn1 w1))) ?_
        refine fl_op1G 21 (.tmp 20) (.bool true) (.bool false) ?_
        refine fl_mvN 22 (.bool false) ?_
        refine fl_op1W 23 (wif hops 4 false 22 false) (.tmp 5) (.pointer (some ⟨x,0,none⟩)) (.pointer (some ⟨x,1,none⟩)) (fun ρ h1 kk w1 (hg:Grow _ w1) hb hf=>by go_simp) ?_
        refine fl_op1W 24 (wif hops 4 false 22 false) (.tmp 23) (.pointer (some ⟨x,1,none⟩)) (.string d.2) (fun ρ h1 kk w1 (hg:Grow _ w1) hb hf=>by have c:=(hB.grow hg).cell 1;go_simp) ?_
        refine fl_call 25 (by rfl) (by decide) (wanted_if hops 4 false (by rfl) 22 (by rfl) false (by rfl)) (.bool true) (by rw[hK.out];rfl) 297 _ _ (by rfl) [.string d.2] (by rfl) kName (fun kk w1 (hg:Grow _ w1) hb hf=>calls_behind (by rfl) (by exact grew_same (hn2 w1))) ?_
        refine fl_op1W 26 (wif hops 4 false 22 false) (.tmp 25) (.bool true) (.bool false) (fun ρ h1 kk w1 (hg:Grow _ w1) hb hf=>by go_simp) ?_
        refine fl_pickN 27 false (.bool false) ?_
        refine fl_mvN 28 (.bool false) ?_
        refine fl_mvW 29 (wif hops 10 false 28 false) (.int .i64 (i:Int)) ?_
        refine fl_op2W 30 (wif hops 10 false 28 false) (.tmp 29) (.const (.int .i64 0)) (.int .i64 (i:Int)) (.int .i64 0) (.bool false) (fun ρ h1 h2 kk w1 (hg:Grow _ w1) hb hf=>by go_simp) ?_
        refine fl_mvW 31 (wif hops 10 false 28 false) (.bool false) ?_
        refine fl_skipW 32 (wif hops 13 true 31 false) ?_
        refine fl_skipW 33 (wif hops 13 true 31 false) ?_
        refine fl_skipW 34 (wif hops 13 true 31 false) ?_
        refine fl_skipW 35 (wif hops 13 true 31 false) ?_
        refine fl_skipW 36 (wif hops 13 true 31 false) ?_
        refine fl_skipW 37 (wif hops 13 true 31 false) ?_
        refine fl_skipW 38 (wif hops 13 true 31 false) ?_
        refine fl_skipW 39 (wif hops 13 true 31 false) ?_
        refine fl_skipW 40 (wif hops 13 true 31 false) ?_
        refine fl_pickW 41 (wif hops 10 false 28 false) false (.bool false) ?_
        refine fl_pickN 42 false (.bool false) ?_
        refine fl_end (fun _ _ w1 (hg:Grow _ w1) _ hfacts=>hT _ _ ?_)
        clear hops hA' hK hT
        simp only[putsL,Act.put,List.setIfInBounds_toArray,List.set_cons_zero,List.set_cons_succ,List.drop_succ_cons,List.drop_zero]
        clear hfacts
        go_wp2_with fail
        go_roundw
        case rel=>exact⟨i+1,by omega,by go_num,HOK1.out,fun j hj hji=>absurd hji (by have:=H0.out;omega),(hgr.trans hgx).trans hg⟩
        case measure=>simp[intOf];omega
       ·have hp0:decide ((0:Int)<(i:Int))=true:=decide_eq_true (by omega)
        obtain⟨j,HJ⟩:∃ j:Nat,Hid (i=j+1):=⟨i-1,Lib.hid (by omega)⟩
        have hjn:j<n:=by have:=HJ.out;omega
        obtain⟨ad',hqj,ea,j0,_⟩:=lab_at (hI.grow hgr) hjn
        injection ea with ea
        subst ea
        have hij:(i:Int)-1=(j:Int):=by have:=HJ.out;omega
        have hwj:IntKind.i64.wrap (j:Int)=(j:Int):=by rw[IntKind.wrap_i64];omega
        have hjneg:¬ (j:Int)<0:=by omega
        have hpos:0<i:=by omega
        obtain⟨p,hpp⟩:∃ p,p=q[j].1:=⟨_,rfl⟩
        rw[←hpp] at j0
        have HP:=Lib.hid hpp
        have hp:∀ w9,Grow (wr.alloc (.cells #[.string d.1,.string d.2] 90)) w9→w9.cell? (ad.add (j*2))=some (.string p):=fun w9 h9=>j0 w9 (hgx.trans h9)
        have hlt2:¬ n≤j:=by omega
        clear hpp j0 h0
        by_cases heq:p=d.1
        ·have hR:R=1:=by
          rw[HR.out,←right_perm hq.perm]
          have e9:i=j+1:=HJ.out
          subst e9
          exact right_bad (by have:=HQL.out;omega) (bad_two hqj hqi (by omega) (by rw[←HP.out,←HD.out];exact heq))
         have HR1:=Lib.hid hR
         have heqb:(p.toList == d.1.toList)=true:=by rw[heq];simp
         have HEQ:=Lib.hid heq
         clear hR heq
         go_wp2_with fail
         rw[←HX.out]
         generalize hwb:wr.alloc (.cells #[.string d.1,.string d.2] 90)=wb at hB hgx hp ⊢
         clear hwb
         refine wp_region_flow 25 47 [(2,.inl (.bool true)),(7,.inl (.bool true))] rfl rfl (by kernel_rfl) (by kernel_rfl) (by kernel_rfl) ?_ ?_
         ·intro x hx φ he
          simp only[List.mem_cons,List.not_mem_nil,or_false] at hx
          rcases hx with rfl|rfl<;>cases he
         intro ops' A' K' T hops hA' hK hT
         refine fl_op1G 18 (.tmp 5) (.pointer (some ⟨x,0,none⟩)) (.pointer (some ⟨x,0,none⟩)) ?_
         refine fl_op1N 19 (.tmp 18) (.pointer (some ⟨x,0,none⟩)) (.string d.1) (fun ρ h1 kk w1 (hg:Grow _ w1) hb hf=>by have c:=(hB.grow hg).cell 0;go_simp) ?_
         refine fl_call 20 (by rfl) (by decide) (wanted_none (by rfl)) (.bool true) (by rw[hK.out];rfl) 297 _ _ (by rfl) [.string d.1] (by rfl) kName (fun kk w1 (hg:Grow _ w1) hb hf=>calls_behind (by rfl) (by exact grew_same (hn1 w1))) ?_
         refine fl_op1G 21 (.tmp 20) (.bool true) (.bool false) ?_
         refine fl_mvN 22 (.bool false) ?_
         refine fl_op1W 23 (wif hops 4 false 22 false) (.tmp 5) (.pointer (some ⟨x,0,none⟩)) (.pointer (some ⟨x,1,none⟩)) (fun ρ h1 kk w1 (hg:Grow _ w1) hb hf=>by go_simp) ?_
         refine fl_op1W 24 (wif hops 4 false 22 false) (.tmp 23) (.pointer (some ⟨x,1,none⟩)) (.string d.2) (fun ρ h1 kk w1 (hg:Grow _ w1) hb hf=>by have c:=(hB.grow hg).cell 1;go_simp) ?_
         refine fl_call 25 (by rfl) (by decide) (wanted_if hops 4 false (by rfl) 22 (by rfl) false (by rfl)) (.bool true) (by rw[hK.out];rfl) 297 _ _ (by rfl) [.string d.2] (by rfl) kName (fun kk w1 (hg:Grow _ w1) hb hf=>calls_behind (by rfl) (by exact grew_same (hn2 w1))) ?_
         refine fl_op1W 26 (wif hops 4 false 22 false) (.tmp 25) (.bool true) (.bool false) (fun ρ h1 kk w1 (hg:Grow _ w1) hb hf=>by go_simp) ?_
         refine fl_pickN 27 false (.bool false) ?_
         refine fl_mvN 28 (.bool false) ?_
         refine fl_mvW 29 (wif hops 10 false 28 false) (.int .i64 (i:Int)) ?_
         refine fl_op2W 30 (wif hops 10 false 28 false) (.tmp 29) (.const (.int .i64 0)) (.int .i64 (i:Int)) (.int .i64 0) (.bool true) (fun ρ h1 h2 kk w1 (hg:Grow _ w1) hb hf=>by go_simp) ?_
         refine fl_mvW 31 (wif hops 10 false 28 false) (.bool true) ?_
         refine fl_mvW 32 (wif hops 13 true 31 true) (.slice (some ad) n n) ?_
         refine fl_mvW 33 (wif hops 13 true 31 true) (.int .i64 (i:Int)) ?_
         refine fl_op2W 34 (wif hops 13 true 31 true) (.tmp 33) (.const (.int .i64 1)) (.int .i64 (i:Int)) (.int .i64 1) (.int .i64 (j:Int)) (fun ρ h1 h2 kk w1 (hg:Grow _ w1) hb hf=>by go_simp) ?_
         refine fl_op2W 35 (wif hops 13 true 31 true) (.tmp 32) (.tmp 34) (.slice (some ad) n n) (.int .i64 (j:Int)) (.pointer (some (ad.add (j*2)))) (fun ρ h1 h2 kk w1 (hg:Grow _ w1) hb hf=>by go_simp;try (intro hlt;omega)) ?_
         refine fl_op1W 36 (wif hops 13 true 31 true) (.tmp 35) (.pointer (some (ad.add (j*2)))) (.pointer (some (ad.add (j*2)))) (fun ρ h1 kk w1 (hg:Grow _ w1) hb hf=>by go_simp) ?_
         refine fl_op1W 37 (wif hops 13 true 31 true) (.tmp 36) (.pointer (some (ad.add (j*2)))) (.string p) (fun ρ h1 kk w1 (hg:Grow _ w1) hb hf=>by have c:=hp w1 hg;go_simp) ?_
         refine fl_op1W 38 (wif hops 13 true 31 true) (.tmp 5) (.pointer (some ⟨x,0,none⟩)) (.pointer (some ⟨x,0,none⟩)) (fun ρ h1 kk w1 (hg:Grow _ w1) hb hf=>by go_simp) ?_
         refine fl_op1W 39 (wif hops 13 true 31 true) (.tmp 38) (.pointer (some ⟨x,0,none⟩)) (.string d.1) (fun ρ h1 kk w1 (hg:Grow _ w1) hb hf=>by have c:=(hB.grow hg).cell 0;go_simp) ?_
         refine fl_op2W 40 (wif hops 13 true 31 true) (.tmp 37) (.tmp 39) (.string p) (.string d.1) (.bool true) (fun ρ h1 h2 kk w1 (hg:Grow _ w1) hb hf=>by go_simp) ?_
         refine fl_pickW 41 (wif hops 10 false 28 false) true (.bool true) ?_
         refine fl_pickN 42 false (.bool true) ?_
         refine fl_end (fun _ _ w1 (hg:Grow _ w1) _ hfacts=>hT _ _ ?_)
         clear hops hA' hK hT
         simp only[putsL,Act.put,List.setIfInBounds_toArray,List.set_cons_zero,List.set_cons_succ,List.drop_succ_cons,List.drop_zero]
         clear hfacts
         go_wp2_with fail
         go_ret
         have hg01:=below_trans hgw hgx hgw.size
         exact⟨ret_int HR1.out.symm,below_trans hg01 hg hg01.size⟩
        ·have HEQ:=Lib.hid heq
         have heqb:=str_eqb heq
         clear heq
         go_wp2_with fail
         rw[←HX.out]
         generalize hwb:wr.alloc (.cells #[.string d.1,.string d.2] 90)=wb at hB hgx hp ⊢
         clear hwb
         refine wp_region_flow 25 47 [(2,.inl (.bool true)),(7,.inl (.bool true))] rfl rfl (by kernel_rfl) (by kernel_rfl) (by kernel_rfl) ?_ ?_
         ·intro x hx φ he
          simp only[List.mem_cons,List.not_mem_nil,or_false] at hx
          rcases hx with rfl|rfl<;>cases he
         intro ops' A' K' T hops hA' hK hT
         refine fl_op1G 18 (.tmp 5) (.pointer (some ⟨x,0,none⟩)) (.pointer (some ⟨x,0,none⟩)) ?_
         refine fl_op1N 19 (.tmp 18) (.pointer (some ⟨x,0,none⟩)) (.string d.1) (fun ρ h1 kk w1 (hg:Grow _ w1) hb hf=>by have c:=(hB.grow hg).cell 0;go_simp) ?_
         refine fl_call 20 (by rfl) (by decide) (wanted_none (by rfl)) (.bool true) (by rw[hK.out];rfl) 297 _ _ (by rfl) [.string d.1] (by rfl) kName (fun kk w1 (hg:Grow _ w1) hb hf=>calls_behind (by rfl) (by exact grew_same (hn1 w1))) ?_
         refine fl_op1G 21 (.tmp 20) (.bool true) (.bool false) ?_
         refine fl_mvN 22 (.bool false) ?_
         refine fl_op1W 23 (wif hops 4 false 22 false) (.tmp 5) (.pointer (some ⟨x,0,none⟩)) (.pointer (some ⟨x,1,none⟩)) (fun ρ h1 kk w1 (hg:Grow _ w1) hb hf=>by go_simp) ?_
         refine fl_op1W 24 (wif hops 4 false 22 false) (.tmp 23) (.pointer (some ⟨x,1,none⟩)) (.string d.2) (fun ρ h1 kk w1 (hg:Grow _ w1) hb hf=>by have c:=(hB.grow hg).cell 1;go_simp) ?_
         refine fl_call 25 (by rfl) (by decide) (wanted_if hops 4 false (by rfl) 22 (by rfl) false (by rfl)) (.bool true) (by rw[hK.out];rfl) 297 _ _ (by rfl) [.string d.2] (by rfl) kName (fun kk w1 (hg:Grow _ w1) hb hf=>calls_behind (by rfl) (by exact grew_same (hn2 w1))) ?_
         refine fl_op1W 26 (wif hops 4 false 22 false) (.tmp 25) (.bool true) (.bool false) (fun ρ h1 kk w1 (hg:Grow _ w1) hb hf=>by go_simp) ?_
         refine fl_pickN 27 false (.bool false) ?_
         refine fl_mvN 28 (.bool false) ?_
         refine fl_mvW 29 (wif hops 10 false 28 false) (.int .i64 (i:Int)) ?_
         refine fl_op2W 30 (wif hops 10 false 28 false) (.tmp 29) (.const (.int .i64 0)) (.int .i64 (i:Int)) (.int .i64 0) (.bool true) (fun ρ h1 h2 kk w1 (hg:Grow _ w1) hb hf=>by go_simp) ?_
         refine fl_mvW 31 (wif hops 10 false 28 false) (.bool true) ?_
         refine fl_mvW 32 (wif hops 13 true 31 true) (.slice (some ad) n n) ?_
         refine fl_mvW 33 (wif hops 13 true 31 true) (.int .i64 (i:Int)) ?_
         refine fl_op2W 34 (wif hops 13 true 31 true) (.tmp 33) (.const (.int .i64 1)) (.int .i64 (i:Int)) (.int .i64 1) (.int .i64 (j:Int)) (fun ρ h1 h2 kk w1 (hg:Grow _ w1) hb hf=>by go_simp) ?_
         refine fl_op2W 35 (wif hops 13 true 31 true) (.tmp 32) (.tmp 34) (.slice (some ad) n n) (.int .i64 (j:Int)) (.pointer (some (ad.add (j*2)))) (fun ρ h1 h2 kk w1 (hg:Grow _ w1) hb hf=>by go_simp;try (intro hlt;omega)) ?_
         refine fl_op1W 36 (wif hops 13 true 31 true) (.tmp 35) (.pointer (some (ad.add (j*2)))) (.pointer (some (ad.add (j*2)))) (fun ρ h1 kk w1 (hg:Grow _ w1) hb hf=>by go_simp) ?_
         refine fl_op1W 37 (wif hops 13 true 31 true) (.tmp 36) (.pointer (some (ad.add (j*2)))) (.string p) (fun ρ h1 kk w1 (hg:Grow _ w1) hb hf=>by have c:=hp w1 hg;go_simp) ?_
         refine fl_op1W 38 (wif hops 13 true 31 true) (.tmp 5) (.pointer (some ⟨x,0,none⟩)) (.pointer (some ⟨x,0,none⟩)) (fun ρ h1 kk w1 (hg:Grow _ w1) hb hf=>by go_simp) ?_
         refine fl_op1W 39 (wif hops 13 true 31 true) (.tmp 38) (.pointer (some ⟨x,0,none⟩)) (.string d.1) (fun ρ h1 kk w1 (hg:Grow _ w1) hb hf=>by have c:=(hB.grow hg).cell 0;go_simp) ?_
         refine fl_op2W 40 (wif hops 13 true 31 true) (.tmp 37) (.tmp 39) (.string p) (.string d.1) (.bool false) (fun ρ h1 h2 kk w1 (hg:Grow _ w1) hb hf=>by go_simp) ?_
         refine fl_pickW 41 (wif hops 10 false 28 false) true (.bool false) ?_
         refine fl_pickN 42 false (.bool false) ?_
         refine fl_end (fun _ _ w1 (hg:Grow _ w1) _ hfacts=>hT _ _ ?_)
         clear hops hA' hK hT
         simp only[putsL,Act.put,List.setIfInBounds_toArray,List.set_cons_zero,List.set_cons_succ,List.drop_succ_cons,List.drop_zero]
         clear hfacts
         go_wp2_with fail
         go_roundw
         case rel=>
          refine⟨i+1,by omega,by go_num,HOK1.out,fun k hk hki=>?_,(hgr.trans hgx).trans hg⟩
          rcases Nat.lt_or_ge (k+1) i with h|h
          ·exact HNE.out k hk h
          ·have e9:i=j+1:=HJ.out
           obtain rfl:k=j:=by omega
           subst e9
           rw[←HP.out,←HD.out];exact HEQ.out
         case measure=>simp[intOf];omega
  ·obtain rfl:n=i:=by omega
   have hit:decide ((n:Int)<(n:Int))=false:=decide_eq_false (by omega)
   by_cases h0:n=0
   ·have hR:R=1:=by
     rw[HR.out]
     refine right_bad hl8 ?_
     obtain rfl:l=[]:=List.eq_nil_of_length_eq_zero (by rw[HLL.out];exact h0)
     rfl
    have HR1:=Lib.hid hR
    have h0e:((n:Int) == 0)=true:=beq_iff_eq.2 (by omega)
    clear hR
    go_wp2_with fail
    go_ret
    exact⟨ret_int HR1.out.symm,hgw⟩
   ·have hR:R=0:=by
     rw[HR.out,←right_perm hq.perm]
     refine right_ok (by have:=HQL.out;omega) (fine_mk (fun e=>h0 (by rw[←HQL.out,e];rfl)) (fun d hd=>?_) (hq.step fun i hi=>HNE.out i hi (by have:=HQL.out;omega)))
     obtain⟨j,hj,rfl⟩:=List.getElem_of_mem hd
     exact HOK.out j hj (by have:=HQL.out;omega)
    have HR1:=Lib.hid hR
    have h0e:((n:Int) == 0)=false:=beq_eq_false_iff_ne.2 (by omega)
    clear hR
    go_wp2_with fail
    go_ret
    exact⟨ret_int HR1.out.symm,hgw⟩
end Go.Proofs.YtmijcbfgfkeodaaGreatDoor.L
end
