/- Lplain, More. -/
import Derived.Test.YtmijcbfgfkeodaaGreatDoorIz05
import Derived.Lib.SplitLaws
import Derived.Lib.CutLaws
import Derived.Lib.IndexBytes
import Derived.Lib.Join
set_option linter.all false
set_option maxRecDepth 100000
open Go.Value renaming int → ae,slice → ai
open Go.IntKind renaming i64 → af,u64 → ah
open Nat renaming lt_of_lt_of_le → aA,le_refl → aC,le_trans → aH,zero_le → aZ,zero_add → a_
open List renaming length_append → aD,eq_nil_of_length_eq_zero → aJ,length_cons → aL,nil_append → aR,flatMap_cons → aU,mem_cons_of_mem → bb,flatMap_append → bd,append_nil → bf,map_cons → bg,mem_cons_self → bq,cons_append → bA,flatMap_nil → bB
open Bool renaming and_eq_true → aS
open Array renaming length_toList → bG
section
namespace Go.Proofs.YtmijcbfgfkeodaaGreatDoor.L
open Go.RowKit Go.Hop
def dP (c:UInt8):List UInt8→List (List UInt8)
 | []=>[[]]
 | b :: r=>if b=c then [] :: dP c r else match dP c r with
   | []=>[[b]]
   | p :: ps=>(b :: p) :: ps
theorem qI {c:UInt8}:∀ {a:List UInt8},c ∉ a→dP c a=[a]
 | [],_=>rfl
 | b :: r,h=>by
   have h1:b≠c:=fun e=>h (by rw[e];exact bq)
   have h2:=qI (c:=c) (a:=r) fun hr=>h (bb _ hr)
   unfold dP
   rw[if_neg h1,h2]
theorem oO {c:UInt8} {r:List UInt8}:∀ {a:List UInt8},c ∉ a→dP c (a++c :: r)=a :: dP c r
 | [],_=>by rw[aR,dP,if_pos rfl]
 | b :: a,h=>by
   have h1:b≠c:=fun e=>h (by rw[e];exact bq)
   have h2:=oO (c:=c) (r:=r) (a:=a) fun hr=>h (bb _ hr)
   rw[bA,dP,if_neg h1,h2]
theorem yN (c:UInt8) (s:List UInt8):c ∉ s∨∃ a r,s=a++c :: r∧c ∉ a:=by
 by_cases h:c∈s
 ·obtain⟨a,r,e,ha⟩:=List.eq_append_cons_of_mem h
  exact .inr ⟨a,r,e,ha⟩
 ·exact .inl h
theorem oP {c:UInt8} {r:List UInt8}:∀ {a:List UInt8},c ∉ a→Lib.index (a++c :: r) [c]=(a.length:Int)
 | [],_=>by rw[Lib.index_one];simp[Lib.indexByte]
 | b :: a,h=>by
   have h1:(b == c)=false:=beq_eq_false_iff_ne.2 fun e=>h (by rw[e];exact bq)
   have h2:=oP (c:=c) (r:=r) (a:=a) fun hr=>h (bb _ hr)
   rw[Lib.index_one] at h2 ⊢
   rw[bA,Lib.indexByte,h1,h2]
   have:((a.length:Int) == -1)=false:=beq_eq_false_iff_ne.2 al
   rw[this]
   simp
theorem tm (c:UInt8):∀ (n:Nat) (s:List UInt8),s.length≤n→Lib.splitK [c] 0 (Lib.count s [c]) s=dP c s
 | 0,s,h=>by
   obtain rfl:s=[]:=aJ al
   rfl
 | n+1,s,h=>by
   rw[Lib.count_one]
   rcases yN c s with hno|⟨a,r,rfl,ha⟩
   ·rw[List.count_eq_zero.2 hno,qI hno];rfl
   ·rw[List.count_append,List.count_eq_zero.2 ha,List.count_cons_self,a_]
    rw[oO ha,Lib.splitK,oP ha]
    have:((a.length:Int) == -1)=false:=beq_eq_false_iff_ne.2 al
    rw[this,←tm c n r (by simp at h;omega),Lib.count_one]
    simp
def mk (l:List UInt8):ByteArray:=⟨l.toArray⟩
theorem mk_data (l:List UInt8):(mk l).data.toList=l:=rfl
def fx (p:List UInt8):Lb:=(mk (Lib.cut p [61]).1,mk (Lib.cut p [61]).2.1)
def dG (s:ByteArray):List Lb:=(dP 44 s.data.toList).map fx
theorem jL {s:ByteArray} (h:i8 s=true):1≤s.size∧s.size≤32:=by
 unfold i8 at h
 simp only[aS,decide_eq_true_eq] at h
 exact h.1
def tn (d:Lb):Bool:=i8 d.1 && i8 d.2
def jo (l:List Lb):Bool:=l.all tn && decide ((l.map (·.1)).Nodup) && !l.isEmpty
def dS (l:List Lb):Int:=if 8<l.length then 3 else if jo l then 0 else 1
theorem jq (l:List Lb):jo l=true↔(∀ d∈l,tn d=true)∧(l.map (·.1)).Nodup∧l≠[]:=by
 unfold jo
 cases l with
 | nil=>simp
 | cons a l=>simp only[aS,List.all_eq_true,decide_eq_true_eq,List.isEmpty_cons,Bool.not_false,and_true,ne_eq,reduceCtorEq,not_false_eq_true]
theorem yO {p q:List Lb} (h:p.Perm q):jo p=jo q:=by
 rw[Bool.eq_iff_iff,jq,jq,(h.map (·.1)).nodup_iff]
 constructor
 ·rintro ⟨h1,h2,h3⟩
  exact⟨fun d hd=>h1 d (h.mem_iff.2 hd),h2,fun e=>h3 (by rw[e] at h;exact h.eq_nil)⟩
 ·rintro ⟨h1,h2,h3⟩
  exact⟨fun d hd=>h1 d (h.mem_iff.1 hd),h2,fun e=>h3 (by rw[e] at h;exact h.symm.eq_nil)⟩
theorem oQ {p q:List Lb} (h:p.Perm q):dS p=dS q:=by unfold dS;rw[h.length_eq,yO h]
theorem vG {l:List Lb} (h:dS l=0):l.length≤8∧jo l=true:=by
 unfold dS at h
 split at h
 ·cases h
 ·split at h
  ·exact⟨by omega,by assumption⟩
  ·cases h
theorem BN {l:List Lb} (h8:l.length≤8) (h:jo l=true):dS l=0:=by unfold dS;rw[if_neg al,if_pos h]
theorem kW {l:List Lb} (h8:l.length≤8) (h:jo l=false):dS l=1:=by unfold dS;rw[if_neg al,if_neg (by rw[h];simp)]
theorem vH {l:List Lb} (h8:8<l.length):dS l=3:=by unfold dS;rw[if_pos h8]
theorem xT {l:List Lb} {d:Lb} (hd:d∈l) (h:tn d=false):jo l=false:=by
 cases hf:jo l with
 | false=>rfl
 | true=>have:=((jq l).1 hf).1 d hd;rw[h] at this;cases this
theorem EU {l:List Lb} {i j:Nat} (hi:i<l.length) (hj:j<l.length) (hij:i<j) (h:l[i].1=l[j].1):jo l=false:=by
 cases hf:jo l with
 | false=>rfl
 | true=>
   have h2:=List.pairwise_iff_getElem.1 ((jq l).1 hf).2.1 i j (by simpa using hi) (by simpa using hj) hij
   simp only[List.getElem_map] at h2
   exact absurd h h2
theorem EV {l:List Lb} (h0:l≠[]) (h1:∀ d∈l,tn d=true) (h2:∀ i j (hi:i<l.length) (hj:j<l.length),i<j→l[i].1≠l[j].1):jo l=true:=
 (jq l).2 ⟨h1,List.pairwise_iff_getElem.2 fun i j hi hj hij=>by
  simp only[List.getElem_map]
  exact h2 i j (by simpa using hi) (by simpa using hj) hij,h0⟩
theorem gx.step {q l:List Lb} (h:gx q l) (ha:∀ i (hi:i+1<q.length),q[i].1≠q[i+1].1):∀ i j (hi:i<q.length) (hj:j<q.length),i<j→q[i].1≠q[j].1:=fun i j hi hj hij e=>by
 have hs:=List.pairwise_iff_getElem.1 h.nG
 have h1:=hs i (i+1) hi al al
 by_cases hj1:j=i+1
 ·subst hj1;exact ha i al e
 ·have h2:=hs (i+1) j al hj al
  rw[←e] at h2
  exact ha i al (jF h2 h1)
theorem gx.len {q l:List Lb} (h:gx q l):q.length=l.length:=h.perm.length_eq
def can (l:List Lb):List Lb:=l.mergeSort fun a b => !slt b.1 a.1
theorem BO (l:List Lb):gx (can l) l:=by
 refine⟨List.mergeSort_perm ..,?_⟩
 have:=List.pairwise_mergeSort (le:=fun a b:Lb => !slt b.1 a.1) (fun a b c h k=>by
  simp only[Bool.not_eq_true'] at *
  exact xS k h) (fun a b=>by
  cases h:slt b.1 a.1 with
  | false=>rfl
  | true=>rw[rI h];rfl) l
 exact this.imp fun h=>by simpa using h
theorem oR:∀ {p q:List Lb},p.Pairwise (fun a b=>slt a.1 b.1=true)→q.Pairwise (fun a b=>slt a.1 b.1=true)→p.Perm q→p=q
 | [],q,_,_,h=>h.nil_eq
 | a :: p,[],_,_,h=>h.eq_nil
 | a :: p,b :: q,hp,hq,h=>by
   have hp':=List.pairwise_cons.1 hp
   have hq':=List.pairwise_cons.1 hq
   have e:a=b:=by
    rcases List.mem_cons.1 (h.mem_iff.1 bq) with e|h1
    ·exact e
    ·rcases List.mem_cons.1 (h.mem_iff.2 bq) with e|h2
     ·exact e.symm
     ·have:=lD (hp'.1 b h2) (hq'.1 a h1)
      rw[gT] at this;cases this
   subst e
   rw[oR hp'.2 hq'.2 ((List.perm_cons a).1 h)]
theorem gx.strict {q l:List Lb} (h:gx q l) (hn:(l.map (·.1)).Nodup):q.Pairwise fun a b=>slt a.1 b.1=true:=by
 have hn':(q.map (·.1)).Nodup:=(h.perm.map (·.1)).nodup_iff.2 hn
 refine List.pairwise_iff_getElem.2 fun i j hi hj hij=>?_
 have h1:=List.pairwise_iff_getElem.1 h.nG i j hi hj hij
 cases h2:slt q[i].1 q[j].1 with
 | true=>rfl
 | false=>
   have e:=jF h2 h1
   have:=List.pairwise_iff_getElem.1 hn' i j (by simpa using hi) (by simpa using hj) hij
   simp only[List.getElem_map] at this
   exact absurd e this
theorem gx.Mq {q l:List Lb} (h:gx q l) (hn:(l.map (·.1)).Nodup):q=can l:=oR (h.strict hn) ((BO l).strict hn) (h.perm.trans (BO l).perm.symm)
def lq (d:Lb):List UInt8:=d.1.data.toList++61 :: d.2.data.toList
def BP (q:List Lb):List UInt8:=Lib.join (q.map lq) [44]
def txt (q:List Lb):ByteArray:=mk (BP q)
def textOf (l:List Lb):ByteArray:=if dS l=0 then txt (can l) else mk []
theorem yP (d:Lb) (q:List Lb):BP (d :: q)=lq d++(q.map fun d=>44 :: lq d).flatten:=by
 unfold BP
 rw[bg,Lib.join_cons]
 unfold Lib.joinTail
 rw[List.map_map]
 rfl
def ie (s:ByteArray):Bool:=decide (dS (dG s)=0) && decide (txt (can (dG s))=s)
def je (s:ByteArray):List Lb:=if ie s then dG s else []
def fH (s:ByteArray):Int:=if ie s then 0 else 12
theorem tp {d:Lb} (h:tn d=true):(lq d).length≤65:=by
 unfold tn at h
 simp only[aS] at h
 have h1:=(jL h.1).2
 have h2:=(jL h.2).2
 have e1:d.1.data.toList.length=d.1.size:=by rw[bG];rfl
 have e2:d.2.data.toList.length=d.2.size:=by rw[bG];rfl
 unfold lq
 rw[aD,aL]
 omega
theorem EW:∀ (q:List Lb),(∀ d∈q,tn d=true)→(BP q).length≤66*q.length
 | [],_=>by show 0≤_;omega
 | d :: q,h=>by
   rw[yP,aD,aL]
   have h1:=tp (h d bq)
   have h2:∀ r:List Lb,(∀ d∈r,tn d=true)→((r.map fun d=>44 :: lq d).flatten).length≤66*r.length:=by
    intro r
    induction r with
    | nil=>intro _;simp
    | cons a r ih=>
      intro hr
      rw[bg,List.flatten_cons,aD,aL,aL]
      have:=tp (hr a bq)
      have:=ih fun x hx=>hr x (bb _ hx)
      omega
   have:=h2 q fun x hx=>h x (bb _ hx)
   omega
end Go.Proofs.YtmijcbfgfkeodaaGreatDoor.L
end
section
namespace Go.Hop
open Go.RowKit
def New (w w':World) (b:Nat):Prop:=w.heap.size≤b∧b<w'.heap.size
theorem i_ {w w1:World} {t e:TypeId} {size:Nat} {v:Value} {n:Nat} {xs:List Value} (hO:Own w1 (Ext (fun b=>b=w.heap.size) (w.alloc (.cells #[] t)) w1) e size v n xs) (hj:Just (fun b=>b=w.heap.size) (w.alloc (.cells #[] t)) w1):Own w1 (New w w1) e size v n xs∧Grow w w1:=by
 have hs:w.heap.size<w1.heap.size:=by have:=hj.size;simp at this;omega
 refine⟨hO.mono (fun b hb=>?_),((Below.refl w.heap.size w).alloc (aC _) (.cells #[] t)).trans (hj.below (B:=w.heap.size) (fun b hb=>by rw[hb];exact aC _) (by simp))⟩
 rcases hb with rfl|⟨h1,h2⟩
 ·exact⟨aC _,hs⟩
 ·simp at h1;exact⟨by omega,h2⟩
theorem fO (w:World) (e:TypeId) (size:Nat):Own (w.alloc (.cells #[] e)) (fun b=>b=w.heap.size) e size (.slice (some ⟨w.heap.size,0,none⟩) 0 0) 0 []:=
 ⟨by simp,.inr ⟨w.heap.size,0,#[],rfl,rfl,heap_alloc_new w _,aC _,aZ _,.inl (by simp),by simp⟩⟩
section
variable {P P' Q:Nat→Prop} {S S' R:cg} {w w':World}
theorem Duo.leftE {Pr:Program} {f:FuncId} {args:Array Value} {ι:Type} {C:ι→Ending→Prop} {S':ι→cg} (h:Duo P S R w) (hR:Framed R) (hc:∀ V:Nat→Prop,S w V→(∀ b,V b→b<w.heap.size)→Calls Pr f args w fun e w'=>∃ i,C i e∧S' i w' (Ext V w w')∧Just V w w') :
 Calls Pr f args w fun e w'=>∃ i,C i e∧Just P w w'∧Duo P (S' i) R w':=by
 obtain⟨h0,V,U,h1,h2,h3,h4,h5⟩:=h
 refine (hc V h1 (fun b hb=>(h4 b hb).2)).mono fun e w' ⟨i,he,hs,hj⟩=>⟨i,he,hj.imp fun k hk=>(h4 k hk).1,fun b hb=>h0 b (aH hj.size hb),Ext V w w',U,hs,hR w w' U h2 (fun b hb=>hj.block b (h5 b hb).2 (fun hv=>h3 b hv hb)),fun b hb hu=>?_,jd h4 h0 hj.size,fun b hb=>⟨(h5 b hb).1,aA (h5 b hb).2 hj.size⟩⟩
 rcases hb with hb|⟨hb,_⟩
 ·exact h3 b hb hu
 ·have:=(h5 b hu).2;omega
theorem Solo.Ka {Pr:Program} {f:FuncId} {args:Array Value} {ι:Type} {C:ι→Ending→Prop} {S':ι→cg} (h:Solo P S w) (hc:∀ V:Nat→Prop,S w V→(∀ b,V b→b<w.heap.size)→Calls Pr f args w fun e w'=>∃ i,C i e∧S' i w' (Ext V w w')∧Just V w w') :
 Calls Pr f args w fun e w'=>∃ i,C i e∧Just P w w'∧Solo P (S' i) w':=by
 obtain⟨h0,V,h1,h2⟩:=h
 exact (hc V h1 (fun b hb=>(h2 b hb).2)).mono fun e w' ⟨i,he,hs,hj⟩=>⟨i,he,hj.imp fun k hk=>(h2 k hk).1,fun b hb=>h0 b (aH hj.size hb),Ext V w w',hs,jd h2 h0 hj.size⟩
theorem Solo.turn (h:Solo P S w) (hS:∀ V,S w V→S' w V):Solo P S' w:=by
 obtain⟨h0,V,h1,h2⟩:=h
 exact⟨h0,V,hS V h1,h2⟩
end
def oS (R:Nat→Prop) (I0:World→Prop) (m1:Nat) (st:List (Nat×Nat)):cQ where
 G:=Just R
 T:=fun _=>Just R
 I := fun k w=>match k with
   | 0=>I0 w
   | _=>True
 muts:=[m1]
 stage:=fun j=>if j=m1 then some 0 else st.lookup j
theorem yQ {R:Nat→Prop} {I0:World→Prop} {m1:Nat} {st:List (Nat×Nat)} (hI:∀ a b,I0 a→Grow a b→I0 b):(oS R I0 m1 st).Ok:=by
 refine⟨fun _ _ _=>Just.trans,fun _ _ h=>Just.bJ h,fun _ _ _ h=>h,fun k a b h hg=>?_⟩
 rcases k with _|k
 ·exact hI a b h hg
 ·exact trivial
def BQ (B:Nat) (φ:Value→World→Prop):Prop:=∀ u w w',φ u w→Just (fun b=>b<B) w w'→φ u w'
theorem qJ {R:Nat→Prop} {I0:World→Prop} {m1:Nat} {st:List (Nat×Nat)} {B:Nat} (pS:∀ x,R x→x<B) {φ:Value→World→Prop} (h:BQ B φ):jl (oS R I0 m1 st) (fun _ u w=>φ u w):=fun _ u w w' hu=>
 ⟨fun hg=>h u w w' hu (Just.bJ hg),fun _ ht=>h u w w' hu (Just.imp ht pS)⟩
theorem oT {R:Nat→Prop} {I0:World→Prop} {m1:Nat} {st:List (Nat×Nat)} {φ:Value→World→Prop} (h:dv φ):jl (oS R I0 m1 st) (Once φ):=fun k u w w' hu=>by
 rcases k with _|k
 ·exact hu.elim
 ·exact⟨fun hg=>h u w w' hu hg,fun hk=>by simp[oS] at hk⟩
section
variable {α:Type} (e:TypeId) (size:Nat) (cells:α→List Value) (good:World→(Nat→Prop)→α→Prop)
def yR (B:Nat) (X:α→Prop) (u:Value) (w:World):Prop:=∃ (b:α) (H:Nat),X b∧u=.agg (cells b).toArray∧good w (fun x=>B≤x∧x<H) b∧H≤w.heap.size
def yS (B:Nat) (X:α→Prop) (u:Value) (w:World):Prop:=∃ (b:α) (H:Nat) (A:Option Addr),X b∧u=.slice A 1 1∧In w (fun x=>B≤x) size A 1 (cells b)∧good w (fun x=>B≤x∧x<H) b∧H≤w.heap.size
def tq (R:Nat→Prop) (B:Nat) (q:List α) (X:α→Prop) (u:Value) (w:World):Prop:=
 ∃ (b:α) (R' D':Nat→Prop),X b∧Row w R' e size u (q.length+1) ((q++[b]).flatMap cells)∧good w D' b∧(∀ x,R' x→(R x∨B≤x)∧x<w.heap.size∧¬ D' x)∧(∀ x,D' x→B≤x∧x<w.heap.size)
variable {e size cells good}
variable {R:Nat→Prop} {B:Nat} {q:List α} {X:α→Prop}
def eZ (good:World→(Nat→Prop)→α→Prop):Prop:=∀ (w w':World) (D U:Nat→Prop) (a:α),good w D a→Just U w w'→(∀ b,D b→¬ U b)→good w' D a
theorem yT (hG:eZ good) {U:Nat→Prop} {u:Value} {w w':World} (h:tq e size cells good R B q X u w) (hj:Just U w w') (hd:∀ x,x<w.heap.size→(R x∨B≤x)→¬ U x):tq e size cells good R B q X u w':=by
 obtain⟨b,R',D',h1,h3,h4,h5,h6⟩:=h
 exact⟨b,R',D',h1,h3.just hj fun x hx=>hd x (h5 x hx).2.1 (h5 x hx).1,hG _ _ _ _ _ h4 hj fun x hx=>hd x (h6 x hx).2 (.inr (h6 x hx).1),fun x hx=>⟨(h5 x hx).1,aA (h5 x hx).2.1 hj.size,(h5 x hx).2.2⟩,fun x hx=>⟨(h6 x hx).1,aA (h6 x hx).2 hj.size⟩⟩
theorem rS (hG:eZ good):dv (tq e size cells good R B q X):=fun _ _ _ h hg=>yT hG h (U:=fun _=>False) (Just.bJ hg) fun _ _ _ h=>h
theorem yU (hG:eZ good):BQ B (yR cells good B X):=fun u w w' hu hj=>by
 obtain⟨b,H,h1,h2,h3,h4⟩:=hu
 exact⟨b,H,h1,h2,hG _ _ _ _ _ h3 hj fun x hx h=>Nat.lt_irrefl _ (aA h hx.1),aH h4 hj.size⟩
theorem yV (hG:eZ good):BQ B (yS size cells good B X):=fun u w w' hu hj=>by
 obtain⟨b,H,A,h1,h2,h3,h4,h5⟩:=hu
 exact⟨b,H,A,h1,h2,h3.just hj fun x hx h=>Nat.lt_irrefl _ (aA h hx),hG _ _ _ _ _ h4 hj fun x hx h=>Nat.lt_irrefl _ (aA h hx.1),aH h5 hj.size⟩
theorem yW {P:Program} (hG:eZ good) {w:World} {u:Value} {ρ:Operand→Value} {o:Oper} (hl:∀ b,(cells b).length=size) (h:yR cells good B X u w) (hs:B≤w.heap.size)
 (hrun:∀ b:α,u=.agg (cells b).toArray→(execOp ρ o).run P w=.ok (.value (.slice (some ⟨w.heap.size,0,none⟩) 1 1)) (w.alloc (.cells (cells b).toArray e))) :
 cz P (fun v w'=>Grow w w'∧yS size cells good B X v w') ((execOp ρ o).run P w):=by
 obtain⟨b,H,e1,e2,hb,hH⟩:=h
 have hg:Grow w (w.alloc (.cells (cells b).toArray e)):=(Below.refl _ w).alloc (aC _) _
 refine cF (hrun b e2) ⟨hg,b,H,some ⟨w.heap.size,0,none⟩,e1,rfl,?_,hG _ _ _ _ _ hb (Just.bJ (V:=fun _=>False) hg) (fun _ _ h=>h),aH hH hg.size⟩
 obtain⟨h3,h4⟩:=df w (cells b).toArray e (0,0) (n:=1) (size:=size) (by simp[hl]) _ rfl
 exact⟨by simp[hl],fun hn=>⟨_,rfl,hs,by simp,by obtain⟨ad,e,_,hc⟩:=h4 hn;injection e with e;rw[e];simpa using hc⟩⟩
theorem tt {P:Program} {t:TypeId} {bytes:Nat} {z:Value} (E:Elem P t e size bytes z) (hG:eZ good) (hone:∀ b,∀ u∈cells b,u.oneCell'=true) {w:World} {v u:Value} {ρ:Operand→Value} {o:Oper} {x y:Operand} (pS:∀ x,R x→x<B)
 (h:Row w R e size v q.length (q.flatMap cells)) (hu:yS size cells good B X u w) (hBw:B≤w.heap.size) (hbytes:(q.length+1)*bytes≤140737488355328)
 (h1:ρ x=v) (h2:ρ y=u) (ho:o.op=.call { callee := .builtin .append,args:=#[x,y],argTypes:=#[t,t] }) :
 cz P (fun v' w'=>Just R w w'∧tq e size cells good R B q X v' w') ((execOp ρ o).run P w):=by
 obtain⟨b,H,A,e1,rfl,hI,hb,hH⟩:=hu
 refine fm E ho h1 h h2 hI.reads (hone b) hbytes fun v' w' hR hj=>⟨hj,b,Ext R w w',fun x=>B≤x∧x<H,e1,?_,hG _ _ _ _ _ hb hj fun x hx hr=>?_,fun x hx=>?_,fun x hx=>⟨hx.1,aA hx.2 (aH hH hj.size)⟩⟩
 ·rw[bd,aU,bB,bf];exact hR
 ·exact Nat.lt_irrefl _ (aA (pS x hr) hx.1)
 ·rcases hx with hx|hx
  ·have:=pS x hx
   exact⟨.inl hx,by have:=hj.size;omega,fun hd=>by have h3:B≤x:=hd.1;omega⟩
  ·exact⟨.inr (by have:=hx.1;omega),hx.2,fun hd=>by have:=hx.1;have h3:x<H:=hd.2;omega⟩
end
def qK (size n:Nat) (xs:List Value) (u:Value) (w:World):Prop:=∃ (A:Option Addr) (c:Nat),u=.slice A n c∧Reads w w.heap.size size A n xs
theorem pV (size n:Nat) (xs:List Value):dv (qK size n xs):=fun _ _ _ ⟨A,c,e,h⟩ hg=>⟨A,c,e,(Reads.below h hg).more hg.size⟩
section
variable {P:Program} {t e:TypeId} {size bytes:Nat} {z:Value}
end
end Go.Hop
end
