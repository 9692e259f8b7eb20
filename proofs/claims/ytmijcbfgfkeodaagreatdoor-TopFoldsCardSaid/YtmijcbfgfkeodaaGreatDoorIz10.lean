/- Gmap, Rd, En, En2, Acc. -/
import Derived.Test.YtmijcbfgfkeodaaGreatDoorIz09
import Derived.Maps.Own
import Derived.Laws.StructEq
set_option linter.all false
set_option maxRecDepth 100000
open Go.Value renaming int → ae,slice → ai
open Go.IntKind renaming i64 → af,u64 → ah
open Go.Proofs.Tryz renaming prog → au
open Nat renaming le_refl → aC,zero_add → a_,mul_one → bC
open List renaming length_append → aD,mem_cons → aF,length_take → aK,getElem_mem → aO,nil_append → aR,length_singleton → aT,flatMap_cons → aU,map_append → aX,flatMap_append → bd,append_nil → bf,map_cons → bg,length_drop → bh,prefix_append → br,length_nil → bu,take_zero → bw,flatMap_nil → bB,drop_of_length_le → bD
section
namespace Go.Hop
open Go.RowKit
structure mc {κ:Type} [DecidableEq κ] (P:Program) (kt:TypeId) (ke:κ→Value):Prop where
 check:∀ (w:World) (b:Bool) (k:κ),(Instr.checkKey b 10000 kt (ke k)).run P w=.ok () w
 find:∀ (w:World) (k:κ) (es:List MapEntry) (i:Nat) (q:List κ),es.map (·.key)=q.map ke→∃ r,(Instr.findKey kt (ke k) es).run P w=.ok r w∧((k ∉ q∧r=none)∨∃ (j:Nat) (e:MapEntry),es[j]?=some e∧q[j]?=some k∧r=some (j,e.val))
 same:∀ k,Instr.sameBits 10000 (ke k) (ke k)=true
def cJ {κ:Type} (ke:κ→Value) (b:Nat) (q:List (κ×Value)):cg:=fun w V=>
 V b∧(q.map Prod.fst).Nodup∧∃ (es:Array MapEntry) (clock:Nat),w.heap[b]?=some (.map es clock)∧es.toList.map (fun e=>(e.key,e.val))=q.map fun p=>(ke p.1,p.2)
section
variable {κ:Type} [DecidableEq κ] {P:Program} {t kt et:TypeId} {ke:κ→Value} {w w':World} {b:Nat} {q:List (κ×Value)} {V V':Nat→Prop}
def pX (q:List (κ×Value)) (k:κ):Option Value:=(q.find? fun p=>decide (p.1=k)).map (·.2)
def dQ (q:List (κ×Value)) (k:κ) (v:Value):List (κ×Value):=if k∈q.map Prod.fst then q.map (fun p=>if p.1=k then (k,v) else p) else q++[(k,v)]
def vO (q:List (κ×Value)) (k:κ):List (κ×Value):=q.filter fun p=>decide (p.1≠k)
theorem cJ.framed (b:Nat) (q:List (κ×Value)):Framed (cJ ke b q):=fun w w' V ⟨h1,h2,es,c,h3,h4⟩ hk=>⟨h1,h2,es,c,(hk b h1).trans h3,h4⟩
theorem cJ.made (w:World):cJ (κ:=κ) ke w.heap.size [] (w.alloc (.map #[] 0)) (fun b=>b=w.heap.size):=⟨rfl,by simp,#[],0,heap_alloc_new w _,rfl⟩
theorem mZ {α:Type}:∀ {l:List α},l.Nodup→∀ {i j:Nat} {a:α},l[i]?=some a→l[j]?=some a→i=j
 | [],_,i,j,a,hi,_=>by simp at hi
 | x :: l,hn,0,0,a,_,_=>rfl
 | x :: l,hn,0,j+1,a,hi,hj=>by
   simp at hi;subst hi
   exact absurd (List.mem_of_getElem? (by simpa using hj)) (List.nodup_cons.1 hn).1
 | x :: l,hn,i+1,0,a,hi,hj=>by
   simp at hj;subst hj
   exact absurd (List.mem_of_getElem? (by simpa using hi)) (List.nodup_cons.1 hn).1
 | x :: l,hn,i+1,j+1,a,hi,hj=>congrArg (·+1) (mZ (List.nodup_cons.1 hn).2 (i:=i) (j:=j) (a:=a) (by simpa using hi) (by simpa using hj))
theorem m_ {α β:Type} (f:α→β):∀ (l:List α) (i:Nat),(l.eraseIdx i).map f=(l.map f).eraseIdx i
 | [],_=>rfl
 | _ :: _,0=>rfl
 | x :: l,i+1=>by simp[m_ f l i]
theorem xY (k:κ):pX [] k=none:=rfl
theorem vP {k:κ} {v:Value}:∀ {q:List (κ×Value)} {j:Nat},(q.map Prod.fst).Nodup→q[j]?=some (k,v)→pX q k=some v
 | [],j,_,h=>by simp at h
 | p :: q,0,_,h=>by simp at h;subst h;simp[pX]
 | p :: q,j+1,hn,h=>by
   simp only[bg,List.nodup_cons] at hn
   have hq:q[j]?=some (k,v):=by simpa using h
   have hne:p.1≠k:=fun e=>hn.1 (by rw[e];exact List.mem_map.2 ⟨_,List.mem_of_getElem? hq,rfl⟩)
   have ih:=vP hn.2 hq
   unfold pX at ih ⊢
   rw[List.find?_cons_of_neg (by simpa using hne)]
   exact ih
theorem pb {k:κ}:∀ {q:List (κ×Value)},k ∉ q.map Prod.fst→pX q k=none
 | [],_=>rfl
 | p :: q,h=>by
   simp only[bg,aF,not_or] at h
   have ih:=pb h.2
   unfold pX at ih ⊢
   rw[List.find?_cons_of_neg (by simpa using fun e=>h.1 e.symm)]
   exact ih
theorem lK {es:List MapEntry} (h:es.map (fun e=>(e.key,e.val))=q.map fun p=>(ke p.1,p.2)):es.map (·.key)=(q.map Prod.fst).map ke:=by
 have:=congrArg (List.map Prod.fst) h
 simpa [List.map_map,Function.comp_def] using this
theorem pc {es:List MapEntry} (h:es.map (fun e=>(e.key,e.val))=q.map fun p=>(ke p.1,p.2)) {j:Nat} {e:MapEntry} {k:κ} (he:es[j]?=some e) (hk:(q.map Prod.fst)[j]?=some k):q[j]?=some (k,e.val):=by
 have h1:=congrArg (fun l=>l[j]?) h
 simp only[List.getElem?_map,he,Option.map_some] at h1
 rw[List.getElem?_map] at hk
 cases hq:q[j]? with
 | none=>rw[hq] at hk;cases hk
 | some p=>
   rw[hq] at hk h1
   injection hk with hk
   injection h1 with h1
   injection h1 with _ h2
   rw[h2,←hk]
theorem cJ.look (K:mc P kt ke) (ht:P.underlying t=some (.map kt et)) {z:Value} (hz:(zeroValue et).run P w=.ok z w) (h:cJ ke b q w V) (k:κ) (c:Bool) :
 (Instr.lookup t (.map (some b)) (ke k) c).run P w=.ok (if c then .tuple #[(pX q k).getD z,.bool (pX q k).isSome] else (pX q k).getD z) w:=by
 obtain⟨_,hn,es,cl,hb,he⟩:=h
 obtain⟨r,hr,hcase⟩:=K.find w k es.toList 0 (q.map Prod.fst) (lK he)
 have hg:(getObj b).run P w=.ok (.map es cl) w:=MapKept.run_getObj_map hb
 rcases hcase with ⟨h1,rfl⟩|⟨j,e,h1,h2,rfl⟩
 ·rw[pb h1]
  cases c<;>simp[Instr.lookup,run_underlying ht,hg,K.check w _ k,hr,hz,Result.andThen]
 ·rw[vP hn (pc he h1 h2)]
  cases c<;>simp[Instr.lookup,run_underlying ht,hg,K.check w _ k,hr,Result.andThen]
theorem heap_set (w:World) (b:Nat) (o:Obj) (hb:b<w.heap.size):({ w with heap:=w.heap.setIfInBounds b o }:World).heap[b]?=some o:=by simp[Array.getElem?_setIfInBounds,hb]
theorem md (w:World) (b:Nat) (o:Obj):Just (fun c=>c=b) w { w with heap:=w.heap.setIfInBounds b o }:=⟨rfl,rfl,rfl,by simp,fun i _ hne=>by
 simp only[Array.getElem?_setIfInBounds]
 rw[if_neg (fun e=>hne e.symm)]⟩
theorem cJ.put (K:mc P kt ke) (ht:P.underlying t=some (.map kt et)) (h:cJ ke b q w V) (k:κ) (v:Value) :
 ∃ w',(Instr.mapUpdate t (.map (some b)) (ke k) v).run P w=.ok () w'∧cJ ke b (dQ q k v) w' V∧Just (fun c=>c=b) w w':=by
 obtain⟨hv,hn,es,cl,hb,he⟩:=h
 obtain⟨r,hr,hcase⟩:=K.find w k es.toList 0 (q.map Prod.fst) (lK he)
 have hlt:b<w.heap.size:=(Array.getElem?_eq_some_iff.1 hb).1
 have hg:(getObj b).run P w=.ok (.map es cl) w:=MapKept.run_getObj_map hb
 rcases hcase with ⟨h1,rfl⟩|⟨j,e,h1,h2,rfl⟩
 ·refine⟨_,?_,⟨hv,?_,_,_,heap_set w b (.map (es.push { key:=ke k,val:=v,born:=cl }) (cl+1)) hlt,?_⟩,md w b _⟩
  ·simp[Instr.mapUpdate,run_underlying ht,hg,K.check w _ k,hr,Result.andThen,MapKept.run_setObj_map _ hb]
  ·unfold dQ
   rw[if_neg h1,aX,List.nodup_append]
   refine⟨hn,by simp,?_⟩
   intro a ha c hc
   simp at hc
   subst hc
   exact fun e=>h1 (by rw[←e];exact ha)
  ·unfold dQ
   rw[if_neg h1,Array.toList_push,aX,he,aX]
   rfl
 ·have hmem:k∈q.map Prod.fst:=List.mem_of_getElem? h2
  have hq:=pc he h1 h2
  have hek:e.key=ke k:=by
   have h3:=congrArg (fun l=>l[j]?) he
   simp only[List.getElem?_map,h1,hq,Option.map_some] at h3
   injection h3 with h3;injection h3 with h3
  have hes:es[j]?=some e:=by simpa using h1
  refine⟨_,?_,⟨hv,?_,_,_,heap_set w b (.map (es.modify j fun e=>{ e with key:=ke k,val:=v }) cl) hlt,?_⟩,md w b _⟩
  ·simp[Instr.mapUpdate,run_underlying ht,hg,K.check w _ k,hr,Result.andThen,MapKept.run_setObj_map _ hb,Instr.keyThatStays,hes,hek,K.same k]
  ·unfold dQ
   rw[if_pos hmem,List.map_map]
   have:(Prod.fst ∘ fun p:κ×Value=>if p.1=k then (k,v) else p)=Prod.fst:=by
    funext p
    simp only[Function.comp]
    split
    ·rename_i hp;exact hp.symm
    ·rfl
   rw[this]
   exact hn
  ·unfold dQ
   rw[if_pos hmem]
   apply List.ext_getElem?
   intro i
   have h3:=congrArg (fun l=>l[i]?) he
   simp only[List.getElem?_map,Array.getElem?_toList,Array.getElem?_modify] at h3 ⊢
   by_cases hij:j=i
   ·subst hij
    rw[if_pos rfl,hes,hq]
    simp
   ·rw[if_neg hij]
    cases hqi:q[i]? with
    | none=>rw[hqi] at h3;simpa using h3
    | some p=>
      have hne:p.1≠k:=fun e=>hij (by
       have e1:(q.map Prod.fst)[i]?=some k:=by rw[List.getElem?_map,hqi,←e];rfl
       exact mZ hn h2 e1)
      rw[hqi] at h3
      simp only[Option.map_some,if_neg hne]
      simpa using h3
theorem C4 {k:κ} (v:Value) (h:k ∉ q.map Prod.fst):dQ q k v=q++[(k,v)]:=if_neg h
theorem C5 (k:κ) (u v:Value):dQ [(k,u)] k v=[(k,v)]:=by simp[dQ]
theorem cJ.just (h:cJ ke b q w V) {U:Nat→Prop} (hj:Just U w w') (hU:¬ U b):cJ ke b q w' V:=by
 obtain⟨h1,h2,es,c,h3,h4⟩:=h
 exact⟨h1,h2,es,c,(hj.block b (Array.getElem?_eq_some_iff.1 h3).1 hU).trans h3,h4⟩
theorem cJ.del (K:mc P kt ke) (ht:P.underlying t=some (.map kt et)) (h:cJ ke b q w V) (k:κ) (ty:TypeId) :
 ∃ w',(Builtin.delete_ #[t,kt] ty #[.map (some b),ke k]).run P w=.ok (.tuple #[]) w'∧cJ ke b (vO q k) w' V∧Just (fun c=>c=b) w w':=by
 obtain⟨hv,hn,es,cl,hb,he⟩:=h
 obtain⟨r,hr,hcase⟩:=K.find w k es.toList 0 (q.map Prod.fst) (lK he)
 have hlt:b<w.heap.size:=(Array.getElem?_eq_some_iff.1 hb).1
 have hg:(getObj b).run P w=.ok (.map es cl) w:=MapKept.run_getObj_map hb
 rcases hcase with ⟨h1,rfl⟩|⟨j,e,h1,h2,rfl⟩
 ·have hq:vO q k=q:=by
   unfold vO
   rw[List.filter_eq_self]
   intro p hp
   simp only[ne_eq,decide_not,Bool.not_eq_eq_eq_not,Bool.not_true,decide_eq_false_iff_not]
   exact fun e=>h1 (by rw[←e];exact List.mem_map.2 ⟨p,hp,rfl⟩)
  rw[hq]
  refine⟨_,?_,⟨hv,hn,_,_,heap_set w b (.map es cl) hlt,he⟩,md w b _⟩
  simp[Builtin.delete_,run_underlying ht,hg,K.check w _ k,hr,Result.andThen,MapKept.run_setObj_map _ hb]
 ·have hq:=pc he h1 h2
  have hjq:=(List.getElem?_eq_some_iff.1 hq).1
  have Qp:j<es.size:=by simpa using (List.getElem?_eq_some_iff.1 h1).1
  have hdel:vO q k=q.eraseIdx j:=by
   unfold vO
   have hsplit:q=q.take j++(k,e.val) :: q.drop (j+1):=by
    have h6:=List.getElem_cons_drop hjq
    rw[show q[j]=(k,e.val) from (List.getElem?_eq_some_iff.1 hq).2] at h6
    rw[h6,List.take_append_drop]
   have hne:∀ i p,q[i]?=some p→i≠j→p.1≠k:=fun i p hp hij e6=>by
    have e1:(q.map Prod.fst)[i]?=some k:=by rw[List.getElem?_map,hp,←e6];rfl
    exact hij (mZ hn h2 e1).symm
   rw[List.eraseIdx_eq_take_drop_succ]
   conv=>lhs;rw[hsplit]
   rw[List.filter_append,List.filter_cons_of_neg (by simp)]
   congr 1
   ·rw[List.filter_eq_self]
    intro p hp
    obtain⟨i,hi,rfl⟩:=List.getElem_of_mem hp
    have hi':=hi
    rw[aK] at hi'
    rw[List.getElem_take]
    simpa using hne i _ (List.getElem?_eq_getElem al) al
   ·rw[List.filter_eq_self]
    intro p hp
    obtain⟨i,hi,rfl⟩:=List.getElem_of_mem hp
    have hi':=hi
    rw[bh] at hi'
    rw[List.getElem_drop]
    simpa using hne (j+1+i) _ (List.getElem?_eq_getElem al) al
  refine⟨_,?_,⟨hv,?_,_,_,heap_set w b (.map (es.eraseIdxIfInBounds j) cl) hlt,?_⟩,md w b _⟩
  ·simp[Builtin.delete_,run_underlying ht,hg,K.check w _ k,hr,Result.andThen,MapKept.run_setObj_map _ hb]
  ·rw[hdel]
   exact hn.sublist ((List.eraseIdx_sublist q j).map Prod.fst)
  ·rw[hdel,Array.eraseIdxIfInBounds,dif_pos Qp]
   simp only[Array.toList_eraseIdx]
   rw[m_,m_,he]
theorem tG (k:κ) (u:Value):vO [(k,u)] k=[]:=by simp[vO]
end
section
variable {P:Program} {kt:TypeId}
theorem qS {qk:IntKind} (hk:P.underlying kt=some (.int qk)):mc (κ:=Int) P kt (fun x => .int qk x) where
 check w b k:=by
  have main:∀ n,(Instr.checkKey b (n+1) kt (.int qk k)).run P w=.ok () w:=fun n=>by simp[Instr.checkKey,run_underlying hk]
  exact main 9999
 find w k es i q h:=by
  have main:∀ (es:List MapEntry) (q:List Int) (i:Nat),es.map (·.key)=q.map (fun x=>Value.int qk x)→(k ∉ q∧Instr.findNow (.int qk) (.int qk k) es i=some none)∨∃ (j:Nat) (e:MapEntry),es[j]?=some e∧q[j]?=some k∧Instr.findNow (.int qk) (.int qk k) es i=some (some (i+j,e.val)):=by
   intro es
   induction es with
   | nil=>
     intro q i h
     cases q with
     | nil=>exact .inl ⟨by simp,rfl⟩
     | cons=>simp at h
   | cons e es ih=>
     intro q i h
     cases q with
     | nil=>simp at h
     | cons x q=>
       simp only[bg,List.cons.injEq] at h
       obtain⟨h1,h2⟩:=h
       by_cases hx:k=x
       ·subst hx
        exact .inr ⟨0,e,rfl,rfl,by simp[Instr.findNow,h1,Instr.sameNow]⟩
       ·have hf:Instr.findNow (.int qk) (.int qk k) (e :: es) i=Instr.findNow (.int qk) (.int qk k) es (i+1):=by
         have hkx:(k == x)=false:=by simpa using hx
         simp[Instr.findNow,h1,Instr.sameNow,hkx]
        rcases ih q (i+1) h2 with ⟨h3,h4⟩|⟨j,e',h3,h4,h5⟩
        ·exact .inl ⟨by simp[hx,h3],by rw[hf,h4]⟩
        ·exact .inr ⟨j+1,e',by simpa using h3,by simpa using h4,by rw[hf,h5];simp;omega⟩
  rcases main es q 0 h with ⟨h1,h2⟩|⟨j,e,h1,h2,h3⟩
  ·exact⟨none,by simp[Instr.findKey,run_underlying hk,h2],.inl ⟨h1,rfl⟩⟩
  ·exact⟨some (j,e.val),by simp[Instr.findKey,run_underlying hk,h3],.inr ⟨j,e,h1,h2,rfl⟩⟩
 same k:=by simp[Instr.sameBits]
theorem me {κ:Type} [DecidableEq κ] {ke:κ→Value} {fs:Array Field} (hk:P.underlying kt=some (.struct fs)) (hc:∀ (w:World) (b:Bool) (k:κ),(Instr.checkKey b 10000 kt (ke k)).run P w=.ok () w)
 (he:∀ (w:World) (a b:κ),(Op.equal kt (ke a) (ke b)).run P w=.ok (decide (a=b)) w) (hs:∀ k,Instr.sameBits 10000 (ke k) (ke k)=true):mc P kt ke where
 check:=hc
 same:=hs
 find w k es i q h:=by
  have main:∀ (es:List MapEntry) (q:List κ) (i:Nat),es.map (·.key)=q.map ke→∃ r,(Instr.findAsking kt (ke k) es i).run P w=.ok r w∧((k ∉ q∧r=none)∨∃ (j:Nat) (e:MapEntry),es[j]?=some e∧q[j]?=some k∧r=some (i+j,e.val)):=by
   intro es
   induction es with
   | nil=>
     intro q i h
     cases q with
     | nil=>exact⟨none,by simp[Instr.findAsking],.inl ⟨by simp,rfl⟩⟩
     | cons=>simp at h
   | cons e es ih=>
     intro q i h
     cases q with
     | nil=>simp at h
     | cons x q=>
       simp only[bg,List.cons.injEq] at h
       obtain⟨h1,h2⟩:=h
       by_cases hx:k=x
       ·subst hx
        exact⟨some (i,e.val),by simp[Instr.findAsking,h1,he],.inr ⟨0,e,rfl,rfl,rfl⟩⟩
       ·obtain⟨r,hr,hcase⟩:=ih q (i+1) h2
        refine⟨r,by simp[Instr.findAsking,h1,he,hx,hr],?_⟩
        rcases hcase with ⟨h3,h4⟩|⟨j,e',h3,h4,h5⟩
        ·exact .inl ⟨by simp[hx,h3],h4⟩
        ·exact .inr ⟨j+1,e',by simpa using h3,by simpa using h4,by rw[h5];simp;omega⟩
  obtain⟨r,hr,hcase⟩:=main es q 0 h
  refine⟨r,?_,by simpa using hcase⟩
  cases es with
  | nil=>simpa [Instr.findKey,run_underlying hk,Instr.findNow,Instr.findAsking] using hr
  | cons e es=>simp[Instr.findKey,run_underlying hk,Instr.findNow,Instr.sameNow,hr]
end
end Go.Hop
end
section
namespace Go.Proofs.YtmijcbfgfkeodaaGreatDoor
open Go.RowKit Go.Hop V
def fB (r B:Nat) (l:List UInt8) (w:World):Prop:=B≤r∧∃ (A:Option Addr) (n c:Nat),ct w r 280 #[.slice A n c,.bool false]∧Bytes w B A n l∧n≤c∧c≤maxLen
theorem fB.grow {r B:Nat} {l:List UInt8} {w w':World} (h:fB r B l w) (hg:Grow w w'):fB r B l w':=by
 obtain⟨h1,A,n,c,h2,h3,h4⟩:=h
 have:=h2.lt
 exact⟨h1,A,n,c,h2.grow hg,h3.below (hg.mono al),h4⟩
theorem fB.lt {r B:Nat} {l:List UInt8} {w:World} (h:fB r B l w):r<w.heap.size:=by
 obtain⟨h1,A,n,c,h2,h3,h4⟩:=h
 exact h2.lt
theorem He (m:Nat) (t:List UInt8) (hm:m<18446744073709551616):fp (enc m++t) m (enc m).length := .inl ⟨hm,br _ _,rfl⟩
theorem Hf (s t:List UInt8) (hs:s.length<18446744073709551616):lr (enc s.length++s++t) s ((enc s.length).length+s.length) := .inl ⟨hs,br _ _,rfl⟩
theorem na {w:World} {B n c:Nat} {A:Option Addr} {l t:List UInt8} (h:Bytes w B A n (l++t)) (hnc:n≤c) (hl:0<l.length):Bytes w B (if c=l.length then A else A.map (·.add l.length)) (n-l.length) t∧l.length≤n:=by
 have hn:=h.len
 rw[aD] at hn
 have h1:=Reads.cut (size:=1) (cap:=c) h (k:=l.length) al hnc
 rw[bC,←bC l.length,←ma,bC,List.drop_left' rfl] at h1
 exact⟨h1,by omega⟩
theorem pd (w:World) (A:Option Addr) (n c:Nat) (l:List UInt8) (h:Bytes w w.heap.size A n l) (hnc:n≤c) (hcm:c≤maxLen) :
 Calls au 102 #[.slice A n c] w fun e w'=>∃ r,e=.returned (((r:Nat):Value))∧fB r w.heap.size l w'∧Grow w w':=by
 go_enter Tryz.func102,Tryz.ntmps102
 go_wp2_with fail
 go_ret
 refine⟨_,rfl,⟨aC _,A,n,c,ct.made w _ _,h.alloc (aC _) _,hnc,hcm⟩,(Below.refl _ w).alloc (aC _) _⟩
theorem nd (w:World) (r B:Nat) (h:fB r B [] w):Calls au 105 #[((r:Nat):Value)] w fun e w'=>e=.returned (.bool true)∧w=w':=by
 obtain⟨hB,A,n,c,hK,hb,hnc,hcm⟩:=h
 obtain rfl:0=n:=hb.len
 have c0:=hK.cell 0
 have c1:=hK.cell 1
 go_enter Tryz.func105,Tryz.ntmps105
 go_wp2_with fail
 go_ret
 exact⟨rfl,rfl⟩
theorem kE (w:World) (r B m:Nat) (t:List UInt8) (hm:m<18446744073709551616) (h:fB r B (enc m++t) w) :
 Calls au 186 #[((r:Nat):Value)] w fun e w'=>e=.returned (ae ah (m:Int))∧fB r B t w'∧Only r w w':=by
 obtain⟨hB,A,n,c,hK,hb,hnc,hcm⟩:=h
 have hp:=m8 m
 obtain⟨hc,hle⟩:=na hb hnc hp
 have hG:=m0 w B A n c _ hb al
 have c0:=hK.cell 0
 have c1:=hK.cell 1
 have f0:=hK.frozen 0
 obtain⟨k,HK⟩:∃ k,Hid (k=(enc m).length):=⟨_,rfl⟩
 rw[←HK.out] at hc hle hp
 go_enter Tryz.func186,Tryz.ntmps186
 go_wp2_with fail
 refine hG.mono ?_
 rintro e w1 ⟨v,k',hv,rfl,rfl⟩
 obtain⟨rfl,hk'⟩:=hv.one (He m t hm)
 rw[←HK.out] at hk'
 subst hk'
 by_cases hck:c=k'
 ·rw[if_pos hck] at hc
  go_wp2_with fail
  go_ret
  exact⟨rfl,⟨hB,_,_,_,hK.put 0 _,hc.setCell (p:=⟨r,0,none⟩) hB _,by omega,by omega⟩,(Only.refl r w).put 0 _⟩
 ·rw[if_neg hck] at hc
  go_wp2_with fail
  go_ret
  exact⟨rfl,⟨hB,_,_,_,hK.put 0 _,hc.setCell (p:=⟨r,0,none⟩) hB _,by omega,by omega⟩,(Only.refl r w).put 0 _⟩
theorem kF (w:World) (r B m:Nat) (t:List UInt8) (hm:m≤9223372036854775807) (h:fB r B (enc m++t) w) :
 Calls au 184 #[((r:Nat):Value)] w fun e w'=>e=.returned (ae af (m:Int))∧fB r B t w'∧Only r w w':=by
 have hN:=kE w r B m t al h
 have hgt:decide ((m:Int) > 9223372036854775807)=false:=decide_eq_false al
 have hw:IntKind.i64.wrap (m:Int)=(m:Int):=by rw[IntKind.wrap_i64];omega
 go_enter Tryz.func184,Tryz.ntmps184
 go_wp2_with fail
 refine hN.mono ?_
 rintro e w1 ⟨rfl,h1,ho⟩
 go_wp2_with fail
 go_ret
 exact⟨rfl,h1,ho⟩
theorem iD (w:World) (r B m:Nat) (most:Nat) (t:List UInt8) (hm:m≤most) (hmm:most≤9223372036854775807) (h:fB r B (enc m++t) w) :
 Calls au 185 #[((r:Nat):Value),ae af (most:Int)] w fun e w'=>e=.returned (ae af (m:Int))∧fB r B t w'∧Only r w w':=by
 have hN:=kF w r B m t al h
 have hgt:¬ (most:Int)<(m:Int):=by omega
 go_enter Tryz.func185,Tryz.ntmps185
 go_wp2_with fail
 refine hN.mono ?_
 rintro e w1 ⟨rfl,h1,ho⟩
 go_wp2_with fail
 go_ret
 exact⟨rfl,h1,ho⟩
theorem qT (w:World) (r B:Nat) (s t:List UInt8) (hs:s.length<18446744073709551616) (h:fB r B (enc s.length++s++t) w) :
 Calls au 183 #[((r:Nat):Value)] w fun e w'=>e=.returned (.string ⟨s.toArray⟩)∧fB r B t w'∧Only r w w':=by
 obtain⟨hB,A,n,c,hK,hb,hnc,hcm⟩:=h
 have hp:=m8 s.length
 have hl:(enc s.length++s).length=(enc s.length).length+s.length:=aD
 obtain⟨hc,hle⟩:=na hb hnc al
 have hG:=Vc.og w B A n c _ hb (by have:=hK.lt;omega) hnc hcm
 have c0:=hK.cell 0
 obtain⟨k,HK⟩:∃ k,Hid (k=(enc s.length).length+s.length):=⟨_,rfl⟩
 rw[hl,←HK.out] at hc hle
 have hp1:1≤k:=by have:=HK.out;omega
 go_enter Tryz.func183,Tryz.ntmps183
 go_wp2_with fail
 refine hG.mono ?_
 rintro e w1 ⟨v,k',hv,rfl,hg⟩
 obtain⟨rfl,hk'⟩:=hv.one (Hf s t hs)
 rw[←HK.out] at hk'
 subst hk'
 have hK1:=hK.grow hg
 have hc1:=hc.below (hg.mono (by have:=hK.lt;omega))
 clear c0
 have c0:=hK1.cell 0
 have c1:=hK1.cell 1
 have f0:=hK1.frozen 0
 by_cases hck:c=k'
 ·rw[if_pos hck] at hc1
  go_wp2_with fail
  go_ret
  exact⟨rfl,⟨hB,_,_,_,hK1.put 0 _,hc1.setCell (p:=⟨r,0,none⟩) hB _,by omega,by omega⟩,(Only.bJ hg).put 0 _⟩
 ·rw[if_neg hck] at hc1
  go_wp2_with fail
  go_ret
  exact⟨rfl,⟨hB,_,_,_,hK1.put 0 _,hc1.setCell (p:=⟨r,0,none⟩) hB _,by omega,by omega⟩,(Only.bJ hg).put 0 _⟩
theorem ng (w:World) (r B:Nat) (x:UInt8) (t:List UInt8) (h:fB r B (x :: t) w) :
 Calls au 104 #[((r:Nat):Value)] w fun e w'=>e=.returned (.int .u8 (x.toNat:Int))∧fB r B t w'∧Only r w w':=by
 obtain⟨hB,A,n,c,hK,hb,hnc,hcm⟩:=h
 obtain⟨hc,hle⟩:=na (l:=[x]) (t:=t) hb hnc (by simp)
 obtain⟨ad,hl,rfl,hx⟩:=hb.at_ (k:=0) (by have:1≤n:=hle;omega)
 rw[show ad.add 0=ad from rfl] at hx
 have c0:=hK.cell 0
 have c1:=hK.cell 1
 have f0:=hK.frozen 0
 simp only[aT] at hle hc
 go_enter Tryz.func104,Tryz.ntmps104
 by_cases hck:c=1
 ·rw[if_pos hck] at hc
  go_wp2_with fail
  go_ret
  exact⟨rfl,⟨hB,_,_,_,hK.put 0 _,hc.setCell (p:=⟨r,0,none⟩) hB _,by omega,by omega⟩,(Only.refl r w).put 0 _⟩
 ·rw[if_neg hck] at hc
  go_wp2_with fail
  go_ret
  exact⟨rfl,⟨hB,_,_,_,hK.put 0 _,hc.setCell (p:=⟨r,0,none⟩) hB _,by omega,by omega⟩,(Only.refl r w).put 0 _⟩
end Go.Proofs.YtmijcbfgfkeodaaGreatDoor
end
section
namespace Go.Proofs.YtmijcbfgfkeodaaGreatDoor
open Go.RowKit Go.Hop
structure En where
 (k ag sh sq ep:Int) (ds:List Dl) (se:ByteArray) (fr tg:Int)
def En.agg (e:En) (A:Option Addr) (c:Nat):Array Value:=#[ae af e.k,ae af e.ag,ae af e.sh,ae af e.sq,ae af e.ep,.slice A e.ds.length c,.string e.se,ae af e.fr,ae af e.tg]
def Kh (d:Dl):Prop:=1≤d.2∧d.2≤18446744073709551615∧L.fH d.1=0∧d.1.size≤1000
def En.W (e:En):Prop:=e.k=1∧e.se=⟨#[]⟩∧(0≤e.ag∧e.ag<8)∧(0≤e.sh∧e.sh<4)∧(1≤e.sq∧e.sq≤9223372036854775807)∧(1≤e.ep∧e.ep≤9223372036854775807)∧(1≤e.ds.length∧e.ds.length≤8)∧∀ d∈e.ds,Kh d
def En.R (e:En):Prop:=e.k=2∧e.ag=0∧e.sh=0∧e.sq=0∧e.ep=0∧e.ds=[]∧L.fH e.se=0∧e.se.size≤1000
def En.Ok (e:En):Prop:=((0≤e.fr∧e.fr<8)∧0≤e.tg∧e.tg≤9223372036854775807)∧(e.W∨e.R)
theorem bN (w:World) (o:Obj):Grow w (w.alloc o):=(Below.refl _ w).alloc (aC _) o
theorem gM {w:World} {V:Nat→Prop} {A:Option Addr} {n:Nat} {l:List Dl} (h:fV w V A n l) {k:Nat} (hk:k<n) :
 ∃ (ad:Addr) (hq:k<l.length),A=some ad∧(∀ w1,Grow w w1→w1.cell? (ad.add (k*2))=some (.string l[k].1))∧∀ w1,Grow w w1→w1.cell? ⟨(ad.add (k*2)).block,(ad.add (k*2)).off+1,none⟩=some (ae ah (l[k].2:Int)):=by
 obtain⟨ad,hq,e,_,hb,e0,e12⟩:=In.iS (cells:=oH) h al kU hk
 exact⟨ad,hq,e,fun w1 hg=>(hg.cell (by rw[block_add];exact hb)).trans (e0 _ rfl),fun w1 hg=>(hg.cell (p:=⟨(ad.add (k*2)).block,(ad.add (k*2)).off+1,none⟩) (show (ad.add (k*2)).block<_ by rw[block_add];exact hb)).trans (e12 0 _ rfl)⟩
theorem Hg (w:World) (e:En) (A:Option Addr) (c:Nat) (h:e.W):Calls au 125 #[.agg (e.agg A c)] w fun e w'=>e=.returned (.bool true)∧Grow w w':=by
 obtain⟨k,ag,sh,sq,ep,ds,se,fr,tg⟩:=e
 obtain⟨hk,hs,_⟩:=h
 simp only at hk hs
 subst hk hs
 unfold En.agg
 dsimp only
 go_enter Tryz.func125,Tryz.ntmps125
 go_wp2_with fail
 go_ret
 exact⟨rfl,(Below.refl _ w).alloc (aC _) _⟩
theorem Hh (w:World) (e:En) (A:Option Addr) (c:Nat) (h:e.R):Calls au 125 #[.agg (e.agg A c)] w fun e w'=>e=.returned (.bool true)∧Grow w w':=by
 obtain⟨k,ag,sh,sq,ep,ds,se,fr,tg⟩:=e
 obtain⟨hk,h1,h2,h3,h4,h5,_⟩:=h
 simp only at hk h1 h2 h3 h4 h5
 subst hk h1 h2 h3 h4 h5
 unfold En.agg
 dsimp only[bu]
 go_enter Tryz.func125,Tryz.ntmps125
 go_wp2_with fail
 go_ret
 exact⟨rfl,(Below.refl _ w).alloc (aC _) _⟩
theorem jM (w:World) (n m:Int) (h0:0≤n) (h1:n<m):Calls au 126 #[ae af n,ae af m] w fun e w'=>e=.returned (.bool true)∧w=w':=by
 have hd0:decide (0≤n)=true:=decide_eq_true h0
 have hd1:decide (n<m)=true:=decide_eq_true h1
 have hn:¬ n<0:=by omega
 go_enter Tryz.func126,Tryz.ntmps126
 go_wp2_with fail
 go_ret
 exact⟨fL (by simp[h0,h1]),rfl⟩
theorem Hj (w:World) (s:ByteArray) (x:Nat) (hx:1≤x):Calls au 205 #[.agg #[.string s,ae ah (x:Int)]] w fun e w'=>e=.returned (.bool false)∧Grow w w':=by
 go_enter Tryz.func205,Tryz.ntmps205
 go_wp2_with fail
 go_ret
 exact⟨fL (beq_eq_false_iff_ne.2 al),(Below.refl _ w).alloc (aC _) _⟩
theorem vQ (w:World) (V:Nat→Prop) (A:Option Addr) (n c:Nat) (l:List Dl) (h:fV w V A n l) (hn:n≤1048576) (hl:∀ d∈l,1≤d.2) :
 Calls au 156 #[.slice A n c,.func (.func 205) #[] #[]] w fun e w'=>e=.returned (ae af (-1))∧Grow w w':=by
 go_enter Tryz.func156,Tryz.ntmps156
 go_wp2_with fail
 go_loopw [8] (fun i wr=>∃ k:Nat,k≤n∧i=ae af (k:Int)∧Grow w wr) (fun i _=>n-(intOf i).toNat)
 case atStart=>exact⟨0,by omega,rfl,Grow.refl _⟩
 case round=>
  obtain⟨k,hkn,rfl,hgr⟩:=hrel
  by_cases hk:k<n
  ·obtain⟨ad,hq,rfl,f0,f1⟩:=gM (In.grow h hgr) hk
   have e0:=f0 wr (Grow.refl _)
   have e1:=f1 wr (Grow.refl _)
   have hmem:l[k]∈l:=aO hq
   generalize l[k]=y at e0 e1 hmem
   obtain⟨s,x⟩:=y
   dsimp only at e0 e1
   have hc:=Hj wr s x (hl _ hmem)
   clear f0 f1
   go_wp2_with fail
   refine hc.mono ?_
   rintro e w2 ⟨rfl,hg2⟩
   go_wp2_with fail
   go_roundw
   case rel=>exact⟨k+1,by omega,by go_num,hgr.trans hg2⟩
   case measure=>simp[intOf];omega
  ·obtain rfl:k=n:=by omega
   go_wp2_with fail
   go_ret
   exact⟨rfl,hgr⟩
theorem pY (w:World) (V:Nat→Prop) (A:Option Addr) (n c:Nat) (l:List Dl) (h:fV w V A n l) (hn:n≤1048576) (hl:∀ d∈l,1≤d.2) :
 Calls au 204 #[.slice A n c,.func (.func 205) #[] #[]] w fun e w'=>e=.returned (.bool false)∧Grow w w':=by
 have hI:=vQ w V A n c l h hn hl
 go_enter Tryz.func204,Tryz.ntmps204
 go_wp2_with fail
 refine hI.mono ?_
 rintro e w2 ⟨rfl,hg2⟩
 go_wp2_with fail
 go_ret
 exact⟨rfl,hg2⟩
theorem vR (w:World) (e:En) (V:Nat→Prop) (A:Option Addr) (c:Nat) (h:e.W) (hd:fV w V A e.ds.length e.ds) :
 Calls au 127 #[.agg (e.agg A c)] w fun en w'=>en=.returned (ae af 0)∧Grow w w':=by
 obtain⟨k,ag,sh,sq,ep,ds,se,fr,tg⟩:=e
 obtain⟨hk,hs,ha,hsh,im,oj,hn,hall⟩:=h
 unfold En.agg
 dsimp only at hk hs ha hsh im oj hn hall hd ⊢
 subst hk hs
 obtain⟨n,HN⟩:∃ n,Hid (n=ds.length):=⟨_,rfl⟩
 rw[←HN.out] at hn hd ⊢
 have hB:=ct.made w 32 #[ae af 1,ae af ag,ae af sh,ae af sq,ae af ep,.slice A n c,.string ⟨#[]⟩,ae af fr,ae af tg]
 have hg0:Grow w (w.alloc (.cells #[ae af 1,ae af ag,ae af sh,ae af sq,ae af ep,.slice A n c,.string ⟨#[]⟩,ae af fr,ae af tg] 32)):=(Below.refl _ w).alloc (aC _) _
 obtain⟨x,HX⟩:∃ x:Nat,Hid (x=w.heap.size):=⟨_,rfl⟩
 obtain⟨wa,HA⟩:∃ wa:World,Hid (wa=w.alloc (.cells #[ae af 1,ae af ag,ae af sh,ae af sq,ae af ep,.slice A n c,.string ⟨#[]⟩,ae af fr,ae af tg] 32)):=⟨_,rfl⟩
 rw[←HA.out] at hB hg0
 rw[←HX.out] at hB
 have c1:=hB.cell 1
 have c2:=hB.cell 2
 have c3:=hB.cell 3
 have c4:=hB.cell 4
 have c5:=hB.cell 5
 have hw1:=jM wa ag 8 ha.1 ha.2
 have hw2:=jM wa sh 4 hsh.1 hsh.2
 have hda:=In.grow hd hg0
 have hC:=pY wa V A n c ds hda al (fun d hd=>(hall d hd).1)
 have n1:decide (sq<1)=false:=decide_eq_false al
 have n2:decide (ep<1)=false:=decide_eq_false al
 have n3:decide ((8:Int)<(n:Int))=false:=decide_eq_false al
 have n4:((n:Int) == 0)=false:=beq_eq_false_iff_ne.2 al
 go_enter Tryz.func127,Tryz.ntmps127
 go_wp2_with fail
 rw[←HA.out,←HX.out]
 refine hw1.mono ?_
 rintro e w1 ⟨rfl,rfl⟩
 go_wp2_with fail
 refine hw2.mono ?_
 rintro e w1 ⟨rfl,rfl⟩
 go_wp2_with fail
 refine hC.mono ?_
 rintro e w1 ⟨rfl,hg1⟩
 have hdb:=In.grow hda hg1
 have Qq:=(hB.grow hg1).cell 5
 have hgb:=hg0.trans hg1
 clear c1 c2 c3 c4 c5 hw1 hw2 hC
 go_wp2_with fail
 clear Qq
 go_loopw [49] (fun i wr=>∃ k:Nat,k≤n∧i=ae af (k:Int)∧Grow w1 wr) (fun i _=>n-(intOf i).toNat)
 case atStart=>exact⟨0,by omega,rfl,Grow.refl _⟩
 case round=>
  obtain⟨k,hkn,rfl,hgr⟩:=hrel
  by_cases hk:k<n
  ·obtain⟨ad,hq,rfl,f0,f1⟩:=gM (In.grow hdb hgr) hk
   have e0:=f0 wr (Grow.refl _)
   have e1:=f1 wr (Grow.refl _)
   have hmem:=hall _ (aO hq)
   generalize ds[k]=y at e0 e1 hmem
   obtain⟨s,x⟩:=y
   dsimp only[Kh] at e0 e1 hmem
   obtain⟨_,_,hp0,hsz⟩:=hmem
   have hP:=L.mU ((wr.alloc (.cells #[.string s,ae ah (x:Int)] 29))) s al
   rw[hp0] at hP
   clear f0 f1
   go_wp2_with fail
   refine hP.mono ?_
   rintro e w2 ⟨Ap,cp,rfl,_,_,hg2⟩
   have hg3:Grow wr w2:=(bN wr _).trans hg2
   go_wp2_with fail
   go_roundw
   case rel=>exact⟨k+1,by omega,by go_num,hgr.trans hg3⟩
   case measure=>simp[intOf];omega
  ·obtain rfl:k=n:=by omega
   go_wp2_with fail
   go_ret
   exact⟨rfl,hgb.trans hgr⟩
theorem f8 (w:World) (e:En) (V:Nat→Prop) (A:Option Addr) (c:Nat) (h:e.Ok) (hd:fV w V A e.ds.length e.ds) :
 Calls au 51 #[.agg (e.agg A c)] w fun en w'=>en=.returned (ae af 0)∧Grow w w':=by
 obtain⟨⟨hfr,Bb⟩,hk⟩:=h
 have hg0:Grow w (w.alloc (.cells (e.agg A c) 32)):=(Below.refl _ w).alloc (aC _) _
 have hB:=ct.made w 32 (e.agg A c)
 obtain⟨x,HX⟩:∃ x:Nat,Hid (x=w.heap.size):=⟨_,rfl⟩
 obtain⟨wa,HA⟩:∃ wa:World,Hid (wa=w.alloc (.cells (e.agg A c) 32)):=⟨_,rfl⟩
 rw[←HA.out] at hB hg0
 rw[←HX.out] at hB
 have hK:Calls au 125 #[.agg (e.agg A c)] wa fun e w'=>e=.returned (.bool true)∧Grow wa w':=hk.elim (Hg wa e A c) (Hh wa e A c)
 have JF:=fun (h:e.W) (w1:World) (hg:Grow wa w1)=>vR w1 e V A c h (In.grow hd (hg0.trans hg))
 have Ep:¬ e.tg<0:=by omega
 rcases hk with hk|hk
 ·have JF:=JF hk
  have hk1:=hk.1
  have hk2:=hk.2.1
  clear hk
  obtain⟨k,ag,sh,sq,ep,ds,se,fr,tg⟩:=e
  unfold En.agg at *
  dsimp only at *
  subst hk1 hk2
  go_enter Tryz.func51,Tryz.ntmps51
  go_wp2_with fail
  rw[←HA.out,←HX.out]
  refine hK.mono ?_
  rintro e w1 ⟨rfl,hg1⟩
  have hB1:=hB.grow hg1
  have b0:=hB1.cell 0
  have b1:=hB1.cell 1
  have b2:=hB1.cell 2
  have b3:=hB1.cell 3
  have b4:=hB1.cell 4
  have b5:=hB1.cell 5
  have b6:=hB1.cell 6
  have b7:=hB1.cell 7
  have b8:=hB1.cell 8
  have JF:=JF w1 hg1
  have hw1:=jM w1 fr 8 hfr.1 hfr.2
  go_wp2_with fail
  refine hw1.mono ?_
  rintro e w2 ⟨rfl,rfl⟩
  go_wp2_with fail
  refine JF.mono ?_
  rintro e w2 ⟨rfl,hg2⟩
  go_wp2_with fail
  go_ret
  exact⟨rfl,hg0.trans (hg1.trans hg2)⟩
 ·obtain⟨hk1,hk2,hk3,hk4,hk5,OZ,hp0,hsz⟩:=hk
  clear JF
  obtain⟨k,ag,sh,sq,ep,ds,se,fr,tg⟩:=e
  unfold En.agg at *
  dsimp only at *
  subst hk1 hk2 hk3 hk4 hk5 OZ
  dsimp only[bu] at *
  go_enter Tryz.func51,Tryz.ntmps51
  go_wp2_with fail
  rw[←HA.out,←HX.out]
  refine hK.mono ?_
  rintro e w1 ⟨rfl,hg1⟩
  have hB1:=hB.grow hg1
  have b0:=hB1.cell 0
  have b4:=hB1.cell 6
  have b7:=hB1.cell 7
  have b8:=hB1.cell 8
  have hw1:=jM w1 fr 8 hfr.1 hfr.2
  have hP:=L.mU w1 se al
  rw[hp0] at hP
  go_wp2_with fail
  refine hw1.mono ?_
  rintro e w2 ⟨rfl,rfl⟩
  go_wp2_with fail
  refine hP.mono ?_
  rintro e w2 ⟨Ap,cp,rfl,_,_,hg2⟩
  go_wp2_with fail
  go_ret
  exact⟨rfl,hg0.trans (hg1.trans hg2)⟩
end Go.Proofs.YtmijcbfgfkeodaaGreatDoor
end
section
namespace Go.Hop
open Go.RowKit
section
variable {α:Type} (e size:Nat) (cells:α→List Value) (good:World→(Nat→Prop)→α→Prop)
def iE:Prop:=∀ (w:World) (D D':Nat→Prop) (a:α),good w D a→(∀ b,D b→D' b)→good w D' a
def Acc (w0:World) (v:Value) (q:List α) (w:World):Prop:=
 ∃ R D:Nat→Prop,Own w R e size v q.length (q.flatMap cells)∧(∀ b∈q,good w D b)∧(∀ b,R b→New w0 w b∧¬ D b)∧(∀ b,D b→New w0 w b)∧Grow w0 w
variable {e size cells good} {w0 w w1 w':World} {v:Value} {q:List α}
theorem Acc.nil (w0:World):Acc e size cells good w0 (ai none 0 0) [] w0:=⟨fun _=>False,fun _=>False,Own.nil,by simp,fun _ h=>h.elim,fun _ h=>h.elim,Grow.refl _⟩
theorem Acc.base (h:Acc e size cells good w0 v q w):Grow w0 w:=by
 obtain⟨_,_,_,_,_,_,h⟩:=h;exact h
theorem Acc.slice (h:Acc e size cells good w0 v q w):∃ A c,v=.slice A q.length c:=by
 obtain⟨R,D,h1,_⟩:=h
 obtain⟨A,c,h1,_⟩:=h1.reads
 exact⟨A,c,h1⟩
theorem Acc.done (hM:iE good) (h:Acc e size cells good w0 v q w):∃ A c,v=.slice A q.length c∧In w (New w0 w) size A q.length (q.flatMap cells)∧(∀ b∈q,good w (New w0 w) b)∧q.length≤c∧c≤maxLen∧Grow w0 w:=by
 obtain⟨R,D,h1,h2,h3,h4,h5⟩:=h
 obtain⟨A,c,rfl,h6,h7,h8⟩:=h1.fw
 exact⟨A,c,rfl,h6.mono fun b hb=>(h3 b hb).1,fun b hb=>hM _ _ _ _ (h2 b hb) h4,h7,h8,h5⟩
theorem F0 {P:Program} {t bytes:Nat} {z:Value} (E:Elem P t e size bytes z) (hG:eZ good) (hM:iE good) (hl:∀ a,(cells a).length=size) (hone:∀ a,∀ u∈cells a,u.oneCell'=true)
 (h:Acc e size cells good w0 v q w) (hg:Grow w w1) {b:α} (hb:good w1 (New w w1) b) (hbytes:(q.length+1)*bytes≤140737488355328) (ty:TypeId) (c:Nat) :
 ∃ v' w',(Builtin.append_ #[t,t] ty #[v,.slice (some ⟨w1.heap.size,0,none⟩) 1 c]).run P (w1.alloc (.cells (cells b).toArray e))=.ok v' w'∧Acc e size cells good w0 v' (q++[b]) w':=by
 have h':=h
 obtain⟨R,D,h1,h2,h3,h4,h5⟩:=h
 have hg2:Grow w1 (w1.alloc (.cells (cells b).toArray e)):=(Below.refl _ w1).alloc (aC _) _
 have hga:=hg.trans hg2
 have hrd:Reads (w1.alloc (.cells (cells b).toArray e)) (w1.heap.size+1) size (some ⟨w1.heap.size,0,none⟩) 1 (cells b):=by
  have:=df w1 (cells b).toArray e (0,0) (n:=1) (size:=size) (by simp[hl]) _ rfl
  simpa using this
 obtain⟨v',w',hrun,hO,hj⟩:=iz E _ ty v q.length (q.flatMap cells) (h1.grows hga) _ _ 1 c (cells b) hrd (hone b) hbytes
 have s1:=hg.size
 have s2:(w1.alloc (.cells (cells b).toArray e)).heap.size=w1.heap.size+1:=di _ _
 have s3:=hj.size
 have s0:=h5.size
 rw[s2] at s3
 have iF:∀ x,R x→x<w.heap.size:=fun x hx=>(h3 x hx).1.2
 refine⟨v',w',hrun,Ext R (w1.alloc (.cells (cells b).toArray e)) w',fun x=>D x∨New w w1 x,?_,fun a ha=>?_,fun x hx=>?_,fun x hx=>?_,?_⟩
 ·rw[bd,aU,bB,bf,aD]
  exact hO
 ·rcases List.mem_append.1 ha with ha|ha
  ·exact hM _ D _ _ (hG _ _ _ R _ (hG _ _ _ _ _ (h2 a ha) (Just.bJ (V:=fun _=>False) hga) (fun _ _ h=>h)) hj fun x hx hr=>(h3 x hr).2 hx) fun _ => .inl
  ·rw[List.mem_singleton.1 ha]
   exact hM _ (New w w1) _ _ (hG _ _ _ R _ (hG _ _ _ _ _ hb (Just.bJ (V:=fun _=>False) hg2) (fun _ _ h=>h)) hj fun x hx hr=>by have:=hx.1;have:=iF x hr;omega) fun _ => .inr
 ·rcases hx with hx|⟨hx1,hx2⟩
  ·refine⟨⟨(h3 x hx).1.1,by have:=iF x hx;omega⟩,fun hd=>?_⟩
   rcases hd with hd|hd
   ·exact (h3 x hx).2 hd
   ·have:=hd.1;have:=iF x hx;omega
  ·rw[s2] at hx1
   refine⟨⟨by omega,hx2⟩,fun hd=>?_⟩
   rcases hd with hd|hd
   ·have:=(h4 x hd).2;omega
   ·have:=hd.2;omega
 ·rcases hx with hx|hx
  ·exact⟨(h4 x hx).1,by have:=(h4 x hx).2;omega⟩
  ·exact⟨by have:=hx.1;omega,by have:=hx.2;omega⟩
 ·exact Below.trans (h5.trans hga) (hj.below (B:=w0.heap.size) (fun x hx=>(h3 x hx).1.1) al)
theorem vS {P:Program} {t bytes:Nat} {z:Value} (E:Elem P t e size bytes z) (hG:eZ good) (hM:iE good) (hl:∀ a,(cells a).length=size) (hone:∀ a,∀ u∈cells a,u.oneCell'=true)
 {ops:Array Oper} {rest:List Oper} {o:Oper} {a:Act} {Q:Exit→Act→World→Prop} (hw:Region.wanted o (yielded ops a.tmps)=true) (s x:Operand)
 (ho:o.op=.call { callee := .builtin .append,args:=#[s,x],argTypes:=#[t,t] })
 (h:Acc e size cells good w0 v q w) (hg:Grow w w1) (b:α) (hb:good w1 (New w w1) b) (hbytes:(q.length+1)*bytes≤140737488355328)
 (hs:a.eval s=v) {c:Nat} (hx:a.eval x=.slice (some ⟨w1.heap.size,0,none⟩) 1 c)
 (k:∀ v' w',Acc e size cells good w0 v' (q++[b]) w'→wpList P ops Q rest (a.put o.dst v') w'):wpList P ops Q (o :: rest) a (w1.alloc (.cells (cells b).toArray e)):=by
 obtain⟨v',w',hrun,hA⟩:=F0 E hG hM hl hone h hg hb hbytes o.type c
 unfold wpList
 rw[if_pos hw]
 refine .inl ?_
 unfold Oper.wp execOp
 simp only[ho,resolve,invoke,builtin,Sem.run_bind,Sem.run_pure,Result.andThen_ok,List.map_toArray,bg,List.map_nil,hs,hx,hrun]
 exact k v' w' hA
end
theorem ct.all {w:World} {g:Nat} {t:TypeId} {cs:Array Value} (h:ct w g t cs) (vs:List Value) (hl:vs.length=cs.size):ct (w.setCells g 0 vs) g t vs.toArray:=by
 obtain⟨cur,h1,h2,h3⟩:=eV g t (0,0) vs 0 w cs h al
 have h4:cur=vs.toArray:=by
  apply Array.ext'
  rw[h3,bw,aR,a_,bD (by simp;omega),bf]
 rw[h4] at h1
 exact h1
theorem nh {α:Type}:eZ (fun (_:World) (_:Nat→Prop) (_:α)=>True):=fun _ _ _ _ _ _ _ _=>trivial
theorem qU {α:Type}:iE (fun (_:World) (_:Nat→Prop) (_:α)=>True):=fun _ _ _ _ _ _=>trivial
end Go.Hop
end
