/- Flow2. -/
import Derived.Test.YtmijcbfgfkeodaaGreatDoorIz00
set_option linter.all false
set_option maxRecDepth 100000
open Go.Value renaming int → ae,slice → ai
open Go.IntKind renaming i64 → af,u64 → ah
open Nat renaming lt_of_lt_of_le → aA,le_refl → aC,le_trans → aH,zero_le → aZ,lt_or_ge → bn
open List renaming mem_cons → aF,eq_nil_of_length_eq_zero → aJ,append_assoc → aM,take_of_length_le → aN,range → aY,mem_cons_of_mem → bb,contains_iff_mem → bz,drop_of_length_le → bD
open Bool renaming and_eq_true → aS
section
namespace Go.Hop
open Go.RowKit
def Grow (w w':World):Prop:=Below w.heap.size w w'
theorem Grow.refl (w:World):Grow w w:=Below.refl _ _
theorem Grow.trans {a b c:World} (h:Grow a b) (k:Grow b c):Grow a c:=Below.trans h (k.mono h.size)
theorem Grow.drew {w w':World} (h:Grow w w'):Grow w w'.drew:=Below.drew h
structure pU where
 rel:World→World→Prop
 refl:∀ w,rel w w
def pU.grow:pU:=⟨Grow,Grow.refl⟩
def pU.still:pU:=⟨fun w w'=>w=w',fun _=>rfl⟩
def cz (P:Program) (R:Value→World→Prop):Result Next→Prop
 | .ok (.value u) w'=>R u w'
 | .ok .skip w'=>R undef w'
 | .ok (.enter f args) w'=>Calls P f args w' (fun e w''=>∃ u,e=.returned u∧R u w'')
 | _=>False
abbrev Fact:=Nat→Value→World→Prop
abbrev Kind:=Option (Value ⊕ Fact)
structure cQ where
 G:World→World→Prop
 T:Nat→World→World→Prop
 I:Nat→World→Prop
 muts:List Nat
 stage:Nat→Option Nat
 q:pU:=pU.grow
def dI (j:Nat):List Nat→Nat→Option Nat
 | [],_=>none
 | x :: l,t=>if x=j then some t else dI j l (t+1)
theorem ox {j:Nat}:∀ {l:List Nat} {t k:Nat},dI j l t=some k→t≤k∧l[k-t]?=some j
 | [],_,_,h=>by cases h
 | x :: l,t,k,h=>by
   unfold dI at h
   split at h
   ·rename_i hx
    injection h with h
    subst h;subst hx
    simp
   ·obtain⟨h1,h2⟩:=ox h
    refine⟨by omega,?_⟩
    rw[show k-t=(k-(t+1))+1 by omega,List.getElem?_cons_succ]
    exact h2
theorem oy {j:Nat}:∀ {l:List Nat} {t:Nat},dI j l t=none→j ∉ l
 | [],_,_=>by simp
 | x :: l,t,h=>by
   unfold dI at h
   split at h
   ·cases h
   ·rename_i hx
    simp only[aF,not_or]
    exact⟨fun e=>hx e.symm,oy h⟩
def cQ.before (S:cQ) (j k:Nat) (w:World):Prop:=S.I k w∧∀ k',S.stage j=some k'→k=k'
def cQ.behind (S:cQ) (j k:Nat) (w w':World):Prop:=match dI j S.muts 0 with
 | none=>S.q.rel w w'
 | some _=>S.T k w w'∧S.I (k+1) w'
def cQ.next (S:cQ) (j k:Nat):Nat:=match dI j S.muts 0 with
 | none=>k
 | some _=>k+1
section
variable (P:Program) (ops:Array Oper) (A:Nat→List Nat) (K:Nat→Kind) (S:cQ) (w0:World) (k0 m:Nat)
def eM (i:Nat):Option Tmp:=(ops[i]?).bind (·.dst)
def dd (as:List Nat) (k:Nat):List (Nat×Value×Fact)→World→Prop
 | [],_=>True
 | (i,v,φ) :: F,w=>if as.contains i then φ k v w∧dd as k F w else dd as k F w
def lZ (k:Nat):List (Nat×Value×Fact)→World→Prop
 | [],_=>True
 | (_,v,φ) :: F,w=>φ k v w∧lZ k F w
def eK (tail:Act→World→Prop):List Oper→Nat→Act→List (Nat×Value×Fact)→Prop
 | [],_,a,F=>∀ w,S.G w0 w→S.I S.muts.length w→lZ S.muts.length F w→tail a w
 | o :: l,j,a,F=>
   if Region.wanted o (yielded ops a.tmps)=true then
    match K j with
    | none=>∃ v0,(∀ k w,S.G w0 w→S.before j k w→dd (A j) k F w→∃ w',(execOp a.eval o).run P w=.ok (.value v0) w'∧S.behind j k w w')∧eK tail l (j+1) (a.put o.dst v0) F
    | some (.inl c)=>(∀ k w,S.G w0 w→S.before j k w→dd (A j) k F w→cz P (fun u w'=>u=c∧S.behind j k w w') ((execOp a.eval o).run P w))∧eK tail l (j+1) (a.put o.dst c) F
    | some (.inr φ)=>(∀ k w,S.G w0 w→S.before j k w→dd (A j) k F w→cz P (fun u w'=>S.behind j k w w'∧φ (S.next j k) u w') ((execOp a.eval o).run P w))∧∀ v,eK tail l (j+1) (a.put o.dst v) ((j,v,φ) :: F)
   else dI j S.muts 0=none∧eK tail l (j+1) (a.put o.dst undef) F
def laid (a0:Act) (D:Nat→Value) (U:Nat→Bool) (l:List Nat):Act:=l.foldl (fun a i=>if U i then a.put (eM ops i) (D i) else a) a0
def cO (a0:Act) (D:Nat→Value) (j:Nat):Act:=laid ops a0 D (fun i=>decide (k0≤i)) (aY j)
def wantedAt (a0:Act) (D:Nat→Value) (i:Nat):Prop:=∃ o,ops[i]?=some o∧Region.wanted o (yielded ops (cO ops k0 a0 D i).tmps)=true
def fU (a0:Act) (D:Nat→Value) (as:List Nat) (k:Nat) (w:World):Prop:=∀ i φ,i∈as→K i=some (.inr φ)→wantedAt ops k0 a0 D i→φ k (D i) w
def ahead (j:Nat):List Nat:=(A j).filter fun i=>decide (k0≤i) && decide (i<j)
structure Flow (a0:Act) (V D:Nat→Value):Prop where
 skip:∀ j o,k0≤j→j<m→ops[j]?=some o→Region.wanted o (yielded ops (cO ops k0 a0 D j).tmps)=false→D j=undef∧dI j S.muts 0=none
 OP:∀ j o,k0≤j→j<m→ops[j]?=some o→Region.wanted o (yielded ops (cO ops k0 a0 D j).tmps)=true→K j=none→
  ∀ k w,S.G w0 w→S.before j k w→fU ops K k0 a0 D (ahead A k0 j) k w→∃ w',(execOp (cO ops k0 a0 D j).eval o).run P w=.ok (.value (D j)) w'∧S.behind j k w w'
 val:∀ j o c,k0≤j→j<m→ops[j]?=some o→Region.wanted o (yielded ops (cO ops k0 a0 D j).tmps)=true→K j=some (.inl c)→
  D j=c∧∀ k w,S.G w0 w→S.before j k w→fU ops K k0 a0 D (ahead A k0 j) k w→cz P (fun u w'=>u=c∧S.behind j k w w') ((execOp (cO ops k0 a0 D j).eval o).run P w)
 any:∀ j o φ,k0≤j→j<m→ops[j]?=some o→Region.wanted o (yielded ops (cO ops k0 a0 D j).tmps)=true→K j=some (.inr φ)→
  D j=V j∧∀ k w,S.G w0 w→S.before j k w→fU ops K k0 a0 D (ahead A k0 j) k w→cz P (fun u w'=>S.behind j k w w'∧φ (S.next j k) u w') ((execOp (cO ops k0 a0 D j).eval o).run P w)
end
theorem g9 (ops:Array Oper) (a0:Act) (D:Nat→Value) (U:Nat→Bool) (l l':List Nat):laid ops a0 D U (l++l')=laid ops (laid ops a0 D U l) D U l':=by
 simp[laid]
theorem rF (ops:Array Oper) {k0:Nat} (a0:Act) (D:Nat→Value) (j:Nat) (hj:k0≤j):cO ops k0 a0 D (j+1)=(cO ops k0 a0 D j).put (eM ops j) (D j):=by
 unfold cO
 rw[List.range_succ,g9]
 simp[laid,hj]
theorem oz (ops:Array Oper) (D D':Nat→Value) (U:Nat→Bool):∀ (l:List Nat) (a0:Act),(∀ i∈l,U i=true→D i=D' i)→laid ops a0 D U l=laid ops a0 D' U l
 | [],_,_=>rfl
 | i :: l,a0,h=>by
   have ih:=oz ops D D' U l
   show laid ops (if U i then a0.put (eM ops i) (D i) else a0) D U l=laid ops (if U i then a0.put (eM ops i) (D' i) else a0) D' U l
   by_cases hs:U i=true
   ·rw[if_pos hs,if_pos hs,h i (by simp) hs];exact ih _ (fun k hk=>h k (by simp[hk]))
   ·rw[if_neg hs,if_neg hs];exact ih _ (fun k hk=>h k (by simp[hk]))
theorem ll (a:Act) (d:Option Tmp) (v:Value):(a.put d v).tmps.size=a.tmps.size:=by
 cases d<;>simp[Act.put]
theorem kp {a:Act} {d:Option Tmp} {v:Value} {t:Tmp} (h:d≠some t):(a.put d v).tmps[t]?=a.tmps[t]?:=by
 cases d with
 | none=>rfl
 | some d=>simp[Act.put,Array.getElem?_setIfInBounds_ne (show d≠t from fun e=>h (by rw[e]))]
theorem sV {a b:Act} {t:Tmp} {v:Value} (h:a.tmps.size=b.tmps.size):(a.put (some t) v).tmps[t]?=(b.put (some t) v).tmps[t]?:=by
 simp[Act.put,Array.getElem?_setIfInBounds,h]
theorem qw (ops:Array Oper) (D:Nat→Value) (U U':Nat→Bool) (t:Tmp):∀ (l:List Nat) (a b:Act),a.tmps.size=b.tmps.size→a.tmps[t]?=b.tmps[t]?→
 (∀ i∈l,eM ops i=some t→U i=U' i)→(laid ops a D U l).tmps[t]?=(laid ops b D U' l).tmps[t]?∧(laid ops a D U l).tmps.size=(laid ops b D U' l).tmps.size
 | [],a,b,hs,h,_=>⟨h,hs⟩
 | i :: l,a,b,hs,h,hw=>by
   have ih:=qw ops D U U' t l
   show (laid ops (if U i then a.put (eM ops i) (D i) else a) D U l).tmps[t]?=(laid ops (if U' i then b.put (eM ops i) (D i) else b) D U' l).tmps[t]?∧
    (laid ops (if U i then a.put (eM ops i) (D i) else a) D U l).tmps.size=(laid ops (if U' i then b.put (eM ops i) (D i) else b) D U' l).tmps.size
   refine ih _ _ ?_ ?_ (fun k hk=>hw k (by simp[hk]))
   ·split<;>split<;>simp[ll,hs]
   ·by_cases hd:eM ops i=some t
    ·have:=hw i (by simp) hd
     rw[this]
     by_cases hs':U' i=true
     ·rw[if_pos hs',if_pos hs',hd];exact sV hs
     ·rw[if_neg hs',if_neg hs'];exact h
    ·have e1:(if U i then a.put (eM ops i) (D i) else a).tmps[t]?=a.tmps[t]?:=by split;exact kp hd;rfl
     have e2:(if U' i then b.put (eM ops i) (D i) else b).tmps[t]?=b.tmps[t]?:=by split;exact kp hd;rfl
     rw[e1,e2,h]
theorem sW (ops:Array Oper) (D:Nat→Value) (U:Nat→Bool) (d:Option Tmp) (v:Value):∀ (l:List Nat) (a:Act),(∀ i∈l,U i=true→∀ t,d=some t→eM ops i≠some t)→
 laid ops (a.put d v) D U l=(laid ops a D U l).put d v
 | [],_,_=>rfl
 | i :: l,a,h=>by
   have ih:=sW ops D U d v l
   show laid ops (if U i then (a.put d v).put (eM ops i) (D i) else a.put d v) D U l=(laid ops (if U i then a.put (eM ops i) (D i) else a) D U l).put d v
   by_cases hs:U i=true
   ·rw[if_pos hs,if_pos hs,Act.put_comm a v (D i) (fun t ht=>h i (by simp) hs t ht)]
    exact ih _ (fun k hk=>h k (by simp[hk]))
   ·rw[if_neg hs,if_neg hs];exact ih _ (fun k hk=>h k (by simp[hk]))
def mM (ops:Array Oper) (A:Nat→List Nat):Bool:=
 Region.noSelect ops &&
 (aY ops.size).all fun j=>match ops[j]? with
  | none=>true
  | some o=>
    ((A j).all fun i=>o.after.toList.any fun e=>Region.binds .any e && (e.on == i || (A e.on).contains i)) &&
    (o.after.toList.all fun e => !Region.binds .any e || decide (e.on<j)) &&
    ((aY ops.size).all fun i=>i == j || match eM ops i with
      | none=>true
      | some t=>if (o.looksAt ops).contains t || o.dst == some t then (if i<j then (A j).contains i else (A i).contains j) else true)
structure g_ (ops:Array Oper) (A:Nat→List Nat):Prop where
 sel:Region.noSelect ops=true
 near:∀ j o i,ops[j]?=some o→i∈A j→∃ e∈o.after,Region.binds .any e=true∧(e.on=i∨i∈A e.on)
 back:∀ j o e,ops[j]?=some o→e∈o.after→Region.binds .any e=true→e.on<j
 clash:∀ j o i t,ops[j]?=some o→i≠j→eM ops i=some t→(t∈o.looksAt ops∨o.dst=some t)→(i<j→i∈A j)∧(j<i→j∈A i)
theorem Bl {ops:Array Oper} {i:Nat} {t:Tmp} (h:eM ops i=some t):i<ops.size:=by
 rcases bn i ops.size with h1|h1
 ·exact h1
 ·unfold eM at h;rw[Array.getElem?_eq_none h1] at h;cases h
theorem nD {ops:Array Oper} {A:Nat→List Nat} (h:mM ops A=true):g_ ops A:=by
 unfold mM at h
 simp only[aS,List.all_eq_true,List.mem_range] at h
 obtain⟨hs,h⟩:=h
 have hj:∀ j o,ops[j]?=some o→_:=fun j o ho=>by
  have h1:=h j (Array.getElem?_eq_some_iff.1 ho).1
  rw[ho] at h1
  simp only[aS,List.all_eq_true,List.any_eq_true,Bool.or_eq_true,Bool.not_eq_true',decide_eq_true_eq,beq_iff_eq,bz,List.mem_range] at h1
  exact h1
 refine⟨hs,fun j o i ho hi=>?_,fun j o e ho he hb=>?_,fun j o i t ho hne hd ht=>?_⟩
 ·obtain⟨e,he,hb⟩:=(hj j o ho).1.1 i hi
  exact⟨e,by simpa using he,hb⟩
 ·rcases (hj j o ho).1.2 e (by simpa using he) with h1|h1
  ·rw[hb] at h1;cases h1
  ·exact h1
 ·have h1:=(hj j o ho).2 i (Bl hd)
  rcases h1 with h1|h1
  ·exact absurd h1 hne
  ·rw[hd] at h1
   simp only at h1
   rw[if_pos (by simpa [bz] using ht)] at h1
   refine⟨fun hlt=>?_,fun hlt=>?_⟩
   ·rw[if_pos hlt] at h1;simpa [bz] using h1
   ·rw[if_neg al] at h1;simpa [bz] using h1
def oA (n:Nat) (A:Nat→List Nat) (k0 m:Nat):Bool:=
 decide (k0≤m) && decide (m≤n) && (aY n).all fun j=>decide (j<m) || (aY m).all fun i=>decide (i<k0) || (A j).contains i
structure xM (n:Nat) (A:Nat→List Nat) (k0 m:Nat):Prop where
 le:k0≤m
 le':m≤n
 wait:∀ j i,j<n→m≤j→k0≤i→i<m→i∈A j
theorem oB {n:Nat} {A:Nat→List Nat} {k0 m:Nat} (h:oA n A k0 m=true):xM n A k0 m:=by
 unfold oA at h
 simp only[aS,List.all_eq_true,List.mem_range,decide_eq_true_eq,Bool.or_eq_true,bz] at h
 refine⟨h.1.1,h.1.2,fun j i hj hm hk hi=>?_⟩
 rcases h.2 j hj with h1|h1
 ·omega
 ·rcases h1 i hi with h2|h2
  ·omega
  ·exact h2
def kq (A:Nat→List Nat) (k0 m:Nat) (muts:List Nat) (stage:Nat→Option Nat):Bool:=
 ((aY muts.length).all fun t=>decide (k0≤muts.getD t 0) && decide (muts.getD t 0<m) && stage (muts.getD t 0) == some t && (aY t).all fun s=>(A (muts.getD t 0)).contains (muts.getD s 0)) &&
 (aY m).all fun j=>decide (j<k0) || match stage j with
  | none=>true
  | some k=>decide (k≤muts.length) && (aY muts.length).all fun t=>if t<k then (A j).contains (muts.getD t 0) else muts.getD t 0 == j || (A (muts.getD t 0)).contains j
structure sX (A:Nat→List Nat) (k0 m:Nat) (muts:List Nat) (stage:Nat→Option Nat):Prop where
 own:∀ (t i:Nat),muts[t]?=some i→k0≤i∧i<m∧stage i=some t∧∀ (s i':Nat),s<t→muts[s]?=some i'→i'∈A i
 low:∀ (j k:Nat),k0≤j→j<m→stage j=some k→k≤muts.length∧(∀ (t i:Nat),t<k→muts[t]?=some i→i∈A j)∧∀ (t i:Nat),k≤t→muts[t]?=some i→i=j∨j∈A i
theorem iY {muts:List Nat} {t i:Nat} (h:muts[t]?=some i):muts.getD t 0=i∧t<muts.length:=by
 obtain⟨h1,h2⟩:=List.getElem?_eq_some_iff.1 h
 exact⟨by simp[List.getD,h],h1⟩
theorem ln {A:Nat→List Nat} {k0 m:Nat} {muts:List Nat} {stage:Nat→Option Nat} (h:kq A k0 m muts stage=true):sX A k0 m muts stage:=by
 unfold kq at h
 simp only[aS,List.all_eq_true,List.mem_range,decide_eq_true_eq,Bool.or_eq_true,bz,beq_iff_eq] at h
 refine⟨fun t i ht=>?_,fun j k hk hj hs=>?_⟩
 ·obtain⟨e,hlt⟩:=iY ht
  obtain⟨⟨⟨h1,h2⟩,h3⟩,h4⟩:=h.1 t hlt
  rw[e] at h1 h2 h3 h4
  refine⟨h1,h2,h3,fun s i' hst hs=>?_⟩
  have:=h4 s hst
  rwa [(iY hs).1] at this
 ·rcases h.2 j hj with h1|h1
  ·omega
  ·rw[hs] at h1
   simp only[aS,List.all_eq_true,List.mem_range,decide_eq_true_eq] at h1
   refine⟨h1.1,fun t i ht hti=>?_,fun t i ht hti=>?_⟩
   ·have:=h1.2 t (iY hti).2
    rw[if_pos ht,(iY hti).1] at this
    simpa [bz] using this
   ·have:=h1.2 t (iY hti).2
    rw[if_neg al,(iY hti).1] at this
    simpa [bz] using this
section
variable {P:Program} {ops:Array Oper} {A:Nat→List Nat} {Q:Exit→Act→World→Prop}
theorem g_.lt (hA:g_ ops A):∀ j,j<ops.size→∀ i,i∈A j→i<j:=by
 intro j
 induction j using Nat.strongRecOn with
 | _ j ih=>
   intro hj i hi
   obtain⟨e,he,hb,h⟩:=hA.near j _ i (Array.getElem?_eq_getElem hj) hi
   have hlt:=hA.back j _ e (Array.getElem?_eq_getElem hj) he hb
   rcases h with h|h
   ·omega
   ·have:=ih e.on hlt al i h;omega
theorem getD_eq {listed:Array Bool} {i:Nat} (h:i<listed.size) (b c:Bool):listed.getD i b=listed.getD i c:=by
 simp[h]
theorem ready_nil (hA:g_ ops A) {listed:Array Bool} (hs:listed.size=ops.size) (h:Region.ready .any ops listed=[]):∀ i,i<ops.size→listed.getD i false=true:=by
 intro i
 induction i using Nat.strongRecOn with
 | _ i ih=>
   intro hi
   cases hl:listed.getD i false with
   | true=>rfl
   | false=>
     have hm:i∈Region.ready .any ops listed:=by
      rw[mem_ready]
      refine⟨by rw[getD_eq al true false];exact hl,_,Array.getElem?_eq_getElem hi,fun e he hb=>?_⟩
      have hlt:=hA.back i _ e (Array.getElem?_eq_getElem hi) he hb
      exact ih e.on hlt al
     rw[h] at hm
     cases hm
theorem qx (hA:g_ ops A) {listed:Array Bool} (sY:∀ j i,listed.getD j false=true→i∈A j→listed.getD i false=true) {j:Nat} {o:Oper} (ho:ops[j]?=some o)
 (hafter:∀ e∈o.after,Region.binds .any e=true→listed.getD e.on false=true):∀ i∈A j,listed.getD i false=true:=fun i hi=>by
 obtain⟨e,he,hb,h⟩:=hA.near j o i ho hi
 have hel:=hafter e he hb
 rcases h with h|h
 ·rw[←h];exact hel
 ·exact sY e.on i hel h
def eU (n k:Nat):Array Bool:=(Array.range n).map fun i=>decide (i<k)
theorem gW (n k:Nat):(eU n k).size=n:=by simp[eU]
theorem dM {n k i:Nat} (h:i<n) (b:Bool):(eU n k).getD i b=decide (i<k):=by
 simp[eU,h]
theorem ly {n k i:Nat} (h:n≤i) (b:Bool):(eU n k).getD i b=b:=by
 simp[eU,h]
theorem qy {n k:Nat} {listed:Array Bool} (hs:listed.size=n) (h:∀ i,i<n→listed.getD i false=decide (i<k)):listed=eU n k:=by
 apply Array.ext
 ·rw[hs,gW]
 ·intro i h1 h2
  have e:=h i al
  have e':=dM (n:=n) (k:=k) (i:=i) al false
  simp only[Array.getD_eq_getD_getElem?,Array.getElem?_eq_getElem h1,Option.getD_some] at e
  simp only[Array.getD_eq_getD_getElem?,Array.getElem?_eq_getElem h2,Option.getD_some] at e'
  rw[e,e']
def qz (P:Program) (ops:Array Oper) (Q:Exit→Act→World→Prop) (k:Nat) (a:Act) (w:World):Prop:=wpAny P .any ops Q (ops.size-k) (eU ops.size k) a w
theorem qA (hA:g_ ops A) {k:Nat}:∀ j i,(eU ops.size k).getD j false=true→i∈A j→(eU ops.size k).getD i false=true:=by
 intro j i hj hi
 rcases bn j ops.size with h|h
 ·rw[dM h] at hj
  have hlt:=hA.lt j h i hi
  rw[dM al]
  have:j<k:=by simpa using hj
  simp;omega
 ·rw[ly h] at hj;cases hj
theorem eY {a:Act} {w:World} (h:Q .normal a w):qz P ops Q ops.size a w:=by
 unfold qz
 rw[Nat.sub_self]
 refine⟨?_,h⟩
 cases hr:Region.ready .any ops (eU ops.size ops.size) with
 | nil=>rfl
 | cons i r=>
   have hi:i∈Region.ready .any ops (eU ops.size ops.size):=by rw[hr];simp
   obtain⟨h0,o,ho,_⟩:=mem_ready.1 hi
   have hlt:=(Array.getElem?_eq_some_iff.1 ho).1
   rw[dM hlt] at h0
   simp at h0;omega
theorem EE (hA:g_ ops A) {k:Nat} {o:Oper} (ho:ops[k]?=some o) (hseg:xM ops.size A k (k+1)) {a:Act} {w:World}
 (h:wpOp P ops Q k (qz P ops Q (k+1)) a w):qz P ops Q k a w:=by
 have hkn:=(Array.getElem?_eq_some_iff.1 ho).1
 unfold qz
 rw[show ops.size-k=(ops.size-(k+1))+1 by omega]
 refine⟨fun hr=>?_,fun i hi=>?_⟩
 ·have:=ready_nil hA (gW _ _) hr k hkn
  rw[dM hkn] at this
  simp at this
 ·obtain⟨h0,o',ho',hafter⟩:=mem_ready.1 hi
  have hin:=(Array.getElem?_eq_some_iff.1 ho').1
  rw[dM hin] at h0
  have hki:k≤i:=by simpa using h0
  have hik:i=k:=by
   rcases bn k i with h1|h1
   ·have:=qx hA (qA hA) ho' hafter k (hseg.wait i k hin al (aC _) al)
    rw[dM hkn] at this
    simp at this
   ·omega
  subst hik
  have e:(eU ops.size i).setIfInBounds i true=eU ops.size (i+1):=by
   apply qy
   ·simp[gW]
   ·intro j hj
    by_cases hji:i=j
    ·subst hji;simp[gW,hin]
    ·rw[getD_set_ne false hji,dM hj]
     simp;omega
  rw[e]
  exact h
theorem Bm (hA:g_ ops A):∀ (l:List Oper) (k m:Nat) (a:Act) (w:World),l=(ops.toList.take m).drop k→k≤m→m≤ops.size→(∀ i,k≤i→i<m→xM ops.size A i (i+1))→
 wpList P ops (Exit.then (qz P ops Q m) Q) l a w→qz P ops Q k a w:=by
 intro l
 induction l with
 | nil=>
   intro k m a w hl hk hm _ h
   have hkm:k=m:=by
    have h1:((ops.toList.take m).drop k).length=0:=by rw[←hl];rfl
    simp at h1
    omega
   subst hkm
   exact h
 | cons o l ih=>
   intro k m a w hl hk hm hseg h
   have hkm:k<m:=by
    rcases bn k m with h1|h1
    ·exact h1
    ·rw[bD (by simp;omega)] at hl;cases hl
   have hlen:k<(ops.toList.take m).length:=by simp;omega
   have hdrop:=List.drop_eq_getElem_cons hlen
   rw[←hl] at hdrop
   injection hdrop with ho hl'
   have ho':ops[k]?=some o:=by rw[ho];simp
   refine EE hA ho' (hseg k (aC _) hkm) ?_
   have hstep:wpOp P ops (Exit.then (qz P ops Q m) Q) k (wpList P ops (Exit.then (qz P ops Q m) Q) l) a w:=by
    unfold wpOp
    rw[ho']
    unfold wpList at h
    exact h
   have h2:wpOp P ops (Exit.then (qz P ops Q m) Q) k (qz P ops Q (k+1)) a w:=wpOp_mono (fun a' w' h'=>ih (k+1) m a' w' hl' al hm (fun i hi him=>hseg i al him) h') hstep
   -- the two posts differ at the normal end alone
   unfold wpOp at h2 ⊢
   rw[ho'] at h2 ⊢
   simp only at h2 ⊢
   split
   ·rename_i hw
    rw[if_pos hw] at h2
    refine h2.imp (fun h3=>?_) (fun h3=>⟨h3.1,?_⟩)
    ·unfold Oper.wp at h3 ⊢
     generalize (execOp a.eval o).run P w=r at *
     cases r with
     | ok n w'=>
       cases n<;>simp only[Oper.upon] at h3 ⊢<;>first
        | exact h3
        | exact Calls.mono h3 (fun e w'' he=>by
         cases e with
         | returned u=>exact he
         | panicked c=>exact he
         | outgrown=>obtain⟨a1,w1,h5⟩:=he;exact⟨a1,w1,h5⟩)
     | halt x w'=>cases x<;>simp only[Oper.upon] at h3 ⊢<;>exact h3
    ·obtain⟨a1,w1,h5⟩:=h3.2;exact⟨a1,w1,h5⟩
   ·rename_i hw
    rw[if_neg hw] at h2
    exact h2
def cnt (U:Nat→Bool) (l:List Nat):Nat:=(l.filter fun i => !U i).length
theorem oC {U U':Nat→Bool} {j:Nat} (h0:U j=false) (h1:U' j=true) (h:∀ i,i≠j→U' i=U i):∀ (l:List Nat),l.Nodup→(j∈l→cnt U' l+1=cnt U l)∧(j ∉ l→cnt U' l=cnt U l)
 | [],_=>⟨fun hj=>(by cases hj),fun _=>rfl⟩
 | i :: l,hn=>by
   have hn':=List.nodup_cons.1 hn
   obtain⟨ih1,ih2⟩:=oC h0 h1 h l hn'.2
   unfold cnt at ih1 ih2 ⊢
   rw[List.filter_cons,List.filter_cons]
   by_cases hij:i=j
   ·subst hij
    have:=ih2 hn'.1
    refine⟨fun _=>?_,fun hj=>absurd (by simp) hj⟩
    simp[h0,h1];omega
   ·rw[h i hij]
    refine⟨fun hj=>?_,fun hj=>?_⟩
    ·have:=ih1 (by simpa [Ne.symm hij] using hj)
     cases U i<;>simp<;>omega
    ·have:=ih2 (fun hh=>hj (by simp[hh]))
     cases U i<;>simp<;>omega
end
section
variable {P:Program} {ops:Array Oper} {A:Nat→List Nat} {K:Nat→Kind} {S:cQ} {w0:World} {k0 m:Nat} {Q:Exit→Act→World→Prop}
theorem kQ (D:Nat→Value) (U:Nat→Bool):∀ (l:List Nat) (a:Act),(∀ i∈l,U i=false)→laid ops a D U l=a
 | [],_,_=>rfl
 | i :: l,a,h=>by
   show laid ops (if U i then a.put (eM ops i) (D i) else a) D U l=a
   rw[if_neg (by rw[h i (by simp)];exact Bool.false_ne_true)]
   exact kQ D U l a (fun k hk=>h k (by simp[hk]))
theorem jk (D:Nat→Value) (U U':Nat→Bool):∀ (l:List Nat) (a:Act),(∀ i∈l,U i=U' i)→laid ops a D U l=laid ops a D U' l
 | [],_,_=>rfl
 | i :: l,a,h=>by
   show laid ops (if U i then a.put (eM ops i) (D i) else a) D U l=laid ops (if U' i then a.put (eM ops i) (D i) else a) D U' l
   rw[h i (by simp)]
   exact jk D U U' l _ (fun k hk=>h k (by simp[hk]))
theorem range_split {j n:Nat} (h:j≤n):aY n=aY j++(aY (n-j)).map (j+·):=by
 rw[←List.range_add];congr 1;omega
theorem oD (a0:Act) (D:Nat→Value) {j n:Nat} (h:j≤n):cO ops k0 a0 D j=laid ops a0 D (fun i=>decide (k0≤i) && decide (i<j)) (aY n):=by
 rw[range_split h,g9]
 rw[kQ D _ ((aY (n-j)).map (j+·)) _ (fun i hi=>by
  obtain⟨k,_,rfl⟩:=List.mem_map.1 hi
  simp)]
 unfold cO
 exact jk D _ _ _ _ (fun i hi=>by have:=List.mem_range.1 hi;simp[this])
def since (k0:Nat) (listed:Array Bool) (i:Nat):Bool:=decide (k0≤i) && listed.getD i false
theorem vg (hA:g_ ops A) {listed:Array Bool} (sY:∀ j i,listed.getD j false=true→i∈A j→listed.getD i false=true) {j:Nat} {o:Oper} (ho:ops[j]?=some o) (hj:listed.getD j false=false) (hall:∀ i∈A j,listed.getD i false=true)
 (a0:Act) (D:Nat→Value) {t:Tmp} (ht:t∈o.looksAt ops):(laid ops a0 D (since k0 listed) (aY ops.size)).tmps[t]?=(cO ops k0 a0 D j).tmps[t]?:=by
 have hjn:=(Array.getElem?_eq_some_iff.1 ho).1
 rw[oD a0 D (Nat.le_of_lt hjn)]
 refine (qw ops D _ _ t _ a0 a0 rfl rfl (fun i _ hd=>?_)).1
 unfold since
 congr 1
 rcases Nat.lt_trichotomy i j with h|h|h
 ·have:=(hA.clash j o i t ho al hd (.inl ht)).1 h
  rw[hall i this];simp[h]
 ·subst h;rw[hj];simp
 ·have h1:=(hA.clash j o i t ho al hd (.inl ht)).2 h
  have h2:listed.getD i false=false:=by
   cases hs:listed.getD i false with
   | false=>rfl
   | true=>rw[sY i j hs h1] at hj;cases hj
  rw[h2];simp;omega
theorem sZ (hA:g_ ops A) {listed:Array Bool} (sY:∀ j i,listed.getD j false=true→i∈A j→listed.getD i false=true) {j:Nat} {o:Oper} (ho:ops[j]?=some o) (hj:listed.getD j false=false)
 {U':Nat→Bool} (hj':U' j=true) (hU:∀ i,i≠j→U' i=since k0 listed i)
 (a0:Act) (D:Nat→Value):laid ops a0 D U' (aY ops.size)=(laid ops a0 D (since k0 listed) (aY ops.size)).put o.dst (D j):=by
 have hjn:=(Array.getElem?_eq_some_iff.1 ho).1
 have hdst:eM ops j=o.dst:=by simp[eM,ho]
 rw[range_split (j:=j+1) (n:=ops.size) al,List.range_succ,aM,g9,g9]
 rw[g9 ops a0 D (since k0 listed),g9 ops _ D (since k0 listed)]
 have e1:laid ops a0 D U' (aY j)=laid ops a0 D (since k0 listed) (aY j):=jk D _ _ _ _ (fun i hi=>hU i (by have:=List.mem_range.1 hi;omega))
 rw[e1]
 have e2:laid ops (laid ops a0 D (since k0 listed) (aY j)) D U' [j]=(laid ops a0 D (since k0 listed) (aY j)).put o.dst (D j):=by
  show (if U' j then _ else _)=_
  rw[if_pos hj',hdst]
 have e3:laid ops (laid ops a0 D (since k0 listed) (aY j)) D (since k0 listed) [j]=laid ops a0 D (since k0 listed) (aY j):=by
  show (if since k0 listed j then _ else _)=_
  rw[if_neg (by unfold since;rw[hj];simp)]
 rw[e2,e3]
 have hgt:∀ i∈(aY (ops.size-(j+1))).map (j+1+·),j<i:=fun i hi=>by
  obtain⟨k,_,rfl⟩:=List.mem_map.1 hi
  omega
 rw[jk D U' (since k0 listed) _ _ (fun i hi=>hU i (by have:=hgt i hi;omega))]
 refine sW ops D _ o.dst (D j) _ _ (fun i hi hs t ht hd=>?_)
 have h1:=(hA.clash j o i t ho (by have:=hgt i hi;omega) hd (.inr ht)).2 (hgt i hi)
 have hs':listed.getD i false=true:=by unfold since at hs;simp only[aS] at hs;exact hs.2
 rw[sY i j hs' h1] at hj
 cases hj
theorem s_ (hA:g_ ops A) {j:Nat} {o:Oper} (ho:ops[j]?=some o) {a b:Act} (h:∀ t∈o.looksAt ops,a.tmps[t]?=b.tmps[t]?) :
 execOp a.eval o=execOp b.eval o:=by
 refine execOp_congr o (Region.noSelect_spec hA.sel j o · · ho) (fun x hx=>?_)
 cases x with
 | tmp t=>
   have:=h t (List.mem_append_left _ (List.mem_filterMap.2 ⟨.tmp t,by simpa using hx,rfl⟩))
   simp only[Act.eval,Array.getD_eq_getD_getElem?,this]
 | _=>rfl
theorem t2 {o:Oper} {a b:Act} (h:∀ t∈o.looksAt ops,a.tmps[t]?=b.tmps[t]?) :
 Region.wanted o (yielded ops a.tmps)=Region.wanted o (yielded ops b.tmps):=by
 unfold Region.wanted
 cases hg:o.guard with
 | none=>rfl
 | some gw=>
   obtain⟨g,want⟩:=gw
   have hy:yielded ops a.tmps g=yielded ops b.tmps g:=by
    unfold yielded
    cases ht:(ops[g]?).bind (·.dst) with
    | none=>rfl
    | some t=>
      have:=h t (List.mem_append_right _ (by simp[hg,ht]))
      simp[this]
   simp only[hy]
end
section
variable {P:Program} {ops:Array Oper} {A:Nat→List Nat} {K:Nat→Kind} {S:cQ} {w0:World} {k0 m:Nat} {Q:Exit→Act→World→Prop} {a0:Act}
structure K0 (P:Program) (ops:Array Oper) (A:Nat→List Nat) (K:Nat→Kind) (S:cQ) (w0:World) (k0 m:Nat) (a0:Act) (listed:Array Bool) (a:Act) (w:World):Prop where
 size:listed.size=ops.size
 down:∀ j i,listed.getD j false=true→i∈A j→listed.getD i false=true
 low:∀ i,i<k0→listed.getD i false=true
 flow:∀ j,listed.getD j false=true→j<m
 grow:S.G w0 w
 OQ:∃ k,k≤S.muts.length∧(∀ (t i:Nat),S.muts[t]?=some i→(listed.getD i false=true↔t<k))∧S.I k w∧
  ∃ Vs:Nat→Value,∀ V D,(∀ i,listed.getD i false=true→V i=Vs i)→Flow P ops A K S w0 k0 m a0 V D→
  a=laid ops a0 D (since k0 listed) (aY ops.size)∧∀ i φ,k0≤i→listed.getD i false=true→K i=some (.inr φ)→wantedAt ops k0 a0 D i→φ k (D i) w
theorem qB {o:Oper} {a:Act} {N:Act→World→Prop} {R:Value→World→Prop} {r:Result Next} (h:cz P R r) (hN:∀ u w',R u w'→N (a.put o.dst u) w'):o.upon P a N Q r:=by
 cases r with
 | ok n w'=>
   cases n with
   | value u=>exact hN u w' h
   | skip=>exact hN undef w' h
   | enter f args=>exact Calls.mono h (fun e w'' ⟨u,he,hr⟩=>by subst he;exact hN u w'' hr)
   | _=>exact h.elim
 | halt x w'=>exact h.elim
theorem yD (hA:g_ ops A) (hseg:xM ops.size A k0 m) (hst:sX A k0 m S.muts S.stage) (GK:∀ a b c,S.G a b→S.G b c→S.G a c) (hgr:∀ a b,S.q.rel a b→S.G a b) (htu:∀ k a b,S.T k a b→S.G a b)
 (hI:∀ k a b,S.I k a→S.q.rel a b→S.I k b) (hcl:∀ j φ,K j=some (.inr φ)→∀ k u w w',φ k u w→(S.q.rel w w'→φ k u w')∧(k<S.muts.length→S.T k w w'→φ (k+1) u w'))
 (hV:∀ V,∃ D,Flow P ops A K S w0 k0 m a0 V D∧∀ w,S.G w0 w→S.I S.muts.length w→(∀ i φ,k0≤i→i<m→K i=some (.inr φ)→wantedAt ops k0 a0 D i→φ S.muts.length (D i) w)→qz P ops Q m (cO ops k0 a0 D m) w) :
 ∀ (fuel:Nat) (listed:Array Bool) (a:Act) (w:World),K0 P ops A K S w0 k0 m a0 listed a w→cnt (fun i=>listed.getD i false) (aY ops.size)=fuel→wpAny P .any ops Q fuel listed a w:=by
 -- all the segment's operations have come up
 have hend:∀ (fuel:Nat) (listed:Array Bool) (a:Act) (w:World),K0 P ops A K S w0 k0 m a0 listed a w→(∀ i,i<m→listed.getD i false=true)→cnt (fun i=>listed.getD i false) (aY ops.size)=fuel→wpAny P .any ops Q fuel listed a w:=by
  intro fuel listed a w hI hall hf
  obtain⟨k,hk,hmt,LK,Vs,xN⟩:=hI.OQ
  obtain⟨D,hF,hfin⟩:=hV Vs
  obtain⟨ha,bR⟩:=xN Vs D (fun _ _=>rfl) hF
  have hl:∀ i,i<ops.size→listed.getD i false=decide (i<m):=fun i hi=>by
   by_cases him:i<m
   ·rw[hall i him];simp[him]
   ·cases hs:listed.getD i false with
    | false=>simp;omega
    | true=>exact absurd (hI.flow i hs) him
  have hfr:a=cO ops k0 a0 D m:=by
   rw[ha,oD a0 D hseg.le']
   exact jk D _ _ _ _ (fun i hi=>by unfold since;rw[hl i (List.mem_range.1 hi)])
  have hdone:listed=eU ops.size m:=qy hI.size hl
  have hcnt:cnt (fun i=>decide (i<m)) (aY ops.size)=ops.size-m:=by
   unfold cnt
   rw[range_split hseg.le',List.filter_append]
   have e1:((aY m).filter fun i => !decide (i<m))=[]:=by
    rw[List.filter_eq_nil_iff];intro i hi;simpa using List.mem_range.1 hi
   have e2:(((aY (ops.size-m)).map (m+·)).filter fun i => !decide (i<m))=(aY (ops.size-m)).map (m+·):=by
    rw[List.filter_eq_self];intro i hi
    obtain⟨k,_,rfl⟩:=List.mem_map.1 hi
    simp
   rw[e1,e2];simp
  have hfuel:fuel=ops.size-m:=by
   rw[←hf,←hcnt]
   unfold cnt
   congr 1
   exact List.filter_congr (fun i hi=>by show (!listed.getD i false)=!decide (i<m);rw[hl i (List.mem_range.1 hi)])
  have hkl:k=S.muts.length:=by
   rcases bn k S.muts.length with h|h
   ·exfalso
    have hg:=List.getElem?_eq_getElem h
    have h1:=(hmt k _ hg).1 (hall _ (hst.own k _ hg).2.1)
    omega
   ·omega
  subst hkl
  have:=hfin w hI.grow LK (fun i φ h0 hi hk hw=>bR i φ h0 (hall i hi) hk hw)
  rw[hfuel,hdone,hfr]
  exact this
 intro fuel
 induction fuel with
 | zero=>
   intro listed a w hI hf
   refine hend 0 listed a w hI (fun i hi=>?_) hf
   cases hs:listed.getD i false with
   | true=>rfl
   | false=>
     have hmem:i∈(aY ops.size).filter (fun i => !listed.getD i false):=List.mem_filter.2 ⟨List.mem_range.2 (aA hi hseg.le'),by simp[hs]⟩
     have h0:((aY ops.size).filter (fun i => !listed.getD i false))=[]:=aJ hf
     rw[h0] at hmem;cases hmem
 | succ fuel ih=>
   intro listed a w hInv hf
   by_cases hall:∀ i,i<m→listed.getD i false=true
   ·exact hend (fuel+1) listed a w hInv hall hf
   ·obtain⟨kx,hkx⟩:=Classical.not_forall.1 hall
    obtain⟨K1,GL⟩:=Classical.not_imp.1 hkx
    refine⟨fun hr=>absurd (ready_nil hA hInv.size hr kx (aA K1 hseg.le')) GL,fun j hj=>?_⟩
    obtain⟨h0,o,ho,hafter⟩:=mem_ready.1 hj
    have hjn:=(Array.getElem?_eq_some_iff.1 ho).1
    have hjl:listed.getD j false=false:=by rw[←getD_eq (by rw[hInv.size];omega) true false];exact h0
    have Bn:=qx hA hInv.down ho hafter
    have hjk:k0≤j:=by
     rcases bn j k0 with h|h
     ·rw[hInv.low j h] at hjl;cases hjl
     ·exact h
    have hjm:j<m:=by
     rcases bn j m with h|h
     ·exact h
     ·have hkk:k0≤kx:=by
       rcases bn kx k0 with h'|h'
       ·exact absurd (hInv.low kx h') GL
       ·exact h'
      exact absurd (Bn kx (hseg.wait j kx hjn h hkk K1)) GL
    obtain⟨k,hk,hmt,LK,Vs,xN⟩:=hInv.OQ
    have hkeq:∀ k',S.stage j=some k'→k'=k:=by
     intro k' hs
     obtain⟨g1,g2,g3⟩:=hst.low j k' hjk hjm hs
     rcases Nat.lt_trichotomy k k' with h|h|h
     ·exfalso
      have hg:S.muts[k]?=some (S.muts[k]'al):=List.getElem?_eq_getElem al
      have:=(hmt k _ hg).1 (Bn _ (g2 k _ h hg))
      omega
     ·exact h.symm
     ·exfalso
      have hg:S.muts[k']?=some (S.muts[k']'al):=List.getElem?_eq_getElem al
      have h1:=(hmt k' _ hg).2 h
      rcases g3 k' _ (aC _) hg with h2|h2
      ·rw[h2] at h1;rw[h1] at hjl;cases hjl
      ·rw[hInv.down _ j h1 h2] at hjl;cases hjl
    have hbef:S.before j k w:=⟨LK,fun k' hs=>(hkeq k' hs).symm⟩
    -- what is so whatever is chosen for what has not come up
    have hread:∀ V D,(∀ i,listed.getD i false=true→V i=Vs i)→Flow P ops A K S w0 k0 m a0 V D→
     execOp a.eval o=execOp (cO ops k0 a0 D j).eval o∧Region.wanted o (yielded ops a.tmps)=Region.wanted o (yielded ops (cO ops k0 a0 D j).tmps)∧fU ops K k0 a0 D (ahead A k0 j) k w:=by
     intro V D B8 hF
     obtain⟨ha,bR⟩:=xN V D B8 hF
     have hr:∀ t∈o.looksAt ops,a.tmps[t]?=(cO ops k0 a0 D j).tmps[t]?:=fun t ht=>by
      rw[ha]
      exact vg hA hInv.down ho hjl Bn a0 D ht
     refine⟨s_ hA ho hr,t2 hr,fun i φ hi hk hw=>?_⟩
     obtain⟨h1,h2⟩:=List.mem_filter.1 hi
     simp only[aS,decide_eq_true_eq] at h2
     exact bR i φ h2.1 (Bn i h1) hk hw
    -- the next state's invariant
    have hnext:∀ (u:Value) (w':World),S.behind j k w w'→(∀ V D,(∀ i,listed.getD i false=true→V i=Vs i)→(∀ φ,K j=some (.inr φ)→Region.wanted o (yielded ops a.tmps)=true→V j=u)→Flow P ops A K S w0 k0 m a0 V D→D j=u)→
     (∀ φ,K j=some (.inr φ)→Region.wanted o (yielded ops a.tmps)=true→φ (S.next j k) u w')→wpAny P .any ops Q fuel (listed.setIfInBounds j true) (a.put o.dst u) w':=by
     intro u w' nX hD hφ
     have hset:∀ i,(listed.setIfInBounds j true).getD i false=if i=j then true else listed.getD i false:=fun i=>by
      by_cases hij:i=j
      ·subst hij;rw[if_pos rfl];simp[hInv.size,hjn]
      ·rw[if_neg hij,getD_set_ne false (Ne.symm hij)]
     have hkm:∀ t,dI j S.muts 0=some t→t=k∧S.muts[t]?=some j:=fun t hi=>by
      have htj:S.muts[t]?=some j:=by have:=(ox hi).2;simpa using this
      exact⟨hkeq t (hst.own t j htj).2.2.1,htj⟩
     have hg:S.G w w':=by
      unfold cQ.behind at nX
      cases hi:dI j S.muts 0 with
      | none=>rw[hi] at nX;exact hgr _ _ nX
      | some t=>rw[hi] at nX;exact htu k _ _ nX.1
     have hnx:S.next j k≤S.muts.length∧(∀ (t i:Nat),S.muts[t]?=some i→((listed.setIfInBounds j true).getD i false=true↔t<S.next j k))∧S.I (S.next j k) w'∧
      ∀ i φ,K i=some (.inr φ)→∀ u,φ k u w→φ (S.next j k) u w':=by
      unfold cQ.behind at nX
      unfold cQ.next
      cases hi:dI j S.muts 0 with
      | none=>
        rw[hi] at nX
        have hnot:=oy hi
        refine⟨hk,fun t i hti=>?_,hI k _ _ LK nX,fun i φ hK u hu=>(hcl i φ hK k u w w' hu).1 nX⟩
        have hij:i≠j:=fun e=>hnot (by rw[←e];exact List.mem_of_getElem? hti)
        rw[hset,if_neg hij]
        exact hmt t i hti
      | some t=>
        rw[hi] at nX
        obtain⟨hkt,htj⟩:=hkm t hi
        subst hkt
        have hown:=hst.own t j htj
        refine⟨(iY htj).2,fun t' i hti=>?_,nX.2,fun i φ hK u hu=>(hcl i φ hK t u w w' hu).2 (iY htj).2 nX.1⟩
        rw[hset]
        show _↔t'<t+1
        by_cases hij:i=j
        ·rw[if_pos hij]
         subst hij
         have:some t'=some t:=(hst.own t' i hti).2.2.1.symm.trans hown.2.2.1
         have:t'=t:=by injection this
         simp;omega
        ·rw[if_neg hij,hmt t' i hti]
         have:t'≠t:=fun e=>hij (by rw[e,htj] at hti;injection hti with hti;exact hti.symm)
         omega
     obtain⟨hn1,hn2,Ep,OR⟩:=hnx
     refine ih _ _ _ ⟨by simpa using hInv.size,fun k i hk hi=>?_,fun i hi=>?_,fun k hk=>?_,GK _ _ _ hInv.grow hg,S.next j k,hn1,hn2,Ep,fun i=>if i=j then u else Vs i,fun V D B8 hF=>?_⟩ ?_
     ·rw[hset] at hk ⊢
      split
      ·rfl
      ·by_cases hkj:k=j
       ·subst hkj;exact Bn i hi
       ·rw[if_neg hkj] at hk;exact hInv.down k i hk hi
     ·rw[hset]
      split
      ·rfl
      ·exact hInv.low i hi
     ·rw[hset] at hk
      by_cases hkj:k=j
      ·subst hkj;exact hjm
      ·rw[if_neg hkj] at hk;exact hInv.flow k hk
     ·have Mg:∀ i,listed.getD i false=true→V i=Vs i:=fun i hi=>by
       have hij:i≠j:=fun e=>by subst e;rw[hjl] at hi;cases hi
       have:=B8 i (by rw[hset,if_neg hij];exact hi)
       simp only[if_neg hij] at this
       exact this
      have hVj:V j=u:=by
       have:=B8 j (by rw[hset,if_pos rfl])
       simp only[if_true] at this
       exact this
      obtain⟨ha,bR⟩:=xN V D Mg hF
      have B9:=hD V D Mg (fun _ _ _=>hVj) hF
      refine⟨?_,fun i φ h0 hi hk hw=>?_⟩
      ·rw[sZ hA hInv.down ho hjl (U':=since k0 (listed.setIfInBounds j true)) (by unfold since;rw[hset,if_pos rfl];simpa using hjk) (fun i hi=>by unfold since;rw[hset,if_neg hi]) a0 D,←ha,B9]
      ·rw[hset] at hi
       by_cases hij:i=j
       ·subst hij
        rw[B9]
        obtain⟨o',ho',hw'⟩:=hw
        rw[ho] at ho';cases ho'
        exact hφ φ hk (by rw[(hread V D Mg hF).2.1];exact hw')
       ·rw[if_neg hij] at hi
        exact OR i φ hk _ (bR i φ h0 hi hk hw)
     ·have:=(oC (U:=fun i=>listed.getD i false) (U':=fun i=>(listed.setIfInBounds j true).getD i false) (j:=j) hjl (by show (listed.setIfInBounds j true).getD j false=true;rw[hset,if_pos rfl])
       (fun i hi=>by show (listed.setIfInBounds j true).getD i false=listed.getD i false;rw[hset,if_neg hi]) (aY ops.size) List.nodup_range).1 (List.mem_range.2 hjn)
      omega
    obtain⟨D0,dX,_⟩:=hV Vs
    obtain⟨GM,mN,GN⟩:=hread Vs D0 (fun _ _=>rfl) dX
    unfold wpOp
    rw[ho]
    simp only
    cases hwt:Region.wanted o (yielded ops a.tmps) with
    | false=>
      rw[if_neg Bool.false_ne_true]
      refine hnext undef w ?_ (fun V D B8 _ hF=>?_) (fun φ _ h=>by rw[hwt] at h;cases h)
      ·unfold cQ.behind
       rw[(dX.skip j o hjk hjm ho (by rw[←mN];exact hwt)).2]
       exact S.q.refl w
      ·exact (hF.skip j o hjk hjm ho (by rw[←(hread V D B8 hF).2.1];exact hwt)).1
    | true=>
      rw[if_pos rfl]
      refine .inl ?_
      unfold Oper.wp
      rw[mN] at hwt
      cases hK:K j with
      | none=>
        obtain⟨w',hrun,hg⟩:=dX.OP j o hjk hjm ho hwt hK k w hInv.grow hbef GN
        rw[←GM] at hrun
        rw[hrun]
        refine hnext (D0 j) w' hg (fun V D B8 _ hF=>?_) (fun φ h=>by rw[hK] at h;cases h)
        obtain⟨hex,hwant,hfa⟩:=hread V D B8 hF
        obtain⟨w'',hrun',_⟩:=hF.OP j o hjk hjm ho (by rw[←hwant,mN];exact hwt) hK k w hInv.grow hbef hfa
        rw[←hex,hrun] at hrun'
        injection hrun' with h1 _
        injection h1 with h2
        exact h2.symm
      | some kd=>
        cases kd with
        | inl c=>
          obtain⟨hc,hrun⟩:=dX.val j o c hjk hjm ho hwt hK
          have h1:=hrun k w hInv.grow hbef GN
          rw[←GM] at h1
          refine qB h1 (fun u w' ⟨hu,hg⟩=>?_)
          subst hu
          refine hnext u w' hg (fun V D B8 _ hF=>?_) (fun φ h=>by rw[hK] at h;cases h)
          exact (hF.val j o u hjk hjm ho (by rw[←(hread V D B8 hF).2.1,mN];exact hwt) hK).1
        | inr φ=>
          obtain⟨_,hrun⟩:=dX.any j o φ hjk hjm ho hwt hK
          have h1:=hrun k w hInv.grow hbef GN
          rw[←GM] at h1
          refine qB h1 (fun u w' ⟨hg,hu⟩=>?_)
          refine hnext u w' hg (fun V D B8 Q6 hF=>?_) (fun φ' h _=>by rw[hK] at h;injection h with h;injection h with h;rw[←h];exact hu)
          rw[(hF.any j o φ hjk hjm ho (by rw[←(hread V D B8 hF).2.1,mN];exact hwt) hK).1]
          exact Q6 φ hK (by rw[mN];exact hwt)
end
section
variable {P:Program} {ops:Array Oper} {A:Nat→List Nat} {K:Nat→Kind} {S:cQ} {w0:World} {k0 m:Nat} {Q:Exit→Act→World→Prop} {a0:Act}
theorem jc {D D':Nat→Value} {j:Nat} (h:∀ i,i<j→D i=D' i):cO ops k0 a0 D j=cO ops k0 a0 D' j:=
 oz ops D D' _ _ _ (fun i hi _=>h i (List.mem_range.1 hi))
theorem ix {D D':Nat→Value} {i:Nat} (h:∀ k,k<i→D k=D' k):wantedAt ops k0 a0 D i↔wantedAt ops k0 a0 D' i:=by
 unfold wantedAt
 rw[jc h]
theorem oE {D:Nat→Value} {j k:Nat} {w:World} {as:List Nat} (hf:fU ops K k0 a0 D (as.filter fun i=>decide (k0≤i) && decide (i<j)) k w) :
 ∀ (F:List (Nat×Value×Fact)),(∀ x∈F,(k0≤x.1∧x.1<j)∧K x.1=some (.inr x.2.2)∧wantedAt ops k0 a0 D x.1∧x.2.1=D x.1)→dd as k F w
 | [],_=>trivial
 | (i,v,φ) :: F,h=>by
   have ih:=oE hf F (fun x hx=>h x (by simp[hx]))
   obtain⟨h1,h2,h3,h4⟩:=h (i,v,φ) (by simp)
   unfold dd
   split
   ·rename_i hc
    refine⟨?_,ih⟩
    simp only at h1 h2 h3 h4
    rw[h4]
    exact hf i φ (List.mem_filter.2 ⟨by simpa [bz] using hc,by simpa using h1⟩) h2 h3
   ·exact ih
theorem nE {D:Nat→Value} {k:Nat} {w:World} (hf:∀ i φ,k0≤i→i<m→K i=some (.inr φ)→wantedAt ops k0 a0 D i→φ k (D i) w) :
 ∀ (F:List (Nat×Value×Fact)),(∀ x∈F,(k0≤x.1∧x.1<m)∧K x.1=some (.inr x.2.2)∧wantedAt ops k0 a0 D x.1∧x.2.1=D x.1)→lZ k F w
 | [],_=>trivial
 | (i,v,φ) :: F,h=>by
   have ih:=nE hf F (fun x hx=>h x (by simp[hx]))
   obtain⟨h1,h2,h3,h4⟩:=h (i,v,φ) (by simp)
   refine⟨?_,ih⟩
   simp only at h1 h2 h3 h4
   rw[h4]
   exact hf i φ h1.1 h1.2 h2 h3
theorem vh (hm:m≤ops.size) (tail:Act→World→Prop) (V:Nat→Value):∀ (l:List Oper) (j:Nat) (D':Nat→Value) (F:List (Nat×Value×Fact)),
 l=(ops.toList.take m).drop j→k0≤j→j≤m→(∀ x∈F,(k0≤x.1∧x.1<j)∧K x.1=some (.inr x.2.2)∧wantedAt ops k0 a0 D' x.1∧x.2.1=D' x.1)→
 eK P ops A K S w0 tail l j (cO ops k0 a0 D' j) F→
 ∃ D,(∀ i,i<j→D i=D' i)∧
   (∀ k o,j≤k→k<m→ops[k]?=some o→Region.wanted o (yielded ops (cO ops k0 a0 D k).tmps)=false→D k=undef∧dI k S.muts 0=none)∧
   (∀ k o,j≤k→k<m→ops[k]?=some o→Region.wanted o (yielded ops (cO ops k0 a0 D k).tmps)=true→K k=none→
    ∀ t w,S.G w0 w→S.before k t w→fU ops K k0 a0 D (ahead A k0 k) t w→∃ w',(execOp (cO ops k0 a0 D k).eval o).run P w=.ok (.value (D k)) w'∧S.behind k t w w')∧
   (∀ k o c,j≤k→k<m→ops[k]?=some o→Region.wanted o (yielded ops (cO ops k0 a0 D k).tmps)=true→K k=some (.inl c)→
    D k=c∧∀ t w,S.G w0 w→S.before k t w→fU ops K k0 a0 D (ahead A k0 k) t w→cz P (fun u w'=>u=c∧S.behind k t w w') ((execOp (cO ops k0 a0 D k).eval o).run P w))∧
   (∀ k o φ,j≤k→k<m→ops[k]?=some o→Region.wanted o (yielded ops (cO ops k0 a0 D k).tmps)=true→K k=some (.inr φ)→
    D k=V k∧∀ t w,S.G w0 w→S.before k t w→fU ops K k0 a0 D (ahead A k0 k) t w→cz P (fun u w'=>S.behind k t w w'∧φ (S.next k t) u w') ((execOp (cO ops k0 a0 D k).eval o).run P w))∧
   (∀ w,S.G w0 w→S.I S.muts.length w→(∀ i φ,k0≤i→i<m→K i=some (.inr φ)→wantedAt ops k0 a0 D i→φ S.muts.length (D i) w)→tail (cO ops k0 a0 D m) w):=by
 intro l
 induction l with
 | nil=>
   intro j D' F hl K2 hj hF h
   have hjm:j=m:=by
    have h1:((ops.toList.take m).drop j).length=0:=by rw[←hl];rfl
    simp at h1
    omega
   subst hjm
   refine⟨D',fun _ _=>rfl,fun k o h1 h2=>by omega,fun k o h1 h2=>by omega,fun k o c h1 h2=>by omega,fun k o φ h1 h2=>by omega,fun w hg hi hf=>?_⟩
   exact h w hg hi (nE hf F hF)
 | cons o l ih=>
   intro j D' F hl K2 hj hF h
   have hjm:j<m:=by
    rcases bn j m with h1|h1
    ·exact h1
    ·rw[bD (by simp;omega)] at hl;cases hl
   have hlen:j<(ops.toList.take m).length:=by simp;omega
   have hdrop:=List.drop_eq_getElem_cons hlen
   rw[←hl] at hdrop
   injection hdrop with ho hl'
   have ho':ops[j]?=some o:=by
    rw[ho];simp
   have hdst:eM ops j=o.dst:=by simp[eM,ho']
   -- one operation more
   have next:∀ (v:Value) (F':List (Nat×Value×Fact)),(∀ x∈F',x∈F∨(x.1=j∧x.2.1=v∧K j=some (.inr x.2.2)∧Region.wanted o (yielded ops (cO ops k0 a0 D' j).tmps)=true))→
    eK P ops A K S w0 tail l (j+1) ((cO ops k0 a0 D' j).put o.dst v) F'→
    ∃ D,(∀ i,i<j→D i=D' i)∧D j=v∧
      (∀ k o,j+1≤k→k<m→ops[k]?=some o→Region.wanted o (yielded ops (cO ops k0 a0 D k).tmps)=false→D k=undef∧dI k S.muts 0=none)∧
      (∀ k o,j+1≤k→k<m→ops[k]?=some o→Region.wanted o (yielded ops (cO ops k0 a0 D k).tmps)=true→K k=none→
       ∀ t w,S.G w0 w→S.before k t w→fU ops K k0 a0 D (ahead A k0 k) t w→∃ w',(execOp (cO ops k0 a0 D k).eval o).run P w=.ok (.value (D k)) w'∧S.behind k t w w')∧
      (∀ k o c,j+1≤k→k<m→ops[k]?=some o→Region.wanted o (yielded ops (cO ops k0 a0 D k).tmps)=true→K k=some (.inl c)→
       D k=c∧∀ t w,S.G w0 w→S.before k t w→fU ops K k0 a0 D (ahead A k0 k) t w→cz P (fun u w'=>u=c∧S.behind k t w w') ((execOp (cO ops k0 a0 D k).eval o).run P w))∧
      (∀ k o φ,j+1≤k→k<m→ops[k]?=some o→Region.wanted o (yielded ops (cO ops k0 a0 D k).tmps)=true→K k=some (.inr φ)→
       D k=V k∧∀ t w,S.G w0 w→S.before k t w→fU ops K k0 a0 D (ahead A k0 k) t w→cz P (fun u w'=>S.behind k t w w'∧φ (S.next k t) u w') ((execOp (cO ops k0 a0 D k).eval o).run P w))∧
      (∀ w,S.G w0 w→S.I S.muts.length w→(∀ i φ,k0≤i→i<m→K i=some (.inr φ)→wantedAt ops k0 a0 D i→φ S.muts.length (D i) w)→tail (cO ops k0 a0 D m) w):=by
    intro v F' hF' h'
    have hc:∀ i,i<j→(fun i=>if i=j then v else D' i) i=D' i:=fun i hi=>if_neg al
    have hfr:cO ops k0 a0 (fun i=>if i=j then v else D' i) (j+1)=(cO ops k0 a0 D' j).put o.dst v:=by
     rw[rF _ _ _ _ K2,hdst,jc hc]
     simp
    obtain⟨D,hD,r1,r2,r3,r4,r5⟩:=ih (j+1) (fun i=>if i=j then v else D' i) F' hl' al al (fun x hx=>by
     rcases hF' x hx with h1|⟨h1,h2,h3,h4⟩
     ·obtain⟨g1,g2,g3,g4⟩:=hF x h1
      refine⟨⟨g1.1,by omega⟩,g2,(ix (fun k hk=>hc k al)).2 g3,?_⟩
      rw[g4];exact (hc x.1 g1.2).symm
     ·refine⟨⟨by omega,by omega⟩,by rw[h1];exact h3,?_,by rw[h1];simp[h2]⟩
      rw[h1]
      exact (ix hc).2 ⟨o,ho',h4⟩) (by rw[hfr];exact h')
    refine⟨D,fun i hi=>(hD i al).trans (hc i hi),?_,r1,r2,r3,r4,r5⟩
    have:=hD j al
    simpa using this
   have lift:∀ D:Nat→Value,(∀ i,i<j→D i=D' i)→cO ops k0 a0 D j=cO ops k0 a0 D' j:=fun D hD=>jc hD
   have facts:∀ D:Nat→Value,(∀ i,i<j→D i=D' i)→∀ t w,fU ops K k0 a0 D (ahead A k0 j) t w→dd (A j) t F w:=fun D hD t w hf=>
    oE hf F (fun x hx=>by
     obtain⟨g1,g2,g3,g4⟩:=hF x hx
     exact⟨g1,g2,(ix (fun k hk=>hD k al)).2 g3,g4.trans (hD x.1 g1.2).symm⟩)
   unfold eK at h
   cases hwt:Region.wanted o (yielded ops (cO ops k0 a0 D' j).tmps) with
   | false=>
     rw[hwt,if_neg Bool.false_ne_true] at h
     obtain⟨D,hD,B9,r1,r2,r3,r4,r5⟩:=next undef F (fun x hx => .inl hx) h.2
     refine⟨D,hD,fun k o' h1 h2 h3 h4=>?_,fun k o' h1 h2 h3 h4=>?_,fun k o' c h1 h2 h3 h4=>?_,fun k o' φ h1 h2 h3 h4=>?_,r5⟩<;>by_cases hkj:k=j
     ·subst hkj;exact⟨B9,h.1⟩
     ·exact r1 k o' al h2 h3 h4
     ·subst hkj;rw[ho'] at h3;cases h3;rw[lift D hD,hwt] at h4;cases h4
     ·exact r2 k o' al h2 h3 h4
     ·subst hkj;rw[ho'] at h3;cases h3;rw[lift D hD,hwt] at h4;cases h4
     ·exact r3 k o' c al h2 h3 h4
     ·subst hkj;rw[ho'] at h3;cases h3;rw[lift D hD,hwt] at h4;cases h4
     ·exact r4 k o' φ al h2 h3 h4
   | true=>
     rw[hwt,if_pos rfl] at h
     cases hK:K j with
     | none=>
       simp only[hK] at h
       obtain⟨v0,hrun,h⟩:=h
       obtain⟨D,hD,B9,r1,r2,r3,r4,r5⟩:=next v0 F (fun x hx => .inl hx) h
       refine⟨D,hD,fun k o' h1 h2 h3 h4=>?_,fun k o' h1 h2 h3 h4=>?_,fun k o' c h1 h2 h3 h4=>?_,fun k o' φ h1 h2 h3 h4=>?_,r5⟩<;>by_cases hkj:k=j
       ·subst hkj;rw[ho'] at h3;cases h3;rw[lift D hD,hwt] at h4;cases h4
       ·exact r1 k o' al h2 h3 h4
       ·subst hkj;rw[ho'] at h3;cases h3
        intro _ t w hg hb hf
        rw[lift D hD,B9]
        exact hrun t w hg hb (facts D hD t w hf)
       ·exact r2 k o' al h2 h3 h4
       ·subst hkj;intro h5;rw[hK] at h5;cases h5
       ·exact r3 k o' c al h2 h3 h4
       ·subst hkj;intro h5;rw[hK] at h5;cases h5
       ·exact r4 k o' φ al h2 h3 h4
     | some kd=>
       cases kd with
       | inl c=>
         simp only[hK] at h
         obtain⟨hrun,h⟩:=h
         obtain⟨D,hD,B9,r1,r2,r3,r4,r5⟩:=next c F (fun x hx => .inl hx) h
         refine⟨D,hD,fun k o' h1 h2 h3 h4=>?_,fun k o' h1 h2 h3 h4=>?_,fun k o' c' h1 h2 h3 h4=>?_,fun k o' φ h1 h2 h3 h4=>?_,r5⟩<;>by_cases hkj:k=j
         ·subst hkj;rw[ho'] at h3;cases h3;rw[lift D hD,hwt] at h4;cases h4
         ·exact r1 k o' al h2 h3 h4
         ·subst hkj;intro h5;rw[hK] at h5;cases h5
         ·exact r2 k o' al h2 h3 h4
         ·subst hkj;rw[ho'] at h3;cases h3
          intro h5;rw[hK] at h5;injection h5 with h5;injection h5 with h5;subst h5
          refine⟨B9,fun t w hg hb hf=>?_⟩
          rw[lift D hD]
          exact hrun t w hg hb (facts D hD t w hf)
         ·exact r3 k o' c' al h2 h3 h4
         ·subst hkj;intro h5;rw[hK] at h5;cases h5
         ·exact r4 k o' φ al h2 h3 h4
       | inr φ0=>
         simp only[hK] at h
         obtain⟨hrun,h⟩:=h
         obtain⟨D,hD,B9,r1,r2,r3,r4,r5⟩:=next (V j) ((j,V j,φ0) :: F) (fun x hx=>by
          rcases List.mem_cons.1 hx with h1|h1
          ·subst h1;exact .inr ⟨rfl,rfl,hK,hwt⟩
          ·exact .inl h1) (h (V j))
         refine⟨D,hD,fun k o' h1 h2 h3 h4=>?_,fun k o' h1 h2 h3 h4=>?_,fun k o' c' h1 h2 h3 h4=>?_,fun k o' φ h1 h2 h3 h4=>?_,r5⟩<;>by_cases hkj:k=j
         ·subst hkj;rw[ho'] at h3;cases h3;rw[lift D hD,hwt] at h4;cases h4
         ·exact r1 k o' al h2 h3 h4
         ·subst hkj;intro h5;rw[hK] at h5;cases h5
         ·exact r2 k o' al h2 h3 h4
         ·subst hkj;intro h5;rw[hK] at h5;cases h5
         ·exact r3 k o' c' al h2 h3 h4
         ·subst hkj;rw[ho'] at h3;cases h3
          intro h5;rw[hK] at h5;injection h5 with h5;injection h5 with h5;subst h5
          refine⟨B9,fun t w hg hb hf=>?_⟩
          rw[lift D hD]
          exact hrun t w hg hb (facts D hD t w hf)
         ·exact r4 k o' φ al h2 h3 h4
end
def dv (φ:Value→World→Prop):Prop:=∀ u w w',φ u w→Grow w w'→φ u w'
def jl (S:cQ) (φ:Fact):Prop:=∀ k u w w',φ k u w→(S.q.rel w w'→φ k u w')∧(k<S.muts.length→S.T k w w'→φ (k+1) u w')
def quiet:cQ:={ G:=Grow,T:=fun _ _ _=>False,I:=fun _ _=>True,muts:=[],stage:=fun _=>none }
structure cQ.Ok (S:cQ):Prop where
 trans:∀ a b c,S.G a b→S.G b c→S.G a c
 grow:∀ a b,S.q.rel a b→S.G a b
 turn:∀ k a b,S.T k a b→S.G a b
 stay:∀ k a b,S.I k a→S.q.rel a b→S.I k b
theorem Bo:quiet.Ok:=⟨fun _ _ _=>Grow.trans,fun _ _ h=>h,fun _ _ _ h=>h.elim,fun _ _ _ h _=>h⟩
theorem ca {φ:Value→World→Prop} (h:dv φ):jl quiet (fun _=>φ):=fun _ u w w' hu=>⟨h u w w' hu,fun hk=>by simp[quiet] at hk⟩
theorem vi:∀ (l:List (Nat×(Value ⊕ Fact))) (j:Nat) (x:Value ⊕ Fact),l.lookup j=some x→(j,x)∈l:=by
 intro l
 induction l with
 | nil=>intro j x h;cases h
 | cons y l ih=>
   intro j x h
   rw[List.lookup_cons] at h
   cases hb:(j == y.1) with
   | true=>
     rw[hb] at h
     simp only[Option.some.injEq] at h
     have:j=y.1:=by simpa using hb
     rw[←h,this];simp
   | false=>rw[hb] at h;exact bb _ (ih j x h)
def iy (ops:Array Oper) (j:Nat):List Nat:=(aY j).filter fun i=>((Region.before ops).getD j 0).testBit i
theorem c_ {P:Program} {ops:Array Oper} {id:Nat} {Q:Exit→Act→World→Prop} {a:Act} {w:World} (GQ:P.follows .mixedOrders=true) (h:qz P ops Q 0 a w.drew):(Code.region id ops true).wp P Q a w:=by
 refine wp_region_any GQ ?_
 unfold qz at h
 have e:eU ops.size 0=Array.replicate ops.size false:=by
  apply Array.ext
  ·simp[eU]
  ·intro i h1 h2;simp[eU]
 rw[e] at h
 exact h
theorem fM {P:Program} {ops:Array Oper} {Q:Exit→Act→World→Prop} {a:Act} {w:World} (k m:Nat) (hA:mM ops (iy ops)=true)
 (hseg:(decide (k≤m) && decide (m≤ops.size) && (aY m).all fun i=>decide (i<k) || oA ops.size (iy ops) i (i+1))=true)
 (h:wpList P ops (Exit.then (qz P ops Q m) Q) ((ops.toList.take m).drop k) a w):qz P ops Q k a w:=by
 simp only[aS,List.all_eq_true,List.mem_range,decide_eq_true_eq,Bool.or_eq_true] at hseg
 refine Bm (nD hA) _ k m a w rfl hseg.1.1 hseg.1.2 (fun i h1 h2=>oB ?_) h
 rcases hseg.2 i h2 with h3|h3
 ·omega
 ·exact h3
theorem GR {P:Program} {ops:Array Oper} {Q:Exit→Act→World→Prop} {a:Act} {w0 w:World} (S:cQ) (hS:S.Ok) (k0 m:Nat) (kinds:List (Nat×(Value ⊕ Fact)))
 (hA:mM ops (iy ops)=true) (hseg:oA ops.size (iy ops) k0 m=true) (hst:kq (iy ops) k0 m S.muts S.stage=true) (hcl:∀ x∈kinds,∀ φ,x.2=.inr φ→jl S φ)
 (hg:S.G w0 w) (hi:S.I 0 w)
 (h:eK P ops (iy ops) (fun j=>kinds.lookup j) S w0 (qz P ops Q m) ((ops.toList.take m).drop k0) k0 a []):qz P ops Q k0 a w:=by
 have hok:=nD hA
 have hsg:=oB hseg
 have hl0:laid ops a (fun _=>undef) (fun i=>decide (k0≤i)) (aY k0)=a:=kQ _ _ _ _ (fun i hi=>by have:=List.mem_range.1 hi;simp;omega)
 have hcnt:cnt (fun i=>(eU ops.size k0).getD i false) (aY ops.size)=ops.size-k0:=by
  have hk:k0≤ops.size:=aH hsg.le hsg.le'
  unfold cnt
  rw[range_split hk,List.filter_append]
  have e1:((aY k0).filter fun i => !(eU ops.size k0).getD i false)=[]:=by
   rw[List.filter_eq_nil_iff];intro i hi
   have:=List.mem_range.1 hi
   rw[dM al]
   simpa using this
  have e2:(((aY (ops.size-k0)).map (k0+·)).filter fun i => !(eU ops.size k0).getD i false)=(aY (ops.size-k0)).map (k0+·):=by
   rw[List.filter_eq_self];intro i hi
   obtain⟨k,hk',rfl⟩:=List.mem_map.1 hi
   have:=List.mem_range.1 hk'
   rw[dM al]
   simp
  rw[e1,e2];simp
 refine yD (A:=iy ops) (K:=fun j=>kinds.lookup j) (S:=S) (w0:=w0) (k0:=k0) (m:=m) (a0:=a) hok hsg (ln hst) hS.trans hS.grow hS.turn hS.stay
  (fun j φ hk=>hcl (j,.inr φ) (vi kinds j _ hk) φ rfl) (fun V=>?_) _ _ a w ?_ hcnt
 ·obtain⟨D,_,r1,r2,r3,r4,r5⟩:=vh (a0:=a) (K:=fun j=>kinds.lookup j) (S:=S) (k0:=k0) hsg.le' _ V ((ops.toList.take m).drop k0) k0 (fun _=>undef) [] rfl (aC _) hsg.le (by simp) (by
   show eK _ _ _ _ _ _ _ _ _ (laid ops a (fun _=>undef) (fun i=>decide (k0≤i)) (aY k0)) _
   rw[hl0];exact h)
  exact⟨D,⟨r1,r2,r3,r4⟩,r5⟩
 ·refine⟨gW _ _,qA hok,fun i hi=>?_,fun j hj=>?_,hg,0,aZ _,fun t i hti=>?_,hi,fun _=>undef,fun V D _ _=>⟨?_,fun i φ h0 hi=>?_⟩⟩
  ·rw[dM (aA hi (aH hsg.le hsg.le'))];simpa using hi
  ·rcases bn j ops.size with h1|h1
   ·rw[dM h1] at hj
    have:j<k0:=by simpa using hj
    exact aA this hsg.le
   ·rw[ly h1] at hj;cases hj
  ·have:=(ln hst).own t i hti
   rw[dM (aA this.2.1 hsg.le')]
   simp;omega
  ·rw[kQ D _ _ _ (fun i hi=>by
    unfold since
    rw[dM (List.mem_range.1 hi)]
    simp)]
  ·rcases bn i ops.size with h1|h1
   ·rw[dM h1] at hi
    have:i<k0:=by simpa using hi
    omega
   ·rw[ly h1] at hi;cases hi
end Go.Hop
namespace Go.Hop
open Go.RowKit
theorem cn (l:List UInt8):dv (bZ l):=fun _ _ _ h hg=>h.below hg
section
variable {P:Program} {ops:Array Oper} {A:Nat→List Nat} {K:Nat→Kind} {S:cQ} {w0:World} {tail:Act→World→Prop} {o:Oper} {l:List Oper} {j:Nat} {a:Act} {F:List (Nat×Value×Fact)}
theorem yE (hw:Region.wanted o (yielded ops a.tmps)=false) (hm:dI j S.muts 0=none) (h:eK P ops A K S w0 tail l (j+1) (a.put o.dst undef) F):eK P ops A K S w0 tail (o :: l) j a F:=by
 unfold eK
 rw[hw,if_neg Bool.false_ne_true];exact⟨hm,h⟩
theorem Bp (hw:Region.wanted o (yielded ops a.tmps)=true) (hk:K j=none) (hm:dI j S.muts 0=none) {v0:Value} (hr:∀ k w,S.G w0 w→S.before j k w→dd (A j) k F w→(execOp a.eval o).run P w=.ok (.value v0) w)
 (h:eK P ops A K S w0 tail l (j+1) (a.put o.dst v0) F):eK P ops A K S w0 tail (o :: l) j a F:=by
 unfold eK
 rw[hw,if_pos rfl,hk]
 exact⟨v0,fun k w hg hb hf=>⟨w,hr k w hg hb hf,by unfold cQ.behind;rw[hm];exact S.q.refl w⟩,h⟩
theorem t6 (hw:Region.wanted o (yielded ops a.tmps)=true) (c:Value) (hk:K j=some (.inl c)) (hr:∀ k w,S.G w0 w→S.before j k w→dd (A j) k F w→cz P (fun u w'=>u=c∧S.behind j k w w') ((execOp a.eval o).run P w))
 (h:eK P ops A K S w0 tail l (j+1) (a.put o.dst c) F):eK P ops A K S w0 tail (o :: l) j a F:=by
 unfold eK
 rw[hw,if_pos rfl,hk]
 exact⟨hr,h⟩
theorem Bq (hw:Region.wanted o (yielded ops a.tmps)=true) (φ:Fact) (hk:K j=some (.inr φ)) (hr:∀ k w,S.G w0 w→S.before j k w→dd (A j) k F w→cz P (fun u w'=>S.behind j k w w'∧φ (S.next j k) u w') ((execOp a.eval o).run P w))
 (h:∀ v,eK P ops A K S w0 tail l (j+1) (a.put o.dst v) ((j,v,φ) :: F)):eK P ops A K S w0 tail (o :: l) j a F:=by
 unfold eK
 rw[hw,if_pos rfl,hk]
 exact⟨hr,h⟩
end
def cj (a0:Act):List (Tmp×Value)→Act
 | []=>a0
 | (d,v) :: L=>(cj a0 L).put (some d) v
def ji (a0:Act) (L:List (Tmp×Value)):Operand→Value
 | .tmp t=>(L.lookup t).getD (a0.eval (.tmp t))
 | x=>a0.eval x
theorem oF (a0:Act):∀ L:List (Tmp×Value),(cj a0 L).tmps.size=a0.tmps.size
 | []=>rfl
 | (d,v) :: L=>by show ((cj a0 L).put (some d) v).tmps.size=_;rw[ll,oF a0 L]
def fits (n:Nat) (L:List (Tmp×Value)):Prop:=∀ x∈L,x.1<n
theorem kR (a0:Act) (t:Tmp):∀ L:List (Tmp×Value),fits a0.tmps.size L→(cj a0 L).tmps[t]?=match L.lookup t with|some v=>some v|none=>a0.tmps[t]?
 | [],_=>rfl
 | (d,v) :: L,h=>by
   have ih:=kR a0 t L (fun x hx=>h x (by simp[hx]))
   have hd:d<a0.tmps.size:=h (d,v) (by simp)
   show ((cj a0 L).put (some d) v).tmps[t]?=_
   rw[List.lookup_cons]
   by_cases htd:t=d
   ·subst htd
    simp[Act.put,oF,hd]
   ·have hb:(t == d)=false:=by simpa using htd
    rw[kp (fun e=>htd (by injection e with e;exact e.symm)),ih,hb]
theorem jC {a0:Act} {L:List (Tmp×Value)} (h:fits a0.tmps.size L) (x:Operand):(cj a0 L).eval x=ji a0 L x:=by
 cases x with
 | tmp t=>
   show ((cj a0 L).tmps.getD t undef)=(L.lookup t).getD (a0.tmps.getD t undef)
   rw[Array.getD_eq_getD_getElem?,kR a0 t L h]
   cases L.lookup t<;>simp
 | _=>rfl
def dn (P:Program) (ops:Array Oper) (A:Nat→List Nat) (K:Nat→Kind) (S:cQ) (w0:World) (T:Act→World→Prop) (n:Nat) (l:List Oper) (j:Nat) (a0:Act) (L:List (Tmp×Value)) (F:List (Nat×Value×Fact)):Prop:=
 a0.tmps.size=n→fits n L→eK P ops A K S w0 T l j (cj a0 L) F
theorem kr {P:Program} {f:FuncId} {args:Array Value} {w:World} {R:Value→World→Prop} {r:Result Next} (hr:r=.ok (.enter f args) w) (h:Calls P f args w (fun e w'=>∃ u,e=.returned u∧R u w')):cz P R r:=by
 rw[hr];exact h
theorem cF {P:Program} {u:Value} {w:World} {R:Value→World→Prop} {r:Result Next} (hr:r=.ok (.value u) w) (h:R u w):cz P R r:=by
 rw[hr];exact h
section
variable {P:Program} {ops:Array Oper} {A:Nat→List Nat} {K:Nat→Kind} {S:cQ} {w0:World} {T:Act→World→Prop} {o:Oper} {l:List Oper} {j n:Nat} {a0:Act} {L:List (Tmp×Value)} {F:List (Nat×Value×Fact)}
def Wanted (ops:Array Oper) (o:Oper) (a0:Act) (L:List (Tmp×Value)) (b:Bool):Prop:=fits a0.tmps.size L→Region.wanted o (yielded ops (cj a0 L).tmps)=b
theorem bO (h:o.guard=none):Wanted ops o a0 L true:=fun _=>by unfold Region.wanted;rw[h]
theorem dF {ops':Array Oper} (hops:Hid (ops=ops')) (g:Nat) (want:Bool) (h:o.guard=some (g,want)) (d:Tmp) (hd:eM ops' g=some d) (c:Bool) (hv:L.lookup d=some (.bool c)):Wanted ops o a0 L (c == want):=fun hf=>by
 have e:ops=ops':=hops.out
 subst e
 unfold Region.wanted
 rw[h]
 have hd':(ops[g]?).bind (·.dst)=some d:=hd
 have hy:yielded ops (cj a0 L).tmps g=some c:=by
  unfold yielded
  rw[hd']
  simp only[Option.bind_some]
  rw[kR a0 d L hf,hv]
 show (yielded ops (cj a0 L).tmps g == some want)=_
 rw[hy]
 cases c<;>cases want<;>rfl
theorem cM {ops':Array Oper} (hops:Hid (ops=ops')) (g:Nat) (want:Bool) (h:o.guard=some (g,want)) (d:Tmp) (hd:eM ops' g=some d) (hv:L.lookup d=some undef):Wanted ops o a0 L false:=fun hf=>by
 have e:ops=ops':=hops.out
 subst e
 unfold Region.wanted
 rw[h]
 have hd':(ops[g]?).bind (·.dst)=some d:=hd
 have hy:yielded ops (cj a0 L).tmps g=none:=by
  unfold yielded
  rw[hd']
  simp only[Option.bind_some]
  rw[kR a0 d L hf,hv]
  rfl
 show (yielded ops (cj a0 L).tmps g == some want)=_
 rw[hy]
 rfl
theorem ce (h:a0.tmps.size=n→fits n L→∀ w,S.G w0 w→S.I S.muts.length w→lZ S.muts.length F w→T (cj a0 L) w):dn P ops A K S w0 T n [] j a0 L F:=fun hn hf=>h hn hf
theorem kS {d:Tmp} {v:Value} (h:fits n L) (hd:d<n):fits n ((d,v) :: L):=fun x hx=>by
 rcases List.mem_cons.1 hx with h1|h1
 ·rw[h1];exact hd
 ·exact h x h1
theorem EF (d:Tmp) (hd:o.dst=some d) (hs:d<n) (hw:Wanted ops o a0 L false) (hm:dI j S.muts 0=none) (h:dn P ops A K S w0 T n l (j+1) a0 ((d,undef) :: L) F):dn P ops A K S w0 T n (o :: l) j a0 L F:=fun hn hf=>by
 refine yE (hw (by rw[hn];exact hf)) hm ?_
 rw[hd];exact h hn (kS hf hs)
theorem lz (d:Tmp) (hd:o.dst=some d) (hs:d<n) (hw:Wanted ops o a0 L true) (hk:K j=none) (hm:dI j S.muts 0=none) (v0:Value)
 (hr:∀ k w,S.G w0 w→S.before j k w→dd (A j) k F w→(execOp (ji a0 L) o).run P w=.ok (.value v0) w)
 (h:dn P ops A K S w0 T n l (j+1) a0 ((d,v0) :: L) F):dn P ops A K S w0 T n (o :: l) j a0 L F:=fun hn hf=>by
 have hf':fits a0.tmps.size L:=by rw[hn];exact hf
 have he:(cj a0 L).eval=ji a0 L:=funext (jC hf')
 refine Bp (hw hf') hk hm (v0:=v0) (by rw[he];exact hr) ?_
 rw[hd];exact h hn (kS hf hs)
theorem Gf (d:Tmp) (hd:o.dst=some d) (hs:d<n) (hw:Wanted ops o a0 L true) (hk:K j=none) (hm:dI j S.muts 0=none) (x:Operand) (ho:o.op=.move x∨o.op=.assign x) (v0:Value) (hv:ji a0 L x=v0)
 (h:dn P ops A K S w0 T n l (j+1) a0 ((d,v0) :: L) F):dn P ops A K S w0 T n (o :: l) j a0 L F:=by
 refine lz d hd hs hw hk hm v0 (fun k w _ _ _=>?_) h
 obtain⟨dst,op,ty,pos,after,guard⟩:=o
 rcases ho with ho|ho<;>simp only at ho<;>subst ho<;>(rw[←hv];rfl)
theorem xO (d:Tmp) (hd:o.dst=some d) (hs:d<n) (hw:Wanted ops o a0 L true) (hk:K j=none) (hm:dI j S.muts 0=none) (c x y:Operand) (ho:o.op=.pick c x y) (b:Bool) (hc:ji a0 L c=.bool b) (v0:Value) (hv:(if b then ji a0 L x else ji a0 L y)=v0)
 (h:dn P ops A K S w0 T n l (j+1) a0 ((d,v0) :: L) F):dn P ops A K S w0 T n (o :: l) j a0 L F:=by
 refine lz d hd hs hw hk hm v0 (fun k w _ _ _=>?_) h
 obtain⟨dst,op,ty,pos,after,guard⟩:=o
 simp only at ho
 subst ho
 show (execOp (ji a0 L) { dst,op := .pick c x y,type:=ty,pos,after,guard }).run P w=_
 unfold execOp
 simp only[hc]
 rw[←hv]
 rfl
theorem vj (d:Tmp) (hd:o.dst=some d) (hs:d<n) (hw:Wanted ops o a0 L true) (hk:K j=none) (hm:dI j S.muts 0=none) (x:Operand) (vx:Value) (hx:ji a0 L x=vx) (v0:Value)
 (hr:∀ ρ:Operand→Value,ρ x=vx→∀ k w,S.G w0 w→S.before j k w→dd (A j) k F w→(execOp ρ o).run P w=.ok (.value v0) w)
 (h:dn P ops A K S w0 T n l (j+1) a0 ((d,v0) :: L) F):dn P ops A K S w0 T n (o :: l) j a0 L F:=
 lz d hd hs hw hk hm v0 (hr _ hx) h
theorem Br (d:Tmp) (hd:o.dst=some d) (hs:d<n) (hw:Wanted ops o a0 L true) (hk:K j=none) (hm:dI j S.muts 0=none) (x y:Operand) (vx vy:Value) (hx:ji a0 L x=vx) (hy:ji a0 L y=vy) (v0:Value)
 (hr:∀ ρ:Operand→Value,ρ x=vx→ρ y=vy→∀ k w,S.G w0 w→S.before j k w→dd (A j) k F w→(execOp ρ o).run P w=.ok (.value v0) w)
 (h:dn P ops A K S w0 T n l (j+1) a0 ((d,v0) :: L) F):dn P ops A K S w0 T n (o :: l) j a0 L F:=
 lz d hd hs hw hk hm v0 (hr _ hx hy) h
theorem cx {ops':Array Oper} (hops:Hid (ops=ops')) (g:Nat) (want:Bool) (d:Tmp) (c:Bool) (h:o.guard=some (g,want):=by rfl) (hd:eM ops' g=some d:=by rfl) (hv:L.lookup d=some (.bool c):=by rfl):Wanted ops o a0 L (c == want):=dF hops g want h d hd c hv
theorem da (d:Tmp) (hw:Wanted ops o a0 L true) {x:Operand} (v0:Value) (h:dn P ops A K S w0 T n l (j+1) a0 ((d,v0) :: L) F)
 (ho:o.op=.move x∨o.op=.assign x:=by first|exact Or.inl aj|exact Or.inr aj) (hv:ji a0 L x=v0:=by rfl) (hd:o.dst=some d:=by rfl) (hs:d<n:=by decide) (hk:K j=none:=by rw[hK.out];rfl) (hm:dI j S.muts 0=none:=by rfl):dn P ops A K S w0 T n (o :: l) j a0 L F:=Gf d hd hs hw hk hm x ho v0 hv h
theorem bP (d:Tmp) {x:Operand} (v0:Value) (h:dn P ops A K S w0 T n l (j+1) a0 ((d,v0) :: L) F)
 (ho:o.op=.move x∨o.op=.assign x:=by first|exact Or.inl aj|exact Or.inr aj) (hv:ji a0 L x=v0:=by rfl) (hd:o.dst=some d:=by rfl) (hs:d<n:=by decide) (hw:Wanted ops o a0 L true:=by exact bO aj) (hk:K j=none:=by rw[hK.out];rfl) (hm:dI j S.muts 0=none:=by rfl):dn P ops A K S w0 T n (o :: l) j a0 L F:=Gf d hd hs hw hk hm x ho v0 hv h
theorem bX (d:Tmp) (hw:Wanted ops o a0 L true) (x:Operand) (vx:Value) (v0:Value)
 (hr:∀ ρ:Operand→Value,ρ x=vx→∀ k w,S.G w0 w→S.before j k w→dd (A j) k F w→(execOp ρ o).run P w=.ok (.value v0) w)
 (h:dn P ops A K S w0 T n l (j+1) a0 ((d,v0) :: L) F) (hx:ji a0 L x=vx:=by rfl) (hd:o.dst=some d:=by rfl) (hs:d<n:=by decide) (hk:K j=none:=by rw[hK.out];rfl) (hm:dI j S.muts 0=none:=by rfl):dn P ops A K S w0 T n (o :: l) j a0 L F:=vj d hd hs hw hk hm x vx hx v0 hr h
theorem bI (d:Tmp) (x:Operand) (vx:Value) (v0:Value)
 (hr:∀ ρ:Operand→Value,ρ x=vx→∀ k w,S.G w0 w→S.before j k w→dd (A j) k F w→(execOp ρ o).run P w=.ok (.value v0) w)
 (h:dn P ops A K S w0 T n l (j+1) a0 ((d,v0) :: L) F) (hx:ji a0 L x=vx:=by rfl) (hd:o.dst=some d:=by rfl) (hs:d<n:=by decide) (hw:Wanted ops o a0 L true:=by exact bO aj) (hk:K j=none:=by rw[hK.out];rfl) (hm:dI j S.muts 0=none:=by rfl):dn P ops A K S w0 T n (o :: l) j a0 L F:=vj d hd hs hw hk hm x vx hx v0 hr h
theorem bQ (d:Tmp) (x:Operand) (vx:Value) (v0:Value) (h:dn P ops A K S w0 T n l (j+1) a0 ((d,v0) :: L) F)
 (hr:∀ ρ:Operand→Value,ρ x=vx→∀ k w,S.G w0 w→S.before j k w→dd (A j) k F w→(execOp ρ o).run P w=.ok (.value v0) w:=by intro ρ h1 kk w1 hg hb hf;go_simp)
 (hx:ji a0 L x=vx:=by rfl) (hd:o.dst=some d:=by rfl) (hs:d<n:=by decide) (hw:Wanted ops o a0 L true:=by exact bO aj) (hk:K j=none:=by rw[hK.out];rfl) (hm:dI j S.muts 0=none:=by rfl):dn P ops A K S w0 T n (o :: l) j a0 L F:=vj d hd hs hw hk hm x vx hx v0 hr h
theorem dc (d:Tmp) (hw:Wanted ops o a0 L true) (x y:Operand) (vx vy:Value) (v0:Value)
 (hr:∀ ρ:Operand→Value,ρ x=vx→ρ y=vy→∀ k w,S.G w0 w→S.before j k w→dd (A j) k F w→(execOp ρ o).run P w=.ok (.value v0) w)
 (h:dn P ops A K S w0 T n l (j+1) a0 ((d,v0) :: L) F) (hx:ji a0 L x=vx:=by rfl) (hy:ji a0 L y=vy:=by rfl) (hd:o.dst=some d:=by rfl) (hs:d<n:=by decide) (hk:K j=none:=by rw[hK.out];rfl) (hm:dI j S.muts 0=none:=by rfl):dn P ops A K S w0 T n (o :: l) j a0 L F:=Br d hd hs hw hk hm x y vx vy hx hy v0 hr h
theorem cm (d:Tmp) (x y:Operand) (vx vy:Value) (v0:Value)
 (hr:∀ ρ:Operand→Value,ρ x=vx→ρ y=vy→∀ k w,S.G w0 w→S.before j k w→dd (A j) k F w→(execOp ρ o).run P w=.ok (.value v0) w)
 (h:dn P ops A K S w0 T n l (j+1) a0 ((d,v0) :: L) F) (hx:ji a0 L x=vx:=by rfl) (hy:ji a0 L y=vy:=by rfl) (hd:o.dst=some d:=by rfl) (hs:d<n:=by decide) (hw:Wanted ops o a0 L true:=by exact bO aj) (hk:K j=none:=by rw[hK.out];rfl) (hm:dI j S.muts 0=none:=by rfl):dn P ops A K S w0 T n (o :: l) j a0 L F:=Br d hd hs hw hk hm x y vx vy hx hy v0 hr h
theorem ks (d:Tmp) (hw:Wanted ops o a0 L true) {c x y:Operand} (b:Bool) (v0:Value) (h:dn P ops A K S w0 T n l (j+1) a0 ((d,v0) :: L) F)
 (ho:o.op=.pick c x y:=by rfl) (hc:ji a0 L c=.bool b:=by rfl) (hv:(if b then ji a0 L x else ji a0 L y)=v0:=by rfl) (hd:o.dst=some d:=by rfl) (hs:d<n:=by decide) (hk:K j=none:=by rw[hK.out];rfl) (hm:dI j S.muts 0=none:=by rfl):dn P ops A K S w0 T n (o :: l) j a0 L F:=xO d hd hs hw hk hm c x y ho b hc v0 hv h
theorem cG (d:Tmp) {c x y:Operand} (b:Bool) (v0:Value) (h:dn P ops A K S w0 T n l (j+1) a0 ((d,v0) :: L) F)
 (ho:o.op=.pick c x y:=by rfl) (hc:ji a0 L c=.bool b:=by rfl) (hv:(if b then ji a0 L x else ji a0 L y)=v0:=by rfl) (hd:o.dst=some d:=by rfl) (hs:d<n:=by decide) (hw:Wanted ops o a0 L true:=by exact bO aj) (hk:K j=none:=by rw[hK.out];rfl) (hm:dI j S.muts 0=none:=by rfl):dn P ops A K S w0 T n (o :: l) j a0 L F:=xO d hd hs hw hk hm c x y ho b hc v0 hv h
theorem bU (d:Tmp) (hw:Wanted ops o a0 L false) (h:dn P ops A K S w0 T n l (j+1) a0 ((d,undef) :: L) F) (hd:o.dst=some d:=by rfl) (hs:d<n:=by decide) (hm:dI j S.muts 0=none:=by rfl):dn P ops A K S w0 T n (o :: l) j a0 L F:=EF d hd hs hw hm h
theorem Bs (d:Tmp) (hd:o.dst=some d) (hs:d<n) (hw:Wanted ops o a0 L true) (c:Value) (hk:K j=some (.inl c))
 (hr:∀ k w,S.G w0 w→S.before j k w→dd (A j) k F w→cz P (fun u w'=>u=c∧S.behind j k w w') ((execOp (ji a0 L) o).run P w))
 (h:dn P ops A K S w0 T n l (j+1) a0 ((d,c) :: L) F):dn P ops A K S w0 T n (o :: l) j a0 L F:=fun hn hf=>by
 have hf':fits a0.tmps.size L:=by rw[hn];exact hf
 have he:(cj a0 L).eval=ji a0 L:=funext (jC hf')
 refine t6 (hw hf') c hk (by rw[he];exact hr) ?_
 rw[hd];exact h hn (kS hf hs)
theorem gH (d:Tmp) (hd:o.dst=some d) (hs:d<n) (hw:Wanted ops o a0 L true) (φ:Fact) (hk:K j=some (.inr φ))
 (hr:∀ k w,S.G w0 w→S.before j k w→dd (A j) k F w→cz P (fun u w'=>S.behind j k w w'∧φ (S.next j k) u w') ((execOp (ji a0 L) o).run P w))
 (h:∀ v,dn P ops A K S w0 T n l (j+1) a0 ((d,v) :: L) ((j,v,φ) :: F)):dn P ops A K S w0 T n (o :: l) j a0 L F:=fun hn hf=>by
 have hf':fits a0.tmps.size L:=by rw[hn];exact hf
 have he:(cj a0 L).eval=ji a0 L:=funext (jC hf')
 refine Bq (hw hf') φ hk (by rw[he];exact hr) (fun v=>?_)
 rw[hd];exact h v hn (kS hf hs)
theorem fE (d:Tmp) (hd:o.dst=some d) (hs:d<n) (hw:Wanted ops o a0 L true) (φ:Fact) (hk:K j=some (.inr φ)) (x:Operand) (vx:Value) (hx:ji a0 L x=vx)
 (hr:∀ ρ:Operand→Value,ρ x=vx→∀ k w,S.G w0 w→S.before j k w→dd (A j) k F w→cz P (fun u w'=>S.behind j k w w'∧φ (S.next j k) u w') ((execOp ρ o).run P w))
 (h:∀ v,dn P ops A K S w0 T n l (j+1) a0 ((d,v) :: L) ((j,v,φ) :: F)):dn P ops A K S w0 T n (o :: l) j a0 L F:=
 gH d hd hs hw φ hk (hr _ hx) h
theorem gv (d:Tmp) (hd:o.dst=some d) (hs:d<n) (hw:Wanted ops o a0 L true) (φ:Fact) (hk:K j=some (.inr φ)) (x y:Operand) (vx vy:Value) (hx:ji a0 L x=vx) (hy:ji a0 L y=vy)
 (hr:∀ ρ:Operand→Value,ρ x=vx→ρ y=vy→∀ k w,S.G w0 w→S.before j k w→dd (A j) k F w→cz P (fun u w'=>S.behind j k w w'∧φ (S.next j k) u w') ((execOp ρ o).run P w))
 (h:∀ v,dn P ops A K S w0 T n l (j+1) a0 ((d,v) :: L) ((j,v,φ) :: F)):dn P ops A K S w0 T n (o :: l) j a0 L F:=
 gH d hd hs hw φ hk (hr _ hx hy) h
theorem K3 (hd:o.dst=none) (hw:Wanted ops o a0 L true) (c:Value) (hk:K j=some (.inl c))
 (hr:∀ k w,S.G w0 w→S.before j k w→dd (A j) k F w→cz P (fun u w'=>u=c∧S.behind j k w w') ((execOp (ji a0 L) o).run P w))
 (h:dn P ops A K S w0 T n l (j+1) a0 L F):dn P ops A K S w0 T n (o :: l) j a0 L F:=fun hn hf=>by
 have hf':fits a0.tmps.size L:=by rw[hn];exact hf
 have he:(cj a0 L).eval=ji a0 L:=funext (jC hf')
 refine t6 (hw hf') c hk (by rw[he];exact hr) ?_
 rw[hd];exact h hn hf
theorem mO (hd:o.dst=none) (hw:Wanted ops o a0 L true) (c:Value) (hk:K j=some (.inl c)) (x y:Operand) (vx vy:Value) (hx:ji a0 L x=vx) (hy:ji a0 L y=vy)
 (hr:∀ ρ:Operand→Value,ρ x=vx→ρ y=vy→∀ k w,S.G w0 w→S.before j k w→dd (A j) k F w→cz P (fun u w'=>u=c∧S.behind j k w w') ((execOp ρ o).run P w))
 (h:dn P ops A K S w0 T n l (j+1) a0 L F):dn P ops A K S w0 T n (o :: l) j a0 L F:=K3 hd hw c hk (hr _ hx hy) h
theorem qC (P:Program) (ρ:Operand→Value) (o:Oper) (f:FuncId) (xs:List Operand) (ts:Array TypeId) (ho:o.op=.call { callee := .value (.func f),args:=xs.toArray,argTypes:=ts }) (hρ:ρ (.func f)=.func (.func f) #[] #[]) (hcf:∀ (vs:Array Value) (w:World),(callFunc f vs).run P w=.ok (.enter f vs) w) (w:World) :
 (execOp ρ o).run P w=.ok (.enter f (xs.map ρ).toArray) w:=by
 obtain⟨dst,op,ty,pos,after,guard⟩:=o
 simp only at ho
 subst ho
 go_simp
theorem cC (d:Tmp) (hd:o.dst=some d) (hs:d<n) (hw:Wanted ops o a0 L true) (c:Value) (hk:K j=some (.inl c)) (f:FuncId) (xs:List Operand) (ts:Array TypeId)
 (ho:o.op=.call { callee := .value (.func f),args:=xs.toArray,argTypes:=ts }) (args:List Value) (hargs:xs.map (ji a0 L)=args) (hcf:∀ (vs:Array Value) (w:World),(callFunc f vs).run P w=.ok (.enter f vs) w)
 (hr:∀ k w,S.G w0 w→S.before j k w→dd (A j) k F w→Calls P f args.toArray w (fun e w'=>e=.returned c∧S.behind j k w w'))
 (h:dn P ops A K S w0 T n l (j+1) a0 ((d,c) :: L) F):dn P ops A K S w0 T n (o :: l) j a0 L F:=
 Bs d hd hs hw c hk (fun k w hg hb hf=>kr (by rw[qC P _ o f xs ts ho rfl hcf w,hargs]) ((hr k w hg hb hf).mono fun _ _ ⟨he,hg'⟩=>⟨c,he,rfl,hg'⟩)) h
theorem cH (d:Tmp) (hd:o.dst=some d) (hs:d<n) (hw:Wanted ops o a0 L true) (φ:Fact) (hk:K j=some (.inr φ)) (f:FuncId) (xs:List Operand) (ts:Array TypeId)
 (ho:o.op=.call { callee := .value (.func f),args:=xs.toArray,argTypes:=ts }) (args:List Value) (hargs:xs.map (ji a0 L)=args) (hcf:∀ (vs:Array Value) (w:World),(callFunc f vs).run P w=.ok (.enter f vs) w)
 (hr:∀ k w,S.G w0 w→S.before j k w→dd (A j) k F w→Calls P f args.toArray w (fun e w'=>∃ u,e=.returned u∧S.behind j k w w'∧φ (S.next j k) u w'))
 (h:∀ v,dn P ops A K S w0 T n l (j+1) a0 ((d,v) :: L) ((j,v,φ) :: F)):dn P ops A K S w0 T n (o :: l) j a0 L F:=
 gH d hd hs hw φ hk (fun k w hg hb hf=>kr (by rw[qC P _ o f xs ts ho rfl hcf w,hargs]) (hr k w hg hb hf)) h
end
theorem cy {as:List Nat} {k i:Nat} {v:Value} {φ:Fact} {F:List (Nat×Value×Fact)} {w:World} (h:dd as k ((i,v,φ) :: F) w) (hc:as.contains i=true):φ k v w:=by
 unfold dd at h;rw[if_pos hc] at h;exact h.1
theorem vk {as:List Nat} {k:Nat} {x:Nat×Value×Fact} {F:List (Nat×Value×Fact)} {w:World} (h:dd as k (x :: F) w):dd as k F w:=by
 obtain⟨i,v,φ⟩:=x
 unfold dd at h;split at h
 ·exact h.2
 ·exact h
theorem db {P:Program} {f:FuncId} {args:Array Value} {w:World} {v:Value} (h:Calls P f args w (fun e w'=>e=.returned v∧w=w')):Calls P f args w (fun e w'=>e=.returned v∧Grow w w'):=
 h.mono fun _ _ ⟨he,hw⟩=>⟨he,hw▸Grow.refl _⟩
theorem fc {S:cQ} {j k:Nat} {w w':World} (h:dI j S.muts 0=none) (hg:S.q.rel w w'):S.behind j k w w':=by unfold cQ.behind;rw[h];exact hg
theorem iZ {S:cQ} {j k:Nat} {w w':World} (t:Nat) (h:dI j S.muts 0=some t) (hg:S.T k w w') (hi:S.I (k+1) w'):S.behind j k w w':=by unfold cQ.behind;rw[h];exact⟨hg,hi⟩
theorem gI {S:cQ} {j k:Nat} (h:dI j S.muts 0=none):S.next j k=k:=by unfold cQ.next;rw[h]
theorem qD {S:cQ} {j k:Nat} (t:Nat) (h:dI j S.muts 0=some t):S.next j k=k+1:=by unfold cQ.next;rw[h]
theorem cw {S:cQ} {j k:Nat} {w:World} (t:Nat) (h:S.stage j=some t) (hb:S.before j k w):k=t:=hb.2 t h
theorem b_ {P:Program} {f:FuncId} {args:Array Value} {w:World} {S:cQ} {j k:Nat} {c:Value} (hm:dI j S.muts 0=none) (h:Calls P f args w (fun e w'=>e=.returned c∧S.q.rel w w')):Calls P f args w (fun e w'=>e=.returned c∧S.behind j k w w'):=
 h.mono fun _ _ ⟨he,hg⟩=>⟨he,fc hm hg⟩
theorem cr {P:Program} {f:FuncId} {args:Array Value} {w:World} {S:cQ} {j k:Nat} {φ:Fact} (hm:dI j S.muts 0=none) (h:Calls P f args w (fun e w'=>∃ u,e=.returned u∧S.q.rel w w'∧φ k u w')):Calls P f args w (fun e w'=>∃ u,e=.returned u∧S.behind j k w w'∧φ (S.next j k) u w'):=
 h.mono fun _ _ ⟨u,he,hg,hp⟩=>⟨u,he,fc hm hg,by rw[gI hm];exact hp⟩
theorem jD {P:Program} {f:FuncId} {args:Array Value} {w:World} {S:cQ} {j k:Nat} {c:Value} (t:Nat) (hm:dI j S.muts 0=some t) (h:Calls P f args w (fun e w'=>e=.returned c∧S.T k w w'∧S.I (k+1) w')):Calls P f args w (fun e w'=>e=.returned c∧S.behind j k w w'):=
 h.mono fun _ _ ⟨he,hg,hi⟩=>⟨he,iZ t hm hg hi⟩
theorem fN {P:Program} {f:FuncId} {args:Array Value} {w:World} {S:cQ} {j k:Nat} {φ:Fact} (t:Nat) (hm:dI j S.muts 0=some t) (h:Calls P f args w (fun e w'=>∃ u,e=.returned u∧S.T k w w'∧S.I (k+1) w'∧φ (k+1) u w')):Calls P f args w (fun e w'=>∃ u,e=.returned u∧S.behind j k w w'∧φ (S.next j k) u w'):=
 h.mono fun _ _ ⟨u,he,hg,hi,hp⟩=>⟨u,he,iZ t hm hg hi,by rw[qD t hm];exact hp⟩
theorem eN {P:Program} {R R':Value→World→Prop} {r:Result Next} (h:cz P R r) (hi:∀ u w,R u w→R' u w):cz P R' r:=by
 cases r with
 | ok n w'=>
   cases n with
   | value u=>exact hi _ _ h
   | skip=>exact hi _ _ h
   | enter f args=>exact Calls.mono h (fun e w'' ⟨u,he,hr⟩=>⟨u,he,hi _ _ hr⟩)
   | _=>exact h.elim
 | halt x w'=>exact h.elim
theorem cA {P:Program} {w:World} {S:cQ} {j k:Nat} {φ:Fact} {r:Result Next} (hm:dI j S.muts 0=none) (h:cz P (fun u w'=>S.q.rel w w'∧φ k u w') r):cz P (fun u w'=>S.behind j k w w'∧φ (S.next j k) u w') r:=
 eN h fun _ _ ⟨hg,hp⟩=>⟨fc hm hg,by rw[gI hm];exact hp⟩
theorem gJ {P:Program} {w:World} {S:cQ} {j k:Nat} {c:Value} {r:Result Next} (t:Nat) (hm:dI j S.muts 0=some t) (h:cz P (fun u w'=>u=c∧S.T k w w'∧S.I (k+1) w') r):cz P (fun u w'=>u=c∧S.behind j k w w') r:=
 eN h fun _ _ ⟨he,hg,hi⟩=>⟨he,iZ t hm hg hi⟩
theorem er {P:Program} {ops:Array Oper} {Q:Exit→Act→World→Prop} {a:Act} {w0 w:World} (S:cQ) (hS:S.Ok) (k0 m n:Nat) (kinds:List (Nat×(Value ⊕ Fact))) (hn:a.tmps.size=n)
 (hA:mM ops (iy ops)=true) (hseg:oA ops.size (iy ops) k0 m=true) (hst:kq (iy ops) k0 m S.muts S.stage=true) (hcl:∀ x∈kinds,∀ φ,x.2=.inr φ→jl S φ)
 (hg:S.G w0 w) (hi:S.I 0 w)
 (h:∀ (ops':Array Oper) (A:Nat→List Nat) (K:Nat→Kind) (T:Act→World→Prop),Hid (ops'=ops)→Hid (A=iy ops)→Hid (K=fun j=>kinds.lookup j)→(∀ a' w',qz P ops Q m a' w'→T a' w')→
  dn P ops' A K S w0 T n ((ops.toList.take m).drop k0) k0 a [] []):qz P ops Q k0 a w:=
 GR S hS k0 m kinds hA hseg hst hcl hg hi (h ops _ _ _ rfl rfl rfl (fun _ _ h=>h) hn (fun x hx=>by cases hx))
theorem nF {P:Program} {ops:Array Oper} {Q:Exit→Act→World→Prop} {R:Act→World→Prop} (hR:∀ a w,Q .normal a w→R a w):∀ (l:List Oper) (a:Act) (w:World),wpList P ops Q l a w→wpList P ops (Exit.then R Q) l a w
 | [],a,w,h=>hR a w h
 | o :: l,a,w,h=>by
   have ih:=nF (P:=P) (ops:=ops) hR l
   unfold wpList at h ⊢
   split
   ·rename_i hw
    rw[if_pos hw] at h
    refine h.imp (fun h3=>?_) (fun h3=>⟨h3.1,?_⟩)
    ·have h4:o.wp P a w (wpList P ops (Exit.then R Q) l) Q:=Oper.wp_mono (fun a' w' h'=>ih a' w' h') h3
     unfold Oper.wp at h4 ⊢
     generalize (execOp a.eval o).run P w=r at *
     cases r with
     | ok n w'=>
       cases n<;>simp only[Oper.upon] at h4 ⊢<;>first
        | exact h4
        | exact Calls.mono h4 (fun e w'' he=>by
         cases e with
         | returned u=>exact he
         | panicked c=>exact he
         | outgrown=>obtain⟨a1,w1,h5⟩:=he;exact⟨a1,w1,h5⟩)
     | halt x w'=>cases x<;>simp only[Oper.upon] at h4 ⊢<;>exact h4
    ·obtain⟨a1,w1,h5⟩:=h3.2;exact⟨a1,w1,h5⟩
   ·rename_i hw
    rw[if_neg hw] at h
    exact ih _ _ h
theorem bL {P:Program} {ops:Array Oper} {id:Nat} {Q:Exit→Act→World→Prop} {a:Act} {w:World} (m n:Nat) (kinds:List (Nat×(Value ⊕ Fact))) (hn:a.tmps.size=n)
 (GQ:P.follows .mixedOrders=true) (hA:mM ops (iy ops)=true) (hseg:oA ops.size (iy ops) 0 m=true) (K4:(decide (m≤ops.size) && decide (ops.size≤ops.size) && (aY ops.size).all fun i=>decide (i<m) || oA ops.size (iy ops) i (i+1))=true)
 (hcl:∀ x∈kinds,∀ φ,x.2=.inr φ→jl quiet φ)
 (h:∀ (ops':Array Oper) (A:Nat→List Nat) (K:Nat→Kind) (T:Act→World→Prop),Hid (ops'=ops)→Hid (A=iy ops)→Hid (K=fun j=>kinds.lookup j)→(∀ a' w',wpList P ops Q (ops.toList.drop m) a' w'→T a' w')→
  dn P ops' A K quiet w T n (ops.toList.take m) 0 a [] []):(Code.region id ops true).wp P Q a w:=by
 refine c_ GQ (er quiet Bo 0 m n kinds hn hA hseg (by simp[kq,quiet]) hcl (Grow.refl w).drew trivial (fun ops' A K T h1 h2 h3 h4=>h ops' A K T h1 h2 h3 (fun a' w' h5=>h4 a' w' ?_)))
 refine fM m ops.size hA K4 ?_
 rw[show (ops.toList.take ops.size).drop m=ops.toList.drop m by rw[aN (by simp)]]
 exact nF (fun _ _=>eY) _ _ _ h5
structure Just (V:Nat→Prop) (a b:World):Prop where
 os:b.os=a.os
 tape:b.tape=a.tape
 output:b.output=a.output
 size:a.heap.size≤b.heap.size
 block:∀ k,k<a.heap.size→¬ V k→b.heap[k]?=a.heap[k]?
section
variable {V V':Nat→Prop} {a b c:World}
theorem Just.bJ (h:Grow a b):Just V a b:=⟨h.os,h.tape,h.output,h.size,fun k hk _=>h.block k hk⟩
theorem Just.dj {g:Nat} (h:Only g a b) (hg:V g):Just V a b:=⟨h.os,h.tape,h.output,h.size,fun k hk hv=>h.block k hk (fun e=>hv (by injection e with e;rw[e];exact hg))⟩
theorem Just.trans (h:Just V a b) (k:Just V b c):Just V a c:=
 ⟨k.os.trans h.os,k.tape.trans h.tape,k.output.trans h.output,aH h.size k.size,fun i hi hv=>(k.block i (aA hi h.size) hv).trans (h.block i hi hv)⟩
theorem Just.imp (h:Just V a b) (hi:∀ k,V k→V' k):Just V' a b:=⟨h.os,h.tape,h.output,h.size,fun k hk hv=>h.block k hk (fun e=>hv (hi k e))⟩
theorem Just.blk (h:Just V a b) {k:Nat} {t:TypeId} {cs:Array Value} (hk:ct a k t cs) (hv:¬ V k):ct b k t cs:=(h.block k hk.lt hv).trans hk
theorem Just.below (h:Just V a b) {B:Nat} (hV:∀ k,V k→B≤k) (hs:B≤a.heap.size):Below B a b:=⟨h.os,h.tape,h.output,h.size,fun k hk=>h.block k al (fun e=>by have:=hV k e;omega)⟩
end
end Go.Hop
end
