/- Sepb, Mg1, Mg2. -/
import Derived.Test.YtmijcbfgfkeodaaGreatDoorIz17
set_option linter.all false
set_option maxRecDepth 100000
set_option maxHeartbeats 2000000
open Go.Value renaming int → ae,slice → ai
open Go.IntKind renaming i64 → af,u64 → ah
open Go.Proofs.Tryz renaming prog → au
open List renaming setIfInBounds_toArray → aw,drop_succ_cons → ax,set_cons_zero → ay,set_cons_succ → az,drop_zero → aB,perm_append_comm → aG,append_assoc → aM,map_append → aX,append_nil → bf,map_cons → bg,mem_of_mem_eraseIdx → bo,cons_append → bA
open Nat renaming lt_of_lt_of_le → aA,le_refl → aC,le_trans → aH
section
namespace Go.Hop
open Go.RowKit
theorem ct.fw {w:World} {x:Nat} {t:TypeId} {cs:Array Value} (h:ct w x t cs) {size n:Nat} (hn:cs.toList.length=n*size):In w (fun b=>b=x) size (some ⟨x,0,none⟩) n cs.toList:=
 ⟨hn,fun _=>⟨_,rfl,rfl,h.lt,fun j u hu=>by
  have h1:=h.cell j
  have h2:(⟨x,0,none⟩:Addr).add j=⟨x,j,none⟩:=by
   unfold Addr.add
   split
   ·rename_i h;rw[h]
   ·simp
  rw[h2,h1,←Array.getElem?_toList]
  exact hu⟩⟩
section
variable {Pr:Program} {f:FuncId} {args:Array Value} {C:Ending→Prop} {S S' R R':cg} {l l':List cg} {w w':World} {P V:Nat→Prop}
theorem Solo.zw (i:Nat) (hi:l[i]?=some S) (hF:bM l) (h:Solo P (Many l) w) (hc:∀ U:Nat→Prop,S w U→(∀ b,U b→b<w.heap.size)→(∀ b,U b→P b)→Calls Pr f args w fun e w'=>C e∧S' w' (Ext U w w')∧Just U w w'):Calls Pr f args w fun e w'=>C e∧Just P w w'∧Solo P (Many (l.set i S')) w':=by
 obtain⟨h0,V,h1,h4⟩:=h
 refine (pa (Many.pick l i S hi h1) (Many.framed _ fun R hR=>hF R (bo hR)) (fun b hb=>(h4 b hb).2) fun U hU oi Gp=>hc U hU oi fun b hb=>(h4 b (Gp b hb)).1).mono fun e w' ⟨a,b,c⟩=>⟨a,c.imp fun k hk=>(h4 k hk).1,fun b hb=>h0 b (aH c.size hb),Ext V w w',Many.i4 l i S S' hi b,jd h4 h0 c.size⟩
theorem Solo.qb {φ:World→Prop} (i:Nat) (hi:l[i]?=some S) (hF:bM l) (h:Solo P (Many l) w) (hc:∀ U:Nat→Prop,S w U→(∀ b,U b→P b∧b<w.heap.size)→∃ w',φ w'∧S' w' U∧Just U w w'):∃ w',φ w'∧Solo P (Many (l.set i S')) w'∧Just P w w':=by
 obtain⟨h0,V,h1,h4⟩:=h
 obtain⟨V1,V2,a,b,c,d,e⟩:=Many.pick l i S hi h1
 obtain⟨w',hp,hs,hj⟩:=hc V1 a fun x hx=>h4 x (c x hx)
 have hR:=Many.framed _ (fun R hR=>hF R (bo hR)) w w' V2 b fun x hx=>hj.block x (h4 x (d x hx)).2 fun h1=>e x h1 hx
 exact⟨w',hp,⟨fun b hb=>h0 b (aH hj.size hb),V,Many.i4 l i S S' hi ⟨V1,V2,hs,hR,c,d,e⟩,fun b hb=>⟨(h4 b hb).1,aA (h4 b hb).2 hj.size⟩⟩,hj.imp fun x hx=>(h4 x (c x hx)).1⟩
theorem Solo.pr (h0:∀ b,w.heap.size≤b→P b) (hM:Many l w V) (hV:∀ b,V b→P b∧b<w.heap.size):Solo P (Many l) w:=⟨h0,V,hM,hV⟩
theorem Solo.my {U:Nat→Prop} (h0:∀ b,w.heap.size≤b→P b) (hM:Many l w V) (hV:∀ b,V b→P b∧b<w.heap.size) (hR:R w U) (hU:∀ b,U b→P b∧b<w.heap.size∧¬ V b):Solo P (Many (R :: l)) w:=
 ⟨h0,fun b=>U b∨V b,⟨U,V,hR,hM,fun _ h => .inl h,fun _ h => .inr h,fun b h1 h2=>(hU b h1).2.2 h2⟩,fun b hb=>hb.elim (fun h=>⟨(hU b h).1,(hU b h).2.1⟩) (hV b)⟩
end
end Go.Hop
end
section
namespace Go.Hop
open Go.RowKit
theorem Many.one {X:cg} {w:World} {V:Nat→Prop} (h:X w V):Many [X] w V:=⟨V,fun _=>False,h,trivial,fun _ h=>h,fun _ h=>h.elim,fun _ _ h=>h⟩
theorem Many.one' {X:cg} (hX:E_ X) {w:World} {V:Nat→Prop} (h:Many [X] w V):X w V:=by
 obtain⟨V1,V2,a,_,c,_⟩:=h
 exact hX w V1 V c a
theorem Solo.P9 {P:Nat→Prop} {S:cg} {l:List cg} {w:World} (i:Nat) (hi:l[i]?=some S) (hF:bM l) (h:Solo P (Many l) w) :
 ∃ U:Nat→Prop,S w U∧(∀ b,U b→P b∧b<w.heap.size)∧∀ (S':cg) (w':World),S' w' (Ext U w w')→Just U w w'→Solo P (Many (l.set i S')) w'∧Just P w w':=by
 obtain⟨h0,V,h1,h4⟩:=h
 obtain⟨V1,V2,a,b,c,d,e⟩:=Many.pick l i S hi h1
 refine⟨V1,a,fun x hx=>h4 x (c x hx),fun S' w' hs hj=>⟨⟨fun x hx=>h0 x (aH hj.size hx),Ext V w w',Many.i4 l i S S' hi ⟨Ext V1 w w',V2,hs,Many.framed _ (fun R hR=>hF R (bo hR)) w w' V2 b fun x hx=>hj.block x (h4 x (d x hx)).2 (fun h1=>e x h1 hx),fun x hx=>?_,fun x hx => .inl (d x hx),fun x hx h2=>?_⟩,jd h4 h0 hj.size⟩,hj.imp fun x hx=>(h4 x (c x hx)).1⟩⟩
 ·rcases hx with hx|hx
  ·exact .inl (c x hx)
  ·exact .inr hx
 ·rcases hx with hx|hx
  ·exact e x hx h2
  ·have:=(h4 x (d x h2)).2;have:=hx.1;omega
end Go.Hop
namespace Go.Proofs.YtmijcbfgfkeodaaGreatDoor
open Go.RowKit Go.Hop
structure Pl where
 F:Int
 M:Nat
 B:List Int
abbrev Key:=Int×Int
abbrev Ev:=List (Key×Nat×Pl)
def o3 (v:Value) (B:List Int):cg:=fun w V=>Own w V 2 1 v B.length (lI B)
theorem o3.framed (v:Value) (B:List Int):Framed (o3 v B):=fun w w' V h hk=>Own.keep h hk
def Gq (p g:Nat) (v:Value) (x:Pl):List cg:=[Cell p 124 #[((g:Nat):Value),v],Cell g 223 #[ae af x.F,ae ah (x.M:Int)],o3 v x.B]
theorem wK (p g:Nat) (v:Value) (x:Pl):bM (Gq p g v x):=((bM.nil.cons (o3.framed _ _)).cons (Cell.framed _ _ _)).cons (Cell.framed _ _ _)
def ShT (p:Nat) (x:Pl):cg:=fun w V=>∃ (g:Nat) (v:Value),Many (Gq p g v x) w V
theorem ShT.framed (p:Nat) (x:Pl):Framed (ShT p x):=fun w w' V ⟨g,v,h⟩ hk=>⟨g,v,Many.framed _ (wK _ _ _ _) w w' V h hk⟩
def f9 (L:Ev):List (Key×Value):=L.map fun x=>(x.1,.pointer (some ⟨x.2.1,0,none⟩))
def li (L:Ev):List cg:=L.map fun x=>ShT x.2.1 x.2.2
def ju (L:Ev):List (Key×Pl):=L.map fun x=>(x.1,x.2.2)
theorem nO (L:Ev):bM (li L):=fun S h=>by
 obtain⟨x,_,rfl⟩:=List.mem_map.1 h
 exact ShT.framed _ _
theorem iH (L:Ev):(f9 L).map Prod.fst=L.map Prod.fst:=by simp[f9]
theorem l3 (L:Ev):(ju L).map Prod.fst=L.map Prod.fst:=by simp[ju]
def dx (l:List (Key×Pl)) (k:Key):Pl:=((l.find? fun a=>decide (a.1=k)).map (·.2)).getD ⟨0,0,[]⟩
def eX:List (Key×Pl)→Key→Pl→List (Key×Pl)
 | [],k,x=>[(k,x)]
 | a :: l,k,x=>if a.1=k then (k,x) :: l else a :: eX l k x
theorem CV {L1 L2:List (Key×Pl)} {k:Key} {x:Pl} (h:k ∉ L1.map Prod.fst):dx (L1++(k,x) :: L2) k=x:=by
 unfold dx
 induction L1 with
 | nil=>simp
 | cons a l ih=>
   have h1:¬ a.1=k:=fun e=>h (by simp[e])
   have h2:k ∉ l.map Prod.fst:=fun e=>h (by simp at e ⊢;exact .inr e)
   rw[bA,List.find?_cons]
   simp only[h1,decide_false]
   exact ih h2
theorem wL {l:List (Key×Pl)} {k:Key} (h:k ∉ l.map Prod.fst):dx l k=⟨0,0,[]⟩:=by
 unfold dx
 rw[List.find?_eq_none.2 fun a ha=>by
  have:¬ a.1=k:=fun e=>h (e▸List.mem_map_of_mem ha)
  simpa using this]
 rfl
theorem CW {L1 L2:List (Key×Pl)} {k:Key} {x y:Pl} (h:k ∉ L1.map Prod.fst):eX (L1++(k,x) :: L2) k y=L1++(k,y) :: L2:=by
 induction L1 with
 | nil=>simp[eX]
 | cons a l ih=>
   have h1:¬ a.1=k:=fun e=>h (by simp[e])
   have h2:k ∉ l.map Prod.fst:=fun e=>h (by simp at e ⊢;exact .inr e)
   rw[bA,eX,if_neg h1,ih h2,bA]
theorem wM {l:List (Key×Pl)} {k:Key} {y:Pl} (h:k ∉ l.map Prod.fst):eX l k y=l++[(k,y)]:=by
 induction l with
 | nil=>rfl
 | cons a l ih=>
   have h1:¬ a.1=k:=fun e=>h (by simp[e])
   have h2:k ∉ l.map Prod.fst:=fun e=>h (by simp at e ⊢;exact .inr e)
   rw[eX,if_neg h1,ih h2,bA]
theorem gg (l:List (Key×Pl)) (k:Key) (y:Pl) (k':Key):dx (eX l k y) k'=if k'=k then y else dx l k':=by
 unfold dx
 induction l with
 | nil=>
   by_cases h:k'=k
   ·subst h;simp[eX]
   ·rw[if_neg h]
    have h':¬ k=k':=fun e=>h e.symm
    simp[eX,h']
 | cons a l ih=>
   by_cases h1:a.1=k
   ·rw[eX,if_pos h1]
    by_cases h:k'=k
    ·subst h;simp
    ·have h':¬ k=k':=fun e=>h e.symm
     rw[if_neg h,List.find?_cons,List.find?_cons]
     simp[h',h1]
   ·rw[eX,if_neg h1,List.find?_cons]
    by_cases h2:a.1=k'
    ·have h:¬ k'=k:=fun e=>h1 (h2.trans e)
     rw[if_neg h,List.find?_cons]
     simp[h2]
    ·simp only[h2,decide_false]
     rw[ih,List.find?_cons]
     simp[h2]
def kL (m s bE bS:Nat) (q:K.Sm) (d9:List (Int×Value)) (dL:List (Key×Value)):List cg:=[Cell m 117 #[((s:Nat):Value),.map (some bE),.map (some bS)],K.ek s q,cJ k_ bE d9,cJ u_ bS dL]
theorem sr (m s bE bS:Nat) (q:K.Sm) (d9:List (Int×Value)) (dL:List (Key×Value)):bM (kL m s bE bS q d9 dL):=(((bM.nil.cons (cJ.framed _ _)).cons (cJ.framed _ _)).cons (K.ek.framed _ _)).cons (Cell.framed _ _ _)
def eA (m:Nat) (q:K.Sm) (d9:List (Int×Value)) (gp:List (Key×Pl)):cg:=fun w V=>∃ s bE bS L,ju L=gp∧Many (kL m s bE bS q d9 (f9 L)++[Many (li L)]) w V
theorem re (m s bE bS:Nat) (q:K.Sm) (d9:List (Int×Value)) (L:Ev):bM (kL m s bE bS q d9 (f9 L)++[Many (li L)]):=fun S h=>by
 rcases List.mem_append.1 h with h|h
 ·exact sr _ _ _ _ _ _ _ S h
 ·rw[List.mem_singleton.1 h];exact Many.framed _ (nO L)
theorem eA.framed (m:Nat) (q:K.Sm) (d9:List (Int×Value)) (gp:List (Key×Pl)):Framed (eA m q d9 gp):=fun w w' V ⟨s,bE,bS,L,e,h⟩ hk=>⟨s,bE,bS,L,e,Many.framed _ (re _ _ _ _ _ _ _) w w' V h hk⟩
theorem eA.wide (m:Nat) (q:K.Sm) (d9:List (Int×Value)) (gp:List (Key×Pl)):E_ (eA m q d9 gp):=fun w U U' hu ⟨s,bE,bS,L,e,h⟩=>⟨s,bE,bS,L,e,Many.wide _ w U U' hu h⟩
def dU (m s bE bS p g:Nat) (v:Value) (q:K.Sm) (d9:List (Int×Value)) (dL:List (Key×Value)) (F:Int) (M:Nat) (B:List Int) (R:cg):List cg:=[Cell m 117 #[((s:Nat):Value),.map (some bE),.map (some bS)],K.ek s q,cJ k_ bE d9,cJ u_ bS dL,Cell p 124 #[((g:Nat):Value),v],Cell g 223 #[ae af F,ae ah (M:Int)],o3 v B,R]
theorem de (m s bE bS p g:Nat) (v:Value) (q:K.Sm) (d9:List (Int×Value)) (dL:List (Key×Value)) (F:Int) (M:Nat) (B:List Int) {R:cg} (hR:Framed R):bM (dU m s bE bS p g v q d9 dL F M B R):=(((((((bM.nil.cons hR).cons (o3.framed _ _)).cons (Cell.framed _ _ _)).cons (Cell.framed _ _ _)).cons (cJ.framed _ _)).cons (cJ.framed _ _)).cons (K.ek.framed _ _)).cons (Cell.framed _ _ _)
def lR (k:Key) (gp:List (Key×Pl)) (x:Pl) (p:Nat) (dL:List (Key×Value)) (R:cg):Prop:=
 ∃ L,ju L=gp∧dL=f9 L∧((∃ L1 L2,L=L1++(k,p,x) :: L2∧k ∉ L1.map Prod.fst∧R=Many (li (L1++L2)))∨(k ∉ L.map Prod.fst∧R=Many (li L)))
theorem lR.framed {k:Key} {gp:List (Key×Pl)} {x:Pl} {p:Nat} {dL:List (Key×Value)} {R:cg} (h:lR k gp x p dL R):Framed R:=by
 obtain⟨L,_,_,⟨L1,L2,_,_,e⟩|⟨_,e⟩⟩:=h<;>rw[e]<;>exact Many.framed _ (nO _)
theorem mz {m s bE bS p g:Nat} {v:Value} {q:K.Sm} {d9:List (Int×Value)} {dL:List (Key×Value)} {F:Int} {M:Nat} {B:List Int} {l:List cg} {w:World} {V:Nat→Prop} (h:Many (dU m s bE bS p g v q d9 dL F M B (Many l)) w V):Many (kL m s bE bS q d9 dL++[Many (ShT p ⟨F,M,B⟩ :: l)]) w V:=by
 refine Many.flat _ ((Many.app (kL m s bE bS q d9 dL) (l':=Gq p g v ⟨F,M,B⟩++[Many l]) h).imp (fun _ h=>h) fun U h=>Many.one ?_)
 exact (Many.app (Gq p g v ⟨F,M,B⟩) (l':=[Many l]) h).imp (fun U h=>⟨g,v,h⟩) fun U h=>Many.one' (Many.wide l) h
theorem zx {m s bE bS p:Nat} {q:K.Sm} {d9:List (Int×Value)} {dL:List (Key×Value)} {F:Int} {M:Nat} {B:List Int} {l:List cg} {w:World} {V:Nat→Prop} (h:Many (kL m s bE bS q d9 dL++[Many (ShT p ⟨F,M,B⟩ :: l)]) w V):∃ g v,Many (dU m s bE bS p g v q d9 dL F M B (Many l)) w V:=by
 obtain⟨V1,V2,h1,h2,a,b,c⟩:=Many.app (kL m s bE bS q d9 dL) h
 obtain⟨U1,U2,⟨g,v,h3⟩,h4,d,e,f⟩:=Many.one' (Many.wide _) h2
 exact⟨g,v,Many.flat (kL m s bE bS q d9 dL) (l':=Gq p g v ⟨F,M,B⟩++[Many l]) ⟨V1,V2,h1,Many.flat _ ⟨U1,U2,h3,Many.one h4,d,e,f⟩,a,b,c⟩⟩
theorem mA (L1 L2:Ev) (k:Key) (p:Nat) (x:Pl):(ShT p x :: li (L1++L2)).Perm (li (L1++(k,p,x) :: L2)):=by
 unfold li
 rw[aX,aX,bg]
 exact List.perm_middle.symm
theorem oq {H l l':List cg} (hp:l.Perm l') {w:World} {V:Nat→Prop} (h:Many (H++[Many l]) w V):Many (H++[Many l']) w V:=
 Many.flat H ((Many.app H h).imp (fun _ h=>h) fun U h=>Many.one (Many.perm hp (Many.one' (Many.wide l) h)))
theorem jv {κ:Type} {ke:κ→Value} [DecidableEq κ] {b:Nat} {q:List (κ×Value)} {w:World} {V:Nat→Prop} (h:cJ ke b q w V):(q.map Prod.fst).Nodup:=h.2.1
theorem zy {k:Key} {gp:List (Key×Pl)} {x:Pl} {m s bE bS p g:Nat} {v:Value} {q:K.Sm} {d9:List (Int×Value)} {dL:List (Key×Value)} {F:Int} {M:Nat} {B:List Int} {R:cg} {w:World} {V:Nat→Prop} (hO:lR k gp x p dL R) (hn:(dL.map Prod.fst).Nodup) (h:Many (dU m s bE bS p g v q d9 (dQ dL k (((p:Nat):Value))) F M B R) w V):eA m q d9 (eX gp k ⟨F,M,B⟩) w V:=by
 obtain⟨L,rfl,rfl,⟨L1,L2,rfl,hk,rfl⟩|⟨hk,rfl⟩⟩:=hO
 ·refine⟨s,bE,bS,L1++(k,p,⟨F,M,B⟩) :: L2,?_,?_⟩
  ·have e:ju (L1++(k,p,x) :: L2)=ju L1++(k,x) :: ju L2:=by simp[ju]
   rw[e,CW (by rw[l3];exact hk)]
   simp[ju]
  ·have h1:=oq (mA L1 L2 k p ⟨F,M,B⟩) (mz h)
   have e:dQ (f9 (L1++(k,p,x) :: L2)) k (((p:Nat):Value))=f9 (L1++(k,p,⟨F,M,B⟩) :: L2):=by
    unfold dQ
    rw[if_pos (by rw[iH];simp)]
    rw[iH,aX,bg] at hn
    have hn2:k ∉ L2.map Prod.fst:=fun e=>by
     have:=(List.nodup_append.1 hn).2.1
     exact (List.nodup_cons.1 this).1 e
    have hid:∀ L:Ev,k ∉ L.map Prod.fst→((f9 L).map fun a=>if a.1=k then (k,Value.pointer (some ⟨p,0,none⟩)) else a)=f9 L:=fun L hL=>by
     conv=>rhs;rw[←List.map_id (f9 L)]
     refine List.map_congr_left fun a ha=>?_
     have:¬ a.1=k:=fun e=>hL (by rw[←iH];exact e▸List.mem_map_of_mem ha)
     rw[if_neg this];rfl
    have es:∀ y:Pl,f9 (L1++(k,p,y) :: L2)=f9 L1++(k,((p:Nat):Value)) :: f9 L2:=fun y=>by simp[f9]
    rw[es,es,aX,bg,hid L1 hk,hid L2 hn2,if_pos rfl]
   rw[e] at h1
   exact h1
 ·refine⟨s,bE,bS,L++[(k,p,⟨F,M,B⟩)],?_,?_⟩
  ·rw[wM (by rw[l3];exact hk)]
   simp[ju]
  ·have h1:=oq (l':=li (L++[(k,p,⟨F,M,B⟩)])) (by
    have:=mA L [] k p ⟨F,M,B⟩
    rwa [bf] at this) (mz h)
   rw[C4 _ (by rw[iH];exact hk)] at h1
   have e:f9 L++[(k,((p:Nat):Value))]=f9 (L++[(k,p,⟨F,M,B⟩)]):=by simp[f9]
   rw[e] at h1
   exact h1
theorem iI {k:Key} {gp:List (Key×Pl)} {x:Pl} {m s bE bS p g:Nat} {v:Value} {q:K.Sm} {d9:List (Int×Value)} {dL:List (Key×Value)} {R:cg} {w:World} {V:Nat→Prop} (hO:lR k gp x p dL R) (h:Many (dU m s bE bS p g v q d9 dL x.F x.M x.B R) w V):eA m q d9 gp w V:=by
 obtain⟨L,rfl,rfl,⟨L1,L2,rfl,hk,rfl⟩|⟨hk,rfl⟩⟩:=hO
 ·exact⟨s,bE,bS,_,rfl,oq (mA L1 L2 k p x) (mz h)⟩
 ·refine⟨s,bE,bS,L,rfl,?_⟩
  have h1:=mz h
  exact Many.flat _ ((Many.app (kL m s bE bS q d9 (f9 L)) h1).imp (fun _ h=>h) fun U h=>Many.one (by
   obtain⟨U1,hU,hs⟩:=(Many.one' (Many.wide _) h:Many (ShT p ⟨x.F,x.M,x.B⟩ :: li L) w U).snd
   exact Many.wide _ w U1 U hs hU))
theorem pu (w:World):Calls au 12 #[] w fun e w'=>∃ m,e=.returned (((m:Nat):Value))∧eA m [] [] [] w' (New w w')∧Grow w w':=
 (rc w).mono fun e w' ⟨m,h1,⟨s,bE,bS,h2⟩,h3⟩=>⟨m,h1,⟨s,bE,bS,[],rfl,Many.flat _ ⟨New w w',fun _=>False,h2,Many.one trivial,fun _ h=>h,fun _ h=>h.elim,fun _ _ h=>h⟩⟩,h3⟩
theorem zA {L:Ev} {k:Key} (h:k∈L.map Prod.fst):∃ L1 L2 p x,L=L1++(k,p,x) :: L2∧k ∉ L1.map Prod.fst:=by
 induction L with
 | nil=>simp at h
 | cons a l ih=>
   obtain⟨k',p,x⟩:=a
   by_cases e:k'=k
   ·subst e;exact⟨[],l,p,x,rfl,by simp⟩
   ·have:k∈l.map Prod.fst:=by
     rw[bg] at h
     rcases List.mem_cons.1 h with h|h
     ·exact absurd h.symm e
     ·exact h
    obtain⟨L1,L2,p',x',e1,e2⟩:=ih this
    exact⟨(k',p,x) :: L1,L2,p',x',by rw[e1];rfl,fun h=>by
     rw[bg] at h
     rcases List.mem_cons.1 h with h|h
     ·exact e h.symm
     ·exact e2 h⟩
theorem l4 (w:World) (m:Nat) (q:K.Sm) (d9:List (Int×Value)) (gp:List (Key×Pl)) (V:Nat→Prop) (hV:∀ b,V b→b<w.heap.size) (ag sh:Int) (h:eA m q d9 gp w V):Calls au 53 #[((m:Nat):Value),ae af ag,ae af sh] w fun e w'=>∃ s bE bS p g v dL R,e=.returned (((p:Nat):Value))∧lR (ag,sh) gp (dx gp (ag,sh)) p dL R∧Grow w w'∧∃ U,Many (dU m s bE bS p g v q d9 dL (dx gp (ag,sh)).F (dx gp (ag,sh)).M (dx gp (ag,sh)).B R) w' U∧∀ b,U b→V b∨New w w' b:=by
 obtain⟨s,bE,bS,L,rfl,h⟩:=h
 have hm0:=(Many.pick _ 0 _ rfl h).fst
 obtain⟨_,hm0,_⟩:=hm0
 have JK:=hm0.2
 obtain⟨_,hG0,_⟩:=(Many.pick _ 3 _ rfl h).fst
 have hlk:=cJ.look CR (t:=115) (et:=120) am (zS w) hG0 (ag,sh) true
 have c2:=JK.cell 2
 by_cases hk:(ag,sh)∈L.map Prod.fst
 ·obtain⟨L1,L2,p,x,rfl,hk1⟩:=zA hk
  have hgl:pX (f9 (L1++((ag,sh),p,x) :: L2)) (ag,sh)=some (((p:Nat):Value)):=by
   refine vP (j:=L1.length) hG0.2.1 ?_
   simp[f9]
  have hst:dx (ju (L1++((ag,sh),p,x) :: L2)) (ag,sh)=x:=by
   have e:ju (L1++((ag,sh),p,x) :: L2)=ju L1++((ag,sh),x) :: ju L2:=by simp[ju]
   rw[e,CV (by rw[l3];exact hk1)]
  have hO:lR (ag,sh) (ju (L1++((ag,sh),p,x) :: L2)) x p (f9 (L1++((ag,sh),p,x) :: L2)) (Many (li (L1++L2))):=⟨_,rfl,rfl,.inl ⟨L1,L2,rfl,hk1,rfl⟩⟩
  obtain⟨g,v,hM⟩:=zx (oq (mA L1 L2 (ag,sh) p x).symm h)
  rw[hst]
  rw[hgl] at hlk
  simp only[u_,if_true,Option.getD_some,Option.isSome_some] at hlk
  clear hgl hst hk hk1 hG0 JK hm0 h
  generalize f9 (L1++((ag,sh),p,x) :: L2)=dL at hO hM
  generalize ju (L1++((ag,sh),p,x) :: L2)=gp at hO
  generalize Many (li (L1++L2))=R at hO hM
  go_enter Tryz.func53,Tryz.ntmps53
  go_wp2_with fail
  go_ret
  exact⟨s,bE,bS,p,g,v,dL,R,rfl,hO,Grow.refl _,V,hM,fun _ h => .inl h⟩
 ·have hgl:pX (f9 L) (ag,sh)=none:=pb (by rw[iH];exact hk)
  have hst:dx (ju L) (ag,sh)=⟨0,0,[]⟩:=wL (by rw[l3];exact hk)
  rw[hst]
  rw[hgl] at hlk
  simp only[u_,if_true] at hlk
  have hO:∀ p,lR (ag,sh) (ju L) ⟨0,0,[]⟩ p (f9 L) (Many (li L)):=fun p=>⟨L,rfl,rfl,.inr ⟨hk,rfl⟩⟩
  have QR:=re m s bE bS q d9 L
  clear hgl hst hk hG0 hm0
  have hN:=W.ym w
  go_enter Tryz.func53,Tryz.ntmps53
  go_wp2_with fail
  refine hN.mono ?_
  rintro e w1 ⟨rfl,hW,hg1⟩
  go_wp2_with fail
  go_ret
  have I5:=bN w1 (.cells #[.pointer (some ⟨w.heap.size,0,none⟩),ai none 0 0] 124)
  have hP:=ct.made w1 124 #[.pointer (some ⟨w.heap.size,0,none⟩),ai none 0 0]
  generalize hw2:w1.alloc (.cells #[.pointer (some ⟨w.heap.size,0,none⟩),ai none 0 0] 124)=w2 at I5 hP ⊢
  have z2:w2.heap.size=w1.heap.size+1:=by rw[←hw2];simp
  have hgA:=hg1.trans I5
  have hM:=Many.framed _ QR w w2 V h fun b hb=>hgA.block b (hV b hb)
  have hW2:=hW.grow I5
  have hwl:=hW.lt
  have h2:Many (Gq w1.heap.size w.heap.size (ai none 0 0) ⟨0,0,[]⟩) w2 (fun b=>b=w1.heap.size∨b=w.heap.size):=
   ⟨fun b=>b=w1.heap.size,fun b=>b=w.heap.size,⟨rfl,hP⟩,⟨fun b=>b=w.heap.size,fun _=>False,⟨rfl,hW2⟩,Many.one Own.nil,fun _ h=>h,fun _ h=>h.elim,fun _ _ h=>h⟩,fun _ h => .inl h,fun _ h => .inr h,fun b h1 h2=>by omega⟩
  refine⟨s,bE,bS,w1.heap.size,w.heap.size,ai none 0 0,f9 L,Many (li L),rfl,hO _,hgA,fun b=>V b∨b=w1.heap.size∨b=w.heap.size,?_,fun b hb=>?_⟩
  ·have h3:Many ((kL m s bE bS q d9 (f9 L)++[Many (li L)])++Gq w1.heap.size w.heap.size (ai none 0 0) ⟨0,0,[]⟩) w2 (fun b=>V b∨b=w1.heap.size∨b=w.heap.size):=
    Many.flat _ ⟨V,fun b=>b=w1.heap.size∨b=w.heap.size,hM,h2,fun _ h => .inl h,fun _ h => .inr h,fun b h1 h2=>by have:=hV b h1;have:=hg1.size;omega⟩
   rw[aM] at h3
   exact Many.perm (List.Perm.append_left (kL m s bE bS q d9 (f9 L)) (aG (l₁:=[Many (li L)]) (l₂:=Gq w1.heap.size w.heap.size (ai none 0 0) ⟨0,0,[]⟩))) h3
  ·rcases hb with hb|rfl|rfl
   ·exact .inl hb
   ·exact .inr ⟨hg1.size,by omega⟩
   ·exact .inr ⟨aC _,by omega⟩
end Go.Proofs.YtmijcbfgfkeodaaGreatDoor
end
section
namespace Go.Proofs.YtmijcbfgfkeodaaGreatDoor
open Go.RowKit Go.Hop
theorem wN (w:World) (m s bE bS p g:Nat) (Ab:Option Addr) (nb cb:Nat) (q:K.Sm) (d9:List (Int×Value)) (dL:List (Key×Value)) (F:Int) (M:Nat) (B:List Int) (R:cg) (hR:Framed R) (e:En) (A:Option Addr) (c:Nat) (D V:Nat→Prop) (hM:Many (dU m s bE bS p g (.slice Ab nb cb) q d9 dL F M B R) w V) (hV:∀ b,V b→b<w.heap.size) (hd:fV w D A e.ds.length e.ds) (hDl:∀ b,D b→b<w.heap.size) (j5:∀ b,D b→¬ V b) (hsz:∀ d∈e.ds,d.1.size≤maxLen∧d.2≤K.kc) (hn:e.ds.length≤1048576) (hq:q.length≤1048576) (hI:W.fu F M) (im:-9223372036854775808≤e.sq∧e.sq≤9223372036854775807) (hmay:K.i3 q e.ds=0) :
 Calls au 57 #[((m:Nat):Value),((p:Nat):Value),.agg (e.agg A c)] w fun en w'=>en=.returned (ae af 1)∧Many (dU m s bE bS p g (.slice Ab nb cb) (K.fP q e.ds) d9 (dQ dL (e.ag,e.sh) (((p:Nat):Value))) (W.dm F M e.sq).1 (W.dm F M e.sq).2 B R) w' (Ext V w w')∧Just V w w':=by
 have I7:∀ (vs:Array Value) (w:World),(callFunc 131 vs).run au w=.ok (.enter 131 vs) w:=fun vs w=>by go_simp
 have I8:∀ (vs:Array Value) (w:World),(callFunc 133 vs).run au w=.ok (.enter 133 vs) w:=fun vs w=>by go_simp
 have Kz:∀ (vs:Array Value) (w:World),(callFunc 132 vs).run au w=.ok (.enter 132 vs) w:=fun vs w=>by go_simp
 have hF:=de m s bE bS p g (.slice Ab nb cb) q d9 dL F M B hR
 have hS:=Solo.begin_ hM hV
 have hg0:=bN w (.cells (e.agg A c) 32)
 have du:=ct.made w 32 (e.agg A c)
 obtain⟨y,HY⟩:∃ y:Nat,Hid (y=w.heap.size):=⟨_,rfl⟩
 obtain⟨wa,dq⟩:∃ wa:World,Hid (wa=w.alloc (.cells (e.agg A c) 32)):=⟨_,rfl⟩
 rw[←dq.out] at hg0 du
 rw[←HY.out] at du
 unfold En.agg at dq ⊢
 have ez:=hS.join hF hg0 (R:=Cell y 32 #[ae af e.k,ae af e.ag,ae af e.sh,ae af e.sq,ae af e.ep,.slice A e.ds.length c,.string e.se,ae af e.fr,ae af e.tg]) (U:=fun b=>b=y) ⟨rfl,du⟩ (fun b hb=>by have:=HY.out;have:=du.lt;omega)
 have eP:=hF.cons (Cell.framed y 32 #[ae af e.k,ae af e.ag,ae af e.sh,ae af e.sq,ae af e.ep,.slice A e.ds.length c,.string e.se,ae af e.fr,ae af e.tg])
 have kf:=ez.blk 0 rfl
 have hm1:=ez.blk 1 rfl
 clear du
 go_enter Tryz.func57,Tryz.ntmps57
 go_wp2_with fail
 rw[←dq.out,←HY.out]
 refine bL 6 60 [] rfl rfl am am am ?_ ?_
 ·intro x hx φ he
  cases hx
 intro ops' A' K' T hops hA' hK hT
 refine bP 8 (((m:Nat):Value)) ?_
 refine bQ 9 (.tmp 8) (((m:Nat):Value)) (((m:Nat):Value)) ?_
 refine bQ 10 (.tmp 9) (((m:Nat):Value)) (((m:Nat):Value)) ?_
 refine bI 11 (.tmp 10) (((m:Nat):Value)) (((s:Nat):Value)) (fun ρ h1 kk w1 (hg:Grow _ w1) hb hf=>by have c:=(hm1.grow hg).cell 0;go_simp) ?_
 refine bQ 12 (.tmp 5) (((y:Nat):Value)) (.pointer (some ⟨y,5,none⟩)) ?_
 refine bI 13 (.tmp 12) (.pointer (some ⟨y,5,none⟩)) (.slice A e.ds.length c) (fun ρ h1 kk w1 (hg:Grow _ w1) hb hf=>by have c:=(kf.grow hg).cell 5;go_simp) ?_
 refine ce (fun _ _ w1 (hg:Grow _ w1) _ bR=>hT _ _ ?_)
 clear hops hA' hK hT
 simp only[cj,Act.put,aw,ay,az,ax,aB]
 have hS1:=ez.grows eP hg
 have J1:=Just.bJ (V:=cB V w) (hg0.trans hg)
 have hd1:=hd.grow (hg0.trans hg)
 have hcall:=hS1.zw 2 rfl eP (fun U hU ey wO=>K.kV w1 s q U hU ey A e.ds.length c e.ds D hd1 (fun b hb hu=>(wO b hu).elim (j5 b hb) (fun h=>by have:=hDl b hb;omega)) hsz hn hq)
 rw[hmay] at hcall
 go_wp2_with fail
 refine hcall.mono ?_
 rintro en w2 ⟨rfl,hj2,hS2⟩
 obtain⟨q',HQ⟩:∃ q':K.Sm,Hid (q'=K.fP q e.ds):=⟨_,rfl⟩
 rw[←HQ.out] at hS2
 have hS2:Solo (cB V w) (Many (Cell y 32 #[ae af e.k,ae af e.ag,ae af e.sh,ae af e.sq,ae af e.ep,.slice A e.ds.length c,.string e.se,ae af e.fr,ae af e.tg] :: dU m s bE bS p g (.slice Ab nb cb) q' d9 dL F M B R)) w2:=hS2
 have iU:=(de m s bE bS p g (.slice Ab nb cb) q' d9 dL F M B hR).cons (Cell.framed y 32 #[ae af e.k,ae af e.ag,ae af e.sh,ae af e.sq,ae af e.ep,.slice A e.ds.length c,.string e.se,ae af e.fr,ae af e.tg])
 have hp2:=hS2.blk 5 rfl
 have hY2:=hS2.blk 0 rfl
 go_wp2_with fail
 refine bL 7 60 [] rfl rfl am am am ?_ ?_
 ·intro x hx φ he
  cases hx
 intro ops' A' K' T hops hA' hK hT
 refine bP 39 (((p:Nat):Value)) ?_
 refine bI 40 (.tmp 39) (((p:Nat):Value)) (((p:Nat):Value)) (fun ρ h1 kk w3 (hgB:Grow _ w3) hb hf=>by go_simp) ?_
 refine bI 41 (.tmp 40) (((p:Nat):Value)) (((p:Nat):Value)) (fun ρ h1 kk w3 (hgB:Grow _ w3) hb hf=>by go_simp) ?_
 refine bI 42 (.tmp 41) (((p:Nat):Value)) (((g:Nat):Value)) (fun ρ h1 kk w3 (hgB:Grow _ w3) hb hf=>by have c:=(hp2.grow hgB).cell 0;go_simp) ?_
 refine bI 43 (.tmp 5) (((y:Nat):Value)) (.pointer (some ⟨y,1,none⟩)) (fun ρ h1 kk w3 (hgB:Grow _ w3) hb hf=>by go_simp) ?_
 refine bI 44 (.tmp 43) (.pointer (some ⟨y,1,none⟩)) (.pointer (some ⟨y,1+2,none⟩)) (fun ρ h1 kk w3 (hgB:Grow _ w3) hb hf=>by go_simp) ?_
 refine bI 45 (.tmp 44) (.pointer (some ⟨y,1+2,none⟩)) (ae af e.sq) (fun ρ h1 kk w3 (hgB:Grow _ w3) hb hf=>by have c:=(hY2.grow hgB).cell 3;go_simp) ?_
 refine ce (fun _ _ w3 (hgB:Grow _ w3) _ bR=>hT _ _ ?_)
 clear hops hA' hK hT
 simp only[cj,Act.put,aw,ay,az,ax,aB]
 have dO:=hS2.grows iU hgB
 have hc3:=dO.zw (S':=Cell g 223 #[ae af (W.dm F M e.sq).1,ae ah ((W.dm F M e.sq).2:Int)]) 6 rfl iU (fun U hU ey wO=>(W.sk w3 g F M e.sq hU.2 hI im).mono fun en w' ⟨h1,h2,h3⟩=>⟨h1,⟨.inl hU.1,h2⟩,Just.dj h3 hU.1⟩)
 go_wp2_with fail
 refine hc3.mono ?_
 rintro en w4 ⟨rfl,ko,ev⟩
 have ev:Solo (cB V w) (Many (Cell y 32 #[ae af e.k,ae af e.ag,ae af e.sh,ae af e.sq,ae af e.ep,.slice A e.ds.length c,.string e.se,ae af e.fr,ae af e.tg] :: dU m s bE bS p g (.slice Ab nb cb) q' d9 dL (W.dm F M e.sq).1 (W.dm F M e.sq).2 B R)) w4:=ev
 obtain⟨F',HF⟩:∃ F':Int,Hid (F'=(W.dm F M e.sq).1):=⟨_,rfl⟩
 obtain⟨M',Gr⟩:∃ M':Nat,Hid (M'=(W.dm F M e.sq).2):=⟨_,rfl⟩
 rw[←HF.out,←Gr.out] at ev
 have Bg:=(de m s bE bS p g (.slice Ab nb cb) q' d9 dL F' M' B hR).cons (Cell.framed y 32 #[ae af e.k,ae af e.ag,ae af e.sh,ae af e.sq,ae af e.ep,.slice A e.ds.length c,.string e.se,ae af e.fr,ae af e.tg])
 have qX:=ev.blk 0 rfl
 have JI:=ev.blk 1 rfl
 go_wp2_with fail
 refine bL 12 60 [] rfl rfl am am am ?_ ?_
 ·intro x hx φ he
  cases hx
 intro ops' A' K' T hops hA' hK hT
 refine bP 47 (((m:Nat):Value)) ?_
 refine bI 48 (.tmp 47) (((m:Nat):Value)) (((m:Nat):Value)) (fun ρ h1 kk w5 (iJ:Grow _ w5) hb hf=>by go_simp) ?_
 refine bI 49 (.tmp 48) (((m:Nat):Value)) (.pointer (some ⟨m,2,none⟩)) (fun ρ h1 kk w5 (iJ:Grow _ w5) hb hf=>by go_simp) ?_
 refine bI 50 (.tmp 49) (.pointer (some ⟨m,2,none⟩)) (.map (some bS)) (fun ρ h1 kk w5 (iJ:Grow _ w5) hb hf=>by have c:=(JI.grow iJ).cell 2;go_simp) ?_
 refine bI 51 (.tmp 5) (((y:Nat):Value)) (.pointer (some ⟨y,1,none⟩)) (fun ρ h1 kk w5 (iJ:Grow _ w5) hb hf=>by go_simp) ?_
 refine bI 52 (.tmp 51) (.pointer (some ⟨y,1,none⟩)) (.pointer (some ⟨y,1+0,none⟩)) (fun ρ h1 kk w5 (iJ:Grow _ w5) hb hf=>by go_simp) ?_
 refine bI 53 (.tmp 52) (.pointer (some ⟨y,1+0,none⟩)) (ae af e.ag) (fun ρ h1 kk w5 (iJ:Grow _ w5) hb hf=>by have c:=(qX.grow iJ).cell 1;go_simp) ?_
 refine bI 54 (.tmp 5) (((y:Nat):Value)) (.pointer (some ⟨y,1,none⟩)) (fun ρ h1 kk w5 (iJ:Grow _ w5) hb hf=>by go_simp) ?_
 refine bI 55 (.tmp 54) (.pointer (some ⟨y,1,none⟩)) (.pointer (some ⟨y,1+1,none⟩)) (fun ρ h1 kk w5 (iJ:Grow _ w5) hb hf=>by go_simp) ?_
 refine bI 56 (.tmp 55) (.pointer (some ⟨y,1+1,none⟩)) (ae af e.sh) (fun ρ h1 kk w5 (iJ:Grow _ w5) hb hf=>by have c:=(qX.grow iJ).cell 2;go_simp) ?_
 refine cm 57 (.tmp 53) (.tmp 56) (ae af e.ag) (ae af e.sh) (.agg #[ae af e.ag,ae af e.sh]) (fun ρ h1 h2 kk w5 (iJ:Grow _ w5) hb hf=>by go_simp) ?_
 refine bP 58 (((p:Nat):Value)) ?_
 refine ce (fun _ _ w5 (iJ:Grow _ w5) _ bR=>hT _ _ ?_)
 clear hops hA' hK hT
 simp only[cj,Act.put,aw,ay,az,ax,aB]
 have hS5:=ev.grows Bg iJ
 obtain⟨w6,hrun,eC,fI⟩:=hS5.qb (φ:=fun w'=>(Instr.mapUpdate 115 (.map (some bS)) (.agg #[ae af e.ag,ae af e.sh]) (((p:Nat):Value))).run au w5=.ok () w') 4 rfl Bg (fun U hU ey=>by
  obtain⟨w',h1,h2,h3⟩:=cJ.put CR (t:=115) (et:=120) am hU (e.ag,e.sh) (((p:Nat):Value))
  exact⟨w',h1,h2,h3.imp fun b hb=>hb▸hU.1⟩)
 go_wp2_with fail
 go_ret
 obtain⟨r1,r2⟩:=Solo.done (l:=dU m s bE bS p g (.slice Ab nb cb) q' d9 (dQ dL (e.ag,e.sh) (((p:Nat):Value))) F' M' B R) eC.drop1 (((J1.trans hj2).trans ((Just.bJ hgB).trans ko)).trans ((Just.bJ iJ).trans fI)) hV
 rw[←HQ.out,←HF.out,←Gr.out]
 exact⟨rfl,r1,r2⟩
theorem u7 (w:World) (m s bE bS p g:Nat) (Ab:Option Addr) (nb cb:Nat) (q:K.Sm) (d9:List (Int×Value)) (dL:List (Key×Value)) (F:Int) (M:Nat) (B:List Int) (R:cg) (hR:Framed R) (e:En) (A:Option Addr) (c:Nat) (D V:Nat→Prop) (hM:Many (dU m s bE bS p g (.slice Ab nb cb) q d9 dL F M B R) w V) (hV:∀ b,V b→b<w.heap.size) (hd:fV w D A e.ds.length e.ds) (hDl:∀ b,D b→b<w.heap.size) (j5:∀ b,D b→¬ V b) (hsz:∀ d∈e.ds,d.1.size≤maxLen∧d.2≤K.kc) (hn:e.ds.length≤1048576) (hq:q.length≤1048576) (hI:W.fu F M) (im:-9223372036854775808≤e.sq∧e.sq≤9223372036854775807) (hmay:K.i3 q e.ds≠0) (hnb:8≤nb) :
 Calls au 57 #[((m:Nat):Value),((p:Nat):Value),.agg (e.agg A c)] w fun en w'=>en=.returned (ae af 5)∧Many (dU m s bE bS p g (.slice Ab nb cb) q d9 dL F M B R) w' (Ext V w w')∧Just V w w':=by
 have I7:∀ (vs:Array Value) (w:World),(callFunc 131 vs).run au w=.ok (.enter 131 vs) w:=fun vs w=>by go_simp
 have I8:∀ (vs:Array Value) (w:World),(callFunc 133 vs).run au w=.ok (.enter 133 vs) w:=fun vs w=>by go_simp
 have Kz:∀ (vs:Array Value) (w:World),(callFunc 132 vs).run au w=.ok (.enter 132 vs) w:=fun vs w=>by go_simp
 have hF:=de m s bE bS p g (.slice Ab nb cb) q d9 dL F M B hR
 have hS:=Solo.begin_ hM hV
 have hg0:=bN w (.cells (e.agg A c) 32)
 have du:=ct.made w 32 (e.agg A c)
 obtain⟨y,HY⟩:∃ y:Nat,Hid (y=w.heap.size):=⟨_,rfl⟩
 obtain⟨wa,dq⟩:∃ wa:World,Hid (wa=w.alloc (.cells (e.agg A c) 32)):=⟨_,rfl⟩
 rw[←dq.out] at hg0 du
 rw[←HY.out] at du
 unfold En.agg at dq ⊢
 have ez:=hS.join hF hg0 (R:=Cell y 32 #[ae af e.k,ae af e.ag,ae af e.sh,ae af e.sq,ae af e.ep,.slice A e.ds.length c,.string e.se,ae af e.fr,ae af e.tg]) (U:=fun b=>b=y) ⟨rfl,du⟩ (fun b hb=>by have:=HY.out;have:=du.lt;omega)
 have eP:=hF.cons (Cell.framed y 32 #[ae af e.k,ae af e.ag,ae af e.sh,ae af e.sq,ae af e.ep,.slice A e.ds.length c,.string e.se,ae af e.fr,ae af e.tg])
 have kf:=ez.blk 0 rfl
 have hm1:=ez.blk 1 rfl
 clear du
 go_enter Tryz.func57,Tryz.ntmps57
 go_wp2_with fail
 rw[←dq.out,←HY.out]
 refine bL 6 60 [] rfl rfl am am am ?_ ?_
 ·intro x hx φ he
  cases hx
 intro ops' A' K' T hops hA' hK hT
 refine bP 8 (((m:Nat):Value)) ?_
 refine bQ 9 (.tmp 8) (((m:Nat):Value)) (((m:Nat):Value)) ?_
 refine bQ 10 (.tmp 9) (((m:Nat):Value)) (((m:Nat):Value)) ?_
 refine bI 11 (.tmp 10) (((m:Nat):Value)) (((s:Nat):Value)) (fun ρ h1 kk w1 (hg:Grow _ w1) hb hf=>by have c:=(hm1.grow hg).cell 0;go_simp) ?_
 refine bQ 12 (.tmp 5) (((y:Nat):Value)) (.pointer (some ⟨y,5,none⟩)) ?_
 refine bI 13 (.tmp 12) (.pointer (some ⟨y,5,none⟩)) (.slice A e.ds.length c) (fun ρ h1 kk w1 (hg:Grow _ w1) hb hf=>by have c:=(kf.grow hg).cell 5;go_simp) ?_
 refine ce (fun _ _ w1 (hg:Grow _ w1) _ bR=>hT _ _ ?_)
 clear hops hA' hK hT
 simp only[cj,Act.put,aw,ay,az,ax,aB]
 have hS1:=ez.grows eP hg
 have J1:=Just.bJ (V:=cB V w) (hg0.trans hg)
 have hd1:=hd.grow (hg0.trans hg)
 have hcall:=hS1.zw 2 rfl eP (fun U hU ey wO=>K.kV w1 s q U hU ey A e.ds.length c e.ds D hd1 (fun b hb hu=>(wO b hu).elim (j5 b hb) (fun h=>by have:=hDl b hb;omega)) hsz hn hq)
 have hadd:K.fP q e.ds=q:=by unfold K.fP;rw[if_neg hmay]
 rw[hadd] at hcall
 obtain⟨x,HX⟩:∃ x:Int,Hid (x=K.i3 q e.ds):=⟨_,rfl⟩
 rw[←HX.out] at hcall hmay
 have hx1:(x == 0)=false:=beq_eq_false_iff_ne.2 hmay
 have hx2:decide (x=0)=false:=decide_eq_false hmay
 have hx3:(x != 0)=true:=bne_iff_ne.2 hmay
 have hb1:decide ((8:Int)≤(nb:Int))=true:=decide_eq_true al
 go_wp2_with fail
 refine hcall.mono ?_
 rintro en w2 ⟨rfl,hj2,hS2⟩
 have hS2:Solo (cB V w) (Many (Cell y 32 #[ae af e.k,ae af e.ag,ae af e.sh,ae af e.sq,ae af e.ep,.slice A e.ds.length c,.string e.se,ae af e.fr,ae af e.tg] :: dU m s bE bS p g (.slice Ab nb cb) q d9 dL F M B R)) w2:=hS2
 have hp2:=hS2.blk 5 rfl
 have c1:=hp2.cell 1
 clear hmay hnb
 go_wp2_with fail
 go_ret
 obtain⟨r1,r2⟩:=Solo.done (l:=dU m s bE bS p g (.slice Ab nb cb) q d9 dL F M B R) hS2.drop1 (J1.trans hj2) hV
 exact⟨rfl,r1,r2⟩
end Go.Proofs.YtmijcbfgfkeodaaGreatDoor
end
