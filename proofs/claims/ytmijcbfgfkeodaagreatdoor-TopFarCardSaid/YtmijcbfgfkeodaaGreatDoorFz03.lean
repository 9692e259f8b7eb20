/- More, Sep, Sepb, Kit, Dlt, Lb, Slt. -/
import Derived.Test.YtmijcbfgfkeodaaGreatDoorFz02
import Derived.Test.YtmijcbfgfkeodaaGreatDoorProg
import Derived.Sort.Walk0
set_option linter.all false
set_option maxRecDepth 100000
section
namespace Go.Hop
open Go.RowKit
def New (w w':World) (b:Nat):Prop:=w.heap.size≤b∧b<w'.heap.size
theorem own_new {w w1:World} {t e:TypeId} {size:Nat} {v:Value} {n:Nat} {xs:List Value} (hO:Own w1 (Ext (fun b=>b=w.heap.size) (w.alloc (.cells #[] t)) w1) e size v n xs) (hj:Just (fun b=>b=w.heap.size) (w.alloc (.cells #[] t)) w1):Own w1 (New w w1) e size v n xs∧Grow w w1:=by
 have hs:w.heap.size<w1.heap.size:=by have:=hj.size;simp at this;omega
 refine⟨hO.mono (fun b hb=>?_),((Below.refl w.heap.size w).alloc (Nat.le_refl _) (.cells #[] t)).trans (hj.below (B:=w.heap.size) (fun b hb=>by rw[hb];exact Nat.le_refl _) (by simp))⟩
 rcases hb with rfl|⟨h1,h2⟩
 ·exact⟨Nat.le_refl _,hs⟩
 ·simp at h1;exact⟨by omega,h2⟩
theorem made_own (w:World) (e:TypeId) (size:Nat):Own (w.alloc (.cells #[] e)) (fun b=>b=w.heap.size) e size (.slice (some ⟨w.heap.size,0,none⟩) 0 0) 0 []:=
 ⟨by simp,.inr ⟨w.heap.size,0,#[],rfl,rfl,heap_alloc_new w _,Nat.le_refl _,Nat.zero_le _,.inl (by simp),by simp⟩⟩
section
variable {P P' Q:Nat→Prop} {S S' R:Thing} {w w':World}
theorem Duo.leftE {Pr:Program} {f:FuncId} {args:Array Value} {ι:Type} {C:ι→Ending→Prop} {S':ι→Thing} (h:Duo P S R w) (hR:Framed R) (hc:∀ V:Nat→Prop,S w V→(∀ b,V b→b<w.heap.size)→Calls Pr f args w fun e w'=>∃ i,C i e∧S' i w' (Ext V w w')∧Just V w w') :
 Calls Pr f args w fun e w'=>∃ i,C i e∧Just P w w'∧Duo P (S' i) R w':=by
 obtain⟨h0,V,U,h1,h2,h3,h4,h5⟩:=h
 refine (hc V h1 (fun b hb=>(h4 b hb).2)).mono fun e w' ⟨i,he,hs,hj⟩=>⟨i,he,hj.imp fun k hk=>(h4 k hk).1,fun b hb=>h0 b (Nat.le_trans hj.size hb),Ext V w w',U,hs,hR w w' U h2 (fun b hb=>hj.block b (h5 b hb).2 (fun hv=>h3 b hv hb)),fun b hb hu=>?_,ext_lt h4 h0 hj.size,fun b hb=>⟨(h5 b hb).1,Nat.lt_of_lt_of_le (h5 b hb).2 hj.size⟩⟩
 rcases hb with hb|⟨hb,_⟩
 ·exact h3 b hb hu
 ·have:=(h5 b hu).2;omega
theorem Solo.callE {Pr:Program} {f:FuncId} {args:Array Value} {ι:Type} {C:ι→Ending→Prop} {S':ι→Thing} (h:Solo P S w) (hc:∀ V:Nat→Prop,S w V→(∀ b,V b→b<w.heap.size)→Calls Pr f args w fun e w'=>∃ i,C i e∧S' i w' (Ext V w w')∧Just V w w') :
 Calls Pr f args w fun e w'=>∃ i,C i e∧Just P w w'∧Solo P (S' i) w':=by
 obtain⟨h0,V,h1,h2⟩:=h
 exact (hc V h1 (fun b hb=>(h2 b hb).2)).mono fun e w' ⟨i,he,hs,hj⟩=>⟨i,he,hj.imp fun k hk=>(h2 k hk).1,fun b hb=>h0 b (Nat.le_trans hj.size hb),Ext V w w',hs,ext_lt h2 h0 hj.size⟩
theorem Solo.turn (h:Solo P S w) (hS:∀ V,S w V→S' w V):Solo P S' w:=by
 obtain⟨h0,V,h1,h2⟩:=h
 exact⟨h0,V,hS V h1,h2⟩
end
def AppRow (R:Nat→Prop) (I0:World→Prop) (m1:Nat) (st:List (Nat×Nat)):Stages where
 G:=Just R
 T:=fun _=>Just R
 I := fun k w=>match k with
   | 0=>I0 w
   | _=>True
 muts:=[m1]
 stage:=fun j=>if j=m1 then some 0 else st.lookup j
theorem appRow_ok {R:Nat→Prop} {I0:World→Prop} {m1:Nat} {st:List (Nat×Nat)} (hI:∀ a b,I0 a→Grow a b→I0 b):(AppRow R I0 m1 st).Ok:=by
 refine⟨fun _ _ _=>Just.trans,fun _ _ h=>Just.of_grow h,fun _ _ _ h=>h,fun k a b h hg=>?_⟩
 rcases k with _|k
 ·exact hI a b h hg
 ·exact trivial
def PastB (B:Nat) (φ:Value→World→Prop):Prop:=∀ u w w',φ u w→Just (fun b=>b<B) w w'→φ u w'
theorem lasts_row {R:Nat→Prop} {I0:World→Prop} {m1:Nat} {st:List (Nat×Nat)} {B:Nat} (hRB:∀ x,R x→x<B) {φ:Value→World→Prop} (h:PastB B φ):Lasts (AppRow R I0 m1 st) (fun _ u w=>φ u w):=fun _ u w w' hu=>
 ⟨fun hg=>h u w w' hu (Just.of_grow hg),fun _ ht=>h u w w' hu (Just.imp ht hRB)⟩
theorem lasts_row_once {R:Nat→Prop} {I0:World→Prop} {m1:Nat} {st:List (Nat×Nat)} {φ:Value→World→Prop} (h:Lasting φ):Lasts (AppRow R I0 m1 st) (Once φ):=fun k u w w' hu=>by
 rcases k with _|k
 ·exact hu.elim
 ·exact⟨fun hg=>h u w w' hu hg,fun hk=>by simp[AppRow] at hk⟩
section
variable {α:Type} (e:TypeId) (size:Nat) (cells:α→List Value) (good:World→(Nat→Prop)→α→Prop)
def NewG (B:Nat) (X:α→Prop) (u:Value) (w:World):Prop:=∃ (b:α) (H:Nat),X b∧u=.agg (cells b).toArray∧good w (fun x=>B≤x∧x<H) b∧H≤w.heap.size
def RowG (B:Nat) (X:α→Prop) (u:Value) (w:World):Prop:=∃ (b:α) (H:Nat) (A:Option Addr),X b∧u=.slice A 1 1∧In w (fun x=>B≤x) size A 1 (cells b)∧good w (fun x=>B≤x∧x<H) b∧H≤w.heap.size
def FinG (R:Nat→Prop) (B:Nat) (q:List α) (X:α→Prop) (u:Value) (w:World):Prop:=
 ∃ (b:α) (R' D':Nat→Prop),X b∧Row w R' e size u (q.length+1) ((q++[b]).flatMap cells)∧good w D' b∧(∀ x,R' x→(R x∨B≤x)∧x<w.heap.size∧¬ D' x)∧(∀ x,D' x→B≤x∧x<w.heap.size)
variable {e size cells good}
variable {R:Nat→Prop} {B:Nat} {q:List α} {X:α→Prop}
def GoodJust (good:World→(Nat→Prop)→α→Prop):Prop:=∀ (w w':World) (D U:Nat→Prop) (a:α),good w D a→Just U w w'→(∀ b,D b→¬ U b)→good w' D a
theorem finG_just (hG:GoodJust good) {U:Nat→Prop} {u:Value} {w w':World} (h:FinG e size cells good R B q X u w) (hj:Just U w w') (hd:∀ x,x<w.heap.size→(R x∨B≤x)→¬ U x):FinG e size cells good R B q X u w':=by
 obtain⟨b,R',D',h1,h3,h4,h5,h6⟩:=h
 exact⟨b,R',D',h1,h3.just hj fun x hx=>hd x (h5 x hx).2.1 (h5 x hx).1,hG _ _ _ _ _ h4 hj fun x hx=>hd x (h6 x hx).2 (.inr (h6 x hx).1),fun x hx=>⟨(h5 x hx).1,Nat.lt_of_lt_of_le (h5 x hx).2.1 hj.size,(h5 x hx).2.2⟩,fun x hx=>⟨(h6 x hx).1,Nat.lt_of_lt_of_le (h6 x hx).2 hj.size⟩⟩
theorem finG_lasting (hG:GoodJust good):Lasting (FinG e size cells good R B q X):=fun _ _ _ h hg=>finG_just hG h (U:=fun _=>False) (Just.of_grow hg) fun _ _ _ h=>h
theorem newG_past (hG:GoodJust good):PastB B (NewG cells good B X):=fun u w w' hu hj=>by
 obtain⟨b,H,h1,h2,h3,h4⟩:=hu
 exact⟨b,H,h1,h2,hG _ _ _ _ _ h3 hj fun x hx h=>Nat.lt_irrefl _ (Nat.lt_of_lt_of_le h hx.1),Nat.le_trans h4 hj.size⟩
theorem rowG_past (hG:GoodJust good):PastB B (RowG size cells good B X):=fun u w w' hu hj=>by
 obtain⟨b,H,A,h1,h2,h3,h4,h5⟩:=hu
 exact⟨b,H,A,h1,h2,h3.just hj fun x hx h=>Nat.lt_irrefl _ (Nat.lt_of_lt_of_le h hx),hG _ _ _ _ _ h4 hj fun x hx h=>Nat.lt_irrefl _ (Nat.lt_of_lt_of_le h hx.1),Nat.le_trans h5 hj.size⟩
theorem rowG_made {P:Program} (hG:GoodJust good) {w:World} {u:Value} {ρ:Operand→Value} {o:Oper} (hl:∀ b,(cells b).length=size) (h:NewG cells good B X u w) (hs:B≤w.heap.size)
 (hrun:∀ b:α,u=.agg (cells b).toArray→(execOp ρ o).run P w=.ok (.value (.slice (some ⟨w.heap.size,0,none⟩) 1 1)) (w.alloc (.cells (cells b).toArray e))) :
 flowUpon P (fun v w'=>Grow w w'∧RowG size cells good B X v w') ((execOp ρ o).run P w):=by
 obtain⟨b,H,e1,e2,hb,hH⟩:=h
 have hg:Grow w (w.alloc (.cells (cells b).toArray e)):=(Below.refl _ w).alloc (Nat.le_refl _) _
 refine flowUpon_value (hrun b e2) ⟨hg,b,H,some ⟨w.heap.size,0,none⟩,e1,rfl,?_,hG _ _ _ _ _ hb (Just.of_grow (V:=fun _=>False) hg) (fun _ _ h=>h),Nat.le_trans hH hg.size⟩
 obtain⟨h3,h4⟩:=reads_laid w (cells b).toArray e (0,0) (n:=1) (size:=size) (by simp[hl]) _ rfl
 exact⟨by simp[hl],fun hn=>⟨_,rfl,hs,by simp,by obtain⟨ad,e,_,hc⟩:=h4 hn;injection e with e;rw[e];simpa using hc⟩⟩
theorem finG_append {P:Program} {t:TypeId} {bytes:Nat} {z:Value} (E:Elem P t e size bytes z) (hG:GoodJust good) (hone:∀ b,∀ u∈cells b,u.oneCell'=true) {w:World} {v u:Value} {ρ:Operand→Value} {o:Oper} {x y:Operand} (hRB:∀ x,R x→x<B)
 (h:Row w R e size v q.length (q.flatMap cells)) (hu:RowG size cells good B X u w) (hBw:B≤w.heap.size) (hbytes:(q.length+1)*bytes≤140737488355328)
 (h1:ρ x=v) (h2:ρ y=u) (ho:o.op=.call { callee := .builtin .append,args:=#[x,y],argTypes:=#[t,t] }) :
 flowUpon P (fun v' w'=>Just R w w'∧FinG e size cells good R B q X v' w') ((execOp ρ o).run P w):=by
 obtain⟨b,H,A,e1,rfl,hI,hb,hH⟩:=hu
 refine flow_append_row E ho h1 h h2 hI.reads (hone b) hbytes fun v' w' hR hj=>⟨hj,b,Ext R w w',fun x=>B≤x∧x<H,e1,?_,hG _ _ _ _ _ hb hj fun x hx hr=>?_,fun x hx=>?_,fun x hx=>⟨hx.1,Nat.lt_of_lt_of_le hx.2 (Nat.le_trans hH hj.size)⟩⟩
 ·rw[List.flatMap_append,List.flatMap_cons,List.flatMap_nil,List.append_nil];exact hR
 ·exact Nat.lt_irrefl _ (Nat.lt_of_lt_of_le (hRB x hr) hx.1)
 ·rcases hx with hx|hx
  ·have:=hRB x hx
   exact⟨.inl hx,by have:=hj.size;omega,fun hd=>by have h3:B≤x:=hd.1;omega⟩
  ·exact⟨.inr (by have:=hx.1;omega),hx.2,fun hd=>by have:=hx.1;have h3:x<H:=hd.2;omega⟩
end
section
variable {P:Program} {t e:TypeId} {size bytes:Nat} {z:Value}
end
def Sep (S R:Thing):Thing:=fun w V=>∃ V1 V2:Nat→Prop,S w V1∧R w V2∧(∀ b,V1 b→V b)∧(∀ b,V2 b→V b)∧∀ b,V1 b→¬ V2 b
def Emp:Thing:=fun _ _=>True
def Many:List Thing→Thing
 | []=>Emp
 | S :: l=>Sep S (Many l)
def Cell (x:Nat) (t:TypeId) (cs:Array Value):Thing:=fun w V=>V x∧Blk w x t cs
def AllFramed (l:List Thing):Prop:=∀ S∈l,Framed S
section
variable {S S' R R':Thing} {l l':List Thing} {w w':World} {V V':Nat→Prop}
theorem Cell.framed (x:Nat) (t:TypeId) (cs:Array Value):Framed (Cell x t cs):=fun _ _ _ h hk=>⟨h.1,(hk x h.1).trans h.2⟩
theorem Emp.framed:Framed Emp:=fun _ _ _ _ _=>trivial
theorem Sep.framed (h1:Framed S) (h2:Framed R):Framed (Sep S R):=fun w w' V ⟨V1,V2,a,b,c,d,e⟩ hk=>⟨V1,V2,h1 w w' V1 a fun x hx=>hk x (c x hx),h2 w w' V2 b fun x hx=>hk x (d x hx),c,d,e⟩
theorem Many.framed:∀ (l:List Thing),AllFramed l→Framed (Many l)
 | [],_=>Emp.framed
 | S :: l,h=>Sep.framed (h S (by simp)) (Many.framed l fun R hR=>h R (by simp[hR]))
theorem AllFramed.nil:AllFramed []:=fun S h=>by simp at h
theorem AllFramed.cons (h:Framed S) (hl:AllFramed l):AllFramed (S :: l):=fun R hR=>by
 rcases List.mem_cons.1 hR with rfl|hR
 ·exact h
 ·exact hl R hR
theorem Sep.wide (h:Sep S R w V) (hV:∀ b,V b→V' b):Sep S R w V':=by
 obtain⟨V1,V2,a,b,c,d,e⟩:=h
 exact⟨V1,V2,a,b,fun x hx=>hV x (c x hx),fun x hx=>hV x (d x hx),e⟩
theorem Sep.swap (h:Sep S R w V):Sep R S w V:=by
 obtain⟨V1,V2,a,b,c,d,e⟩:=h
 exact⟨V2,V1,b,a,d,c,fun x h2 h1=>e x h1 h2⟩
theorem Sep.assoc {Q:Thing} (h:Sep (Sep S R) Q w V):Sep S (Sep R Q) w V:=by
 obtain⟨V1,V2,⟨U1,U2,a,b,c,d,e⟩,q,f,g,i⟩:=h
 exact⟨U1,fun x=>U2 x∨V2 x,a,⟨U2,V2,b,q,fun x hx => .inl hx,fun x hx => .inr hx,fun x hx=>i x (d x hx)⟩,fun x hx=>f x (c x hx),fun x hx=>hx.elim (fun hx=>f x (d x hx)) (g x),fun x hx hy=>hy.elim (e x hx) (i x (c x hx))⟩
theorem Sep.assoc' {Q:Thing} (h:Sep S (Sep R Q) w V):Sep (Sep S R) Q w V:=by
 have h1:=h.swap
 have h2:Sep R (Sep Q S) w V:=Sep.assoc h1
 have h3:Sep Q (Sep S R) w V:=Sep.assoc h2.swap
 exact h3.swap
theorem Sep.imp (h:Sep S R w V) (hS:∀ U,S w U→S' w U) (hR:∀ U,R w U→R' w U):Sep S' R' w V:=by
 obtain⟨V1,V2,a,b,c,d,e⟩:=h
 exact⟨V1,V2,hS _ a,hR _ b,c,d,e⟩
theorem Sep.fst (h:Sep S R w V):∃ U:Nat→Prop,S w U∧∀ b,U b→V b:=by
 obtain⟨V1,V2,a,b,c,d,e⟩:=h
 exact⟨V1,a,c⟩
theorem Sep.snd (h:Sep S R w V):∃ U:Nat→Prop,R w U∧∀ b,U b→V b:=h.swap.fst
theorem Many.perm (hp:l.Perm l'):∀ {V:Nat→Prop},Many l w V→Many l' w V:=by
 induction hp with
 | nil=>exact fun h=>h
 | cons S _ ih=>intro V h;obtain⟨V1,V2,a,b,c,d,e⟩:=h;exact⟨V1,V2,a,ih b,c,d,e⟩
 | swap S R l=>
   intro V h
   have h1:Sep (Sep R S) (Many l) w V:=Sep.assoc' h
   exact Sep.assoc (h1.imp (fun U hU=>hU.swap) (fun U hU=>hU))
 | trans _ _ ih1 ih2=>exact fun h=>ih2 (ih1 h)
theorem Many.app:∀ (l:List Thing) {l':List Thing} {V:Nat→Prop},Many (l++l') w V→Sep (Many l) (Many l') w V
 | [],l',V,h=>⟨fun _=>False,V,trivial,h,fun _ h=>h.elim,fun _ h=>h,fun _ h _=>h⟩
 | S :: l,l',V,h=>Sep.assoc' (S:=S) (R:=Many l) (by
     obtain⟨V1,V2,a,b,c,d,e⟩:=h
     exact⟨V1,V2,a,Many.app l b,c,d,e⟩)
theorem Many.flat:∀ (l:List Thing) {l':List Thing} {V:Nat→Prop},Sep (Many l) (Many l') w V→Many (l++l') w V
 | [],l',V,h=>by
   obtain⟨V1,V2,_,b,_,d,_⟩:=h
   cases l' with
   | nil=>trivial
   | cons S l'=>exact Sep.wide b d
 | S :: l,l',V,h=>by
   obtain⟨V1,V2,a,b,c,d,e⟩:=Sep.assoc (S:=S) (R:=Many l) h
   exact⟨V1,V2,a,Many.flat l b,c,d,e⟩
theorem Many.pick:∀ (l:List Thing) (i:Nat) (S:Thing),l[i]?=some S→∀ {V:Nat→Prop},Many l w V→Sep S (Many (l.eraseIdx i)) w V
 | S :: l,0,S',h,V,hM=>by cases h;exact hM
 | S :: l,i+1,S',h,V,hM=>by
   obtain⟨V1,V2,a,b,c,d,e⟩:=hM
   have hp:=Many.pick l i S' (by simpa using h) b
   have h1:Sep (Sep S' (Many (l.eraseIdx i))) S w V:=⟨V2,V1,hp,a,d,c,fun x h2 h1=>e x h1 h2⟩
   exact (Sep.assoc h1).imp (fun U hU=>hU) (fun U hU=>hU.swap)
theorem Many.unpick:∀ (l:List Thing) (i:Nat) (S S':Thing),l[i]?=some S→∀ {V:Nat→Prop},Sep S' (Many (l.eraseIdx i)) w V→Many (l.set i S') w V
 | S :: l,0,_,S',_,V,hM=>hM
 | S :: l,i+1,S0,S',h,V,hM=>by
   have h1:Sep S' (Sep S (Many (l.eraseIdx i))) w V:=hM
   have h2:Sep S (Sep S' (Many (l.eraseIdx i))) w V:=Sep.assoc ((Sep.assoc' h1).imp (fun U hU=>hU.swap) (fun U hU=>hU))
   exact h2.imp (fun U hU=>hU) (fun U hU=>Many.unpick l i S0 S' (by simpa using h) hU)
end
def TurnsE {ι:Type} (Pr:Program) (f:FuncId) (args:Array Value) (C:ι→Ending→Prop) (S:Thing) (S':ι→Thing) (w:World):Prop:=
 ∀ V:Nat→Prop,S w V→(∀ b,V b→b<w.heap.size)→Calls Pr f args w fun e w'=>∃ i,C i e∧S' i w' (Ext V w w')∧Just V w w'
section
variable {Pr:Program} {f:FuncId} {args:Array Value} {C:Ending→Prop} {S S' R R':Thing} {l l':List Thing} {w w':World} {P V:Nat→Prop}
theorem sep_turned (h:Sep S R w V) (hR:Framed R) (hV:∀ b,V b→b<w.heap.size) (hc:∀ U:Nat→Prop,S w U→(∀ b,U b→b<w.heap.size)→(∀ b,U b→V b)→Calls Pr f args w fun e w'=>C e∧S' w' (Ext U w w')∧Just U w w') :
 Calls Pr f args w fun e w'=>C e∧Sep S' R w' (Ext V w w')∧Just V w w':=by
 obtain⟨V1,V2,a,b,c,d,e⟩:=h
 refine (hc V1 a (fun x hx=>hV x (c x hx)) c).mono fun en w' ⟨he,hs,hj⟩=>⟨he,⟨Ext V1 w w',V2,hs,hR w w' V2 b fun x hx=>hj.block x (hV x (d x hx)) (fun h1=>e x h1 hx),fun x hx=>?_,fun x hx => .inl (d x hx),fun x hx h2=>?_⟩,hj.imp fun x hx=>c x hx⟩
 ·rcases hx with hx|hx
  ·exact .inl (c x hx)
  ·exact .inr hx
 ·rcases hx with hx|hx
  ·exact e x hx h2
  ·have:=hV x (d x h2);have:=hx.1;omega
theorem sep_turnedE {ι:Type} {C:ι→Ending→Prop} {S':ι→Thing} (h:Sep S R w V) (hR:Framed R) (hV:∀ b,V b→b<w.heap.size) (hc:TurnsE Pr f args C S S' w) :
 Calls Pr f args w fun e w'=>∃ i,C i e∧Sep (S' i) R w' (Ext V w w')∧Just V w w':=by
 obtain⟨V1,V2,a,b,c,d,e⟩:=h
 refine (hc V1 a (fun x hx=>hV x (c x hx))).mono fun en w' ⟨i,he,hs,hj⟩=>⟨i,he,⟨Ext V1 w w',V2,hs,hR w w' V2 b fun x hx=>hj.block x (hV x (d x hx)) (fun h1=>e x h1 hx),fun x hx=>?_,fun x hx => .inl (d x hx),fun x hx h2=>?_⟩,hj.imp fun x hx=>c x hx⟩
 ·rcases hx with hx|hx
  ·exact .inl (c x hx)
  ·exact .inr hx
 ·rcases hx with hx|hx
  ·exact e x hx h2
  ·have:=hV x (d x h2);have:=hx.1;omega
theorem Solo.at_ (i:Nat) (hi:l[i]?=some S) (hF:AllFramed l) (h:Solo P (Many l) w) (hc:Turns Pr f args C S S' w):Calls Pr f args w fun e w'=>C e∧Just P w w'∧Solo P (Many (l.set i S')) w':=by
 refine Solo.call h fun V hM hV=>?_
 exact (sep_turned (Many.pick l i S hi hM) (Many.framed _ fun R hR=>hF R (List.mem_of_mem_eraseIdx hR)) hV fun U hU hU2 _=>hc U hU hU2).mono fun e w' ⟨a,b,c⟩=>⟨a,Many.unpick l i S S' hi b,c⟩
theorem Solo.atE {ι:Type} {C:ι→Ending→Prop} {S':ι→Thing} (i:Nat) (hi:l[i]?=some S) (hF:AllFramed l) (h:Solo P (Many l) w) (hc:TurnsE Pr f args C S S' w):Calls Pr f args w fun e w'=>∃ k,C k e∧Just P w w'∧Solo P (Many (l.set i (S' k))) w':=by
 refine Solo.callE h fun V hM hV=>?_
 exact (sep_turnedE (Many.pick l i S hi hM) (Many.framed _ fun R hR=>hF R (List.mem_of_mem_eraseIdx hR)) hV hc).mono fun e w' ⟨k,a,b,c⟩=>⟨k,a,Many.unpick l i S (S' k) hi b,c⟩
theorem Solo.see (i:Nat) (hi:l[i]?=some S) (h:Solo P (Many l) w):∃ U:Nat→Prop,S w U∧∀ b,U b→P b∧b<w.heap.size:=by
 obtain⟨_,V,hM,hV⟩:=h
 obtain⟨U,hU,hs⟩:=(Many.pick l i S hi hM).fst
 exact⟨U,hU,fun b hb=>hV b (hs b hb)⟩
theorem Solo.grows (h:Solo P (Many l) w) (hF:AllFramed l) (hg:Grow w w'):Solo P (Many l) w':=h.grow (Many.framed l hF) hg
def Lic (V:Nat→Prop) (w:World) (b:Nat):Prop:=V b∨w.heap.size≤b
theorem Solo.begin_ (h:S w V) (hV:∀ b,V b→b<w.heap.size):Solo (Lic V w) S w:=⟨fun _ hb => .inr hb,V,h,fun b hb=>⟨.inl hb,hV b hb⟩⟩
theorem Solo.end_ (hW:∀ (U U':Nat→Prop),(∀ b,U b→U' b)→S w' U→S w' U') (h:Solo (Lic V w) S w') (hj:Just (Lic V w) w w') (hV:∀ b,V b→b<w.heap.size):S w' (Ext V w w')∧Just V w w':=by
 obtain⟨_,U,hS,hU⟩:=h
 refine⟨hW U _ (fun b hb=>?_) hS,⟨hj.os,hj.tape,hj.output,hj.size,fun b hb hv=>hj.block b hb fun hl=>?_⟩⟩
 ·obtain⟨h1,h2⟩:=hU b hb
  rcases h1 with h1|h1
  ·exact .inl h1
  ·exact .inr ⟨h1,h2⟩
 ·rcases hl with hl|hl
  ·exact hv hl
  ·omega
def Wide (S:Thing):Prop:=∀ (w:World) (U U':Nat→Prop),(∀ b,U b→U' b)→S w U→S w U'
theorem Many.wide (l:List Thing):Wide (Many l):=fun w U U' h hs=>by
 cases l with
 | nil=>trivial
 | cons S l=>exact Sep.wide hs h
theorem Solo.done (h:Solo (Lic V w) (Many l) w') (hj:Just (Lic V w) w w') (hV:∀ b,V b→b<w.heap.size):Many l w' (Ext V w w')∧Just V w w':=h.end_ (fun U U' hu=>Many.wide l w' U U' hu) hj hV
theorem Solo.blk {x:Nat} {t:TypeId} {cs:Array Value} (i:Nat) (hi:l[i]?=some (Cell x t cs)) (h:Solo P (Many l) w):Blk w x t cs:=by
 obtain⟨U,hU,_⟩:=h.see i hi
 exact hU.2
theorem Solo.lics {x:Nat} {t:TypeId} {cs:Array Value} (i:Nat) (hi:l[i]?=some (Cell x t cs)) (h:Solo P (Many l) w):P x∧x<w.heap.size:=by
 obtain⟨U,hU,h2⟩:=h.see i hi
 exact h2 x hU.1
theorem Solo.turned {x:Nat} {t:TypeId} {cs cs':Array Value} (i:Nat) (hi:l[i]?=some (Cell x t cs)) (hF:AllFramed l) (h:Solo P (Many l) w) (hj:Just (fun b=>b=x) w w') (hB:Blk w' x t cs'):Solo P (Many (l.set i (Cell x t cs'))) w':=by
 obtain⟨h0,V,hM,hV⟩:=h
 obtain⟨V1,V2,a,b,c,d,e⟩:=Many.pick l i _ hi hM
 refine⟨fun y hy=>h0 y (Nat.le_trans hj.size hy),V,Many.unpick l i (Cell x t cs) _ hi ⟨V1,V2,⟨a.1,hB⟩,?_,c,d,e⟩,fun y hy=>⟨(hV y hy).1,Nat.lt_of_lt_of_le (hV y hy).2 hj.size⟩⟩
 exact Many.framed _ (fun R hR=>hF R (List.mem_of_mem_eraseIdx hR)) w w' V2 b fun y hy=>hj.block y (hV y (d y hy)).2 fun hxy=>e x a.1 (by rw[←hxy];exact hy)
theorem Solo.puts {x:Nat} {t:TypeId} {cs:Array Value} (i:Nat) (hi:l[i]?=some (Cell x t cs)) (hF:AllFramed l) (h:Solo P (Many l) w) (k:Nat) (u:Value):Solo P (Many (l.set i (Cell x t (cs.setIfInBounds k u)))) (w.setCell ⟨x,k,none⟩ u):=
 h.turned i hi hF (just_at w x k u) ((h.blk i hi).put k u)
theorem Solo.join {R:Thing} (h:Solo P (Many l) w) (hF:AllFramed l) (hg:Grow w w') {U:Nat→Prop} (hR:R w' U) (hU:∀ b,U b→w.heap.size≤b∧b<w'.heap.size):Solo P (Many (R :: l)) w':=by
 obtain⟨h0,V,hM,hV⟩:=h
 refine⟨fun b hb=>h0 b (Nat.le_trans hg.size hb),fun b=>V b∨U b,⟨U,V,hR,Many.framed l hF w w' V hM fun b hb=>hg.block b (hV b hb).2,fun b hb => .inr hb,fun b hb => .inl hb,fun b hb hv=>?_⟩,fun b hb=>?_⟩
 ·have:=(hV b hv).2;have:=(hU b hb).1;omega
 ·rcases hb with hb|hb
  ·exact⟨(hV b hb).1,Nat.lt_of_lt_of_le (hV b hb).2 hg.size⟩
  ·exact⟨h0 b (hU b hb).1,(hU b hb).2⟩
theorem Solo.perm (hp:l.Perm l') (h:Solo P (Many l) w):Solo P (Many l') w:=h.turn fun _ hV=>Many.perm hp hV
theorem Solo.drop1 (h:Solo P (Many (S :: l)) w):Solo P (Many l) w:=h.turn fun V hV=>by
 obtain⟨U,hU,hs⟩:=Sep.snd hV
 exact Many.wide l w U V hs hU
theorem Solo.flat (h:Solo P (Many (Many l :: l')) w):Solo P (Many (l++l')) w:=h.turn fun _ hV=>Many.flat l hV
theorem Solo.unflat (h:Solo P (Many (l++l')) w):Solo P (Many (Many l :: l')) w:=h.turn fun _ hV=>Many.app l hV
theorem Solo.map (i:Nat) (hi:l[i]?=some S) (h:Solo P (Many l) w) (hS:∀ U,S w U→S' w U):Solo P (Many (l.set i S')) w:=h.turn fun _ hV=>Many.unpick l i S S' hi ((Many.pick l i S hi hV).imp hS fun _ h=>h)
end
theorem Blk.in_ {w:World} {x:Nat} {t:TypeId} {cs:Array Value} (h:Blk w x t cs) {size n:Nat} (hn:cs.toList.length=n*size):In w (fun b=>b=x) size (some ⟨x,0,none⟩) n cs.toList:=
 ⟨hn,fun _=>⟨_,rfl,rfl,h.lt,fun j u hu=>by
  have h1:=h.cell j
  have h2:(⟨x,0,none⟩:Addr).add j=⟨x,j,none⟩:=by
   unfold Addr.add
   split
   ·rename_i h;rw[h]
   ·simp
  rw[h2,h1,←Array.getElem?_toList]
  exact hu⟩⟩
section
variable {Pr:Program} {f:FuncId} {args:Array Value} {C:Ending→Prop} {S S' R R':Thing} {l l':List Thing} {w w':World} {P V:Nat→Prop}
theorem Solo.atV (i:Nat) (hi:l[i]?=some S) (hF:AllFramed l) (h:Solo P (Many l) w) (hc:∀ U:Nat→Prop,S w U→(∀ b,U b→b<w.heap.size)→(∀ b,U b→P b)→Calls Pr f args w fun e w'=>C e∧S' w' (Ext U w w')∧Just U w w'):Calls Pr f args w fun e w'=>C e∧Just P w w'∧Solo P (Many (l.set i S')) w':=by
 obtain⟨h0,V,h1,h4⟩:=h
 refine (sep_turned (Many.pick l i S hi h1) (Many.framed _ fun R hR=>hF R (List.mem_of_mem_eraseIdx hR)) (fun b hb=>(h4 b hb).2) fun U hU hU2 hU3=>hc U hU hU2 fun b hb=>(h4 b (hU3 b hb)).1).mono fun e w' ⟨a,b,c⟩=>⟨a,c.imp fun k hk=>(h4 k hk).1,fun b hb=>h0 b (Nat.le_trans c.size hb),Ext V w w',Many.unpick l i S S' hi b,ext_lt h4 h0 c.size⟩
theorem Solo.put_ {φ:World→Prop} (i:Nat) (hi:l[i]?=some S) (hF:AllFramed l) (h:Solo P (Many l) w) (hc:∀ U:Nat→Prop,S w U→(∀ b,U b→P b∧b<w.heap.size)→∃ w',φ w'∧S' w' U∧Just U w w'):∃ w',φ w'∧Solo P (Many (l.set i S')) w'∧Just P w w':=by
 obtain⟨h0,V,h1,h4⟩:=h
 obtain⟨V1,V2,a,b,c,d,e⟩:=Many.pick l i S hi h1
 obtain⟨w',hp,hs,hj⟩:=hc V1 a fun x hx=>h4 x (c x hx)
 have hR:=Many.framed _ (fun R hR=>hF R (List.mem_of_mem_eraseIdx hR)) w w' V2 b fun x hx=>hj.block x (h4 x (d x hx)).2 fun h1=>e x h1 hx
 exact⟨w',hp,⟨fun b hb=>h0 b (Nat.le_trans hj.size hb),V,Many.unpick l i S S' hi ⟨V1,V2,hs,hR,c,d,e⟩,fun b hb=>⟨(h4 b hb).1,Nat.lt_of_lt_of_le (h4 b hb).2 hj.size⟩⟩,hj.imp fun x hx=>(h4 x (c x hx)).1⟩
theorem Solo.of_new (h0:∀ b,w.heap.size≤b→P b) (hM:Many l w V) (hV:∀ b,V b→P b∧b<w.heap.size):Solo P (Many l) w:=⟨h0,V,hM,hV⟩
theorem Solo.cons_ {U:Nat→Prop} (h0:∀ b,w.heap.size≤b→P b) (hM:Many l w V) (hV:∀ b,V b→P b∧b<w.heap.size) (hR:R w U) (hU:∀ b,U b→P b∧b<w.heap.size∧¬ V b):Solo P (Many (R :: l)) w:=
 ⟨h0,fun b=>U b∨V b,⟨U,V,hR,hM,fun _ h => .inl h,fun _ h => .inr h,fun b h1 h2=>(hU b h1).2.2 h2⟩,fun b hb=>hb.elim (fun h=>⟨(hU b h).1,(hU b h).2.1⟩) (hV b)⟩
end
end Go.Hop
end
section
namespace Go.Proofs.YtmijcbfgfkeodaaGreatDoor
open Go.RowKit Go.Hop
abbrev Dl:=ByteArray×Nat
def dcell (d:Dl):List Value:=[.string d.1,.int .u64 (d.2:Int)]
def dcells (l:List Dl):List Value:=l.flatMap dcell
theorem dcell_len (d:Dl):(dcell d).length=2:=rfl
theorem dcells_one (l:List Dl):∀ u∈dcells l,u.oneCell'=true:=by
 intro u hu
 unfold dcells at hu
 obtain⟨d,_,hd⟩:=List.mem_flatMap.1 hu
 simp only[dcell,List.mem_cons,List.not_mem_nil,or_false] at hd
 rcases hd with rfl|rfl<;>rfl
theorem dcells_len (l:List Dl):(dcells l).length=l.length*2:=flat_length dcell 2 dcell_len l
def New (w w':World) (b:Nat):Prop:=w.heap.size≤b∧b<w'.heap.size
theorem info_parts {e size bytes:Nat} {z:Value} (h:(Tryz.prog.info? e).map (fun i=>(i.zero,i.size,i.bytes))=some (some z,size,bytes)):∃ i,Tryz.prog.info? e=some i∧i.zero=some z∧i.size=size∧i.bytes=bytes:=by
 cases hi:Tryz.prog.info? e with
 | none=>rw[hi] at h;cases h
 | some i=>rw[hi] at h;injection h with h;injection h with h1 h2;injection h2 with h2 h3;exact⟨i,rfl,h1,h2,h3⟩
theorem delta_info:(Tryz.prog.info? 29).map (fun i=>(i.zero,i.size,i.bytes))=some (some (.agg #[.string .empty,.int .u64 0]),2,24):=by kernel_rfl
theorem deltaE:Elem Tryz.prog 30 29 2 24 (.agg #[.string .empty,.int .u64 0]):=⟨Tryz.underlying30,info_parts delta_info,rfl,by decide,by decide⟩
def DIn (w:World) (V:Nat→Prop) (A:Option Addr) (n:Nat) (l:List Dl):Prop:=In w V 2 A n (dcells l)
theorem DIn.len {w:World} {V:Nat→Prop} {A:Option Addr} {n:Nat} {l:List Dl} (h:DIn w V A n l):l.length=n:=by
 have:=h.1;rw[dcells_len] at this;omega
theorem own_new {w w1:World} {t e:TypeId} {size:Nat} {v:Value} {n:Nat} {xs:List Value} (hO:Own w1 (Ext (fun b=>b=w.heap.size) (w.alloc (.cells #[] t)) w1) e size v n xs) (hj:Just (fun b=>b=w.heap.size) (w.alloc (.cells #[] t)) w1):Own w1 (New w w1) e size v n xs∧Grow w w1:=by
 have hs:w.heap.size<w1.heap.size:=by have:=hj.size;simp at this;omega
 refine⟨hO.mono (fun b hb=>?_),((Below.refl w.heap.size w).alloc (Nat.le_refl _) (.cells #[] t)).trans (hj.below (B:=w.heap.size) (fun b hb=>by rw[hb];exact Nat.le_refl _) (by simp))⟩
 rcases hb with rfl|⟨h1,h2⟩
 ·exact⟨Nat.le_refl _,hs⟩
 ·simp at h1;exact⟨by omega,h2⟩
theorem made_own (w:World) (e:TypeId) (size:Nat):Own (w.alloc (.cells #[] e)) (fun b=>b=w.heap.size) e size (.slice (some ⟨w.heap.size,0,none⟩) 0 0) 0 []:=
 ⟨by simp,.inr ⟨w.heap.size,0,#[],rfl,rfl,heap_alloc_new w _,Nat.le_refl _,Nat.zero_le _,.inl (by simp),by simp⟩⟩
end Go.Proofs.YtmijcbfgfkeodaaGreatDoor
end
section
namespace Go.Proofs.YtmijcbfgfkeodaaGreatDoor.L
open Go.RowKit Go.Hop
abbrev Lb:=ByteArray×ByteArray
def lcell (d:Lb):List Value:=[.string d.1,.string d.2]
def lcells (l:List Lb):List Value:=l.flatMap lcell
theorem lcell_len (d:Lb):(lcell d).length=2:=rfl
theorem lcells_one (l:List Lb):∀ u∈lcells l,u.oneCell'=true:=by
 intro u hu
 unfold lcells at hu
 obtain⟨d,_,hd⟩:=List.mem_flatMap.1 hu
 simp only[lcell,List.mem_cons,List.not_mem_nil,or_false] at hd
 rcases hd with rfl|rfl<;>rfl
theorem lcells_len (l:List Lb):(lcells l).length=l.length*2:=flat_length lcell 2 lcell_len l
theorem label_info:(Tryz.prog.info? 90).map (fun i=>(i.zero,i.size,i.bytes))=some (some (.agg #[.string .empty,.string .empty]),2,32):=by kernel_rfl
theorem labelE:Elem Tryz.prog 91 90 2 32 (.agg #[.string .empty,.string .empty]):=⟨Tryz.underlying91,info_parts label_info,rfl,by decide,by decide⟩
theorem str_info:(Tryz.prog.info? 9).map (fun i=>(i.zero,i.size,i.bytes))=some (some (.string .empty),1,16):=by kernel_rfl
theorem strE:Elem Tryz.prog 83 9 1 16 (.string .empty):=⟨Tryz.underlying83,info_parts str_info,rfl,by decide,by decide⟩
theorem scells_one (l:List ByteArray):∀ u∈l.map Value.string,u.oneCell'=true:=by
 intro u hu
 obtain⟨x,_,rfl⟩:=List.mem_map.1 hu
 rfl
theorem lab_at {w:World} {V:Nat→Prop} {A:Option Addr} {n:Nat} {q:List Lb} (h:In w V 2 A n (lcells q)) {k:Nat} (hk:k<n) :
 ∃ (ad:Addr) (hq:k<q.length),A=some ad∧(∀ w1,Grow w w1→w1.cell? (ad.add (k*2))=some (.string q[k].1))∧∀ w1,Grow w w1→w1.cell? ⟨(ad.add (k*2)).block,(ad.add (k*2)).off+1,none⟩=some (.string q[k].2):=by
 obtain⟨ad,hq,e,_,hb,e0,e12⟩:=In.rec_ (cells:=lcell) h (by omega) lcell_len hk
 exact⟨ad,hq,e,fun w1 hg=>(hg.cell (by rw[block_add];exact hb)).trans (e0 _ rfl),fun w1 hg=>(hg.cell (p:=⟨(ad.add (k*2)).block,(ad.add (k*2)).off+1,none⟩) (show (ad.add (k*2)).block<_ by rw[block_add];exact hb)).trans (e12 0 _ rfl)⟩
theorem str_at {w:World} {V:Nat→Prop} {A:Option Addr} {n:Nat} {q:List ByteArray} (h:In w V 1 A n (q.map Value.string)) {k:Nat} (hk:k<n) :
 ∃ (ad:Addr) (hq:k<q.length),A=some ad∧∀ w1,Grow w w1→w1.cell? (ad.add k)=some (.string q[k]):=by
 obtain⟨ad,e,_,hb,hc⟩:=h.2 (by omega)
 have hl:=h.1
 simp only[List.length_map,Nat.mul_one] at hl
 have hq:k<q.length:=by omega
 exact⟨ad,hq,e,fun w1 hg=>(hg.cell (by rw[block_add];exact hb)).trans (hc k _ (by rw[List.getElem?_map,List.getElem?_eq_getElem hq];rfl))⟩
theorem LIn.len {w:World} {V:Nat→Prop} {A:Option Addr} {n:Nat} {l:List Lb} (h:In w V 2 A n (lcells l)):l.length=n:=by
 have:=h.1;rw[lcells_len] at this;omega
def slt (a b:ByteArray):Bool:=Op.bytesLess a.toList b.toList
theorem slt_is (a b:ByteArray):slt a b=decide (a.data.toList<b.data.toList):=by
 unfold slt
 rw[bytesLess_eq,Lib.toList_data,Lib.toList_data]
theorem slt_irr (a:ByteArray):slt a a=false:=by
 rw[slt_is];exact decide_eq_false (List.lt_irrefl _)
theorem slt_tr {a b c:ByteArray} (h:slt a b=true) (k:slt b c=true):slt a c=true:=by
 rw[slt_is] at *
 exact decide_eq_true (List.lt_trans (of_decide_eq_true h) (of_decide_eq_true k))
theorem slt_tri {a b:ByteArray} (h:slt a b=false) (k:slt b a=false):a=b:=by
 rw[slt_is] at *
 have h1:=of_decide_eq_false h
 have h2:=of_decide_eq_false k
 have e:a.data.toList=b.data.toList:=List.le_antisymm (List.not_lt.1 h2) (List.not_lt.1 h1)
 exact ByteArray.ext (Array.toList_inj.1 e)
theorem slt_no {a b:ByteArray} (h:slt a b=true):slt b a=false:=by
 cases hb:slt b a with
 | false=>rfl
 | true=>have:=slt_tr h hb;rw[slt_irr] at this;cases this
theorem slt_ntr {x y z:ByteArray} (h:slt x y=false) (k:slt y z=false):slt x z=false:=by
 cases hz:slt x z with
 | false=>rfl
 | true=>
   cases hzy:slt z y with
   | true=>rw[slt_tr hz hzy] at h;cases h
   | false=>have e:=slt_tri k hzy;rw[e,hz] at h;cases h
theorem txt_eq {a b:ByteArray}:a.toList=b.toList↔a=b:=by
 rw[Lib.toList_data,Lib.toList_data]
 exact⟨fun e=>ByteArray.ext (Array.toList_inj.1 e),fun e=>by rw[e]⟩
def cmpT (a b:ByteArray):Int:=if slt a b then -1 else if slt b a then 1 else 0
theorem gtr_is (a b:ByteArray):(!(Op.bytesLess a.toList b.toList || a.toList == b.toList))=slt b a:=by
 cases h1:slt a b with
 | true=>
   have h2:=slt_no h1
   unfold slt at h1
   rw[h1,h2];rfl
 | false=>
   have h1':=h1
   unfold slt at h1'
   rw[h1',Bool.false_or]
   cases h2:slt b a with
   | false=>
     have:=slt_tri h1 h2
     subst this
     simp
   | true=>
     have hne:a.toList≠b.toList:=fun e=>by
      have:=txt_eq.1 e
      rw[this,slt_irr] at h2;cases h2
     simp[hne]
theorem isNaN_any (w:World) (a:ByteArray):Calls Tryz.prog 210 #[.string a] w fun e w'=>e=.returned (.bool false)∧w=w':=by
 go_enter Tryz.func210,Tryz.ntmps210
 go_wp2_with fail
 go_ret
 exact⟨by simp,rfl⟩
theorem Compare_any (w:World) (a b:ByteArray):Calls Tryz.prog 136 #[.string a,.string b] w fun e w'=>e=.returned (.int .i64 (cmpT a b))∧w=w':=by
 have hg:=gtr_is a b
 unfold cmpT
 cases h1:slt a b with
 | true=>
   rw[if_pos rfl]
   unfold slt at h1
   go_enter Tryz.func136,Tryz.ntmps136
   go_wp2_with (go_at_call 210;refine (isNaN_any _ _).mono ?_;rintro e w' ⟨rfl,rfl⟩)
   go_ret
   exact⟨rfl,rfl⟩
 | false=>
   rw[if_neg (by simp)]
   unfold slt at h1
   cases h2:slt b a with
   | true=>
     rw[if_pos rfl]
     rw[h2] at hg
     go_enter Tryz.func136,Tryz.ntmps136
     go_wp2_with (go_at_call 210;refine (isNaN_any _ _).mono ?_;rintro e w' ⟨rfl,rfl⟩)
     all_goals first|(go_ret;exact⟨rfl,rfl⟩)|simp_all
   | false=>
     rw[if_neg (by simp)]
     rw[h2] at hg
     go_enter Tryz.func136,Tryz.ntmps136
     go_wp2_with (go_at_call 210;refine (isNaN_any _ _).mono ?_;rintro e w' ⟨rfl,rfl⟩)
     all_goals first|(go_ret;exact⟨rfl,rfl⟩)|simp_all
end Go.Proofs.YtmijcbfgfkeodaaGreatDoor.L
end
