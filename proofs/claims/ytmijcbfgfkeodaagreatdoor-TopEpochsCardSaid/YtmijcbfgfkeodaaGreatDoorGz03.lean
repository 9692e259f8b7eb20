/- Sep, Sepb, Kit, Dlt, Lb, Slt, Lsort, Lname. -/
import Derived.Test.YtmijcbfgfkeodaaGreatDoorGz02
import Derived.Test.YtmijcbfgfkeodaaGreatDoorProg
import Derived.Sort.Walk0
import Derived.Shelf.SlSortCmp.InsertionK
import Derived.Ground.SlsfProg
import Derived.Lib.Bytealg
set_option linter.all false
set_option maxRecDepth 100000
section
namespace Go.Hop
open Go.RowKit
def Sep (S R:Thing):Thing:=fun w V=>∃ V1 V2:Nat→Prop,S w V1∧R w V2∧(∀ b,V1 b→V b)∧(∀ b,V2 b→V b)∧∀ b,V1 b→¬ V2 b
def Emp:Thing:=fun _ _=>True
def Many:List Thing→Thing
 | []=>Emp
 | S :: l=>Sep S (Many l)
def Cell (x:Nat) (t:TypeId) (cs:Array Value):Thing:=fun w V=>V x∧Blk w x t cs
def AllFramed (l:List Thing):Prop:=∀ S∈l,Framed S
section
variable {S S' R R':Thing} {l l':List Thing} {w w':World} {V V':Nat→Prop}
theorem Cell.framed (x:Nat) (t:TypeId) (cs:Array Value):Framed (Cell x t cs):=fun _ _ _ h hk=>⟨h.1,(hk x h.1).trans h.2⟩
theorem Emp.framed:Framed Emp:=fun _ _ _ _ _=>trivial
theorem Sep.framed (h1:Framed S) (h2:Framed R):Framed (Sep S R):=fun w w' V ⟨V1,V2,a,b,c,d,e⟩ hk=>⟨V1,V2,h1 w w' V1 a fun x hx=>hk x (c x hx),h2 w w' V2 b fun x hx=>hk x (d x hx),c,d,e⟩
theorem Many.framed:∀ (l:List Thing),AllFramed l→Framed (Many l)
 | [],_=>Emp.framed
 | S :: l,h=>Sep.framed (h S (by simp)) (Many.framed l fun R hR=>h R (by simp[hR]))
theorem AllFramed.nil:AllFramed []:=fun S h=>by simp at h
theorem AllFramed.cons (h:Framed S) (hl:AllFramed l):AllFramed (S :: l):=fun R hR=>by
 rcases List.mem_cons.1 hR with rfl|hR
 ·exact h
 ·exact hl R hR
theorem Sep.wide (h:Sep S R w V) (hV:∀ b,V b→V' b):Sep S R w V':=by
 obtain⟨V1,V2,a,b,c,d,e⟩:=h
 exact⟨V1,V2,a,b,fun x hx=>hV x (c x hx),fun x hx=>hV x (d x hx),e⟩
theorem Sep.swap (h:Sep S R w V):Sep R S w V:=by
 obtain⟨V1,V2,a,b,c,d,e⟩:=h
 exact⟨V2,V1,b,a,d,c,fun x h2 h1=>e x h1 h2⟩
theorem Sep.assoc {Q:Thing} (h:Sep (Sep S R) Q w V):Sep S (Sep R Q) w V:=by
 obtain⟨V1,V2,⟨U1,U2,a,b,c,d,e⟩,q,f,g,i⟩:=h
 exact⟨U1,fun x=>U2 x∨V2 x,a,⟨U2,V2,b,q,fun x hx => .inl hx,fun x hx => .inr hx,fun x hx=>i x (d x hx)⟩,fun x hx=>f x (c x hx),fun x hx=>hx.elim (fun hx=>f x (d x hx)) (g x),fun x hx hy=>hy.elim (e x hx) (i x (c x hx))⟩
theorem Sep.assoc' {Q:Thing} (h:Sep S (Sep R Q) w V):Sep (Sep S R) Q w V:=by
 have h1:=h.swap
 have h2:Sep R (Sep Q S) w V:=Sep.assoc h1
 have h3:Sep Q (Sep S R) w V:=Sep.assoc h2.swap
 exact h3.swap
theorem Sep.imp (h:Sep S R w V) (hS:∀ U,S w U→S' w U) (hR:∀ U,R w U→R' w U):Sep S' R' w V:=by
 obtain⟨V1,V2,a,b,c,d,e⟩:=h
 exact⟨V1,V2,hS _ a,hR _ b,c,d,e⟩
theorem Sep.fst (h:Sep S R w V):∃ U:Nat→Prop,S w U∧∀ b,U b→V b:=by
 obtain⟨V1,V2,a,b,c,d,e⟩:=h
 exact⟨V1,a,c⟩
theorem Sep.snd (h:Sep S R w V):∃ U:Nat→Prop,R w U∧∀ b,U b→V b:=h.swap.fst
theorem Many.perm (hp:l.Perm l'):∀ {V:Nat→Prop},Many l w V→Many l' w V:=by
 induction hp with
 | nil=>exact fun h=>h
 | cons S _ ih=>intro V h;obtain⟨V1,V2,a,b,c,d,e⟩:=h;exact⟨V1,V2,a,ih b,c,d,e⟩
 | swap S R l=>
   intro V h
   have h1:Sep (Sep R S) (Many l) w V:=Sep.assoc' h
   exact Sep.assoc (h1.imp (fun U hU=>hU.swap) (fun U hU=>hU))
 | trans _ _ ih1 ih2=>exact fun h=>ih2 (ih1 h)
theorem Many.app:∀ (l:List Thing) {l':List Thing} {V:Nat→Prop},Many (l++l') w V→Sep (Many l) (Many l') w V
 | [],l',V,h=>⟨fun _=>False,V,trivial,h,fun _ h=>h.elim,fun _ h=>h,fun _ h _=>h⟩
 | S :: l,l',V,h=>Sep.assoc' (S:=S) (R:=Many l) (by
     obtain⟨V1,V2,a,b,c,d,e⟩:=h
     exact⟨V1,V2,a,Many.app l b,c,d,e⟩)
theorem Many.flat:∀ (l:List Thing) {l':List Thing} {V:Nat→Prop},Sep (Many l) (Many l') w V→Many (l++l') w V
 | [],l',V,h=>by
   obtain⟨V1,V2,_,b,_,d,_⟩:=h
   cases l' with
   | nil=>trivial
   | cons S l'=>exact Sep.wide b d
 | S :: l,l',V,h=>by
   obtain⟨V1,V2,a,b,c,d,e⟩:=Sep.assoc (S:=S) (R:=Many l) h
   exact⟨V1,V2,a,Many.flat l b,c,d,e⟩
theorem Many.pick:∀ (l:List Thing) (i:Nat) (S:Thing),l[i]?=some S→∀ {V:Nat→Prop},Many l w V→Sep S (Many (l.eraseIdx i)) w V
 | S :: l,0,S',h,V,hM=>by cases h;exact hM
 | S :: l,i+1,S',h,V,hM=>by
   obtain⟨V1,V2,a,b,c,d,e⟩:=hM
   have hp:=Many.pick l i S' (by simpa using h) b
   have h1:Sep (Sep S' (Many (l.eraseIdx i))) S w V:=⟨V2,V1,hp,a,d,c,fun x h2 h1=>e x h1 h2⟩
   exact (Sep.assoc h1).imp (fun U hU=>hU) (fun U hU=>hU.swap)
theorem Many.unpick:∀ (l:List Thing) (i:Nat) (S S':Thing),l[i]?=some S→∀ {V:Nat→Prop},Sep S' (Many (l.eraseIdx i)) w V→Many (l.set i S') w V
 | S :: l,0,_,S',_,V,hM=>hM
 | S :: l,i+1,S0,S',h,V,hM=>by
   have h1:Sep S' (Sep S (Many (l.eraseIdx i))) w V:=hM
   have h2:Sep S (Sep S' (Many (l.eraseIdx i))) w V:=Sep.assoc ((Sep.assoc' h1).imp (fun U hU=>hU.swap) (fun U hU=>hU))
   exact h2.imp (fun U hU=>hU) (fun U hU=>Many.unpick l i S0 S' (by simpa using h) hU)
end
def TurnsE {ι:Type} (Pr:Program) (f:FuncId) (args:Array Value) (C:ι→Ending→Prop) (S:Thing) (S':ι→Thing) (w:World):Prop:=
 ∀ V:Nat→Prop,S w V→(∀ b,V b→b<w.heap.size)→Calls Pr f args w fun e w'=>∃ i,C i e∧S' i w' (Ext V w w')∧Just V w w'
section
variable {Pr:Program} {f:FuncId} {args:Array Value} {C:Ending→Prop} {S S' R R':Thing} {l l':List Thing} {w w':World} {P V:Nat→Prop}
theorem sep_turned (h:Sep S R w V) (hR:Framed R) (hV:∀ b,V b→b<w.heap.size) (hc:∀ U:Nat→Prop,S w U→(∀ b,U b→b<w.heap.size)→(∀ b,U b→V b)→Calls Pr f args w fun e w'=>C e∧S' w' (Ext U w w')∧Just U w w') :
 Calls Pr f args w fun e w'=>C e∧Sep S' R w' (Ext V w w')∧Just V w w':=by
 obtain⟨V1,V2,a,b,c,d,e⟩:=h
 refine (hc V1 a (fun x hx=>hV x (c x hx)) c).mono fun en w' ⟨he,hs,hj⟩=>⟨he,⟨Ext V1 w w',V2,hs,hR w w' V2 b fun x hx=>hj.block x (hV x (d x hx)) (fun h1=>e x h1 hx),fun x hx=>?_,fun x hx => .inl (d x hx),fun x hx h2=>?_⟩,hj.imp fun x hx=>c x hx⟩
 ·rcases hx with hx|hx
  ·exact .inl (c x hx)
  ·exact .inr hx
 ·rcases hx with hx|hx
  ·exact e x hx h2
  ·have:=hV x (d x h2);have:=hx.1;omega
theorem sep_turnedE {ι:Type} {C:ι→Ending→Prop} {S':ι→Thing} (h:Sep S R w V) (hR:Framed R) (hV:∀ b,V b→b<w.heap.size) (hc:TurnsE Pr f args C S S' w) :
 Calls Pr f args w fun e w'=>∃ i,C i e∧Sep (S' i) R w' (Ext V w w')∧Just V w w':=by
 obtain⟨V1,V2,a,b,c,d,e⟩:=h
 refine (hc V1 a (fun x hx=>hV x (c x hx))).mono fun en w' ⟨i,he,hs,hj⟩=>⟨i,he,⟨Ext V1 w w',V2,hs,hR w w' V2 b fun x hx=>hj.block x (hV x (d x hx)) (fun h1=>e x h1 hx),fun x hx=>?_,fun x hx => .inl (d x hx),fun x hx h2=>?_⟩,hj.imp fun x hx=>c x hx⟩
 ·rcases hx with hx|hx
  ·exact .inl (c x hx)
  ·exact .inr hx
 ·rcases hx with hx|hx
  ·exact e x hx h2
  ·have:=hV x (d x h2);have:=hx.1;omega
theorem Solo.at_ (i:Nat) (hi:l[i]?=some S) (hF:AllFramed l) (h:Solo P (Many l) w) (hc:Turns Pr f args C S S' w):Calls Pr f args w fun e w'=>C e∧Just P w w'∧Solo P (Many (l.set i S')) w':=by
 refine Solo.call h fun V hM hV=>?_
 exact (sep_turned (Many.pick l i S hi hM) (Many.framed _ fun R hR=>hF R (List.mem_of_mem_eraseIdx hR)) hV fun U hU hU2 _=>hc U hU hU2).mono fun e w' ⟨a,b,c⟩=>⟨a,Many.unpick l i S S' hi b,c⟩
theorem Solo.atE {ι:Type} {C:ι→Ending→Prop} {S':ι→Thing} (i:Nat) (hi:l[i]?=some S) (hF:AllFramed l) (h:Solo P (Many l) w) (hc:TurnsE Pr f args C S S' w):Calls Pr f args w fun e w'=>∃ k,C k e∧Just P w w'∧Solo P (Many (l.set i (S' k))) w':=by
 refine Solo.callE h fun V hM hV=>?_
 exact (sep_turnedE (Many.pick l i S hi hM) (Many.framed _ fun R hR=>hF R (List.mem_of_mem_eraseIdx hR)) hV hc).mono fun e w' ⟨k,a,b,c⟩=>⟨k,a,Many.unpick l i S (S' k) hi b,c⟩
theorem Solo.see (i:Nat) (hi:l[i]?=some S) (h:Solo P (Many l) w):∃ U:Nat→Prop,S w U∧∀ b,U b→P b∧b<w.heap.size:=by
 obtain⟨_,V,hM,hV⟩:=h
 obtain⟨U,hU,hs⟩:=(Many.pick l i S hi hM).fst
 exact⟨U,hU,fun b hb=>hV b (hs b hb)⟩
theorem Solo.grows (h:Solo P (Many l) w) (hF:AllFramed l) (hg:Grow w w'):Solo P (Many l) w':=h.grow (Many.framed l hF) hg
def Lic (V:Nat→Prop) (w:World) (b:Nat):Prop:=V b∨w.heap.size≤b
theorem Solo.begin_ (h:S w V) (hV:∀ b,V b→b<w.heap.size):Solo (Lic V w) S w:=⟨fun _ hb => .inr hb,V,h,fun b hb=>⟨.inl hb,hV b hb⟩⟩
theorem Lic.grow (w:World) (hg:Grow w w'):Just (Lic V w) w w':=Just.of_grow hg
theorem Solo.end_ (hW:∀ (U U':Nat→Prop),(∀ b,U b→U' b)→S w' U→S w' U') (h:Solo (Lic V w) S w') (hj:Just (Lic V w) w w') (hV:∀ b,V b→b<w.heap.size):S w' (Ext V w w')∧Just V w w':=by
 obtain⟨_,U,hS,hU⟩:=h
 refine⟨hW U _ (fun b hb=>?_) hS,⟨hj.os,hj.tape,hj.output,hj.size,fun b hb hv=>hj.block b hb fun hl=>?_⟩⟩
 ·obtain⟨h1,h2⟩:=hU b hb
  rcases h1 with h1|h1
  ·exact .inl h1
  ·exact .inr ⟨h1,h2⟩
 ·rcases hl with hl|hl
  ·exact hv hl
  ·omega
def Wide (S:Thing):Prop:=∀ (w:World) (U U':Nat→Prop),(∀ b,U b→U' b)→S w U→S w U'
theorem Many.wide (l:List Thing):Wide (Many l):=fun w U U' h hs=>by
 cases l with
 | nil=>trivial
 | cons S l=>exact Sep.wide hs h
theorem Solo.done (h:Solo (Lic V w) (Many l) w') (hj:Just (Lic V w) w w') (hV:∀ b,V b→b<w.heap.size):Many l w' (Ext V w w')∧Just V w w':=h.end_ (fun U U' hu=>Many.wide l w' U U' hu) hj hV
theorem Solo.blk {x:Nat} {t:TypeId} {cs:Array Value} (i:Nat) (hi:l[i]?=some (Cell x t cs)) (h:Solo P (Many l) w):Blk w x t cs:=by
 obtain⟨U,hU,_⟩:=h.see i hi
 exact hU.2
theorem Solo.lics {x:Nat} {t:TypeId} {cs:Array Value} (i:Nat) (hi:l[i]?=some (Cell x t cs)) (h:Solo P (Many l) w):P x∧x<w.heap.size:=by
 obtain⟨U,hU,h2⟩:=h.see i hi
 exact h2 x hU.1
theorem Solo.turned {x:Nat} {t:TypeId} {cs cs':Array Value} (i:Nat) (hi:l[i]?=some (Cell x t cs)) (hF:AllFramed l) (h:Solo P (Many l) w) (hj:Just (fun b=>b=x) w w') (hB:Blk w' x t cs'):Solo P (Many (l.set i (Cell x t cs'))) w':=by
 obtain⟨h0,V,hM,hV⟩:=h
 obtain⟨V1,V2,a,b,c,d,e⟩:=Many.pick l i _ hi hM
 refine⟨fun y hy=>h0 y (Nat.le_trans hj.size hy),V,Many.unpick l i (Cell x t cs) _ hi ⟨V1,V2,⟨a.1,hB⟩,?_,c,d,e⟩,fun y hy=>⟨(hV y hy).1,Nat.lt_of_lt_of_le (hV y hy).2 hj.size⟩⟩
 exact Many.framed _ (fun R hR=>hF R (List.mem_of_mem_eraseIdx hR)) w w' V2 b fun y hy=>hj.block y (hV y (d y hy)).2 fun hxy=>e x a.1 (by rw[←hxy];exact hy)
theorem Solo.puts {x:Nat} {t:TypeId} {cs:Array Value} (i:Nat) (hi:l[i]?=some (Cell x t cs)) (hF:AllFramed l) (h:Solo P (Many l) w) (k:Nat) (u:Value):Solo P (Many (l.set i (Cell x t (cs.setIfInBounds k u)))) (w.setCell ⟨x,k,none⟩ u):=
 h.turned i hi hF (just_at w x k u) ((h.blk i hi).put k u)
theorem Solo.join {R:Thing} (h:Solo P (Many l) w) (hF:AllFramed l) (hg:Grow w w') {U:Nat→Prop} (hR:R w' U) (hU:∀ b,U b→w.heap.size≤b∧b<w'.heap.size):Solo P (Many (R :: l)) w':=by
 obtain⟨h0,V,hM,hV⟩:=h
 refine⟨fun b hb=>h0 b (Nat.le_trans hg.size hb),fun b=>V b∨U b,⟨U,V,hR,Many.framed l hF w w' V hM fun b hb=>hg.block b (hV b hb).2,fun b hb => .inr hb,fun b hb => .inl hb,fun b hb hv=>?_⟩,fun b hb=>?_⟩
 ·have:=(hV b hv).2;have:=(hU b hb).1;omega
 ·rcases hb with hb|hb
  ·exact⟨(hV b hb).1,Nat.lt_of_lt_of_le (hV b hb).2 hg.size⟩
  ·exact⟨h0 b (hU b hb).1,(hU b hb).2⟩
theorem Solo.perm (hp:l.Perm l') (h:Solo P (Many l) w):Solo P (Many l') w:=h.turn fun _ hV=>Many.perm hp hV
theorem Solo.drop1 (h:Solo P (Many (S :: l)) w):Solo P (Many l) w:=h.turn fun V hV=>by
 obtain⟨U,hU,hs⟩:=Sep.snd hV
 exact Many.wide l w U V hs hU
theorem Solo.flat (h:Solo P (Many (Many l :: l')) w):Solo P (Many (l++l')) w:=h.turn fun _ hV=>Many.flat l hV
theorem Solo.unflat (h:Solo P (Many (l++l')) w):Solo P (Many (Many l :: l')) w:=h.turn fun _ hV=>Many.app l hV
theorem Solo.map (i:Nat) (hi:l[i]?=some S) (h:Solo P (Many l) w) (hS:∀ U,S w U→S' w U):Solo P (Many (l.set i S')) w:=h.turn fun _ hV=>Many.unpick l i S S' hi ((Many.pick l i S hi hV).imp hS fun _ h=>h)
end
theorem Blk.in_ {w:World} {x:Nat} {t:TypeId} {cs:Array Value} (h:Blk w x t cs) {size n:Nat} (hn:cs.toList.length=n*size):In w (fun b=>b=x) size (some ⟨x,0,none⟩) n cs.toList:=
 ⟨hn,fun _=>⟨_,rfl,rfl,h.lt,fun j u hu=>by
  have h1:=h.cell j
  have h2:(⟨x,0,none⟩:Addr).add j=⟨x,j,none⟩:=by
   unfold Addr.add
   split
   ·rename_i h;rw[h]
   ·simp
  rw[h2,h1,←Array.getElem?_toList]
  exact hu⟩⟩
section
variable {Pr:Program} {f:FuncId} {args:Array Value} {C:Ending→Prop} {S S' R R':Thing} {l l':List Thing} {w w':World} {P V:Nat→Prop}
theorem Solo.atV (i:Nat) (hi:l[i]?=some S) (hF:AllFramed l) (h:Solo P (Many l) w) (hc:∀ U:Nat→Prop,S w U→(∀ b,U b→b<w.heap.size)→(∀ b,U b→P b)→Calls Pr f args w fun e w'=>C e∧S' w' (Ext U w w')∧Just U w w'):Calls Pr f args w fun e w'=>C e∧Just P w w'∧Solo P (Many (l.set i S')) w':=by
 obtain⟨h0,V,h1,h4⟩:=h
 refine (sep_turned (Many.pick l i S hi h1) (Many.framed _ fun R hR=>hF R (List.mem_of_mem_eraseIdx hR)) (fun b hb=>(h4 b hb).2) fun U hU hU2 hU3=>hc U hU hU2 fun b hb=>(h4 b (hU3 b hb)).1).mono fun e w' ⟨a,b,c⟩=>⟨a,c.imp fun k hk=>(h4 k hk).1,fun b hb=>h0 b (Nat.le_trans c.size hb),Ext V w w',Many.unpick l i S S' hi b,ext_lt h4 h0 c.size⟩
theorem Solo.put_ {φ:World→Prop} (i:Nat) (hi:l[i]?=some S) (hF:AllFramed l) (h:Solo P (Many l) w) (hc:∀ U:Nat→Prop,S w U→(∀ b,U b→P b∧b<w.heap.size)→∃ w',φ w'∧S' w' U∧Just U w w'):∃ w',φ w'∧Solo P (Many (l.set i S')) w'∧Just P w w':=by
 obtain⟨h0,V,h1,h4⟩:=h
 obtain⟨V1,V2,a,b,c,d,e⟩:=Many.pick l i S hi h1
 obtain⟨w',hp,hs,hj⟩:=hc V1 a fun x hx=>h4 x (c x hx)
 have hR:=Many.framed _ (fun R hR=>hF R (List.mem_of_mem_eraseIdx hR)) w w' V2 b fun x hx=>hj.block x (h4 x (d x hx)).2 fun h1=>e x h1 hx
 exact⟨w',hp,⟨fun b hb=>h0 b (Nat.le_trans hj.size hb),V,Many.unpick l i S S' hi ⟨V1,V2,hs,hR,c,d,e⟩,fun b hb=>⟨(h4 b hb).1,Nat.lt_of_lt_of_le (h4 b hb).2 hj.size⟩⟩,hj.imp fun x hx=>(h4 x (c x hx)).1⟩
theorem Solo.of_new (h0:∀ b,w.heap.size≤b→P b) (hM:Many l w V) (hV:∀ b,V b→P b∧b<w.heap.size):Solo P (Many l) w:=⟨h0,V,hM,hV⟩
theorem Solo.cons_ {U:Nat→Prop} (h0:∀ b,w.heap.size≤b→P b) (hM:Many l w V) (hV:∀ b,V b→P b∧b<w.heap.size) (hR:R w U) (hU:∀ b,U b→P b∧b<w.heap.size∧¬ V b):Solo P (Many (R :: l)) w:=
 ⟨h0,fun b=>U b∨V b,⟨U,V,hR,hM,fun _ h => .inl h,fun _ h => .inr h,fun b h1 h2=>(hU b h1).2.2 h2⟩,fun b hb=>hb.elim (fun h=>⟨(hU b h).1,(hU b h).2.1⟩) (hV b)⟩
end
end Go.Hop
end
section
namespace Go.Proofs.YtmijcbfgfkeodaaGreatDoor
open Go.RowKit Go.Hop
abbrev Dl:=ByteArray×Nat
def dcell (d:Dl):List Value:=[.string d.1,.int .u64 (d.2:Int)]
def dcells (l:List Dl):List Value:=l.flatMap dcell
theorem dcell_len (d:Dl):(dcell d).length=2:=rfl
theorem dcells_one (l:List Dl):∀ u∈dcells l,u.oneCell'=true:=by
 intro u hu
 unfold dcells at hu
 obtain⟨d,_,hd⟩:=List.mem_flatMap.1 hu
 simp only[dcell,List.mem_cons,List.not_mem_nil,or_false] at hd
 rcases hd with rfl|rfl<;>rfl
theorem dcells_len (l:List Dl):(dcells l).length=l.length*2:=flat_length dcell 2 dcell_len l
def New (w w':World) (b:Nat):Prop:=w.heap.size≤b∧b<w'.heap.size
theorem info_parts {e size bytes:Nat} {z:Value} (h:(Tryz.prog.info? e).map (fun i=>(i.zero,i.size,i.bytes))=some (some z,size,bytes)):∃ i,Tryz.prog.info? e=some i∧i.zero=some z∧i.size=size∧i.bytes=bytes:=by
 cases hi:Tryz.prog.info? e with
 | none=>rw[hi] at h;cases h
 | some i=>rw[hi] at h;injection h with h;injection h with h1 h2;injection h2 with h2 h3;exact⟨i,rfl,h1,h2,h3⟩
theorem delta_info:(Tryz.prog.info? 29).map (fun i=>(i.zero,i.size,i.bytes))=some (some (.agg #[.string .empty,.int .u64 0]),2,24):=by kernel_rfl
theorem deltaE:Elem Tryz.prog 30 29 2 24 (.agg #[.string .empty,.int .u64 0]):=⟨Tryz.underlying30,info_parts delta_info,rfl,by decide,by decide⟩
def DIn (w:World) (V:Nat→Prop) (A:Option Addr) (n:Nat) (l:List Dl):Prop:=In w V 2 A n (dcells l)
theorem DIn.len {w:World} {V:Nat→Prop} {A:Option Addr} {n:Nat} {l:List Dl} (h:DIn w V A n l):l.length=n:=by
 have:=h.1;rw[dcells_len] at this;omega
theorem own_new {w w1:World} {t e:TypeId} {size:Nat} {v:Value} {n:Nat} {xs:List Value} (hO:Own w1 (Ext (fun b=>b=w.heap.size) (w.alloc (.cells #[] t)) w1) e size v n xs) (hj:Just (fun b=>b=w.heap.size) (w.alloc (.cells #[] t)) w1):Own w1 (New w w1) e size v n xs∧Grow w w1:=by
 have hs:w.heap.size<w1.heap.size:=by have:=hj.size;simp at this;omega
 refine⟨hO.mono (fun b hb=>?_),((Below.refl w.heap.size w).alloc (Nat.le_refl _) (.cells #[] t)).trans (hj.below (B:=w.heap.size) (fun b hb=>by rw[hb];exact Nat.le_refl _) (by simp))⟩
 rcases hb with rfl|⟨h1,h2⟩
 ·exact⟨Nat.le_refl _,hs⟩
 ·simp at h1;exact⟨by omega,h2⟩
theorem made_own (w:World) (e:TypeId) (size:Nat):Own (w.alloc (.cells #[] e)) (fun b=>b=w.heap.size) e size (.slice (some ⟨w.heap.size,0,none⟩) 0 0) 0 []:=
 ⟨by simp,.inr ⟨w.heap.size,0,#[],rfl,rfl,heap_alloc_new w _,Nat.le_refl _,Nat.zero_le _,.inl (by simp),by simp⟩⟩
end Go.Proofs.YtmijcbfgfkeodaaGreatDoor
end
section
namespace Go.Proofs.YtmijcbfgfkeodaaGreatDoor.L
open Go.RowKit Go.Hop
abbrev Lb:=ByteArray×ByteArray
def lcell (d:Lb):List Value:=[.string d.1,.string d.2]
def lcells (l:List Lb):List Value:=l.flatMap lcell
theorem lcell_len (d:Lb):(lcell d).length=2:=rfl
theorem lcells_one (l:List Lb):∀ u∈lcells l,u.oneCell'=true:=by
 intro u hu
 unfold lcells at hu
 obtain⟨d,_,hd⟩:=List.mem_flatMap.1 hu
 simp only[lcell,List.mem_cons,List.not_mem_nil,or_false] at hd
 rcases hd with rfl|rfl<;>rfl
theorem lcells_len (l:List Lb):(lcells l).length=l.length*2:=flat_length lcell 2 lcell_len l
theorem label_info:(Tryz.prog.info? 90).map (fun i=>(i.zero,i.size,i.bytes))=some (some (.agg #[.string .empty,.string .empty]),2,32):=by kernel_rfl
theorem labelE:Elem Tryz.prog 91 90 2 32 (.agg #[.string .empty,.string .empty]):=⟨Tryz.underlying91,info_parts label_info,rfl,by decide,by decide⟩
theorem str_info:(Tryz.prog.info? 9).map (fun i=>(i.zero,i.size,i.bytes))=some (some (.string .empty),1,16):=by kernel_rfl
theorem strE:Elem Tryz.prog 83 9 1 16 (.string .empty):=⟨Tryz.underlying83,info_parts str_info,rfl,by decide,by decide⟩
theorem scells_one (l:List ByteArray):∀ u∈l.map Value.string,u.oneCell'=true:=by
 intro u hu
 obtain⟨x,_,rfl⟩:=List.mem_map.1 hu
 rfl
theorem lab_at {w:World} {V:Nat→Prop} {A:Option Addr} {n:Nat} {q:List Lb} (h:In w V 2 A n (lcells q)) {k:Nat} (hk:k<n) :
 ∃ (ad:Addr) (hq:k<q.length),A=some ad∧(∀ w1,Grow w w1→w1.cell? (ad.add (k*2))=some (.string q[k].1))∧∀ w1,Grow w w1→w1.cell? ⟨(ad.add (k*2)).block,(ad.add (k*2)).off+1,none⟩=some (.string q[k].2):=by
 obtain⟨ad,hq,e,_,hb,e0,e12⟩:=In.rec_ (cells:=lcell) h (by omega) lcell_len hk
 exact⟨ad,hq,e,fun w1 hg=>(hg.cell (by rw[block_add];exact hb)).trans (e0 _ rfl),fun w1 hg=>(hg.cell (p:=⟨(ad.add (k*2)).block,(ad.add (k*2)).off+1,none⟩) (show (ad.add (k*2)).block<_ by rw[block_add];exact hb)).trans (e12 0 _ rfl)⟩
theorem str_at {w:World} {V:Nat→Prop} {A:Option Addr} {n:Nat} {q:List ByteArray} (h:In w V 1 A n (q.map Value.string)) {k:Nat} (hk:k<n) :
 ∃ (ad:Addr) (hq:k<q.length),A=some ad∧∀ w1,Grow w w1→w1.cell? (ad.add k)=some (.string q[k]):=by
 obtain⟨ad,e,_,hb,hc⟩:=h.2 (by omega)
 have hl:=h.1
 simp only[List.length_map,Nat.mul_one] at hl
 have hq:k<q.length:=by omega
 exact⟨ad,hq,e,fun w1 hg=>(hg.cell (by rw[block_add];exact hb)).trans (hc k _ (by rw[List.getElem?_map,List.getElem?_eq_getElem hq];rfl))⟩
theorem LIn.len {w:World} {V:Nat→Prop} {A:Option Addr} {n:Nat} {l:List Lb} (h:In w V 2 A n (lcells l)):l.length=n:=by
 have:=h.1;rw[lcells_len] at this;omega
def slt (a b:ByteArray):Bool:=Op.bytesLess a.toList b.toList
theorem slt_is (a b:ByteArray):slt a b=decide (a.data.toList<b.data.toList):=by
 unfold slt
 rw[bytesLess_eq,Lib.toList_data,Lib.toList_data]
theorem slt_irr (a:ByteArray):slt a a=false:=by
 rw[slt_is];exact decide_eq_false (List.lt_irrefl _)
theorem slt_tr {a b c:ByteArray} (h:slt a b=true) (k:slt b c=true):slt a c=true:=by
 rw[slt_is] at *
 exact decide_eq_true (List.lt_trans (of_decide_eq_true h) (of_decide_eq_true k))
theorem slt_tri {a b:ByteArray} (h:slt a b=false) (k:slt b a=false):a=b:=by
 rw[slt_is] at *
 have h1:=of_decide_eq_false h
 have h2:=of_decide_eq_false k
 have e:a.data.toList=b.data.toList:=List.le_antisymm (List.not_lt.1 h2) (List.not_lt.1 h1)
 exact ByteArray.ext (Array.toList_inj.1 e)
theorem slt_no {a b:ByteArray} (h:slt a b=true):slt b a=false:=by
 cases hb:slt b a with
 | false=>rfl
 | true=>have:=slt_tr h hb;rw[slt_irr] at this;cases this
theorem slt_ntr {x y z:ByteArray} (h:slt x y=false) (k:slt y z=false):slt x z=false:=by
 cases hz:slt x z with
 | false=>rfl
 | true=>
   cases hzy:slt z y with
   | true=>rw[slt_tr hz hzy] at h;cases h
   | false=>have e:=slt_tri k hzy;rw[e,hz] at h;cases h
theorem txt_eq {a b:ByteArray}:a.toList=b.toList↔a=b:=by
 rw[Lib.toList_data,Lib.toList_data]
 exact⟨fun e=>ByteArray.ext (Array.toList_inj.1 e),fun e=>by rw[e]⟩
def cmpT (a b:ByteArray):Int:=if slt a b then -1 else if slt b a then 1 else 0
theorem gtr_is (a b:ByteArray):(!(Op.bytesLess a.toList b.toList || a.toList == b.toList))=slt b a:=by
 cases h1:slt a b with
 | true=>
   have h2:=slt_no h1
   unfold slt at h1
   rw[h1,h2];rfl
 | false=>
   have h1':=h1
   unfold slt at h1'
   rw[h1',Bool.false_or]
   cases h2:slt b a with
   | false=>
     have:=slt_tri h1 h2
     subst this
     simp
   | true=>
     have hne:a.toList≠b.toList:=fun e=>by
      have:=txt_eq.1 e
      rw[this,slt_irr] at h2;cases h2
     simp[hne]
theorem isNaN_any (w:World) (a:ByteArray):Calls Tryz.prog 210 #[.string a] w fun e w'=>e=.returned (.bool false)∧w=w':=by
 go_enter Tryz.func210,Tryz.ntmps210
 go_wp2_with fail
 go_ret
 exact⟨by simp,rfl⟩
theorem Compare_any (w:World) (a b:ByteArray):Calls Tryz.prog 136 #[.string a,.string b] w fun e w'=>e=.returned (.int .i64 (cmpT a b))∧w=w':=by
 have hg:=gtr_is a b
 unfold cmpT
 cases h1:slt a b with
 | true=>
   rw[if_pos rfl]
   unfold slt at h1
   go_enter Tryz.func136,Tryz.ntmps136
   go_wp2_with (go_at_call 210;refine (isNaN_any _ _).mono ?_;rintro e w' ⟨rfl,rfl⟩)
   go_ret
   exact⟨rfl,rfl⟩
 | false=>
   rw[if_neg (by simp)]
   unfold slt at h1
   cases h2:slt b a with
   | true=>
     rw[if_pos rfl]
     rw[h2] at hg
     go_enter Tryz.func136,Tryz.ntmps136
     go_wp2_with (go_at_call 210;refine (isNaN_any _ _).mono ?_;rintro e w' ⟨rfl,rfl⟩)
     all_goals first|(go_ret;exact⟨rfl,rfl⟩)|simp_all
   | false=>
     rw[if_neg (by simp)]
     rw[h2] at hg
     go_enter Tryz.func136,Tryz.ntmps136
     go_wp2_with (go_at_call 210;refine (isNaN_any _ _).mono ?_;rintro e w' ⟨rfl,rfl⟩)
     all_goals first|(go_ret;exact⟨rfl,rfl⟩)|simp_all
end Go.Proofs.YtmijcbfgfkeodaaGreatDoor.L
end
section
namespace Go.Proofs.YtmijcbfgfkeodaaGreatDoor.L
open Go.Shelf
def insL_ren:Go.Shelf.Ren:=⟨fun|20=>357|n=>n,fun|24=>90|22=>91|3=>3|25=>368|4=>4|0=>0|n=>n,fun|n=>n⟩
theorem insL:Go.Proofs.SlLaysF0.n20 Tryz.prog insL_ren:={
 mixed:=by kernel_rfl
 f20:=⟨Tryz.f357.name,by decide,Tryz.func357.trans (congrArg some (by kernel_rfl))⟩
 t0:=Tryz.underlying0
 a0:=Tryz.isAgg0
 z0:=Tryz.sizeOf0
 v0:=Tryz.zeroValue0
 t3:=Tryz.underlying3
 a3:=Tryz.isAgg3
 z3:=Tryz.sizeOf3
 v3:=Tryz.zeroValue3
 t4:=Tryz.underlying4
 a4:=Tryz.isAgg4
 z4:=Tryz.sizeOf4
 v4:=Tryz.zeroValue4
 t22:=Tryz.underlying91
 a22:=Tryz.isAgg91
 z22:=Tryz.sizeOf91
 v22:=Tryz.zeroValue91
 t25:=Tryz.underlying368
 a25:=Tryz.isAgg368
 z25:=Tryz.sizeOf368
 v25:=Tryz.zeroValue368 }
end Go.Proofs.YtmijcbfgfkeodaaGreatDoor.L
namespace Go.Proofs.YtmijcbfgfkeodaaGreatDoor.L
open Go.RowKit Go.Hop Go.Shelf
theorem clone_lab (w:World) (V:Nat→Prop) (A:Option Addr) (n c:Nat) (l:List Lb) (h:In w V 2 A n (lcells l)) (hn:n≤1048576) :
 Calls Tryz.prog 298 #[.slice A n c] w fun e w'=>∃ v,e=.returned v∧Own w' (New w w') 90 2 v n (lcells l)∧Grow w w':=by
 have hnil:=fun (w':World)=>Lib.run_eql_slice_nil (P:=Tryz.prog) w' 91 90 A n c 0 0 Tryz.underlying91
 cases A with
 | none=>
   have hn0:n=0:=by
    rcases Nat.eq_zero_or_pos n with h0|h0
    ·exact h0
    ·obtain⟨_,e,_⟩:=h.2 h0;cases e
   subst hn0
   obtain rfl:l=[]:=List.eq_nil_of_length_eq_zero (LIn.len h)
   go_enter Tryz.func298,Tryz.ntmps298
   go_wp2_with fail
   go_ret
   exact⟨_,rfl,Own.nil,Grow.refl _⟩
 | some ad=>
   go_enter Tryz.func298,Tryz.ntmps298
   go_wp2_with (at_builtin;refine stay ?_)
   refine stay_out ?_
   refine wpList_own (V:=fun b=>b=w.heap.size) labelE _ rfl (.tmp 5) (.tmp 6) rfl (.slice (some ⟨w.heap.size,0,none⟩) 0 0) 0 [] rfl (made_own w _ _) w.heap.size (some ad) n c (lcells l) rfl (Reads.alloc (In.reads h) (Nat.le_refl _) _) (lcells_one l) (by omega) ?_
   intro v1 w1 hO1 hj1
   simp only[Nat.zero_add,List.nil_append] at hO1
   obtain⟨hO2,hg1⟩:=own_new hO1 hj1
   go_wp2_with fail
   go_ret
   exact⟨v1,rfl,hO2,hg1⟩
theorem clip_lab (w:World) (A:Option Addr) (n c:Nat) (hn:n≤c) :
 Calls Tryz.prog 192 #[.slice A n c] w fun e w'=>e=.returned (.slice A n n)∧w=w':=by
 go_enter Tryz.func192,Tryz.ntmps192
 go_wp2_with fail
 go_ret
 exact⟨rfl,rfl⟩
theorem cmpL_any (x y:Lb) (W:World):Calls Tryz.prog 300 #[.agg #[.string x.1,.string x.2],.agg #[.string y.1,.string y.2]] W fun e w'=>e=.returned (.int .i64 (cmpT x.1 y.1))∧∃ q os',w'=Sort.grow (W.drewN q) os':=by
 have hcon:=fun W'=>Compare_any W' x.1 y.1
 generalize cmpT x.1 y.1=r at hcon ⊢
 go_enter Tryz.func300,Tryz.ntmps300
 go_wp2_with (go_at_call 136;refine (hcon _).mono ?_;rintro e w' ⟨rfl,rfl⟩)
 go_ret
 exact⟨rfl,0,_,by rw[Sort.alloc_eq_grow,Sort.alloc_eq_grow,Sort.grow_grow];rfl⟩
theorem ltL_is (x y:Lb):Go.Proofs.ltOf (fun x y:Lb=>cmpT x.1 y.1) x y=slt x.1 y.1:=by
 unfold Go.Proofs.ltOf cmpT
 cases h1:slt x.1 y.1<;>cases h2:slt y.1 x.1<;>simp[h1,h2]
theorem swoL:Sort.SWO (Go.Proofs.ltOf fun x y:Lb=>cmpT x.1 y.1) where
 irrefl x:=by rw[ltL_is];exact slt_irr _
 trans x y z h k:=by rw[ltL_is] at *;exact slt_tr h k
 ntrans x y z h k:=by rw[ltL_is] at *;exact slt_ntr h k
theorem cell_flatL (l:List Lb) (j:Nat) (hj:j<l.length*2):(lcells l)[j]?=some (Sort.flatK lcell 2 l.toArray)[j]!:=by
 have h:=flat_get lcell 2 lcell_len l (j / 2) (j % 2) (by omega) (Nat.mod_lt _ (by omega))
 rw[show j / 2*2+j % 2=j by omega] at h
 unfold lcells
 rw[h,Sort.get_flatK lcell 2 l.toArray j (by simpa using hj)]
 have h2:j / 2<l.length:=by omega
 have h3:l.toArray[j / 2]! = l[j / 2]:=by simp[h2]
 rw[h3]
 have h4:j % 2<(lcell l[j / 2]).length:=by rw[lcell_len];exact Nat.mod_lt _ (by omega)
 rw[List.getElem?_eq_getElem h4]
 simp[h4]
structure ByName (q l:List Lb):Prop where
 perm:q.Perm l
 srt:q.Pairwise fun a b=>slt b.1 a.1=false
theorem ins_any (w:World) (g c:Nat) (l:List Lb) (cur:Array Value) (hg:w.heap[g]?=some (.cells cur 90 (0,0))) (hcur:cur.toList.take (l.length*2)=lcells l) (hl:l.length<4611686018427387904) :
 Calls Tryz.prog 357 #[.slice (some ⟨g,0,none⟩) l.length c,.int .i64 0,.int .i64 (l.length:Int),.func (.func 300) #[] #[]] w fun e w'=>e=.returned (.tuple #[])∧∃ q:List Lb,ByName q l∧In w' (fun b=>b=g) 2 (some ⟨g,0,none⟩) l.length (lcells q)∧Just (fun b=>b=g) w w':=by
 have hgl:g<w.heap.size:=(Array.getElem?_eq_some_iff.1 hg).1
 have hH:Sort.HoldsK lcell 2 w g 0 l.toArray:=fun j hj=>by
  rw[Sort.size_flatK] at hj
  have hj':j<l.length*2:=by simpa using hj
  have hc:=cell_flatL l j hj'
  rw[←hcur,List.getElem?_take_of_lt hj',Array.getElem?_toList] at hc
  refine⟨?_,?_⟩
  ·unfold World.cell?
   simp only[hg,Nat.zero_add]
   exact hc
  ·unfold World.frozen?
   simp only[hg]
   simp
 have eg:∀ args w,(callFunc 300 args).run Tryz.prog w=.ok (.enter 300 args) w:=fun args w=>by go_simp
 have hcon:=Go.Proofs.AnyQ.insertionSortCmpFunc insL 2 Tryz.isAgg90 Tryz.sizeOf90 lcell lcell_len (fun x v hv=>by simp only[lcell,List.mem_cons,List.not_mem_nil,or_false] at hv;rcases hv with rfl|rfl<;>rfl) (fun x y:Lb=>cmpT x.1 y.1) 300 #[] g 0 c 0 l.length l.toArray w eg (fun m os dk _ x y=>cmpL_any x y _) hH hgl (Nat.zero_le _) (by simp) (by simpa using hl)
 change Calls Tryz.prog 357 _ _ _ at hcon
 rw[List.size_toArray] at hcon
 refine hcon.mono ?_
 rintro e w' ⟨he,n,os,rfl⟩
 have hh:=Sort.insertionSort_holds swoL l.toArray 0 l.length (Nat.zero_le _) (by simp)
 generalize Sort.insertionSort (Go.Proofs.ltOf fun x y:Lb=>cmpT x.1 y.1) l.toArray 0 l.length=d' at hh ⊢
 obtain⟨q,rfl⟩:∃ q:List Lb,d'=q.toArray:=⟨d'.toList,by simp⟩
 have hp:=hh.1
 have hs:=hh.2
 have hll:q.length=l.length:=by have:=hp.1;simpa using this
 have hH':=Go.Proofs.holdsK_sortWorldK_c lcell 2 w g 0 l.toArray q.toArray n os hH hgl hp.1
 have hsz:=Go.Proofs.size_sortWorldK_c lcell 2 w g 0 n q.toArray os
 refine⟨he,q,⟨?_,List.pairwise_iff_getElem.2 fun i j hi hj hij=>?_⟩,⟨by rw[lcells_len,hll],fun hn=>⟨_,rfl,rfl,Nat.lt_of_lt_of_le hgl hsz,fun j u hu=>?_⟩⟩,⟨rfl,rfl,rfl,hsz,fun b hb hbg=>?_⟩⟩
 ·have:=hp.2.2
  simp only[List.extract_toArray,List.extract_eq_take_drop,List.drop_zero,Nat.sub_zero] at this
  rwa [List.take_of_length_le (by omega),List.take_of_length_le (by omega)] at this
 ·have:=hs i j (Nat.zero_le _) hij (by omega)
  rw[ltL_is] at this
  simpa [hi,hj] using this
 ·have hj:j<q.length*2:=by
   have:=(List.getElem?_eq_some_iff.1 hu).1
   rwa [lcells_len] at this
  have h1:=(hH' j (by simpa [Sort.size_flatK] using hj)).1
  rw[Addr.add_lit,←hu,cell_flatL q j hj]
  exact h1
 ·have hb':b<(w.heap.modify g (Sort.onCells (Sort.putCells id 0 (Sort.flatK lcell 2 q.toArray)))).size:=by simpa using hb
  show ((w.heap.modify g (Sort.onCells (Sort.putCells id 0 (Sort.flatK lcell 2 q.toArray))))++os)[b]?=w.heap[b]?
  rw[Array.getElem?_append_left hb',Array.getElem?_modify,if_neg (fun e=>hbg e.symm)]
theorem ins_none (w:World) (A:Option Addr) (c:Nat) (f:Value):Calls Tryz.prog 357 #[.slice A 0 c,.int .i64 0,.int .i64 0,f] w fun e w'=>e=.returned (.tuple #[])∧w=w':=by
 go_enter Tryz.func357,Tryz.ntmps357
 go_wp2_with fail
 go_loop [8] (fun i=>i=.int .i64 1) (fun _=>0)
 case atStart=>rfl
 case round=>
  obtain rfl:=hrel
  go_wp2_with fail
  go_end0
  exact⟨rfl,rfl⟩
theorem stable_any (w:World) (A:Option Addr) (n c:Nat) (l:List Lb) (hn:n≤19) (V:Nat→Prop) (hO:Own w V 90 2 (.slice A n c) n (lcells l)) :
 Calls Tryz.prog 299 #[.slice A n c,.func (.func 300) #[] #[]] w fun e w'=>e=.returned (.tuple #[])∧∃ q:List Lb,ByName q l∧In w' V 2 A n (lcells q)∧Just V w w':=by
 have hl:l.length=n:=by have:=hO.1;rw[lcells_len] at this;omega
 have hins:Calls Tryz.prog 357 #[.slice A n c,.int .i64 0,.int .i64 (n:Int),.func (.func 300) #[] #[]] w fun e w'=>e=.returned (.tuple #[])∧∃ q:List Lb,ByName q l∧In w' V 2 A n (lcells q)∧Just V w w':=by
  rcases hO.2 with ⟨h1,h0⟩|⟨g,cap,cur,h1,hV,hg,hnc,hcm,hsz,htk⟩
  ·subst h0
   obtain rfl:l=[]:=List.eq_nil_of_length_eq_zero hl
   refine (ins_none w A c _).mono ?_
   rintro e w' ⟨he,rfl⟩
   exact⟨he,[],⟨List.Perm.refl _,List.Pairwise.nil⟩,In.nil,Just.of_grow (Grow.refl _)⟩
  ·injection h1 with h1 _ h3
   subst h1 h3
   rw[←hl] at htk
   have:=ins_any w g c l cur hg htk (by omega)
   rw[hl] at this
   refine this.mono ?_
   rintro e w' ⟨he,q,hq,hI,hj⟩
   exact⟨he,q,hq,hI.mono fun b hb=>by rw[hb];exact hV,hj.imp fun b hb=>by rw[hb];exact hV⟩
 have hst:Calls Tryz.prog 343 #[.slice A n c,.int .i64 (n:Int),.func (.func 300) #[] #[]] w fun e w'=>e=.returned (.tuple #[])∧∃ q:List Lb,ByName q l∧In w' V 2 A n (lcells q)∧Just V w w':=by
  have h20:decide ((20:Int)≤(n:Int))=false:=decide_eq_false (by omega)
  have h20':decide ((20:Int)<(n:Int))=false:=decide_eq_false (by omega)
  clear hO
  go_enter Tryz.func343,Tryz.ntmps343
  go_wp2_with fail
  go_loop [7,8] (fun a b=>a=.int .i64 0∧b=.int .i64 20) (fun _ _=>0)
  case atStart=>exact⟨rfl,rfl⟩
  case round=>
   obtain⟨rfl,rfl⟩:=hrel
   go_wp2_with fail
   refine hins.mono ?_
   rintro e w2 ⟨rfl,H⟩
   clear hins
   have HH:=Lib.hid H
   clear H
   go_wp2_with fail
   go_loop [6] (fun a=>a=.int .i64 20) (fun _=>0)
   case atStart=>rfl
   case round=>
    obtain rfl:=hrel
    go_wp2_with fail
    go_end0
    exact⟨rfl,HH.out⟩
 clear hins hO
 go_enter Tryz.func299,Tryz.ntmps299
 go_wp2_with fail
 refine hst.mono ?_
 rintro e w2 ⟨rfl,H⟩
 clear hst
 have HH:=Lib.hid H
 clear H
 go_wp2_with fail
 go_end0
 exact⟨rfl,HH.out⟩
theorem sorted_any (w:World) (V:Nat→Prop) (A:Option Addr) (n c:Nat) (l:List Lb) (h:In w V 2 A n (lcells l)) (hn:n≤19) :
 Calls Tryz.prog 240 #[.slice A n c] w fun e w'=>∃ A' q,e=.returned (.slice A' n n)∧ByName q l∧In w' (New w w') 2 A' n (lcells q)∧Grow w w':=by
 go_enter Tryz.func240,Tryz.ntmps240
 go_wp2_with fail
 refine (clone_lab w V A n c l h (by omega)).mono ?_
 rintro e w1 ⟨v,rfl,hO,hg1⟩
 obtain⟨A1,c1,rfl,_,hnc,_⟩:=hO.in_
 have hst:=stable_any w1 A1 n c1 l hn (New w w1) hO
 clear hO
 go_wp2_with fail
 refine hst.mono ?_
 rintro e w2 ⟨rfl,q,hq,hI,hj⟩
 clear hst
 go_wp2_with (go_at_call 192;refine (clip_lab _ _ _ _ hnc).mono ?_;rintro e w' ⟨rfl,rfl⟩)
 go_ret
 have hs:=hg1.size
 have hs2:=hj.size
 exact⟨A1,q,rfl,hq,hI.mono fun b hb=>⟨hb.1,by have:=hb.2;omega⟩,Below.trans hg1 (hj.below (B:=w.heap.size) (fun b hb=>hb.1) hs)⟩
end Go.Proofs.YtmijcbfgfkeodaaGreatDoor.L
end
section
namespace Go.Proofs.YtmijcbfgfkeodaaGreatDoor.L
open Go.RowKit Go.Hop
def okc (c:Nat):Bool:=(decide (97≤c) && decide (c≤122)) || (decide (48≤c) && decide (c≤57)) || decide (c=95)
theorem okc_is (c:Nat):okc c=true↔(97≤c∧c≤122)∨(48≤c∧c≤57)∨c=95:=by
 unfold okc
 simp only[Bool.or_eq_true,Bool.and_eq_true,decide_eq_true_eq]
 omega
def allB (s:ByteArray):Bool:=s.data.toList.all fun c=>okc c.toNat
def nameB (s:ByteArray):Bool:=decide (1≤s.size) && decide (s.size≤32) && allB s
theorem all_take {s:ByteArray} {k:Nat} (hk:k<s.size) (h:(s.data.toList.take k).all (fun c=>okc c.toNat)=true) (hc:okc s[k].toNat=true):(s.data.toList.take (k+1)).all (fun c=>okc c.toNat)=true:=by
 have hl:k<s.data.toList.length:=by simpa using hk
 rw[List.take_succ_eq_append_getElem hl,List.all_append,h,Bool.true_and]
 simp only[List.all_cons,List.all_nil,Bool.and_true]
 exact hc
theorem all_no {s:ByteArray} {k:Nat} (hk:k<s.size) (hc:okc s[k].toNat=false):allB s=false:=by
 have hl:k<s.data.toList.length:=by simpa using hk
 refine List.all_eq_false.2 ⟨s.data.toList[k],List.getElem_mem hl,?_⟩
 have:s.data.toList[k]=s[k]:=by rw[Array.getElem_toList];rfl
 rw[this,hc];simp
theorem name_no {s:ByteArray} {k:Nat} (hk:k<s.size) (hc:okc s[k].toNat=false):nameB s=false:=by
 unfold nameB;rw[all_no hk hc,Bool.and_false]
theorem u8_cmp (c:UInt8):0≤(c.toNat:Int)∧(c.toNat:Int)≤255:=by have:=c.toNat_lt;omega
set_option maxHeartbeats 1000000 in
theorem Name_any (w:World) (s:ByteArray) (hs:s.size≤maxLen):Calls Tryz.prog 297 #[.string s] w fun e w'=>e=.returned (.bool (nameB s))∧w=w':=by
 unfold maxLen at hs
 by_cases h0:s.size=0
 ·have he:nameB s=false:=by unfold nameB;rw[decide_eq_false (by omega),Bool.false_and,Bool.false_and]
  rw[he]
  have hee:(s == (⟨#[]⟩:ByteArray))=true:=by
   have:s=⟨#[]⟩:=ByteArray.ext (Array.eq_empty_of_size_eq_zero h0)
   rw[this];rfl
  obtain rfl:s=⟨#[]⟩:=ByteArray.ext (Array.eq_empty_of_size_eq_zero h0)
  clear h0 hee he
  go_enter Tryz.func297,Tryz.ntmps297
  go_wp2
  go_ret
  exact⟨rfl,rfl⟩
 ·have hne:s.toList=[]↔False:=by
   constructor
   ·intro h
    have h2:s.data.toList=[]:=by rw[←Lib.toList_data];exact h
    have:s.size=0:=by show s.data.size=0;rw[←Array.length_toList,h2];rfl
    exact h0 this
   ·exact False.elim
  have hne2:s.toList.isEmpty=false:=by
   cases h:s.toList with
   | nil=>exact (hne.1 h).elim
   | cons _ _=>rfl
  have HNE:=Lib.hid hne
  clear hne
  by_cases h32:s.size≤32
  ·have hd:decide ((32:Int)<(s.size:Int))=false:=decide_eq_false (by omega)
   go_enter Tryz.func297,Tryz.ntmps297
   go_wp2
   go_loop [14] (fun i=>∃ k:Nat,k≤s.size∧i=.int .i64 (k:Int)∧(s.data.toList.take k).all (fun c=>okc c.toNat)=true) (fun i=>s.size-(intOf i).toNat)
   case atStart=>exact⟨0,Nat.zero_le _,rfl,rfl⟩
   case round=>
    obtain⟨k,hk,rfl,hall⟩:=hrel
    have HA:=Lib.hid hall
    clear hall
    by_cases hlt:k<s.size
    ·have hlt':decide ((k:Int)<(s.size:Int))=true:=decide_eq_true (by omega)
     have hb:=u8_cmp s[k]
     have HY:Hid (okc s[k].toNat=true→(s.data.toList.take (k+1)).all (fun c=>okc c.toNat)=true):=Lib.hid fun h=>all_take hlt HA.out h
     have HN:Hid (okc s[k].toNat=false→nameB s=false):=Lib.hid fun h=>name_no hlt h
     have HI:Hid (okc s[k].toNat=true↔_):=Lib.hid (okc_is s[k].toNat)
     go_wp2
     all_goals first
      | (go_ret;exact⟨ret_bool (HN.out (by rw[Bool.eq_false_iff,ne_eq,HI.out];(try simp only[bne_iff_ne,ne_eq,bne_eq_false_iff_eq] at *);omega)).symm,rfl⟩)
      | (go_round
         case rel=>exact⟨k+1,by omega,by go_num,HY.out (HI.out.2 (by (try simp only[bne_iff_ne,ne_eq,bne_eq_false_iff_eq] at *);omega))⟩
         case measure=>simp[intOf];omega)
    ·obtain rfl:k=s.size:=by omega
     have hlt':decide ((s.size:Int)<(s.size:Int))=false:=decide_eq_false (by omega)
     have ht:nameB s=true:=by
      have:=HA.out
      rw[List.take_of_length_le (by simp)] at this
      unfold nameB allB
      rw[this,decide_eq_true (by omega),decide_eq_true (by omega)];rfl
     have HT:=Lib.hid ht
     clear ht
     go_wp2
     go_ret
     exact⟨ret_bool HT.out.symm,rfl⟩
  ·have hd:decide ((32:Int)<(s.size:Int))=true:=decide_eq_true (by omega)
   have he:nameB s=false:=by unfold nameB;rw[decide_eq_false h32,Bool.and_false,Bool.false_and]
   rw[he]
   clear he
   go_enter Tryz.func297,Tryz.ntmps297
   go_wp2
   go_ret
   exact⟨rfl,rfl⟩
end Go.Proofs.YtmijcbfgfkeodaaGreatDoor.L
end
