/- Vcut, Vcut2, Sep, Gmap, Rd. -/
import Derived.Test.YtmijcbfgfkeodaaGreatDoorHz06
import Derived.Test.YtmijcbfgfkeodaaGreatDoorHz03
import Derived.Maps.Own
import Derived.Maps.OwnSet
import Derived.Laws.StructEq
set_option linter.all false
set_option maxRecDepth 100000
section
namespace Go.Proofs.YtmijcbfgfkeodaaGreatDoor.V
open Go.RowKit Go.Hop
def CutIs (l t:List UInt8) (k:Nat):Prop:=(t.length<18446744073709551616∧enc t.length++t <+: l∧k=(enc t.length).length+t.length)∨((∀ t':List UInt8,t'.length<18446744073709551616→¬ (enc t'.length++t') <+: l)∧t=[]∧k=0)
theorem CutIs.none {l:List UInt8} (h:∀ t':List UInt8,t'.length<18446744073709551616→¬ (enc t'.length++t') <+: l):CutIs l [] 0 := .inr ⟨h,rfl,rfl⟩
theorem cut_prefix {t t' l:List UInt8} (h1:enc t.length++t <+: l) (h2:enc t'.length++t' <+: l):t=t':=by
 have he:=enc_prefix ((List.prefix_append _ _).trans h1) ((List.prefix_append _ _).trans h2)
 rw[←he] at h2
 obtain⟨r,rfl⟩:=h1
 rw[List.append_assoc] at h2
 have h3:=(List.prefix_append_right_inj _).1 h2
 have h4:t <+: t++r:=List.prefix_append _ _
 exact List.IsPrefix.eq_of_length (List.prefix_of_prefix_length_le h4 h3 (by omega)) he
theorem CutIs.one {l t t':List UInt8} {k k':Nat} (h:CutIs l t k) (h':CutIs l t' k'):t=t'∧k=k':=by
 rcases h with ⟨h1,h2,h3⟩|⟨h1,h2,h3⟩<;>rcases h' with ⟨g1,g2,g3⟩|⟨g1,g2,g3⟩
 ·have:=cut_prefix h2 g2
  subst this
  exact⟨rfl,by omega⟩
 ·exact absurd h2 (g1 _ h1)
 ·exact absurd g2 (h1 _ g1)
 ·exact⟨by rw[h2,g2],by omega⟩
theorem cut_here {l:List UInt8} {v k:Nat} (hv:v<18446744073709551616) (hE:enc v <+: l) (hk:k=(enc v).length) (hl:v≤l.length-k):CutIs l ((l.drop k).take v) (k+v):=by
 obtain⟨r,rfl⟩:=hE
 subst hk
 rw[List.drop_left']
 ·rw[List.length_append,Nat.add_sub_cancel_left] at hl
  have hlen:(r.take v).length=v:=by rw[List.length_take];omega
  refine .inl ⟨by rw[hlen];exact hv,?_,by rw[hlen]⟩
  rw[hlen]
  exact (List.prefix_append_right_inj _).2 (List.take_prefix _ _)
 ·rfl
end Go.Proofs.YtmijcbfgfkeodaaGreatDoor.V
end
section
namespace Go.Proofs.YtmijcbfgfkeodaaGreatDoor.Vc
open Go.RowKit Go.Hop Go.Proofs.YtmijcbfgfkeodaaGreatDoor.V
theorem Cut_any (w:World) (B:Nat) (A:Option Addr) (n c:Nat) (l:List UInt8) (hb:Bytes w B A n l) (HB0:B≤w.heap.size) (hnc:n≤c) (hnm:c≤maxLen) :
 Calls Tryz.prog 235 #[.slice A n c] w fun e w'=>∃ (t:List UInt8) (k:Nat),CutIs l t k∧e=.returned (.tuple #[.string ⟨t.toArray⟩,.int .i64 (k:Int)])∧Grow w w':=by
 have hlen:=hb.len
 unfold maxLen at hnm
 go_enter Tryz.func235,Tryz.ntmps235
 go_wp2_with fail
 go_at_call 179
 refine (Get_any w B A n c l hb (by unfold maxLen;omega)).mono ?_
 rintro e w1 ⟨v,k,hG,rfl,rfl⟩
 obtain⟨hv,hk10,hkl⟩:=hG.lt
 by_cases hk:k≤0
 ·go_wp2_with fail
  go_ret2
  exact⟨[],0,CutIs.none (fun t ht hp=>by
   rcases hG with ⟨_,_,h3⟩|⟨h1,_,_⟩
   ·have:=enc_pos v;omega
   ·exact h1 _ ht ((List.prefix_append _ _).trans hp)),rfl,Grow.refl _⟩
 ·have hE:enc v <+: l∧k=(enc v).length:=by
   rcases hG with ⟨_,h2,h3⟩|⟨_,_,h3⟩
   ·exact⟨h2,h3⟩
   ·omega
  obtain⟨hE,hkE⟩:=hE
  have HKE:=Lib.hid hkE
  clear hkE
  have hgr:(n:Int)-(k:Int)<(v:Int)∨(v:Int)≤(n:Int)-(k:Int):=by omega
  have hwn:IntKind.u64.wrap ((n:Int)-(k:Int))=(n:Int)-(k:Int):=by rw[wrap_u64];omega
  have hw64:wrap64 ((n:Int)-(k:Int))=(n:Int)-(k:Int):=by unfold wrap64;omega
  have hkb:((k:Int) == 0)=false:=by rw[beq_eq_false_iff_ne];omega
  by_cases hvn:(n:Int)-(k:Int)<(v:Int)
  ·clear hgr
   go_wp2_with fail
   go_ret2
   exact⟨[],0,CutIs.none (fun t ht hp=>by
    have h1:=enc_prefix hE ((List.prefix_append _ _).trans hp)
    have h2:=hp.length_le
    rw[List.length_append,←h1,←HKE.out] at h2
    omega),rfl,Grow.refl _⟩
  ·clear hgr
   have hvn':(v:Int)≤(n:Int)-(k:Int):=by omega
   have hwv:IntKind.i64.wrap (v:Int)=(v:Int):=by rw[IntKind.wrap_i64];omega
   have hR:=(Reads.cut hb (k:=k) (cap:=c) (by omega) hnc).take (k:=v) (by omega)
   rw[Nat.mul_one] at hR
   have hR':Bytes w B (if c=k then A else A.map (·.add k)) v ((l.drop k).take v):=by
    unfold Bytes;rw[u8s_take,u8s_drop,Nat.mul_one k];exact hR
   have hkv:(k:Int)+(v:Int)≤(c:Int):=by omega
   have hfin:=cut_here hv hE HKE.out (show v≤l.length-k by omega)
   by_cases hck:c=k
   ·rw[if_pos hck] at hR'
    obtain rfl:k=c:=hck.symm
    obtain rfl:v=0:=by omega
    have hR':Bytes w B A 0 []:=hR'
    have cv:=fun c'=>conv_bytes w (c:=c') hR'
    go_wp2_with fail
    go_ret2
    exact⟨_,_,hfin,by push_cast;rfl,Grow.refl _⟩
   ·rw[if_neg hck] at hR'
    have cv:=fun c'=>conv_bytes w (c:=c') hR'
    go_wp2_with fail
    go_ret2
    exact⟨_,_,hfin,by push_cast;rfl,Grow.refl _⟩
end Go.Proofs.YtmijcbfgfkeodaaGreatDoor.Vc
end
section
namespace Go.Hop
open Go.RowKit
def Sep (S R:Thing):Thing:=fun w V=>∃ V1 V2:Nat→Prop,S w V1∧R w V2∧(∀ b,V1 b→V b)∧(∀ b,V2 b→V b)∧∀ b,V1 b→¬ V2 b
def Emp:Thing:=fun _ _=>True
def Many:List Thing→Thing
 | []=>Emp
 | S :: l=>Sep S (Many l)
def Cell (x:Nat) (t:TypeId) (cs:Array Value):Thing:=fun w V=>V x∧Blk w x t cs
def AllFramed (l:List Thing):Prop:=∀ S∈l,Framed S
section
variable {S S' R R':Thing} {l l':List Thing} {w w':World} {V V':Nat→Prop}
theorem Cell.framed (x:Nat) (t:TypeId) (cs:Array Value):Framed (Cell x t cs):=fun _ _ _ h hk=>⟨h.1,(hk x h.1).trans h.2⟩
theorem Emp.framed:Framed Emp:=fun _ _ _ _ _=>trivial
theorem Sep.framed (h1:Framed S) (h2:Framed R):Framed (Sep S R):=fun w w' V ⟨V1,V2,a,b,c,d,e⟩ hk=>⟨V1,V2,h1 w w' V1 a fun x hx=>hk x (c x hx),h2 w w' V2 b fun x hx=>hk x (d x hx),c,d,e⟩
theorem Many.framed:∀ (l:List Thing),AllFramed l→Framed (Many l)
 | [],_=>Emp.framed
 | S :: l,h=>Sep.framed (h S (by simp)) (Many.framed l fun R hR=>h R (by simp[hR]))
theorem AllFramed.nil:AllFramed []:=fun S h=>by simp at h
theorem AllFramed.cons (h:Framed S) (hl:AllFramed l):AllFramed (S :: l):=fun R hR=>by
 rcases List.mem_cons.1 hR with rfl|hR
 ·exact h
 ·exact hl R hR
theorem Sep.wide (h:Sep S R w V) (hV:∀ b,V b→V' b):Sep S R w V':=by
 obtain⟨V1,V2,a,b,c,d,e⟩:=h
 exact⟨V1,V2,a,b,fun x hx=>hV x (c x hx),fun x hx=>hV x (d x hx),e⟩
theorem Sep.swap (h:Sep S R w V):Sep R S w V:=by
 obtain⟨V1,V2,a,b,c,d,e⟩:=h
 exact⟨V2,V1,b,a,d,c,fun x h2 h1=>e x h1 h2⟩
theorem Sep.assoc {Q:Thing} (h:Sep (Sep S R) Q w V):Sep S (Sep R Q) w V:=by
 obtain⟨V1,V2,⟨U1,U2,a,b,c,d,e⟩,q,f,g,i⟩:=h
 exact⟨U1,fun x=>U2 x∨V2 x,a,⟨U2,V2,b,q,fun x hx => .inl hx,fun x hx => .inr hx,fun x hx=>i x (d x hx)⟩,fun x hx=>f x (c x hx),fun x hx=>hx.elim (fun hx=>f x (d x hx)) (g x),fun x hx hy=>hy.elim (e x hx) (i x (c x hx))⟩
theorem Sep.assoc' {Q:Thing} (h:Sep S (Sep R Q) w V):Sep (Sep S R) Q w V:=by
 have h1:=h.swap
 have h2:Sep R (Sep Q S) w V:=Sep.assoc h1
 have h3:Sep Q (Sep S R) w V:=Sep.assoc h2.swap
 exact h3.swap
theorem Sep.imp (h:Sep S R w V) (hS:∀ U,S w U→S' w U) (hR:∀ U,R w U→R' w U):Sep S' R' w V:=by
 obtain⟨V1,V2,a,b,c,d,e⟩:=h
 exact⟨V1,V2,hS _ a,hR _ b,c,d,e⟩
theorem Sep.fst (h:Sep S R w V):∃ U:Nat→Prop,S w U∧∀ b,U b→V b:=by
 obtain⟨V1,V2,a,b,c,d,e⟩:=h
 exact⟨V1,a,c⟩
theorem Sep.snd (h:Sep S R w V):∃ U:Nat→Prop,R w U∧∀ b,U b→V b:=h.swap.fst
theorem Many.perm (hp:l.Perm l'):∀ {V:Nat→Prop},Many l w V→Many l' w V:=by
 induction hp with
 | nil=>exact fun h=>h
 | cons S _ ih=>intro V h;obtain⟨V1,V2,a,b,c,d,e⟩:=h;exact⟨V1,V2,a,ih b,c,d,e⟩
 | swap S R l=>
   intro V h
   have h1:Sep (Sep R S) (Many l) w V:=Sep.assoc' h
   exact Sep.assoc (h1.imp (fun U hU=>hU.swap) (fun U hU=>hU))
 | trans _ _ ih1 ih2=>exact fun h=>ih2 (ih1 h)
theorem Many.app:∀ (l:List Thing) {l':List Thing} {V:Nat→Prop},Many (l++l') w V→Sep (Many l) (Many l') w V
 | [],l',V,h=>⟨fun _=>False,V,trivial,h,fun _ h=>h.elim,fun _ h=>h,fun _ h _=>h⟩
 | S :: l,l',V,h=>Sep.assoc' (S:=S) (R:=Many l) (by
     obtain⟨V1,V2,a,b,c,d,e⟩:=h
     exact⟨V1,V2,a,Many.app l b,c,d,e⟩)
theorem Many.flat:∀ (l:List Thing) {l':List Thing} {V:Nat→Prop},Sep (Many l) (Many l') w V→Many (l++l') w V
 | [],l',V,h=>by
   obtain⟨V1,V2,_,b,_,d,_⟩:=h
   cases l' with
   | nil=>trivial
   | cons S l'=>exact Sep.wide b d
 | S :: l,l',V,h=>by
   obtain⟨V1,V2,a,b,c,d,e⟩:=Sep.assoc (S:=S) (R:=Many l) h
   exact⟨V1,V2,a,Many.flat l b,c,d,e⟩
theorem Many.pick:∀ (l:List Thing) (i:Nat) (S:Thing),l[i]?=some S→∀ {V:Nat→Prop},Many l w V→Sep S (Many (l.eraseIdx i)) w V
 | S :: l,0,S',h,V,hM=>by cases h;exact hM
 | S :: l,i+1,S',h,V,hM=>by
   obtain⟨V1,V2,a,b,c,d,e⟩:=hM
   have hp:=Many.pick l i S' (by simpa using h) b
   have h1:Sep (Sep S' (Many (l.eraseIdx i))) S w V:=⟨V2,V1,hp,a,d,c,fun x h2 h1=>e x h1 h2⟩
   exact (Sep.assoc h1).imp (fun U hU=>hU) (fun U hU=>hU.swap)
theorem Many.unpick:∀ (l:List Thing) (i:Nat) (S S':Thing),l[i]?=some S→∀ {V:Nat→Prop},Sep S' (Many (l.eraseIdx i)) w V→Many (l.set i S') w V
 | S :: l,0,_,S',_,V,hM=>hM
 | S :: l,i+1,S0,S',h,V,hM=>by
   have h1:Sep S' (Sep S (Many (l.eraseIdx i))) w V:=hM
   have h2:Sep S (Sep S' (Many (l.eraseIdx i))) w V:=Sep.assoc ((Sep.assoc' h1).imp (fun U hU=>hU.swap) (fun U hU=>hU))
   exact h2.imp (fun U hU=>hU) (fun U hU=>Many.unpick l i S0 S' (by simpa using h) hU)
end
def TurnsE {ι:Type} (Pr:Program) (f:FuncId) (args:Array Value) (C:ι→Ending→Prop) (S:Thing) (S':ι→Thing) (w:World):Prop:=
 ∀ V:Nat→Prop,S w V→(∀ b,V b→b<w.heap.size)→Calls Pr f args w fun e w'=>∃ i,C i e∧S' i w' (Ext V w w')∧Just V w w'
section
variable {Pr:Program} {f:FuncId} {args:Array Value} {C:Ending→Prop} {S S' R R':Thing} {l l':List Thing} {w w':World} {P V:Nat→Prop}
theorem sep_turned (h:Sep S R w V) (hR:Framed R) (hV:∀ b,V b→b<w.heap.size) (hc:∀ U:Nat→Prop,S w U→(∀ b,U b→b<w.heap.size)→(∀ b,U b→V b)→Calls Pr f args w fun e w'=>C e∧S' w' (Ext U w w')∧Just U w w') :
 Calls Pr f args w fun e w'=>C e∧Sep S' R w' (Ext V w w')∧Just V w w':=by
 obtain⟨V1,V2,a,b,c,d,e⟩:=h
 refine (hc V1 a (fun x hx=>hV x (c x hx)) c).mono fun en w' ⟨he,hs,hj⟩=>⟨he,⟨Ext V1 w w',V2,hs,hR w w' V2 b fun x hx=>hj.block x (hV x (d x hx)) (fun h1=>e x h1 hx),fun x hx=>?_,fun x hx => .inl (d x hx),fun x hx h2=>?_⟩,hj.imp fun x hx=>c x hx⟩
 ·rcases hx with hx|hx
  ·exact .inl (c x hx)
  ·exact .inr hx
 ·rcases hx with hx|hx
  ·exact e x hx h2
  ·have:=hV x (d x h2);have:=hx.1;omega
theorem sep_turnedE {ι:Type} {C:ι→Ending→Prop} {S':ι→Thing} (h:Sep S R w V) (hR:Framed R) (hV:∀ b,V b→b<w.heap.size) (hc:TurnsE Pr f args C S S' w) :
 Calls Pr f args w fun e w'=>∃ i,C i e∧Sep (S' i) R w' (Ext V w w')∧Just V w w':=by
 obtain⟨V1,V2,a,b,c,d,e⟩:=h
 refine (hc V1 a (fun x hx=>hV x (c x hx))).mono fun en w' ⟨i,he,hs,hj⟩=>⟨i,he,⟨Ext V1 w w',V2,hs,hR w w' V2 b fun x hx=>hj.block x (hV x (d x hx)) (fun h1=>e x h1 hx),fun x hx=>?_,fun x hx => .inl (d x hx),fun x hx h2=>?_⟩,hj.imp fun x hx=>c x hx⟩
 ·rcases hx with hx|hx
  ·exact .inl (c x hx)
  ·exact .inr hx
 ·rcases hx with hx|hx
  ·exact e x hx h2
  ·have:=hV x (d x h2);have:=hx.1;omega
theorem Solo.at_ (i:Nat) (hi:l[i]?=some S) (hF:AllFramed l) (h:Solo P (Many l) w) (hc:Turns Pr f args C S S' w):Calls Pr f args w fun e w'=>C e∧Just P w w'∧Solo P (Many (l.set i S')) w':=by
 refine Solo.call h fun V hM hV=>?_
 exact (sep_turned (Many.pick l i S hi hM) (Many.framed _ fun R hR=>hF R (List.mem_of_mem_eraseIdx hR)) hV fun U hU hU2 _=>hc U hU hU2).mono fun e w' ⟨a,b,c⟩=>⟨a,Many.unpick l i S S' hi b,c⟩
theorem Solo.atE {ι:Type} {C:ι→Ending→Prop} {S':ι→Thing} (i:Nat) (hi:l[i]?=some S) (hF:AllFramed l) (h:Solo P (Many l) w) (hc:TurnsE Pr f args C S S' w):Calls Pr f args w fun e w'=>∃ k,C k e∧Just P w w'∧Solo P (Many (l.set i (S' k))) w':=by
 refine Solo.callE h fun V hM hV=>?_
 exact (sep_turnedE (Many.pick l i S hi hM) (Many.framed _ fun R hR=>hF R (List.mem_of_mem_eraseIdx hR)) hV hc).mono fun e w' ⟨k,a,b,c⟩=>⟨k,a,Many.unpick l i S (S' k) hi b,c⟩
theorem Solo.see (i:Nat) (hi:l[i]?=some S) (h:Solo P (Many l) w):∃ U:Nat→Prop,S w U∧∀ b,U b→P b∧b<w.heap.size:=by
 obtain⟨_,V,hM,hV⟩:=h
 obtain⟨U,hU,hs⟩:=(Many.pick l i S hi hM).fst
 exact⟨U,hU,fun b hb=>hV b (hs b hb)⟩
theorem Solo.grows (h:Solo P (Many l) w) (hF:AllFramed l) (hg:Grow w w'):Solo P (Many l) w':=h.grow (Many.framed l hF) hg
def Lic (V:Nat→Prop) (w:World) (b:Nat):Prop:=V b∨w.heap.size≤b
theorem Solo.begin_ (h:S w V) (hV:∀ b,V b→b<w.heap.size):Solo (Lic V w) S w:=⟨fun _ hb => .inr hb,V,h,fun b hb=>⟨.inl hb,hV b hb⟩⟩
theorem Solo.end_ (hW:∀ (U U':Nat→Prop),(∀ b,U b→U' b)→S w' U→S w' U') (h:Solo (Lic V w) S w') (hj:Just (Lic V w) w w') (hV:∀ b,V b→b<w.heap.size):S w' (Ext V w w')∧Just V w w':=by
 obtain⟨_,U,hS,hU⟩:=h
 refine⟨hW U _ (fun b hb=>?_) hS,⟨hj.os,hj.tape,hj.output,hj.size,fun b hb hv=>hj.block b hb fun hl=>?_⟩⟩
 ·obtain⟨h1,h2⟩:=hU b hb
  rcases h1 with h1|h1
  ·exact .inl h1
  ·exact .inr ⟨h1,h2⟩
 ·rcases hl with hl|hl
  ·exact hv hl
  ·omega
def Wide (S:Thing):Prop:=∀ (w:World) (U U':Nat→Prop),(∀ b,U b→U' b)→S w U→S w U'
theorem Many.wide (l:List Thing):Wide (Many l):=fun w U U' h hs=>by
 cases l with
 | nil=>trivial
 | cons S l=>exact Sep.wide hs h
theorem Solo.done (h:Solo (Lic V w) (Many l) w') (hj:Just (Lic V w) w w') (hV:∀ b,V b→b<w.heap.size):Many l w' (Ext V w w')∧Just V w w':=h.end_ (fun U U' hu=>Many.wide l w' U U' hu) hj hV
theorem Solo.blk {x:Nat} {t:TypeId} {cs:Array Value} (i:Nat) (hi:l[i]?=some (Cell x t cs)) (h:Solo P (Many l) w):Blk w x t cs:=by
 obtain⟨U,hU,_⟩:=h.see i hi
 exact hU.2
theorem Solo.lics {x:Nat} {t:TypeId} {cs:Array Value} (i:Nat) (hi:l[i]?=some (Cell x t cs)) (h:Solo P (Many l) w):P x∧x<w.heap.size:=by
 obtain⟨U,hU,h2⟩:=h.see i hi
 exact h2 x hU.1
theorem Solo.turned {x:Nat} {t:TypeId} {cs cs':Array Value} (i:Nat) (hi:l[i]?=some (Cell x t cs)) (hF:AllFramed l) (h:Solo P (Many l) w) (hj:Just (fun b=>b=x) w w') (hB:Blk w' x t cs'):Solo P (Many (l.set i (Cell x t cs'))) w':=by
 obtain⟨h0,V,hM,hV⟩:=h
 obtain⟨V1,V2,a,b,c,d,e⟩:=Many.pick l i _ hi hM
 refine⟨fun y hy=>h0 y (Nat.le_trans hj.size hy),V,Many.unpick l i (Cell x t cs) _ hi ⟨V1,V2,⟨a.1,hB⟩,?_,c,d,e⟩,fun y hy=>⟨(hV y hy).1,Nat.lt_of_lt_of_le (hV y hy).2 hj.size⟩⟩
 exact Many.framed _ (fun R hR=>hF R (List.mem_of_mem_eraseIdx hR)) w w' V2 b fun y hy=>hj.block y (hV y (d y hy)).2 fun hxy=>e x a.1 (by rw[←hxy];exact hy)
theorem Solo.puts {x:Nat} {t:TypeId} {cs:Array Value} (i:Nat) (hi:l[i]?=some (Cell x t cs)) (hF:AllFramed l) (h:Solo P (Many l) w) (k:Nat) (u:Value):Solo P (Many (l.set i (Cell x t (cs.setIfInBounds k u)))) (w.setCell ⟨x,k,none⟩ u):=
 h.turned i hi hF (just_at w x k u) ((h.blk i hi).put k u)
theorem Solo.join {R:Thing} (h:Solo P (Many l) w) (hF:AllFramed l) (hg:Grow w w') {U:Nat→Prop} (hR:R w' U) (hU:∀ b,U b→w.heap.size≤b∧b<w'.heap.size):Solo P (Many (R :: l)) w':=by
 obtain⟨h0,V,hM,hV⟩:=h
 refine⟨fun b hb=>h0 b (Nat.le_trans hg.size hb),fun b=>V b∨U b,⟨U,V,hR,Many.framed l hF w w' V hM fun b hb=>hg.block b (hV b hb).2,fun b hb => .inr hb,fun b hb => .inl hb,fun b hb hv=>?_⟩,fun b hb=>?_⟩
 ·have:=(hV b hv).2;have:=(hU b hb).1;omega
 ·rcases hb with hb|hb
  ·exact⟨(hV b hb).1,Nat.lt_of_lt_of_le (hV b hb).2 hg.size⟩
  ·exact⟨h0 b (hU b hb).1,(hU b hb).2⟩
theorem Solo.perm (hp:l.Perm l') (h:Solo P (Many l) w):Solo P (Many l') w:=h.turn fun _ hV=>Many.perm hp hV
theorem Solo.drop1 (h:Solo P (Many (S :: l)) w):Solo P (Many l) w:=h.turn fun V hV=>by
 obtain⟨U,hU,hs⟩:=Sep.snd hV
 exact Many.wide l w U V hs hU
theorem Solo.flat (h:Solo P (Many (Many l :: l')) w):Solo P (Many (l++l')) w:=h.turn fun _ hV=>Many.flat l hV
theorem Solo.unflat (h:Solo P (Many (l++l')) w):Solo P (Many (Many l :: l')) w:=h.turn fun _ hV=>Many.app l hV
theorem Solo.map (i:Nat) (hi:l[i]?=some S) (h:Solo P (Many l) w) (hS:∀ U,S w U→S' w U):Solo P (Many (l.set i S')) w:=h.turn fun _ hV=>Many.unpick l i S S' hi ((Many.pick l i S hi hV).imp hS fun _ h=>h)
end
structure KeyOk {κ:Type} [DecidableEq κ] (P:Program) (kt:TypeId) (ke:κ→Value):Prop where
 check:∀ (w:World) (b:Bool) (k:κ),(Instr.checkKey b 10000 kt (ke k)).run P w=.ok () w
 find:∀ (w:World) (k:κ) (es:List MapEntry) (i:Nat) (q:List κ),es.map (·.key)=q.map ke→∃ r,(Instr.findKey kt (ke k) es).run P w=.ok r w∧((k ∉ q∧r=none)∨∃ (j:Nat) (e:MapEntry),es[j]?=some e∧q[j]?=some k∧r=some (j,e.val))
 same:∀ k,Instr.sameBits 10000 (ke k) (ke k)=true
def GMap {κ:Type} (ke:κ→Value) (b:Nat) (q:List (κ×Value)):Thing:=fun w V=>
 V b∧(q.map Prod.fst).Nodup∧∃ (es:Array MapEntry) (clock:Nat),w.heap[b]?=some (.map es clock)∧es.toList.map (fun e=>(e.key,e.val))=q.map fun p=>(ke p.1,p.2)
section
variable {κ:Type} [DecidableEq κ] {P:Program} {t kt et:TypeId} {ke:κ→Value} {w w':World} {b:Nat} {q:List (κ×Value)} {V V':Nat→Prop}
def glk (q:List (κ×Value)) (k:κ):Option Value:=(q.find? fun p=>decide (p.1=k)).map (·.2)
def gput (q:List (κ×Value)) (k:κ) (v:Value):List (κ×Value):=if k∈q.map Prod.fst then q.map (fun p=>if p.1=k then (k,v) else p) else q++[(k,v)]
def gdel (q:List (κ×Value)) (k:κ):List (κ×Value):=q.filter fun p=>decide (p.1≠k)
theorem GMap.framed (b:Nat) (q:List (κ×Value)):Framed (GMap ke b q):=fun w w' V ⟨h1,h2,es,c,h3,h4⟩ hk=>⟨h1,h2,es,c,(hk b h1).trans h3,h4⟩
theorem GMap.made (w:World):GMap (κ:=κ) ke w.heap.size [] (w.alloc (.map #[] 0)) (fun b=>b=w.heap.size):=⟨rfl,by simp,#[],0,heap_alloc_new w _,rfl⟩
theorem nodup_idx {α:Type}:∀ {l:List α},l.Nodup→∀ {i j:Nat} {a:α},l[i]?=some a→l[j]?=some a→i=j
 | [],_,i,j,a,hi,_=>by simp at hi
 | x :: l,hn,0,0,a,_,_=>rfl
 | x :: l,hn,0,j+1,a,hi,hj=>by
   simp at hi;subst hi
   exact absurd (List.mem_of_getElem? (by simpa using hj)) (List.nodup_cons.1 hn).1
 | x :: l,hn,i+1,0,a,hi,hj=>by
   simp at hj;subst hj
   exact absurd (List.mem_of_getElem? (by simpa using hi)) (List.nodup_cons.1 hn).1
 | x :: l,hn,i+1,j+1,a,hi,hj=>congrArg (·+1) (nodup_idx (List.nodup_cons.1 hn).2 (i:=i) (j:=j) (a:=a) (by simpa using hi) (by simpa using hj))
theorem map_erase {α β:Type} (f:α→β):∀ (l:List α) (i:Nat),(l.eraseIdx i).map f=(l.map f).eraseIdx i
 | [],_=>rfl
 | _ :: _,0=>rfl
 | x :: l,i+1=>by simp[map_erase f l i]
theorem glk_nil (k:κ):glk [] k=none:=rfl
theorem glk_at {k:κ} {v:Value}:∀ {q:List (κ×Value)} {j:Nat},(q.map Prod.fst).Nodup→q[j]?=some (k,v)→glk q k=some v
 | [],j,_,h=>by simp at h
 | p :: q,0,_,h=>by simp at h;subst h;simp[glk]
 | p :: q,j+1,hn,h=>by
   simp only[List.map_cons,List.nodup_cons] at hn
   have hq:q[j]?=some (k,v):=by simpa using h
   have hne:p.1≠k:=fun e=>hn.1 (by rw[e];exact List.mem_map.2 ⟨_,List.mem_of_getElem? hq,rfl⟩)
   have ih:=glk_at hn.2 hq
   unfold glk at ih ⊢
   rw[List.find?_cons_of_neg (by simpa using hne)]
   exact ih
theorem glk_none {k:κ}:∀ {q:List (κ×Value)},k ∉ q.map Prod.fst→glk q k=none
 | [],_=>rfl
 | p :: q,h=>by
   simp only[List.map_cons,List.mem_cons,not_or] at h
   have ih:=glk_none h.2
   unfold glk at ih ⊢
   rw[List.find?_cons_of_neg (by simpa using fun e=>h.1 e.symm)]
   exact ih
theorem pairs_keys {es:List MapEntry} (h:es.map (fun e=>(e.key,e.val))=q.map fun p=>(ke p.1,p.2)):es.map (·.key)=(q.map Prod.fst).map ke:=by
 have:=congrArg (List.map Prod.fst) h
 simpa [List.map_map,Function.comp_def] using this
theorem pairs_at {es:List MapEntry} (h:es.map (fun e=>(e.key,e.val))=q.map fun p=>(ke p.1,p.2)) {j:Nat} {e:MapEntry} {k:κ} (he:es[j]?=some e) (hk:(q.map Prod.fst)[j]?=some k):q[j]?=some (k,e.val):=by
 have h1:=congrArg (fun l=>l[j]?) h
 simp only[List.getElem?_map,he,Option.map_some] at h1
 rw[List.getElem?_map] at hk
 cases hq:q[j]? with
 | none=>rw[hq] at hk;cases hk
 | some p=>
   rw[hq] at hk h1
   injection hk with hk
   injection h1 with h1
   injection h1 with _ h2
   rw[h2,←hk]
theorem GMap.look (K:KeyOk P kt ke) (ht:P.underlying t=some (.map kt et)) {z:Value} (hz:(zeroValue et).run P w=.ok z w) (h:GMap ke b q w V) (k:κ) (c:Bool) :
 (Instr.lookup t (.map (some b)) (ke k) c).run P w=.ok (if c then .tuple #[(glk q k).getD z,.bool (glk q k).isSome] else (glk q k).getD z) w:=by
 obtain⟨_,hn,es,cl,hb,he⟩:=h
 obtain⟨r,hr,hcase⟩:=K.find w k es.toList 0 (q.map Prod.fst) (pairs_keys he)
 have hg:(getObj b).run P w=.ok (.map es cl) w:=MapKept.run_getObj_map hb
 rcases hcase with ⟨h1,rfl⟩|⟨j,e,h1,h2,rfl⟩
 ·rw[glk_none h1]
  cases c<;>simp[Instr.lookup,run_underlying ht,hg,K.check w _ k,hr,hz,Result.andThen]
 ·rw[glk_at hn (pairs_at he h1 h2)]
  cases c<;>simp[Instr.lookup,run_underlying ht,hg,K.check w _ k,hr,Result.andThen]
theorem heap_set (w:World) (b:Nat) (o:Obj) (hb:b<w.heap.size):({ w with heap:=w.heap.setIfInBounds b o }:World).heap[b]?=some o:=by simp[Array.getElem?_setIfInBounds,hb]
theorem just_set (w:World) (b:Nat) (o:Obj):Just (fun c=>c=b) w { w with heap:=w.heap.setIfInBounds b o }:=⟨rfl,rfl,rfl,by simp,fun i _ hne=>by
 simp only[Array.getElem?_setIfInBounds]
 rw[if_neg (fun e=>hne e.symm)]⟩
theorem GMap.put (K:KeyOk P kt ke) (ht:P.underlying t=some (.map kt et)) (h:GMap ke b q w V) (k:κ) (v:Value) :
 ∃ w',(Instr.mapUpdate t (.map (some b)) (ke k) v).run P w=.ok () w'∧GMap ke b (gput q k v) w' V∧Just (fun c=>c=b) w w':=by
 obtain⟨hv,hn,es,cl,hb,he⟩:=h
 obtain⟨r,hr,hcase⟩:=K.find w k es.toList 0 (q.map Prod.fst) (pairs_keys he)
 have hlt:b<w.heap.size:=(Array.getElem?_eq_some_iff.1 hb).1
 have hg:(getObj b).run P w=.ok (.map es cl) w:=MapKept.run_getObj_map hb
 rcases hcase with ⟨h1,rfl⟩|⟨j,e,h1,h2,rfl⟩
 ·refine⟨_,?_,⟨hv,?_,_,_,heap_set w b (.map (es.push { key:=ke k,val:=v,born:=cl }) (cl+1)) hlt,?_⟩,just_set w b _⟩
  ·simp[Instr.mapUpdate,run_underlying ht,hg,K.check w _ k,hr,Result.andThen,MapKept.run_setObj_map _ hb]
  ·unfold gput
   rw[if_neg h1,List.map_append,List.nodup_append]
   refine⟨hn,by simp,?_⟩
   intro a ha c hc
   simp at hc
   subst hc
   exact fun e=>h1 (by rw[←e];exact ha)
  ·unfold gput
   rw[if_neg h1,Array.toList_push,List.map_append,he,List.map_append]
   rfl
 ·have hmem:k∈q.map Prod.fst:=List.mem_of_getElem? h2
  have hq:=pairs_at he h1 h2
  have hek:e.key=ke k:=by
   have h3:=congrArg (fun l=>l[j]?) he
   simp only[List.getElem?_map,h1,hq,Option.map_some] at h3
   injection h3 with h3;injection h3 with h3
  have hes:es[j]?=some e:=by simpa using h1
  refine⟨_,?_,⟨hv,?_,_,_,heap_set w b (.map (es.modify j fun e=>{ e with key:=ke k,val:=v }) cl) hlt,?_⟩,just_set w b _⟩
  ·simp[Instr.mapUpdate,run_underlying ht,hg,K.check w _ k,hr,Result.andThen,MapKept.run_setObj_map _ hb,Instr.keyThatStays,hes,hek,K.same k]
  ·unfold gput
   rw[if_pos hmem,List.map_map]
   have:(Prod.fst ∘ fun p:κ×Value=>if p.1=k then (k,v) else p)=Prod.fst:=by
    funext p
    simp only[Function.comp]
    split
    ·rename_i hp;exact hp.symm
    ·rfl
   rw[this]
   exact hn
  ·unfold gput
   rw[if_pos hmem]
   apply List.ext_getElem?
   intro i
   have h3:=congrArg (fun l=>l[i]?) he
   simp only[List.getElem?_map,Array.getElem?_toList,Array.getElem?_modify] at h3 ⊢
   by_cases hij:j=i
   ·subst hij
    rw[if_pos rfl,hes,hq]
    simp
   ·rw[if_neg hij]
    cases hqi:q[i]? with
    | none=>rw[hqi] at h3;simpa using h3
    | some p=>
      have hne:p.1≠k:=fun e=>hij (by
       have e1:(q.map Prod.fst)[i]?=some k:=by rw[List.getElem?_map,hqi,←e];rfl
       exact nodup_idx hn h2 e1)
      rw[hqi] at h3
      simp only[Option.map_some,if_neg hne]
      simpa using h3
theorem gput_one (k:κ) (u v:Value):gput [(k,u)] k v=[(k,v)]:=by simp[gput]
theorem GMap.just (h:GMap ke b q w V) {U:Nat→Prop} (hj:Just U w w') (hU:¬ U b):GMap ke b q w' V:=by
 obtain⟨h1,h2,es,c,h3,h4⟩:=h
 exact⟨h1,h2,es,c,(hj.block b (Array.getElem?_eq_some_iff.1 h3).1 hU).trans h3,h4⟩
theorem GMap.del (K:KeyOk P kt ke) (ht:P.underlying t=some (.map kt et)) (h:GMap ke b q w V) (k:κ) (ty:TypeId) :
 ∃ w',(Builtin.delete_ #[t,kt] ty #[.map (some b),ke k]).run P w=.ok (.tuple #[]) w'∧GMap ke b (gdel q k) w' V∧Just (fun c=>c=b) w w':=by
 obtain⟨hv,hn,es,cl,hb,he⟩:=h
 obtain⟨r,hr,hcase⟩:=K.find w k es.toList 0 (q.map Prod.fst) (pairs_keys he)
 have hlt:b<w.heap.size:=(Array.getElem?_eq_some_iff.1 hb).1
 have hg:(getObj b).run P w=.ok (.map es cl) w:=MapKept.run_getObj_map hb
 rcases hcase with ⟨h1,rfl⟩|⟨j,e,h1,h2,rfl⟩
 ·have hq:gdel q k=q:=by
   unfold gdel
   rw[List.filter_eq_self]
   intro p hp
   simp only[ne_eq,decide_not,Bool.not_eq_eq_eq_not,Bool.not_true,decide_eq_false_iff_not]
   exact fun e=>h1 (by rw[←e];exact List.mem_map.2 ⟨p,hp,rfl⟩)
  rw[hq]
  refine⟨_,?_,⟨hv,hn,_,_,heap_set w b (.map es cl) hlt,he⟩,just_set w b _⟩
  simp[Builtin.delete_,run_underlying ht,hg,K.check w _ k,hr,Result.andThen,MapKept.run_setObj_map _ hb]
 ·have hq:=pairs_at he h1 h2
  have hjq:=(List.getElem?_eq_some_iff.1 hq).1
  have hje:j<es.size:=by simpa using (List.getElem?_eq_some_iff.1 h1).1
  have hdel:gdel q k=q.eraseIdx j:=by
   unfold gdel
   have hsplit:q=q.take j++(k,e.val) :: q.drop (j+1):=by
    have h6:=List.getElem_cons_drop hjq
    rw[show q[j]=(k,e.val) from (List.getElem?_eq_some_iff.1 hq).2] at h6
    rw[h6,List.take_append_drop]
   have hne:∀ i p,q[i]?=some p→i≠j→p.1≠k:=fun i p hp hij e6=>by
    have e1:(q.map Prod.fst)[i]?=some k:=by rw[List.getElem?_map,hp,←e6];rfl
    exact hij (nodup_idx hn h2 e1).symm
   rw[List.eraseIdx_eq_take_drop_succ]
   conv=>lhs;rw[hsplit]
   rw[List.filter_append,List.filter_cons_of_neg (by simp)]
   congr 1
   ·rw[List.filter_eq_self]
    intro p hp
    obtain⟨i,hi,rfl⟩:=List.getElem_of_mem hp
    have hi':=hi
    rw[List.length_take] at hi'
    rw[List.getElem_take]
    simpa using hne i _ (List.getElem?_eq_getElem (by omega)) (by omega)
   ·rw[List.filter_eq_self]
    intro p hp
    obtain⟨i,hi,rfl⟩:=List.getElem_of_mem hp
    have hi':=hi
    rw[List.length_drop] at hi'
    rw[List.getElem_drop]
    simpa using hne (j+1+i) _ (List.getElem?_eq_getElem (by omega)) (by omega)
  refine⟨_,?_,⟨hv,?_,_,_,heap_set w b (.map (es.eraseIdxIfInBounds j) cl) hlt,?_⟩,just_set w b _⟩
  ·simp[Builtin.delete_,run_underlying ht,hg,K.check w _ k,hr,Result.andThen,MapKept.run_setObj_map _ hb]
  ·rw[hdel]
   exact hn.sublist ((List.eraseIdx_sublist q j).map Prod.fst)
  ·rw[hdel,Array.eraseIdxIfInBounds,dif_pos hje]
   simp only[Array.toList_eraseIdx]
   rw[map_erase,map_erase,he]
theorem gdel_one (k:κ) (u:Value):gdel [(k,u)] k=[]:=by simp[gdel]
end
section
variable {P:Program} {kt:TypeId}
theorem keyOk_int {qk:IntKind} (hk:P.underlying kt=some (.int qk)):KeyOk (κ:=Int) P kt (fun x => .int qk x) where
 check w b k:=by
  have main:∀ n,(Instr.checkKey b (n+1) kt (.int qk k)).run P w=.ok () w:=fun n=>by simp[Instr.checkKey,run_underlying hk]
  exact main 9999
 find w k es i q h:=by
  have main:∀ (es:List MapEntry) (q:List Int) (i:Nat),es.map (·.key)=q.map (fun x=>Value.int qk x)→(k ∉ q∧Instr.findNow (.int qk) (.int qk k) es i=some none)∨∃ (j:Nat) (e:MapEntry),es[j]?=some e∧q[j]?=some k∧Instr.findNow (.int qk) (.int qk k) es i=some (some (i+j,e.val)):=by
   intro es
   induction es with
   | nil=>
     intro q i h
     cases q with
     | nil=>exact .inl ⟨by simp,rfl⟩
     | cons=>simp at h
   | cons e es ih=>
     intro q i h
     cases q with
     | nil=>simp at h
     | cons x q=>
       simp only[List.map_cons,List.cons.injEq] at h
       obtain⟨h1,h2⟩:=h
       by_cases hx:k=x
       ·subst hx
        exact .inr ⟨0,e,rfl,rfl,by simp[Instr.findNow,h1,Instr.sameNow]⟩
       ·have hf:Instr.findNow (.int qk) (.int qk k) (e :: es) i=Instr.findNow (.int qk) (.int qk k) es (i+1):=by
         have hkx:(k == x)=false:=by simpa using hx
         simp[Instr.findNow,h1,Instr.sameNow,hkx]
        rcases ih q (i+1) h2 with ⟨h3,h4⟩|⟨j,e',h3,h4,h5⟩
        ·exact .inl ⟨by simp[hx,h3],by rw[hf,h4]⟩
        ·exact .inr ⟨j+1,e',by simpa using h3,by simpa using h4,by rw[hf,h5];simp;omega⟩
  rcases main es q 0 h with ⟨h1,h2⟩|⟨j,e,h1,h2,h3⟩
  ·exact⟨none,by simp[Instr.findKey,run_underlying hk,h2],.inl ⟨h1,rfl⟩⟩
  ·exact⟨some (j,e.val),by simp[Instr.findKey,run_underlying hk,h3],.inr ⟨j,e,h1,h2,rfl⟩⟩
 same k:=by simp[Instr.sameBits]
theorem keyOk_struct {κ:Type} [DecidableEq κ] {ke:κ→Value} {fs:Array Field} (hk:P.underlying kt=some (.struct fs)) (hc:∀ (w:World) (b:Bool) (k:κ),(Instr.checkKey b 10000 kt (ke k)).run P w=.ok () w)
 (he:∀ (w:World) (a b:κ),(Op.equal kt (ke a) (ke b)).run P w=.ok (decide (a=b)) w) (hs:∀ k,Instr.sameBits 10000 (ke k) (ke k)=true):KeyOk P kt ke where
 check:=hc
 same:=hs
 find w k es i q h:=by
  have main:∀ (es:List MapEntry) (q:List κ) (i:Nat),es.map (·.key)=q.map ke→∃ r,(Instr.findAsking kt (ke k) es i).run P w=.ok r w∧((k ∉ q∧r=none)∨∃ (j:Nat) (e:MapEntry),es[j]?=some e∧q[j]?=some k∧r=some (i+j,e.val)):=by
   intro es
   induction es with
   | nil=>
     intro q i h
     cases q with
     | nil=>exact⟨none,by simp[Instr.findAsking],.inl ⟨by simp,rfl⟩⟩
     | cons=>simp at h
   | cons e es ih=>
     intro q i h
     cases q with
     | nil=>simp at h
     | cons x q=>
       simp only[List.map_cons,List.cons.injEq] at h
       obtain⟨h1,h2⟩:=h
       by_cases hx:k=x
       ·subst hx
        exact⟨some (i,e.val),by simp[Instr.findAsking,h1,he],.inr ⟨0,e,rfl,rfl,rfl⟩⟩
       ·obtain⟨r,hr,hcase⟩:=ih q (i+1) h2
        refine⟨r,by simp[Instr.findAsking,h1,he,hx,hr],?_⟩
        rcases hcase with ⟨h3,h4⟩|⟨j,e',h3,h4,h5⟩
        ·exact .inl ⟨by simp[hx,h3],h4⟩
        ·exact .inr ⟨j+1,e',by simpa using h3,by simpa using h4,by rw[h5];simp;omega⟩
  obtain⟨r,hr,hcase⟩:=main es q 0 h
  refine⟨r,?_,by simpa using hcase⟩
  cases es with
  | nil=>simpa [Instr.findKey,run_underlying hk,Instr.findNow,Instr.findAsking] using hr
  | cons e es=>simp[Instr.findKey,run_underlying hk,Instr.findNow,Instr.sameNow,hr]
end
end Go.Hop
end
section
namespace Go.Proofs.YtmijcbfgfkeodaaGreatDoor
open Go.RowKit Go.Hop Go.Proofs.YtmijcbfgfkeodaaGreatDoor.V
def RdAt (r B:Nat) (l:List UInt8) (w:World):Prop:=B≤r∧∃ (A:Option Addr) (n c:Nat),Blk w r 280 #[.slice A n c,.bool false]∧Bytes w B A n l∧n≤c∧c≤maxLen
theorem RdAt.grow {r B:Nat} {l:List UInt8} {w w':World} (h:RdAt r B l w) (hg:Grow w w'):RdAt r B l w':=by
 obtain⟨h1,A,n,c,h2,h3,h4⟩:=h
 have:=h2.lt
 exact⟨h1,A,n,c,h2.grow hg,h3.below (hg.mono (by omega)),h4⟩
theorem RdAt.lt {r B:Nat} {l:List UInt8} {w:World} (h:RdAt r B l w):r<w.heap.size:=by
 obtain⟨h1,A,n,c,h2,h3,h4⟩:=h
 exact h2.lt
theorem get_is (m:Nat) (t:List UInt8) (hm:m<18446744073709551616):GetIs (enc m++t) m (enc m).length := .inl ⟨hm,List.prefix_append _ _,rfl⟩
theorem cut_is (s t:List UInt8) (hs:s.length<18446744073709551616):CutIs (enc s.length++s++t) s ((enc s.length).length+s.length) := .inl ⟨hs,List.prefix_append _ _,rfl⟩
theorem cut_bytes {w:World} {B n c:Nat} {A:Option Addr} {l t:List UInt8} (h:Bytes w B A n (l++t)) (hnc:n≤c) (hl:0<l.length):Bytes w B (if c=l.length then A else A.map (·.add l.length)) (n-l.length) t∧l.length≤n:=by
 have hn:=h.len
 rw[List.length_append] at hn
 have h1:=Reads.cut (size:=1) (cap:=c) h (k:=l.length) (by omega) hnc
 rw[Nat.mul_one,←Nat.mul_one l.length,←u8s_drop,Nat.mul_one,List.drop_left' rfl] at h1
 exact⟨h1,by omega⟩
theorem rNew_any (w:World) (A:Option Addr) (n c:Nat) (l:List UInt8) (h:Bytes w w.heap.size A n l) (hnc:n≤c) (hcm:c≤maxLen) :
 Calls Tryz.prog 102 #[.slice A n c] w fun e w'=>∃ r,e=.returned (.pointer (some ⟨r,0,none⟩))∧RdAt r w.heap.size l w'∧Grow w w':=by
 go_enter Tryz.func102,Tryz.ntmps102
 go_wp2_with fail
 go_ret
 refine⟨_,rfl,⟨Nat.le_refl _,A,n,c,Blk.made w _ _,h.alloc (Nat.le_refl _) _,hnc,hcm⟩,(Below.refl _ w).alloc (Nat.le_refl _) _⟩
theorem rDone_any (w:World) (r B:Nat) (h:RdAt r B [] w):Calls Tryz.prog 105 #[.pointer (some ⟨r,0,none⟩)] w fun e w'=>e=.returned (.bool true)∧w=w':=by
 obtain⟨hB,A,n,c,hK,hb,hnc,hcm⟩:=h
 obtain rfl:0=n:=hb.len
 have c0:=hK.cell 0
 have c1:=hK.cell 1
 go_enter Tryz.func105,Tryz.ntmps105
 go_wp2_with fail
 go_ret
 exact⟨rfl,rfl⟩
theorem rNumber_any (w:World) (r B m:Nat) (t:List UInt8) (hm:m<18446744073709551616) (h:RdAt r B (enc m++t) w) :
 Calls Tryz.prog 186 #[.pointer (some ⟨r,0,none⟩)] w fun e w'=>e=.returned (.int .u64 (m:Int))∧RdAt r B t w'∧Only r w w':=by
 obtain⟨hB,A,n,c,hK,hb,hnc,hcm⟩:=h
 have hp:=enc_pos m
 obtain⟨hc,hle⟩:=cut_bytes hb hnc hp
 have hG:=Get_any w B A n c _ hb (by omega)
 have c0:=hK.cell 0
 have c1:=hK.cell 1
 have f0:=hK.frozen 0
 obtain⟨k,HK⟩:∃ k,Hid (k=(enc m).length):=⟨_,rfl⟩
 rw[←HK.out] at hc hle hp
 go_enter Tryz.func186,Tryz.ntmps186
 go_wp2_with fail
 refine hG.mono ?_
 rintro e w1 ⟨v,k',hv,rfl,rfl⟩
 obtain⟨rfl,hk'⟩:=hv.one (get_is m t hm)
 rw[←HK.out] at hk'
 subst hk'
 by_cases hck:c=k'
 ·rw[if_pos hck] at hc
  go_wp2_with fail
  go_ret
  exact⟨rfl,⟨hB,_,_,_,hK.put 0 _,hc.setCell (p:=⟨r,0,none⟩) hB _,by omega,by omega⟩,(Only.refl r w).put 0 _⟩
 ·rw[if_neg hck] at hc
  go_wp2_with fail
  go_ret
  exact⟨rfl,⟨hB,_,_,_,hK.put 0 _,hc.setCell (p:=⟨r,0,none⟩) hB _,by omega,by omega⟩,(Only.refl r w).put 0 _⟩
theorem rInt_any (w:World) (r B m:Nat) (t:List UInt8) (hm:m≤9223372036854775807) (h:RdAt r B (enc m++t) w) :
 Calls Tryz.prog 184 #[.pointer (some ⟨r,0,none⟩)] w fun e w'=>e=.returned (.int .i64 (m:Int))∧RdAt r B t w'∧Only r w w':=by
 have hN:=rNumber_any w r B m t (by omega) h
 have hgt:decide ((m:Int) > 9223372036854775807)=false:=decide_eq_false (by omega)
 have hw:IntKind.i64.wrap (m:Int)=(m:Int):=by rw[IntKind.wrap_i64];omega
 go_enter Tryz.func184,Tryz.ntmps184
 go_wp2_with fail
 refine hN.mono ?_
 rintro e w1 ⟨rfl,h1,ho⟩
 go_wp2_with fail
 go_ret
 exact⟨rfl,h1,ho⟩
theorem rCount_any (w:World) (r B m:Nat) (most:Nat) (t:List UInt8) (hm:m≤most) (hmm:most≤9223372036854775807) (h:RdAt r B (enc m++t) w) :
 Calls Tryz.prog 185 #[.pointer (some ⟨r,0,none⟩),.int .i64 (most:Int)] w fun e w'=>e=.returned (.int .i64 (m:Int))∧RdAt r B t w'∧Only r w w':=by
 have hN:=rInt_any w r B m t (by omega) h
 have hgt:¬ (most:Int)<(m:Int):=by omega
 go_enter Tryz.func185,Tryz.ntmps185
 go_wp2_with fail
 refine hN.mono ?_
 rintro e w1 ⟨rfl,h1,ho⟩
 go_wp2_with fail
 go_ret
 exact⟨rfl,h1,ho⟩
theorem rText_any (w:World) (r B:Nat) (s t:List UInt8) (hs:s.length<18446744073709551616) (h:RdAt r B (enc s.length++s++t) w) :
 Calls Tryz.prog 183 #[.pointer (some ⟨r,0,none⟩)] w fun e w'=>e=.returned (.string ⟨s.toArray⟩)∧RdAt r B t w'∧Only r w w':=by
 obtain⟨hB,A,n,c,hK,hb,hnc,hcm⟩:=h
 have hp:=enc_pos s.length
 have hl:(enc s.length++s).length=(enc s.length).length+s.length:=List.length_append
 obtain⟨hc,hle⟩:=cut_bytes hb hnc (by omega)
 have hG:=Vc.Cut_any w B A n c _ hb (by have:=hK.lt;omega) hnc hcm
 have c0:=hK.cell 0
 obtain⟨k,HK⟩:∃ k,Hid (k=(enc s.length).length+s.length):=⟨_,rfl⟩
 rw[hl,←HK.out] at hc hle
 have hp1:1≤k:=by have:=HK.out;omega
 go_enter Tryz.func183,Tryz.ntmps183
 go_wp2_with fail
 refine hG.mono ?_
 rintro e w1 ⟨v,k',hv,rfl,hg⟩
 obtain⟨rfl,hk'⟩:=hv.one (cut_is s t hs)
 rw[←HK.out] at hk'
 subst hk'
 have hK1:=hK.grow hg
 have hc1:=hc.below (hg.mono (by have:=hK.lt;omega))
 clear c0
 have c0:=hK1.cell 0
 have c1:=hK1.cell 1
 have f0:=hK1.frozen 0
 by_cases hck:c=k'
 ·rw[if_pos hck] at hc1
  go_wp2_with fail
  go_ret
  exact⟨rfl,⟨hB,_,_,_,hK1.put 0 _,hc1.setCell (p:=⟨r,0,none⟩) hB _,by omega,by omega⟩,(Only.of_grow hg).put 0 _⟩
 ·rw[if_neg hck] at hc1
  go_wp2_with fail
  go_ret
  exact⟨rfl,⟨hB,_,_,_,hK1.put 0 _,hc1.setCell (p:=⟨r,0,none⟩) hB _,by omega,by omega⟩,(Only.of_grow hg).put 0 _⟩
theorem rByte_any (w:World) (r B:Nat) (x:UInt8) (t:List UInt8) (h:RdAt r B (x :: t) w) :
 Calls Tryz.prog 104 #[.pointer (some ⟨r,0,none⟩)] w fun e w'=>e=.returned (.int .u8 (x.toNat:Int))∧RdAt r B t w'∧Only r w w':=by
 obtain⟨hB,A,n,c,hK,hb,hnc,hcm⟩:=h
 obtain⟨hc,hle⟩:=cut_bytes (l:=[x]) (t:=t) hb hnc (by simp)
 obtain⟨ad,hl,rfl,hx⟩:=hb.at_ (k:=0) (by have:1≤n:=hle;omega)
 rw[show ad.add 0=ad from rfl] at hx
 have c0:=hK.cell 0
 have c1:=hK.cell 1
 have f0:=hK.frozen 0
 simp only[List.length_singleton] at hle hc
 go_enter Tryz.func104,Tryz.ntmps104
 by_cases hck:c=1
 ·rw[if_pos hck] at hc
  go_wp2_with fail
  go_ret
  exact⟨rfl,⟨hB,_,_,_,hK.put 0 _,hc.setCell (p:=⟨r,0,none⟩) hB _,by omega,by omega⟩,(Only.refl r w).put 0 _⟩
 ·rw[if_neg hck] at hc
  go_wp2_with fail
  go_ret
  exact⟨rfl,⟨hB,_,_,_,hK.put 0 _,hc.setCell (p:=⟨r,0,none⟩) hB _,by omega,by omega⟩,(Only.refl r w).put 0 _⟩
end Go.Proofs.YtmijcbfgfkeodaaGreatDoor
end
