/- Tf0, Wd3, Newx, Wd4. -/
import Derived.Test.YtmijcbfgfkeodaaGreatDoorGz28
set_option linter.all false
set_option maxRecDepth 100000
section
namespace Go.Proofs.YtmijcbfgfkeodaaGreatDoor
open Go.RowKit Go.Hop
theorem far_next (i:Int):W.far i (i+1)=false:=by
 unfold W.far
 have:decide (64≤i+1-i-1)=false:=decide_eq_false (by omega)
 rw[this,Bool.and_false]
theorem seen_next (i:Int):W.seen i 0 (i+1)=false:=by
 unfold W.seen
 have:decide (i+1≤i)=false:=decide_eq_false (by omega)
 rw[this,Nat.zero_testBit,Bool.and_false,Bool.false_or]
def tA1:ByteArray:=⟨#[97,61,49]⟩
def smA (n:Nat):K.Sm:=if n=0 then [] else [(tA1,n)]
theorem lk_smA (n:Nat):K.lk (smA n) tA1=if n=0 then none else some n:=by
 unfold smA
 by_cases h:n=0
 ·rw[if_pos h,if_pos h];rfl
 ·rw[if_neg h,if_neg h,K.lk_cons,if_pos rfl]
theorem gt_smA (n:Nat):K.gt (smA n) tA1=n:=by
 unfold K.gt
 rw[lk_smA]
 by_cases h:n=0
 ·rw[if_pos h,h];rfl
 ·rw[if_neg h];rfl
theorem smA_len (n:Nat):(smA n).length≤1:=by
 unfold smA
 split<;>simp
theorem add_smA (n v:Nat) (hv:1≤v):K.add (smA n) [(tA1,v)]=smA (n+v):=by
 rw[K.add_cons,K.add_nil,gt_smA]
 unfold K.put
 rw[lk_smA]
 by_cases h:n=0
 ·subst h
  simp[smA,K.cutA,K.cutB,Nat.ne_of_gt hv]
 ·simp[smA,h]
theorem mayE_smA (n v:Nat) (hn:n+v≤18446744073709551615):K.mayE (smA n) [(tA1,v)]=0:=by
 have hok:K.okRun (smA n) [] [(tA1,v)]=true:=by
  rw[K.okRun,K.okRun,Bool.and_true,decide_eq_true_eq,gt_smA]
  have:K.gt [] tA1=0:=rfl
  rw[this]
  show 0+v+n≤18446744073709551615
  omega
 have hnw:K.news (smA n) (K.add [] [(tA1,v)])≤1:=by
  unfold K.news
  refine Nat.le_trans (List.length_filter_le _ _) ?_
  show (K.put [] tA1 (K.gt [] tA1+v)).length≤1
  simp[K.put,K.lk_nil,K.cutA,K.cutB]
 have:=smA_len n
 unfold K.mayE
 rw[if_pos hok,if_neg (by omega)]
theorem addM_smA (n v:Nat) (hv:1≤v) (hn:n+v≤18446744073709551615):K.addM (smA n) [(tA1,v)]=smA (n+v):=by
 unfold K.addM
 rw[if_pos (mayE_smA n v hn),add_smA n v hv]
def enA (ag sq ep:Int) (v:Nat) (fr tg:Int):En:=⟨1,ag,0,sq,ep,[(tA1,v)],⟨#[]⟩,fr,tg⟩
theorem parse_A1:L.parseE tA1=0:=by decide +kernel
theorem enA_ok {ag sq ep:Int} {v:Nat} {fr tg:Int} (ha:0≤ag∧ag<8) (hs:1≤sq∧sq≤9223372036854775807) (he:1≤ep∧ep≤9223372036854775807) (hv:1≤v∧v≤18446744073709551615) (hf:0≤fr∧fr<8) (ht:0≤tg∧tg≤9223372036854775807):(enA ag sq ep v fr tg).Ok:=
 ⟨⟨hf,ht⟩,.inl ⟨rfl,rfl,ha,⟨Int.le_refl 0,show (0:Int)<4 by decide⟩,hs,he,⟨Nat.le_refl 1,show 1≤8 by decide⟩,fun d hd=>by
  have hd:d=(tA1,v):=by simpa [enA] using hd
  subst hd
  exact⟨hv.1,hv.2,parse_A1,show 3≤1000 by decide⟩⟩⟩
end Go.Proofs.YtmijcbfgfkeodaaGreatDoor
end
section
namespace Go.Proofs.YtmijcbfgfkeodaaGreatDoor
open Go.RowKit Go.Hop Go.Proofs.YtmijcbfgfkeodaaGreatDoor.V
def bsA0:List UInt8:=frame (recB 1 [1])
def A0 (a:Nat):Thing:=fun w V=>∃ p:AgP,p.a=a∧Many (agL p (BookT p.st p.z 1 (.slice none 0 0) [] [] 0 (.slice none 0 0)) ((1:Nat):Int) 1 0 4294967296 0 [] [] 1 bsA0 bsA0.length) w V
def A1 (a:Nat):Thing:=fun w V=>∃ (p:AgP) (sl:Value),p.a=a∧Many (agL p (BookT p.st p.z 1 sl [(tA1,7)] [] 0 (.slice none 0 0)) ((1:Nat):Int) 1 0 4294967296 0 [] [] (1+1) (bsA0++frame (smpB tA1 7)) bsA0.length) w V
def A2 (a:Nat):Thing:=fun w V=>∃ (p:AgP) (bs:List UInt8),p.a=a∧bs.length≤100000∧Many (agL p (BookE p.st p.z 1 [(1,[(tA1,7)])] 1) ((1:Nat):Int) 1 0 4294967296 0 [] [] (1+1+1) bs bs.length) w V
def A3 (a:Nat):Thing:=fun w V=>∃ (p:AgP) (bs:List UInt8) (sl cu:Value) (smp:List Dl) (y:Int),p.a=a∧bs.length≤100000∧Many (agL p (BookT p.st p.z 1 sl smp [(1,[(tA1,7)])] 1 cu) ((1:Nat):Int) 1 (0+1) (4294967296+1) 0 [(4294967296+1,.agg #[.int .i64 ((1:Nat):Int),.int .i64 0,.int .i64 1])] [((((1:Nat):Int),0,1),.agg #[.int .i64 1,.int .i64 y])] (1+1+1) bs bs.length) w V
theorem A0.framed (a:Nat):Framed (A0 a):=fun w w' V ⟨p,h1,h2⟩ hk=>⟨p,h1,Many.framed _ (agL_framed _ _ (BookT.framed _ _ _ _ _ _ _ _) _ _ _ _ _ _ _ _ _ _) w w' V h2 hk⟩
theorem A1.framed (a:Nat):Framed (A1 a):=fun w w' V ⟨p,sl,h1,h2⟩ hk=>⟨p,sl,h1,Many.framed _ (agL_framed _ _ (BookT.framed _ _ _ _ _ _ _ _) _ _ _ _ _ _ _ _ _ _) w w' V h2 hk⟩
theorem A2.framed (a:Nat):Framed (A2 a):=fun w w' V ⟨p,bs,h1,h3,h2⟩ hk=>⟨p,bs,h1,h3,Many.framed _ (agL_framed _ _ (BookE.framed _ _ _ _ _) _ _ _ _ _ _ _ _ _ _) w w' V h2 hk⟩
theorem A3.framed (a:Nat):Framed (A3 a):=fun w w' V ⟨p,bs,sl,cu,smp,y,h1,h3,h2⟩ hk=>⟨p,bs,sl,cu,smp,y,h1,h3,Many.framed _ (agL_framed _ _ (BookT.framed _ _ _ _ _ _ _ _) _ _ _ _ _ _ _ _ _ _) w w' V h2 hk⟩
theorem small_A1:Small (tA1,7):=⟨show 3≤1000 by decide,by decide⟩
theorem bsA0_len:bsA0.length≤1000:=by
 have h1:=recB_len 1 [1] (by decide) (by simp)
 have h2:=frame_le (recB 1 [1]) (by simp only[List.length_cons,List.length_nil] at h1;omega)
 simp only[List.length_cons,List.length_nil] at h1
 unfold bsA0
 omega
theorem bsA1_len:(bsA0++frame (smpB tA1 7)).length≤3000:=by
 have h0:=bsA0_len
 have h1:=smpB_len small_A1
 have h2:=frame_le (smpB tA1 7) (by omega)
 rw[List.length_append]
 omega
theorem aNew_A (w:World) (d:Nat) (V:Nat→Prop) (hD:DiskAt 133 d [] 0 w V) (hV:∀ b,V b→b<w.heap.size) :
 Calls Tryz.prog 23 #[.int .i64 1,.int .i64 1,.pointer (some ⟨d,0,none⟩)] w fun e w'=>∃ a,e=.returned (.pointer (some ⟨a,0,none⟩))∧A0 a w' (Ext V w w')∧Just V w w':=
 (aNew_1 w d 1 1 (by omega) (by omega) (by omega) V hD hV).mono fun e w' ⟨p,_,h1,h2,h3⟩=>⟨p.a,h1,⟨p,rfl,h2⟩,h3⟩
theorem aIngest_A (w:World) (a:Nat):Turns Tryz.prog 24 #[.pointer (some ⟨a,0,none⟩),.string tA1,.int .u64 7] (fun e=>e=.returned (.int .i64 0)) (A0 a) (A1 a) w:=by
 rintro V ⟨p,rfl,hM⟩ hV
 have h0:=bsA0_len
 exact (aIngest_1 w p _ _ _ _ _ _ _ _ _ _ _ _ _ _ tA1 7 parse_A1 small_A1 (by omega) (by omega) (by omega) V hM hV).mono fun e w' ⟨h1,⟨sl,h2⟩,h3⟩=>⟨h1,⟨p,sl,rfl,h2⟩,h3⟩
theorem aCut_A (w:World) (a:Nat):Turns Tryz.prog 25 #[.pointer (some ⟨a,0,none⟩)] (fun e=>∃ A c,e=.returned (.slice A 1 c)) (A1 a) (A2 a) w:=by
 rintro V ⟨p,sl,rfl,hM⟩ hV
 have h0:=bsA1_len
 have h1:=batB_len small_A1
 have h2:=frame_le (batB tA1 7) (by omega)
 refine (aCut_1 w p 1 _ _ _ _ _ _ _ _ _ _ _ tA1 7 small_A1 (by omega) (by omega) V hM hV).mono fun e w' ⟨h1,h2,h3⟩=>⟨h1,⟨p,_,rfl,?_,h2⟩,h3⟩
 rw[List.length_append]
 omega
def eAsk:En:=⟨1,((1:Nat):Int),0,1,1,[(tA1,7)],⟨#[]⟩,((1:Nat):Int),4294967296+1⟩
theorem aTick_A (w:World) (a:Nat) (V:Nat→Prop) (hA:A2 a w V) (hV:∀ b,V b→b<w.heap.size):Calls Tryz.prog 245 #[.pointer (some ⟨a,0,none⟩),.int .i64 1] w fun e w'=>(∃ u,e=.returned u∧OneSent w.heap.size 0 eAsk u w')∧A3 a w' (Ext V w w')∧Just V w w':=by
 obtain⟨p,bs,rfl,hb,V1,V2,⟨A,c,cu,hB⟩,hM⟩:=hA
 exact (aTick_1 w p 1 0 4294967296 _ bs _ 1 (.slice A 0 c) [] 1 cu tA1 7 (by omega) (by omega) V ⟨V1,V2,hB,hM⟩ hV).mono fun e w' ⟨h1,⟨y,h2⟩,h3⟩=>⟨h1,⟨p,bs,_,cu,[],y,rfl,hb,h2⟩,h3⟩
theorem aReceive_A (w:World) (a:Nat):Turns Tryz.prog 247 #[.pointer (some ⟨a,0,none⟩),.int .i64 0,.agg (ansM (4294967296+1) 1 0)] (fun e=>e=.returned (.tuple #[.agg #[.int .i64 ((1:Nat):Int),.int .i64 0,.int .i64 1],.int .i64 1])) (A3 a) Emp w:=by
 rintro V ⟨p,bs,sl,cu,smp,y,rfl,hb,hM⟩ hV
 exact (aReceive_1 w p 1 (0+1) (4294967296+1) 0 _ bs _ 1 sl smp 1 cu tA1 7 _ (4294967296+1) (by omega) (by omega) (by omega) V hM hV).mono fun e w' ⟨h1,_,h3⟩=>⟨h1,trivial,h3⟩
end Go.Proofs.YtmijcbfgfkeodaaGreatDoor
end
section
namespace Go.Hop
open Go.RowKit
section
variable {Pr:Program} {S R:Thing} {l rest:List Thing} {w w':World} {P V:Nat→Prop}
theorem Solo.turnedB (i:Nat) (hi:l[i]?=some S) (hF:AllFramed l) (h:Solo P (Many l) w):∃ U:Nat→Prop,S w U∧(∀ b,U b→P b∧b<w.heap.size)∧∀ (w':World) (S':Thing),Just U w w'→S' w' (Ext U w w')→Solo P (Many (l.set i S')) w'∧Just P w w':=by
 obtain⟨h0,V,h1,h4⟩:=h
 obtain⟨V1,V2,a,b,c,d,e⟩:=Many.pick l i S hi h1
 have hR:=Many.framed (l.eraseIdx i) fun R hR=>hF R (List.mem_of_mem_eraseIdx hR)
 refine⟨V1,a,fun x hx=>h4 x (c x hx),fun w' S' hj hs=>⟨⟨fun b hb=>h0 b (Nat.le_trans hj.size hb),Ext V w w',Many.unpick l i S S' hi ⟨Ext V1 w w',V2,hs,hR w w' V2 b fun x hx=>hj.block x (h4 x (d x hx)).2 (fun h1=>e x h1 hx),fun x hx=>?_,fun x hx => .inl (d x hx),fun x hx h2=>?_⟩,ext_lt h4 h0 hj.size⟩,hj.imp fun x hx=>(h4 x (c x hx)).1⟩⟩
 ·rcases hx with hx|hx
  ·exact .inl (c x hx)
  ·exact .inr hx
 ·rcases hx with hx|hx
  ·exact e x hx h2
  ·have:=(h4 x (d x h2)).2;have:=hx.1;omega
theorem Solo.swapHead (hF:AllFramed rest) (h:Solo P (Many (S :: rest)) w):∃ U:Nat→Prop,S w U∧(∀ b,U b→P b∧b<w.heap.size)∧(∀ (i:Nat) (x:Nat) (t:TypeId) (cs:Array Value),rest[i]?=some (Cell x t cs)→¬ U x)∧
 ∀ (w':World) (l':List Thing) (V':Nat→Prop),Just U w w'→Many l' w' V'→(∀ b,V' b→(U b∨w.heap.size≤b)∧b<w'.heap.size)→Solo P (Many (l'++rest)) w'∧Just P w w':=by
 obtain⟨h0,V,⟨V1,V2,a,b,c,d,e⟩,h4⟩:=h
 refine⟨V1,a,fun x hx=>h4 x (c x hx),fun i x t cs hi hu=>?_,fun w' l' V' hj hl hv=>⟨⟨fun b hb=>h0 b (Nat.le_trans hj.size hb),fun b=>V' b∨V2 b,Many.flat l' ⟨V',V2,hl,Many.framed rest hF w w' V2 b fun x hx=>hj.block x (h4 x (d x hx)).2 (fun h1=>e x h1 hx),fun _ h => .inl h,fun _ h => .inr h,fun x h1 h2=>?_⟩,fun x hx=>?_⟩,hj.imp fun x hx=>(h4 x (c x hx)).1⟩⟩
 ·obtain⟨U,hU,hs⟩:=(Many.pick rest i _ hi b).fst
  exact e x hu (hs x hU.1)
 ·rcases (hv x h1).1 with h|h
  ·exact e x h h2
  ·have:=(h4 x (d x h2)).2;omega
 ·rcases hx with hx|hx
  ·refine⟨?_,(hv x hx).2⟩
   rcases (hv x hx).1 with h|h
   ·exact (h4 x (c x h)).1
   ·exact h0 x h
  ·exact⟨(h4 x (d x hx)).1,Nat.lt_of_lt_of_le (h4 x (d x hx)).2 hj.size⟩
end
def CallSt (U:Nat→Prop) (D0:World→Prop) (m1:Nat) (st:List (Nat×Nat)):Stages where
 G:=Just U
 T:=fun _=>Just U
 I := fun k w=>match k with
   | 0=>D0 w
   | _=>True
 muts:=[m1]
 stage:=fun j=>if j=m1 then some 0 else st.lookup j
theorem callSt_ok {U:Nat→Prop} {D0:World→Prop} {m1:Nat} {st:List (Nat×Nat)} (h0:∀ a b,D0 a→Grow a b→D0 b):(CallSt U D0 m1 st).Ok:=by
 refine⟨fun _ _ _=>Just.trans,fun _ _ h=>Just.of_grow h,fun _ _ _ h=>h,fun k a b h hg=>?_⟩
 rcases k with _|k
 ·exact h0 a b h hg
 ·exact trivial
def Since (φ:Value→World→Prop):Fact:=fun k u w=>match k with
 | 0=>False
 | _=>φ u w
theorem since_take {φ:Value→World→Prop} {k:Nat} {u:Value} {w:World} (h:Since φ k u w):φ u w:=by
 cases k with
 | zero=>exact h.elim
 | succ k=>exact h
theorem since_of {φ ψ:Value→World→Prop} {k:Nat} {u v:Value} {w w':World} (h:Since φ k u w) (hψ:ψ v w'):Since ψ k v w':=by
 cases k with
 | zero=>exact h.elim
 | succ k=>exact hψ
theorem lasts_call_since {U:Nat→Prop} {D0:World→Prop} {m1:Nat} {st:List (Nat×Nat)} {φ:Value→World→Prop} (h:Lasting φ):Lasts (CallSt U D0 m1 st) (Since φ):=fun k u w w' hu=>by
 rcases k with _|k
 ·exact hu.elim
 ·exact⟨fun hg=>h u w w' hu hg,fun hk=>by simp[CallSt] at hk⟩
section
variable {X:Nat→Thing} {Q:Nat→Prop} {u:Value} {w w':World}
def NewX (X:Nat→Thing) (Q:Nat→Prop) (u:Value) (w:World):Prop:=∃ (r:Nat) (V:Nat→Prop),u=.pointer (some ⟨r,0,none⟩)∧X r w V∧∀ b,V b→Q b∧b<w.heap.size
def NewXs (e:TypeId) (X:Nat→Thing) (Q:Nat→Prop) (u:Value) (w:World):Prop:=∃ (r:Nat) (V:Nat→Prop),Many [PtrRow e u [r],X r] w V∧∀ b,V b→Q b∧b<w.heap.size
theorem newX_lasting (hX:∀ r,Framed (X r)):Lasting (NewX X Q):=fun u w w' ⟨r,V,h1,h2,h3⟩ hg=>⟨r,V,h1,hX r w w' V h2 fun b hb=>hg.block b (h3 b hb).2,fun b hb=>⟨(h3 b hb).1,Nat.lt_of_lt_of_le (h3 b hb).2 hg.size⟩⟩
theorem newXs_lasting {e:TypeId} (hX:∀ r,Framed (X r)):Lasting (NewXs e X Q):=fun u w w' ⟨r,V,h2,h3⟩ hg=>⟨r,V,Many.framed _ ((AllFramed.nil.cons (hX r)).cons (PtrRow.framed _ _ _)) w w' V h2 fun b hb=>hg.block b (h3 b hb).2,fun b hb=>⟨(h3 b hb).1,Nat.lt_of_lt_of_le (h3 b hb).2 hg.size⟩⟩
theorem pair_made {e:TypeId} {r:Nat} {V U:Nat→Prop} {v:Value} (hX:∀ r,Framed (X r)) (hx:X r w V) (h3:∀ b,V b→Q b∧b<w.heap.size) (hg:Grow w w') (hR:PtrRow e v [r] w' U) (hU:∀ b,U b→w.heap.size≤b∧b<w'.heap.size) (hQ:∀ b,w.heap.size≤b→Q b):NewXs e X Q v w':=by
 refine⟨r,fun b=>U b∨V b,⟨U,V,hR,⟨V,fun _=>False,hX r w w' V hx fun b hb=>hg.block b (h3 b hb).2,trivial,fun _ h=>h,fun _ h=>h.elim,fun _ _ h=>h⟩,fun _ h => .inl h,fun _ h => .inr h,fun b h1 h2=>?_⟩,fun b hb=>?_⟩
 ·have:=(hU b h1).1;have:=(h3 b h2).2;omega
 ·rcases hb with hb|hb
  ·exact⟨hQ b (hU b hb).1,(hU b hb).2⟩
  ·exact⟨(h3 b hb).1,Nat.lt_of_lt_of_le (h3 b hb).2 hg.size⟩
theorem newXs_built {P:Program} {t e:TypeId} {ρ:Operand→Value} {o:Oper} (hX:∀ r,Framed (X r)) (hQ:∀ b,w.heap.size≤b→Q b) (hu:NewX X Q u w)
 (hrun:∀ r:Nat,u=.pointer (some ⟨r,0,none⟩)→(execOp ρ o).run P w=.ok (.value (.slice (some ⟨w.heap.size,0,none⟩) 1 1)) (w.alloc (.cells #[.pointer (some ⟨r,0,none⟩)] e))):flowUpon P (fun v w'=>Grow w w'∧NewXs e X Q v w') ((execOp ρ o).run P w):=by
 obtain⟨r,V,h1,h2,h3⟩:=hu
 have hg:Grow w (w.alloc (.cells #[.pointer (some ⟨r,0,none⟩)] e)):=(Below.refl _ w).alloc (Nat.le_refl _) _
 refine flowUpon_value (hrun r h1) ⟨hg,pair_made hX h2 h3 hg (U:=fun b=>b=w.heap.size) ⟨by simp,.inr ⟨w.heap.size,1,_,rfl,rfl,heap_alloc_new w _,Nat.le_refl _,by decide,rfl,by simp⟩⟩ (fun b hb=>by obtain rfl:b=w.heap.size:=hb;simp) hQ⟩
theorem newXs_app {P:Program} {t e:TypeId} {bytes:Nat} {z:Value} (E:Elem P t e 1 bytes z) (hbytes:bytes≤1000) {ρ:Operand→Value} {o:Oper} {s x:Operand} (hX:∀ r,Framed (X r)) (hQ:∀ b,w.heap.size≤b→Q b) (hs:ρ s=.slice none 0 0) (hx:ρ x=u) (ho:o.op=.call { callee := .builtin .append,args:=#[s,x],argTypes:=#[t,t] }) (hu:NewXs e X Q u w):flowUpon P (fun v w'=>Grow w w'∧NewXs e X Q v w') ((execOp ρ o).run P w):=by
 obtain⟨r,V,⟨V1,V2,hR,⟨V3,_,hx3,_,hs3,_⟩,h5,h6,h7⟩,h3⟩:=hu
 obtain⟨A,c,e2,hI,_,_⟩:=Row.in_ hR
 rw[e2] at hx
 refine flow_append_row E ho hs (Row.nil (V:=fun _=>False)) hx (In.reads (hI.mono (V':=fun b=>b<w.heap.size) fun b hb=>(h3 b (h5 b hb)).2)) (by simp[Value.oneCell']) (by simp;omega) fun v' w' hR' hj=>?_
 have hg:Grow w w':=hj.below (B:=w.heap.size) (fun b hb=>hb.elim) (Nat.le_refl _)
 rw[List.nil_append] at hR'
 have hR2:PtrRow e v' [r] w' (Ext (fun _=>False) w w'):=by simpa [PtrRow] using hR'
 exact⟨hg,pair_made hX hx3 (fun b hb=>h3 b (h6 b (hs3 b hb))) hg hR2 (fun b hb=>hb.elim (fun h=>h.elim) fun h=>h) hQ⟩
end
end Go.Hop
end
section
namespace Go.Proofs.YtmijcbfgfkeodaaGreatDoor
open Go.RowKit Go.Hop Go.Proofs.YtmijcbfgfkeodaaGreatDoor.V
theorem perm7 {α:Type _} (a b c d e f g:α):[a,b,c,d,e,f,g].Perm [f,c,a,e,g,d,b]:=
 List.Perm.map (fun k=>[a,b,c,d,e,f,g].getD k a) (by decide:[0,1,2,3,4,5,6].Perm [5,2,0,4,6,3,1])
theorem pr_info:(Tryz.prog.info? 66).map (fun i=>(i.zero,i.size,i.bytes))=some (some (.pointer none),1,8):=by kernel_rfl
theorem prE:Elem Tryz.prog 192 66 1 8 (.pointer none):=⟨Tryz.underlying192,info_parts pr_info,rfl,by decide,by decide⟩
theorem pa_info:(Tryz.prog.info? 55).map (fun i=>(i.zero,i.size,i.bytes))=some (some (.pointer none),1,8):=by kernel_rfl
theorem paE:Elem Tryz.prog 193 55 1 8 (.pointer none):=⟨Tryz.underlying193,info_parts pa_info,rfl,by decide,by decide⟩
theorem pd_info:(Tryz.prog.info? 53).map (fun i=>(i.zero,i.size,i.bytes))=some (some (.pointer none),1,8):=by kernel_rfl
theorem pdE:Elem Tryz.prog 194 53 1 8 (.pointer none):=⟨Tryz.underlying194,info_parts pd_info,rfl,by decide,by decide⟩
theorem row_built0 {w:World} {u:Value} {r:Nat} {ρ:Operand→Value} {o:Oper} {x:Operand} (h1:ρ x=u) (hu:u=.pointer (some ⟨r,0,none⟩)) (ho:o.op=.buildSlice 192 1 #[(0,x)]) :
 (execOp ρ o).run Tryz.prog w=.ok (.value (.slice (some ⟨w.heap.size,0,none⟩) 1 1)) (w.alloc (.cells #[.pointer (some ⟨r,0,none⟩)] 66)):=by
 obtain⟨dst,op,ty,pos,after,guard⟩:=o
 simp only at ho
 subst ho hu
 go_simp
theorem row_built1 {w:World} {u:Value} {r:Nat} {ρ:Operand→Value} {o:Oper} {x:Operand} (h1:ρ x=u) (hu:u=.pointer (some ⟨r,0,none⟩)) (ho:o.op=.buildSlice 193 1 #[(0,x)]) :
 (execOp ρ o).run Tryz.prog w=.ok (.value (.slice (some ⟨w.heap.size,0,none⟩) 1 1)) (w.alloc (.cells #[.pointer (some ⟨r,0,none⟩)] 55)):=by
 obtain⟨dst,op,ty,pos,after,guard⟩:=o
 simp only at ho
 subst ho hu
 go_simp
set_option maxHeartbeats 2000000 in
theorem woNew_1 (w:World):Calls Tryz.prog 106 #[.int .i64 1,.int .i64 1] w fun e w'=>∃ W,e=.returned (.pointer (some ⟨W,0,none⟩))∧Wo W [] R0 A0 w' (New w w')∧Grow w w':=by
 have k30:∀ (vs:Array Value) (w:World),(callFunc 30 vs).run Tryz.prog w=.ok (.enter 30 vs) w:=fun vs w=>by go_simp
 have k23:∀ (vs:Array Value) (w:World),(callFunc 23 vs).run Tryz.prog w=.ok (.enter 23 vs) w:=fun vs w=>by go_simp
 have hNt:=Ne.New_any w 2 (by omega) (by omega)
 go_enter Tryz.func106,Tryz.ntmps106
 go_wp2_with fail
 refine hNt.mono ?_
 rintro e w1 ⟨rfl,hN1,hg1⟩
 obtain⟨g,HG⟩:∃ g:Nat,Hid (g=w.heap.size):=⟨_,rfl⟩
 rw[←HG.out] at hN1 ⊢
 have hS1:Solo (fun b=>w.heap.size≤b) (Many [Ne.NetAt g 2 [] (fun _=>false)]) w1:=Solo.cons_ (l:=[]) (V:=fun _=>False) (U:=New w w1) (fun b hb=>Nat.le_trans hg1.size hb) trivial (fun b hb=>hb.elim) hN1 fun b hb=>⟨hb.1,hb.2,fun h=>h⟩
 have g2:=grow_alloc w1 (.cells (wdC (.slice none 0 0) (.slice none 0 0) (.slice none 0 0) g) 196)
 have hB2:=Blk.made w1 196 (wdC (.slice none 0 0) (.slice none 0 0) (.slice none 0 0) g)
 obtain⟨W,HW_⟩:∃ W:Nat,Hid (W=w1.heap.size):=⟨_,rfl⟩
 obtain⟨w2,HW2⟩:∃ w2:World,Hid (w2=w1.alloc (.cells (wdC (.slice none 0 0) (.slice none 0 0) (.slice none 0 0) g) 196)):=⟨_,rfl⟩
 rw[←HW2.out] at g2 hB2
 rw[←HW_.out] at hB2
 have hS2:=hS1.join (AllFramed.nil.cons (Ne.NetAt.framed _ _ _ _)) g2 (R:=Cell W 196 (wdC (.slice none 0 0) (.slice none 0 0) (.slice none 0 0) g)) (U:=fun b=>b=W) ⟨rfl,hB2⟩ (fun b hb=>by have e2:b=W:=hb;have:=HW_.out;have:=hB2.lt;omega)
 have J2:Just (fun b=>w.heap.size≤b) w w2:=Just.of_grow (hg1.trans g2)
 unfold wdC at HW2
 go_wp2_with fail
 rw[←HW2.out,←HW_.out]
 go_loopw [33] (fun i wr=>(i=.int .i64 0∧w2=wr)∨(i=.int .i64 1∧∃ (r d0:Nat) (rs ds:Value),Solo (fun b=>w.heap.size≤b) (Many [PtrRow 66 rs [r],R0 r,PtrRow 53 ds [d0],Cell W 196 (wdC rs (.slice none 0 0) ds g),Ne.NetAt g 2 [] (fun _=>false)]) wr∧Just (fun b=>w.heap.size≤b) w wr)∨(i=.int .i64 2∧∃ (a r d0 d1:Nat) (rs ags ds:Value),Solo (fun b=>w.heap.size≤b) (Many [PtrRow 55 ags [a],A0 a,PtrRow 66 rs [r],R0 r,PtrRow 53 ds [d0,d1],Cell W 196 (wdC rs ags ds g),Ne.NetAt g 2 [] (fun _=>false)]) wr∧Just (fun b=>w.heap.size≤b) w wr)) (fun i _=>2-(intOf i).toNat)
 case atStart=>exact .inl ⟨rfl,rfl⟩
 case round=>
  rcases hrel with ⟨rfl,rfl⟩|⟨rfl,r,d0,rs,ds,hSr,Jr⟩|⟨rfl,a,r,d0,d1,rs,ags,ds,hSr,Jr⟩
  ·have hSr:=hS2
   have Jr:=J2
   have hFr:AllFramed [Cell W 196 (wdC (.slice none 0 0) (.slice none 0 0) (.slice none 0 0) g),Ne.NetAt g 2 [] (fun _=>false)]:=((AllFramed.nil.cons (Ne.NetAt.framed _ _ _ _)).cons (Cell.framed _ _ _))
   have hDk:=New_any w2
   go_wp2_with fail
   refine hDk.mono ?_
   rintro e w3 ⟨rfl,hD3,hg3⟩
   obtain⟨d0,HD⟩:∃ d0:Nat,Hid (d0=w2.heap.size):=⟨_,rfl⟩
   rw[←HD.out] at hD3 ⊢
   have hS3:=hSr.join hFr hg3 hD3 (fun b hb=>hb)
   have hF3:=hFr.cons (DiskAt.framed 133 d0 [] 0)
   have J3:Just (fun b=>w.heap.size≤b) w w3:=Jr.trans (Just.of_grow hg3)
   have hgb:=grow_alloc w3 (.cells #[.pointer (some ⟨d0,0,none⟩)] 53)
   have hBb:=Blk.made w3 53 #[.pointer (some ⟨d0,0,none⟩)]
   have hIb:=hBb.in_ (size:=1) (n:=1) (by rfl)
   have hW3:=hS3.blk 1 rfl
   unfold wdC at hW3
   have c2:=hW3.cell 2
   go_wp2_with (at_builtin;refine stay ?_)
   refine stay_out ?_
   refine wpList_row pdE _ rfl (.tmp 41) (.tmp 43) rfl (.slice none 0 0) 0 [] rfl (Row.nil (V:=fun _=>False)) _ _ 1 1 [.pointer (some ⟨d0,0,none⟩)] rfl hIb.reads (by simp[Value.oneCell']) (by decide) ?_
   intro v4 w4 hR4 hj4
   have hg4a:=hj4.below (B:=w3.heap.size) (fun b hb=>hb.elim) (by simp)
   have hg4:Grow w3 w4:=Below.trans hgb hg4a
   have hR4':PtrRow 53 v4 [d0] w4 (fun b=>w3.heap.size≤b∧b<w4.heap.size):=by
    have h:Row w4 _ 53 1 v4 1 [.pointer (some ⟨d0,0,none⟩)]:=hR4
    exact h.mono fun b hb=>hb.elim (fun h=>h.elim) fun h=>⟨by have:=h.1;simp at this;omega,h.2⟩
   have hS4:=hS3.join hF3 hg4 hR4' (fun b hb=>hb)
   have hF4:=hF3.cons (PtrRow.framed 53 v4 [d0])
   have J4:=J3.trans (Just.of_grow hg4)
   obtain⟨A4,cp4,e4,_⟩:=Row.in_ hR4'
   subst e4
   have hW4:=hS4.blk 2 rfl
   unfold wdC at hW4
   have k2:=hW4.cell 2
   go_wp2_with (refine wpList_putS rfl _ _ _ rfl hS4 hF4 J4 2 rfl rfl (.slice A4 1 cp4) rfl (Nat.le_of_ble_eq_true rfl) rfl (by kernel_rfl) ?_;intro w5 hS5 J5;refine stay ?_)
   refine stay_out ?_
   clear c2 k2
   have hS5:Solo (fun b=>w.heap.size≤b) (Many [PtrRow 53 (.slice A4 1 cp4) [d0],DiskAt 133 d0 [] 0,Cell W 196 (wdC (.slice none 0 0) (.slice none 0 0) (.slice A4 1 cp4) g),Ne.NetAt g 2 [] (fun _=>false)]) w5:=hS5
   have hS5:=hS5.perm (List.Perm.swap _ _ _)
   have hFR:AllFramed [PtrRow 53 (.slice A4 1 cp4) [d0],Cell W 196 (wdC (.slice none 0 0) (.slice none 0 0) (.slice A4 1 cp4) g),Ne.NetAt g 2 [] (fun _=>false)]:=(((AllFramed.nil.cons (Ne.NetAt.framed _ _ _ _)).cons (Cell.framed _ _ _)).cons (PtrRow.framed _ _ _))
   have hW5:=hS5.blk 2 rfl
   unfold wdC at hW5
   obtain⟨U,hD5,hUl,hUW,hk⟩:=Solo.swapHead hFR hS5
   have hWU:=hUW 1 W _ _ rfl
   go_wp2_with fail
   refine wp_region_reg rfl ?_
   refine reg_flow (CallSt U (fun a=>DiskAt 133 d0 [] 0 a U∧∀ b,U b→b<a.heap.size) 8 []) (callSt_ok fun a b h hj6=>⟨DiskAt.framed 133 d0 [] 0 a b U h.1 (fun x hx=>hj6.block x (h.2 x hx)),fun x hx=>Nat.lt_of_lt_of_le (h.2 x hx) hj6.size⟩) 0 13 78 [(8,.inr (Since (NewX R0 (fun b=>U b∨w5.heap.size≤b)))),(9,.inr (Since (NewXs 66 R0 (fun b=>U b∨w5.heap.size≤b)))),(10,.inr (Since (NewXs 66 R0 (fun b=>U b∨w5.heap.size≤b))))] rfl (by kernel_rfl) (by kernel_rfl) (by kernel_rfl) ?_ (Just.of_grow (Grow.refl _).drew) ⟨DiskAt.framed 133 d0 [] 0 w5 _ U hD5 (fun x hx=>(Grow.refl w5).drew.block x (hUl x hx).2),fun x hx=>(hUl x hx).2⟩ ?_
   ·intro x hx φ he
    simp only[List.mem_cons,List.not_mem_nil,or_false] at hx
    rcases hx with rfl|rfl|rfl<;>cases he
    all_goals first|exact lasts_quiet (lasting_bytes _)|first|exact lasts_call_since (newX_lasting R0.framed)|exact lasts_call_since (newXs_lasting R0.framed)
   intro ops' A' K' T hops hA' hK hT
   refine fl_mvN 50 (.pointer (some ⟨W,0,none⟩)) ?_
   refine fl_mvN 51 (.pointer (some ⟨W,0,none⟩)) ?_
   refine fl_op1N 52 (.tmp 51) (.pointer (some ⟨W,0,none⟩)) (.pointer (some ⟨W,0,none⟩)) (fun ρ h1 kk w6 (hj6:Just U _ w6) hb hf=>by go_simp) ?_
   refine fl_op1N 53 (.tmp 52) (.pointer (some ⟨W,0,none⟩)) (.pointer (some ⟨W,0,none⟩)) (fun ρ h1 kk w6 (hj6:Just U _ w6) hb hf=>by go_simp) ?_
   refine fl_op1N 54 (.tmp 53) (.pointer (some ⟨W,0,none⟩)) (.slice none 0 0) (fun ρ h1 kk w6 (hj6:Just U _ w6) hb hf=>by have c:=(hj6.blk hW5 hWU).cell 0;go_simp) ?_
   refine fl_mvN 55 (.int .i64 0) ?_
   refine fl_mvN 56 (.int .i64 1) ?_
   refine fl_mvN 57 (.pointer (some ⟨d0,0,none⟩)) ?_
   refine fl_callAny 58 (by rfl) (by decide) (wanted_none (by rfl)) (Since (NewX R0 (fun b=>U b∨w5.heap.size≤b))) (by rw[hK.out];rfl) 30 _ _ (by rfl) [.int .i64 0,.int .i64 1,.pointer (some ⟨d0,0,none⟩)] (by rfl) k30 (fun kk w6 (hj6:Just U _ w6) hb hf=>calls_turnAny (φ:=Since (NewX R0 (fun b=>U b∨w5.heap.size≤b))) 0 (by rfl) (by obtain rfl:=before_some 0 (by rfl) hb;have hI:=hb.1;exact ((rpNew_R w6 d0 U hI.1 hI.2).mono fun e w9 h9=>by obtain⟨r9,h1,h2,h3⟩:=h9;exact⟨_,h1,h3,trivial,r9,Ext U w6 w9,rfl,h2,fun b hb=>hb.elim (fun h=>⟨.inl h,Nat.lt_of_lt_of_le (hI.2 b h) h3.size⟩) fun h=>⟨.inr (Nat.le_trans hj6.size h.1),h.2⟩⟩))) (fun v58=>?_)
   refine fl_any1 59 (by rfl) (by decide) (wanted_none (by rfl)) (Since (NewXs 66 R0 (fun b=>U b∨w5.heap.size≤b))) (by rw[hK.out];rfl) (.tmp 58) (v58) (by rfl) (fun ρ h1 kk w6 (hj6:Just U _ w6) hb hf=>by refine upon_imp (R:=fun u w9=>Grow w6 w9∧Since (NewXs 66 R0 (fun b=>U b∨w5.heap.size≤b)) kk u w9) ?_ (fun u w9 h=>⟨behind_none (by rfl) h.1,by rw[next_none (by rfl)];exact h.2⟩);have hf1:=since_take (show Since (NewX R0 (fun b=>U b∨w5.heap.size≤b)) kk _ w6 from (facts_take hf (by rw[hA'.out];kernel_rfl)));have hf0:Since (NewX R0 (fun b=>U b∨w5.heap.size≤b)) kk _ w6:=(facts_take hf (by rw[hA'.out];kernel_rfl));exact upon_imp (newXs_built (t:=0) R0.framed (fun b hb => .inr (Nat.le_trans hj6.size hb)) hf1 (fun r9 e9=>row_built0 h1 e9 rfl)) fun u w9 h=>⟨h.1,since_of hf0 h.2⟩) (fun v59=>?_)
   refine fl_any2 60 (by rfl) (by decide) (wanted_none (by rfl)) (Since (NewXs 66 R0 (fun b=>U b∨w5.heap.size≤b))) (by rw[hK.out];rfl) (.tmp 54) (.tmp 59) (.slice none 0 0) (v59) (by rfl) (by rfl) (fun ρ h1 h2 kk w6 (hj6:Just U _ w6) hb hf=>by refine upon_imp (R:=fun u w9=>Grow w6 w9∧Since (NewXs 66 R0 (fun b=>U b∨w5.heap.size≤b)) kk u w9) ?_ (fun u w9 h=>⟨behind_none (by rfl) h.1,by rw[next_none (by rfl)];exact h.2⟩);have hf1:=since_take (show Since (NewXs 66 R0 (fun b=>U b∨w5.heap.size≤b)) kk _ w6 from (facts_take hf (by rw[hA'.out];kernel_rfl)));have hf0:Since (NewXs 66 R0 (fun b=>U b∨w5.heap.size≤b)) kk _ w6:=(facts_take hf (by rw[hA'.out];kernel_rfl));exact upon_imp (newXs_app prE (by decide) R0.framed (fun b hb => .inr (Nat.le_trans hj6.size hb)) h1 h2 rfl hf1) fun u w9 h=>⟨h.1,since_of hf0 h.2⟩) (fun v60=>?_)
   refine fl_op1N 61 (.tmp 50) (.pointer (some ⟨W,0,none⟩)) (.pointer (some ⟨W,0,none⟩)) (fun ρ h1 kk w6 (hj6:Just U _ w6) hb hf=>by go_simp) ?_
   refine fl_op1N 62 (.tmp 61) (.pointer (some ⟨W,0,none⟩)) (.pointer (some ⟨W,0,none⟩)) (fun ρ h1 kk w6 (hj6:Just U _ w6) hb hf=>by go_simp) ?_
   refine fl_end (fun _ _ w6 (hj6:Just U _ w6) hend hfacts=>hT _ _ ?_)
   clear hops hA' hK hT
   simp only[putsL,Act.put,List.setIfInBounds_toArray,List.set_cons_zero,List.set_cons_succ]
   obtain⟨rr,V6,hM6,hV6⟩:NewXs 66 R0 (fun b=>U b∨w5.heap.size≤b) v60 w6:=since_take hfacts.1
   obtain⟨V7,V8,hRw6,hX6⟩:=id hM6
   obtain⟨A6,cp6,e6,_⟩:=Row.in_ hRw6
   subst e6
   clear hfacts hend
   obtain⟨hS6,Jx⟩:=hk w6 [PtrRow 66 (.slice A6 1 cp6) [rr],R0 rr] V6 hj6 hM6 hV6
   have hS6:Solo (fun b=>w.heap.size≤b) (Many (PtrRow 66 (.slice A6 1 cp6) [rr] :: R0 rr :: [PtrRow 53 (.slice A4 1 cp4) [d0],Cell W 196 (wdC (.slice none 0 0) (.slice none 0 0) (.slice A4 1 cp4) g),Ne.NetAt g 2 [] (fun _=>false)])) w6:=hS6
   have hF6:=(hFR.cons (R0.framed rr)).cons (PtrRow.framed 66 (.slice A6 1 cp6) [rr])
   have J6:=J5.trans Jx
   have hW6:=hS6.blk 3 rfl
   unfold wdC at hW6
   have k0:=hW6.cell 0
   refine reg_line 13 14 (by kernel_rfl) (by kernel_rfl) ?_
   simp only[List.take_succ_cons,List.take_zero,List.drop_succ_cons,List.drop_zero]
   go_wp2_with (refine wpList_putS rfl _ _ _ rfl hS6 hF6 J6 3 rfl rfl (.slice A6 1 cp6) rfl (Nat.le_of_ble_eq_true rfl) rfl (by kernel_rfl) ?_;intro w7 hS7 J7;refine stay ?_)
   refine stay_out ?_
   clear k0
   go_wp2_with fail
   refine reg_end ?_
   go_wp2_with fail
   go_roundw
   case rel=>exact .inr (.inl ⟨rfl,rr,d0,_,_,hS7,J7⟩)
   case measure=>simp[intOf]
  ·have hFr:AllFramed [PtrRow 66 rs [r],R0 r,PtrRow 53 ds [d0],Cell W 196 (wdC rs (.slice none 0 0) ds g),Ne.NetAt g 2 [] (fun _=>false)]:=(((((AllFramed.nil.cons (Ne.NetAt.framed _ _ _ _)).cons (Cell.framed _ _ _)).cons (PtrRow.framed _ _ _)).cons (R0.framed _)).cons (PtrRow.framed _ _ _))
   have hDk:=New_any wr
   go_wp2_with fail
   refine hDk.mono ?_
   rintro e w3 ⟨rfl,hD3,hg3⟩
   obtain⟨d1,HD⟩:∃ d1:Nat,Hid (d1=wr.heap.size):=⟨_,rfl⟩
   rw[←HD.out] at hD3 ⊢
   have hS3:=hSr.join hFr hg3 hD3 (fun b hb=>hb)
   have hF3:=hFr.cons (DiskAt.framed 133 d1 [] 0)
   have J3:Just (fun b=>w.heap.size≤b) w w3:=Jr.trans (Just.of_grow hg3)
   have hgb:=grow_alloc w3 (.cells #[.pointer (some ⟨d1,0,none⟩)] 53)
   have hBb:=Blk.made w3 53 #[.pointer (some ⟨d1,0,none⟩)]
   have hIb:=hBb.in_ (size:=1) (n:=1) (by rfl)
   have hS4:=hS3.grows hF3 hgb
   have hW3:=hS3.blk 4 rfl
   unfold wdC at hW3
   have c2:=hW3.cell 2
   obtain⟨Ur,hRw,hUrl,hkr⟩:=hS4.turnedB 3 rfl hF3
   go_wp2_with (at_builtin;refine stay ?_)
   refine stay_out ?_
   refine wpList_row pdE _ rfl (.tmp 41) (.tmp 43) rfl ds 1 [.pointer (some ⟨d0,0,none⟩)] rfl hRw _ _ 1 1 [.pointer (some ⟨d1,0,none⟩)] rfl hIb.reads (by simp[Value.oneCell']) (by decide) ?_
   intro v4 w4 hR4 hj4
   obtain⟨hS4,Jr4⟩:=hkr w4 (PtrRow 53 v4 [d0,d1]) hj4 hR4
   have J4:=(J3.trans (Just.of_grow hgb)).trans Jr4
   obtain⟨A4,cp4,e4,_⟩:=Row.in_ hR4
   subst e4
   have hS4:Solo (fun b=>w.heap.size≤b) (Many [DiskAt 133 d1 [] 0,PtrRow 66 rs [r],R0 r,PtrRow 53 (.slice A4 2 cp4) [d0,d1],Cell W 196 (wdC rs (.slice none 0 0) ds g),Ne.NetAt g 2 [] (fun _=>false)]) w4:=hS4
   have hF4:AllFramed [DiskAt 133 d1 [] 0,PtrRow 66 rs [r],R0 r,PtrRow 53 (.slice A4 2 cp4) [d0,d1],Cell W 196 (wdC rs (.slice none 0 0) ds g),Ne.NetAt g 2 [] (fun _=>false)]:=((((((AllFramed.nil.cons (Ne.NetAt.framed _ _ _ _)).cons (Cell.framed _ _ _)).cons (PtrRow.framed _ _ _)).cons (R0.framed _)).cons (PtrRow.framed _ _ _)).cons (DiskAt.framed _ _ _ _))
   have hW4:=hS4.blk 4 rfl
   unfold wdC at hW4
   have k2:=hW4.cell 2
   go_wp2_with (refine wpList_putS rfl _ _ _ rfl hS4 hF4 J4 4 rfl rfl (.slice A4 2 cp4) rfl (Nat.le_of_ble_eq_true rfl) rfl (by kernel_rfl) ?_;intro w5 hS5 J5;refine stay ?_)
   refine stay_out ?_
   clear c2 k2
   have hS5:Solo (fun b=>w.heap.size≤b) (Many (DiskAt 133 d1 [] 0 :: [PtrRow 66 rs [r],R0 r,PtrRow 53 (.slice A4 2 cp4) [d0,d1],Cell W 196 (wdC rs (.slice none 0 0) (.slice A4 2 cp4) g),Ne.NetAt g 2 [] (fun _=>false)])) w5:=hS5
   have hFR:AllFramed [PtrRow 66 rs [r],R0 r,PtrRow 53 (.slice A4 2 cp4) [d0,d1],Cell W 196 (wdC rs (.slice none 0 0) (.slice A4 2 cp4) g),Ne.NetAt g 2 [] (fun _=>false)]:=(((((AllFramed.nil.cons (Ne.NetAt.framed _ _ _ _)).cons (Cell.framed _ _ _)).cons (PtrRow.framed _ _ _)).cons (R0.framed _)).cons (PtrRow.framed _ _ _))
   have hW5:=hS5.blk 4 rfl
   unfold wdC at hW5
   obtain⟨U,hD5,hUl,hUW,hk⟩:=Solo.swapHead hFR hS5
   have hWU:=hUW 3 W _ _ rfl
   go_wp2_with fail
   refine wp_region_reg rfl ?_
   refine reg_flow (CallSt U (fun a=>DiskAt 133 d1 [] 0 a U∧∀ b,U b→b<a.heap.size) 8 []) (callSt_ok fun a b h hj6=>⟨DiskAt.framed 133 d1 [] 0 a b U h.1 (fun x hx=>hj6.block x (h.2 x hx)),fun x hx=>Nat.lt_of_lt_of_le (h.2 x hx) hj6.size⟩) 0 13 78 [(8,.inr (Since (NewX A0 (fun b=>U b∨w5.heap.size≤b)))),(9,.inr (Since (NewXs 55 A0 (fun b=>U b∨w5.heap.size≤b)))),(10,.inr (Since (NewXs 55 A0 (fun b=>U b∨w5.heap.size≤b))))] rfl (by kernel_rfl) (by kernel_rfl) (by kernel_rfl) ?_ (Just.of_grow (Grow.refl _).drew) ⟨DiskAt.framed 133 d1 [] 0 w5 _ U hD5 (fun x hx=>(Grow.refl w5).drew.block x (hUl x hx).2),fun x hx=>(hUl x hx).2⟩ ?_
   ·intro x hx φ he
    simp only[List.mem_cons,List.not_mem_nil,or_false] at hx
    rcases hx with rfl|rfl|rfl<;>cases he
    all_goals first|exact lasts_quiet (lasting_bytes _)|first|exact lasts_call_since (newX_lasting A0.framed)|exact lasts_call_since (newXs_lasting A0.framed)
   intro ops' A' K' T hops hA' hK hT
   refine fl_mvN 63 (.pointer (some ⟨W,0,none⟩)) ?_
   refine fl_mvN 64 (.pointer (some ⟨W,0,none⟩)) ?_
   refine fl_op1N 65 (.tmp 64) (.pointer (some ⟨W,0,none⟩)) (.pointer (some ⟨W,0,none⟩)) (fun ρ h1 kk w6 (hj6:Just U _ w6) hb hf=>by go_simp) ?_
   refine fl_op1N 66 (.tmp 65) (.pointer (some ⟨W,0,none⟩)) (.pointer (some ⟨W,1,none⟩)) (fun ρ h1 kk w6 (hj6:Just U _ w6) hb hf=>by go_simp) ?_
   refine fl_op1N 67 (.tmp 66) (.pointer (some ⟨W,1,none⟩)) (.slice none 0 0) (fun ρ h1 kk w6 (hj6:Just U _ w6) hb hf=>by have c:=(hj6.blk hW5 hWU).cell 1;go_simp) ?_
   refine fl_mvN 68 (.int .i64 1) ?_
   refine fl_mvN 69 (.int .i64 1) ?_
   refine fl_mvN 70 (.pointer (some ⟨d1,0,none⟩)) ?_
   refine fl_callAny 71 (by rfl) (by decide) (wanted_none (by rfl)) (Since (NewX A0 (fun b=>U b∨w5.heap.size≤b))) (by rw[hK.out];rfl) 23 _ _ (by rfl) [.int .i64 1,.int .i64 1,.pointer (some ⟨d1,0,none⟩)] (by rfl) k23 (fun kk w6 (hj6:Just U _ w6) hb hf=>calls_turnAny (φ:=Since (NewX A0 (fun b=>U b∨w5.heap.size≤b))) 0 (by rfl) (by obtain rfl:=before_some 0 (by rfl) hb;have hI:=hb.1;exact ((aNew_A w6 d1 U hI.1 hI.2).mono fun e w9 h9=>by obtain⟨r9,h1,h2,h3⟩:=h9;exact⟨_,h1,h3,trivial,r9,Ext U w6 w9,rfl,h2,fun b hb=>hb.elim (fun h=>⟨.inl h,Nat.lt_of_lt_of_le (hI.2 b h) h3.size⟩) fun h=>⟨.inr (Nat.le_trans hj6.size h.1),h.2⟩⟩))) (fun v71=>?_)
   refine fl_any1 72 (by rfl) (by decide) (wanted_none (by rfl)) (Since (NewXs 55 A0 (fun b=>U b∨w5.heap.size≤b))) (by rw[hK.out];rfl) (.tmp 71) (v71) (by rfl) (fun ρ h1 kk w6 (hj6:Just U _ w6) hb hf=>by refine upon_imp (R:=fun u w9=>Grow w6 w9∧Since (NewXs 55 A0 (fun b=>U b∨w5.heap.size≤b)) kk u w9) ?_ (fun u w9 h=>⟨behind_none (by rfl) h.1,by rw[next_none (by rfl)];exact h.2⟩);have hf1:=since_take (show Since (NewX A0 (fun b=>U b∨w5.heap.size≤b)) kk _ w6 from (facts_take hf (by rw[hA'.out];kernel_rfl)));have hf0:Since (NewX A0 (fun b=>U b∨w5.heap.size≤b)) kk _ w6:=(facts_take hf (by rw[hA'.out];kernel_rfl));exact upon_imp (newXs_built (t:=0) A0.framed (fun b hb => .inr (Nat.le_trans hj6.size hb)) hf1 (fun r9 e9=>row_built1 h1 e9 rfl)) fun u w9 h=>⟨h.1,since_of hf0 h.2⟩) (fun v72=>?_)
   refine fl_any2 73 (by rfl) (by decide) (wanted_none (by rfl)) (Since (NewXs 55 A0 (fun b=>U b∨w5.heap.size≤b))) (by rw[hK.out];rfl) (.tmp 67) (.tmp 72) (.slice none 0 0) (v72) (by rfl) (by rfl) (fun ρ h1 h2 kk w6 (hj6:Just U _ w6) hb hf=>by refine upon_imp (R:=fun u w9=>Grow w6 w9∧Since (NewXs 55 A0 (fun b=>U b∨w5.heap.size≤b)) kk u w9) ?_ (fun u w9 h=>⟨behind_none (by rfl) h.1,by rw[next_none (by rfl)];exact h.2⟩);have hf1:=since_take (show Since (NewXs 55 A0 (fun b=>U b∨w5.heap.size≤b)) kk _ w6 from (facts_take hf (by rw[hA'.out];kernel_rfl)));have hf0:Since (NewXs 55 A0 (fun b=>U b∨w5.heap.size≤b)) kk _ w6:=(facts_take hf (by rw[hA'.out];kernel_rfl));exact upon_imp (newXs_app paE (by decide) A0.framed (fun b hb => .inr (Nat.le_trans hj6.size hb)) h1 h2 rfl hf1) fun u w9 h=>⟨h.1,since_of hf0 h.2⟩) (fun v73=>?_)
   refine fl_op1N 74 (.tmp 63) (.pointer (some ⟨W,0,none⟩)) (.pointer (some ⟨W,0,none⟩)) (fun ρ h1 kk w6 (hj6:Just U _ w6) hb hf=>by go_simp) ?_
   refine fl_op1N 75 (.tmp 74) (.pointer (some ⟨W,0,none⟩)) (.pointer (some ⟨W,1,none⟩)) (fun ρ h1 kk w6 (hj6:Just U _ w6) hb hf=>by go_simp) ?_
   refine fl_end (fun _ _ w6 (hj6:Just U _ w6) hend hfacts=>hT _ _ ?_)
   clear hops hA' hK hT
   simp only[putsL,Act.put,List.setIfInBounds_toArray,List.set_cons_zero,List.set_cons_succ]
   obtain⟨rr,V6,hM6,hV6⟩:NewXs 55 A0 (fun b=>U b∨w5.heap.size≤b) v73 w6:=since_take hfacts.1
   obtain⟨V7,V8,hRw6,hX6⟩:=id hM6
   obtain⟨A6,cp6,e6,_⟩:=Row.in_ hRw6
   subst e6
   clear hfacts hend
   obtain⟨hS6,Jx⟩:=hk w6 [PtrRow 55 (.slice A6 1 cp6) [rr],A0 rr] V6 hj6 hM6 hV6
   have hS6:Solo (fun b=>w.heap.size≤b) (Many (PtrRow 55 (.slice A6 1 cp6) [rr] :: A0 rr :: [PtrRow 66 rs [r],R0 r,PtrRow 53 (.slice A4 2 cp4) [d0,d1],Cell W 196 (wdC rs (.slice none 0 0) (.slice A4 2 cp4) g),Ne.NetAt g 2 [] (fun _=>false)])) w6:=hS6
   have hF6:=(hFR.cons (A0.framed rr)).cons (PtrRow.framed 55 (.slice A6 1 cp6) [rr])
   have J6:=J5.trans Jx
   have hW6:=hS6.blk 5 rfl
   unfold wdC at hW6
   have k0:=hW6.cell 1
   refine reg_line 13 14 (by kernel_rfl) (by kernel_rfl) ?_
   simp only[List.take_succ_cons,List.take_zero,List.drop_succ_cons,List.drop_zero]
   go_wp2_with (refine wpList_putS rfl _ _ _ rfl hS6 hF6 J6 5 rfl rfl (.slice A6 1 cp6) rfl (Nat.le_of_ble_eq_true rfl) rfl (by kernel_rfl) ?_;intro w7 hS7 J7;refine stay ?_)
   refine stay_out ?_
   clear k0
   go_wp2_with fail
   refine reg_end ?_
   go_wp2_with fail
   go_roundw
   case rel=>exact .inr (.inr ⟨rfl,rr,r,d0,d1,_,_,_,hS7,J7⟩)
   case measure=>simp[intOf]
  ·go_wp2_with fail
   go_ret
   obtain⟨_,V9,hM9,hV9⟩:=hSr.perm (perm7 _ _ _ _ _ _ _)
   exact⟨W,rfl,⟨⟨g,r,a,d0,d1,rs,ags,ds⟩,Many.wide _ wr V9 _ (fun b hb=>hV9 b hb) hM9⟩,Jr.below (B:=w.heap.size) (fun b hb=>hb) (Nat.le_refl _)⟩
end Go.Proofs.YtmijcbfgfkeodaaGreatDoor
end
