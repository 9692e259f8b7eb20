/- Fd6, Ga3, Put, Rng, St1, Ag1, Re1, Ag2. -/
import Derived.Test.YtmijcbfgfkeodaaGreatDoorIz28
import Derived.Maps.RangeRun
set_option linter.all false
set_option maxRecDepth 100000
set_option maxHeartbeats 2000000
open Go.Value renaming int → ae,slice → ai
open Go.IntKind renaming i64 → af,u64 → ah
open Go.Proofs.Tryz renaming prog → au
open Nat renaming lt_of_lt_of_le → aA,le_refl → aC,le_trans → aH,le_of_ble_eq_true → aQ,zero_le → aZ,zero_add → a_
open List renaming length_append → aD,not_mem_nil → aE,nil_append → aR,mem_cons_of_mem → bb,flatMap_append → bd,mem_of_mem_eraseIdx → bo
section
namespace Go.Proofs.YtmijcbfgfkeodaaGreatDoor.Tp
open Go.RowKit Go.Hop K
theorem nx {w w':World} {D:Nat→Prop} {a:El} (h:fY w D a) (hk:∀ b,D b→b<w.heap.size→w'.heap[b]?=w.heap[b]?):fY w' D a:=⟨h.1.keep hk,h.2⟩
theorem Fu (w:World) (x:Nat) (D:Nat→Prop) (h:d_ x D w) (rQ:∀ b,D b→b<w.heap.size) :
 Calls au 18 #[((x:Nat):Value),ae af 60] w fun e w'=>∃ (v:Value) (q:List El),e=.returned v∧Own w' (New w w') 32 9 v q.length (q.flatMap El.cells)∧(∀ a∈q,fY w' (New w w') a∧a.e.Ok∧a.e.se.size≤maxLen)∧q.length≤60∧d_ x D w'∧Just (fun b=>b=x) w w':=by
 have hn:=eu w x D h 61 al al
 rw[show ((61:Nat):Int)=61 from rfl] at hn
 have hxw:=h.lt
 go_enter Tryz.func18,Tryz.ntmps18
 go_wp2_with fail
 refine hn.mono ?_
 rintro e w1 ⟨k0,hk0,rfl,hT1,hj1⟩
 clear hn h
 go_wp2_with fail
 go_loopw [5,6] (fun o i wr=>∃ (j:Nat) (l:List El),i=ae af (j:Int)∧l.length+j=k0∧(∃ V1 V2:Nat→Prop,Own wr V1 32 9 o l.length (l.flatMap El.cells)∧(∀ a∈l,fY wr V2 a∧a.e.Ok∧a.e.se.size≤maxLen)∧(∀ b,V1 b→New w wr b)∧(∀ b,V2 b→New w wr b)∧∀ b,V1 b→¬ V2 b)∧d_ x D wr∧Just (fun b=>b=x) w wr) (fun _ i _=>(intOf i).toNat)
 case atStart=>exact⟨k0,[],by go_num,by simp,⟨fun _=>False,fun _=>False,Own.nil,fun d hd=>absurd hd aE,fun _ h=>h.elim,fun _ h=>h.elim,fun _ h=>h.elim⟩,hT1,hj1⟩
 case round=>
  clear hT1 hj1
  obtain⟨j,l,rfl,hlj,⟨V1,V2,hO,hK,hV1,hV2,KQ⟩,hT,hj⟩:=hrel
  obtain⟨A1,c1,rfl,hI1,hn1,hm1⟩:=hO.fw
  by_cases hj0:0<j
  ·have hd0:decide ((0:Int)<(j:Int))=true:=decide_eq_true al
   have KR:∀ b,D b→b<wr.heap.size:=fun b hb=>aA (rQ b hb) hj.size
   go_wp2_with fail
   refine (Ah wr x D hT KR).mono ?_
   rintro en w3 ⟨⟨k,ag,sh,sq,ep,ds,se,fr,tg⟩,A,c,rfl,hok,hse,hE,EN,hj3⟩
   unfold En.agg
   dsimp only
   have H4:=hj.trans hj3
   have hO3:Own w3 V1 32 9 (.slice A1 l.length c1) l.length (l.flatMap El.cells):=hO.keep fun b hb=>hj3.block b (hV1 b hb).2 (fun e=>by have e2:b=x:=e;have:=(hV1 b hb).1;omega)
   have hs3:=hj3.size
   have hsw:=hj.size
   have hK3:∀ a∈l,fY w3 V2 a∧a.e.Ok∧a.e.se.size≤maxLen:=fun a ha=>⟨nx (hK a ha).1 fun b hb hbl=>hj3.block b hbl (fun e=>by have e2:b=x:=e;have:=(hV2 b hb).1;omega),(hK a ha).2⟩
   clear hI1 hO hK
   go_wp2_with (at_builtin;refine stay ?_)
   refine bV ?_
   have hga:=bN w3 (.cells #[ae af k,ae af ag,ae af sh,ae af sq,ae af ep,.slice A ds.length c,.string se,ae af fr,ae af tg] 32)
   refine cR (V:=V1) lM _ rfl (.tmp 15) (.tmp 18) rfl (.slice A1 l.length c1) l.length (l.flatMap El.cells) rfl (hO3.grow (fun b hb=>by have:=(hV1 b hb).2;omega) hga) (w3.heap.size+1) (some ⟨w3.heap.size,0,none⟩) 1 1 ([(⟨⟨k,ag,sh,sq,ep,ds,se,fr,tg⟩,A,c⟩:El)].flatMap El.cells) rfl (df w3 _ 32 _ rfl _ rfl) (fun u hu=>lL ⟨⟨k,ag,sh,sq,ep,ds,se,fr,tg⟩,A,c⟩ u (by simpa using hu)) al ?_
   intro v5 w5 vA dY
   have hs5:=dY.size
   simp at hs5
   have EO:Own w5 (Ext V1 (w3.alloc (.cells #[ae af k,ae af ag,ae af sh,ae af sq,ae af ep,.slice A ds.length c,.string se,ae af fr,ae af tg] 32)) w5) 32 9 v5 (l++[(⟨⟨k,ag,sh,sq,ep,ds,se,fr,tg⟩,A,c⟩:El)]).length ((l++[(⟨⟨k,ag,sh,sq,ep,ds,se,fr,tg⟩,A,c⟩:El)]).flatMap El.cells):=by
    rw[aD,bd]
    exact vA
   have H5:Just (fun b=>b=x) w w5:=Tp.eO (Tp.eO H4 (Just.bJ (V:=fun _=>False) hga) (fun _ h=>h.elim)) dY (fun b hb => .inl (hV1 b hb).1)
   have hxb:w5.heap[x]?=w3.heap[x]?:=(dY.block x (by simp;have:=EN.lt;omega) (fun e=>by have:=(hV1 x e).1;omega)).trans (hga.block x EN.lt)
   have ER:d_ x D w5:=EN.keep hxb fun b hb hbl=>(dY.block b (by simp;omega) (fun e=>by have:=(hV1 b e).1;have:=rQ b hb;omega)).trans (hga.block b hbl)
   have K9:∀ a∈l++[(⟨⟨k,ag,sh,sq,ep,ds,se,fr,tg⟩,A,c⟩:El)],fY w5 (fun b=>V2 b∨New wr w3 b) a∧a.e.Ok∧a.e.se.size≤maxLen:=fun a ha=>by
    have hk5:∀ b,¬ V1 b→b<w3.heap.size→w5.heap[b]?=w3.heap[b]?:=fun b hb hbl=>(dY.block b (by simp;omega) hb).trans (hga.block b hbl)
    rcases List.mem_append.1 ha with ha|ha
    ·exact⟨gV _ _ _ _ (nx (hK3 a ha).1 fun b hb hbl=>hk5 b (fun h1=>KQ b h1 hb) hbl) fun b hb => .inl hb,(hK3 a ha).2⟩
    ·obtain rfl:=List.mem_singleton.1 ha
     exact⟨gV _ _ _ _ (nx hE fun b hb hbl=>hk5 b (fun h1=>by have:=(hV1 b h1).2;have:=hb.1;omega) hbl) fun b hb => .inr hb,hok,hse⟩
   have LM:(l++[(⟨⟨k,ag,sh,sq,ep,ds,se,fr,tg⟩,A,c⟩:El)]).length=l.length+1:=by simp
   have HP:Hid (∃ ND NF:Nat→Prop,Own w5 ND 32 9 v5 (l++[(⟨⟨k,ag,sh,sq,ep,ds,se,fr,tg⟩,A,c⟩:El)]).length ((l++[(⟨⟨k,ag,sh,sq,ep,ds,se,fr,tg⟩,A,c⟩:El)]).flatMap El.cells)∧(∀ a∈l++[(⟨⟨k,ag,sh,sq,ep,ds,se,fr,tg⟩,A,c⟩:El)],fY w5 NF a∧a.e.Ok∧a.e.se.size≤maxLen)∧(∀ b,ND b→New w w5 b)∧(∀ b,NF b→New w w5 b)∧∀ b,ND b→¬ NF b):=Lib.hid ⟨_,_,EO,K9,fun b hb=>by
    rcases hb with hb|hb
    ·exact⟨(hV1 b hb).1,by have:=(hV1 b hb).2;omega⟩
    ·have h6:=hb.1
     simp at h6
     exact⟨by omega,hb.2⟩,fun b hb=>by
    rcases hb with hb|hb
    ·exact⟨(hV2 b hb).1,by have:=(hV2 b hb).2;omega⟩
    ·exact⟨by have:=hb.1;omega,by have:=hb.2;omega⟩,fun b hb hc=>by
    rcases hb with hb|hb
    ·rcases hc with hc|hc
     ·exact KQ b hb hc
     ·have:=(hV1 b hb).2;have:=hc.1;omega
    ·have h6:=hb.1
     simp at h6
     rcases hc with hc|hc
     ·have:=(hV2 b hc).2;omega
     ·have:=hc.2;omega⟩
   clear vA dY EN hj3 hO3 hga hK3 EO K9 hE
   generalize l++[(⟨⟨k,ag,sh,sq,ep,ds,se,fr,tg⟩,A,c⟩:El)]=l6 at HP LM
   go_wp2_with fail
   go_roundw
   case rel=>exact⟨j-1,l6,by go_num,by omega,HP.out,ER,H5⟩
   case measure=>simp[intOf];omega
  ·obtain rfl:j=0:=by omega
   have hd0:decide ((0:Int)<((0:Nat):Int))=false:=rfl
   go_wp2_with fail
   go_ret
   exact⟨_,l,rfl,hO.mono hV1,fun a ha=>⟨gV _ _ _ _ (hK a ha).1 hV2,(hK a ha).2⟩,by omega,hT,hj⟩
end Go.Proofs.YtmijcbfgfkeodaaGreatDoor.Tp
end
section
namespace Go.Hop
open Go.RowKit
section
variable {P:Program} {ops:Array Oper} {rest:List Oper} {o:Oper} {a:Act} {w:World} {Q:Exit→Act→World→Prop}
theorem j8 (w:World) (b k:Nat) (ty:TypeId) (v:Value) (hc:(w.cell? ⟨b,k,none⟩).isSome=true) (hf:w.frozen? ⟨b,k,none⟩=false) (hi:(P.info? ty).map (·.size)=some 1) (h1:v.oneCell'=true) :
 (storeVar ty ⟨b,k,none⟩ v).run P w=.ok () (w.setCell ⟨b,k,none⟩ v):=by
 have hcs:v.cells=#[v]:=by cases v<;>first|rfl|cases h1
 have:=run_storeCells_cells (P:=P) b k [v] 0 w (fun j hj=>by simp at hj;subst hj;simpa using hc) (fun j hj=>by simp at hj;subst hj;simpa using hf) (fun x hx=>by simp at hx;subst hx;exact h1)
 cases hq:P.info? ty with
 | none=>simp[hq] at hi
 | some i=>
   have hs:1=i.size:=by simp[hq] at hi;omega
   simp only[Nat.add_zero] at this
   simp[storeVar,sizeOf,typeInfo,hq,hcs,←hs] at this ⊢
   simpa [World.setCells] using this
theorem uo (hw:Region.wanted o (yielded ops a.tmps)=true) (ty:TypeId) (x y:Operand) (ho:o.op=.store ty x y) (g b:Nat) (hx:a.eval x=.pointer (some ⟨g,b,none⟩)) (v:Value) (hy:a.eval y=v) {t:TypeId} {cs:Array Value} (hB:ct w g t cs) (hl:b<cs.size) (h1:v.oneCell'=true) (hi:(P.info? ty).map (·.size)=some 1)
 (h:∀ w',Hid (w'=w.setCell ⟨g,b,none⟩ v)→wpList P ops Q rest (a.put o.dst undef) w'):wpList P ops Q (o :: rest) a w:=by
 unfold wpList
 rw[if_pos hw]
 refine .inl ?_
 unfold Oper.wp execOp
 simp only[ho,hx,hy,Instr.storeAt,Instr.sureAddr,Sem.run_bind,Sem.run_pure,Result.andThen_ok,j8 w g b ty v (by rw[hB.cell,Array.getElem?_eq_getElem hl];rfl) (hB.frozen _) hi h1]
 exact h _ rfl
theorem dp (hw:Region.wanted o (yielded ops a.tmps)=true) (ty:TypeId) (x y:Operand) (ho:o.op=.store ty x y) {l:List cg} {R:Nat→Prop} {w0:World} (hS:Solo R (Many l) w) (hF:bM l) (hj:Just R w0 w) (i:Nat) {g b:Nat} {t:TypeId} {cs:Array Value} (hi0:l[i]?=some (Cell g t cs)) (hx:a.eval x=.pointer (some ⟨g,b,none⟩)) (v:Value) (hy:a.eval y=v) (hl:b<cs.size) (h1:v.oneCell'=true) (hi:(P.info? ty).map (·.size)=some 1)
 (h:∀ w',Solo R (Many (l.set i (Cell g t (cs.setIfInBounds b v)))) w'→Just R w0 w'→wpList P ops Q rest (a.put o.dst undef) w'):wpList P ops Q (o :: rest) a w:=
 uo hw ty x y ho g b hx v hy (hS.blk i hi0) hl h1 hi fun w' e=>by
  rw[e.out]
  exact h _ (hS.puts i hi0 hF b v) (hj.put (hS.ig i hi0).1 b v)
theorem _root_.Go.RowKit.Just.NG {V:Nat→Prop} {w w1 w2:World} (h1:Just V w w1) (h2:Just (Ext V w w1) w1 w2):Just V w w2:=
 ⟨h2.os.trans h1.os,h2.tape.trans h1.tape,h2.output.trans h1.output,aH h1.size h2.size,fun b hb hne=>(h2.block b (aA hb h1.size) fun h=>h.elim hne fun h=>by have:=h.1;omega).trans (h1.block b hb hne)⟩
theorem Solo.renew {P:Nat→Prop} {S R:cg} {l:List cg} {w w':World} (i:Nat) (hi:l[i]?=some S) (hF:bM l) (h:Solo P (Many l) w) (hg:Grow w w') {U:Nat→Prop} (hR:R w' U) (hU:∀ b,U b→w.heap.size≤b∧b<w'.heap.size):Solo P (Many (l.set i R)) w':=
 (h.join hF hg hR hU).turn fun V hV=>Many.i4 l i S R hi (Sep.imp (show Sep R (Many l) w' V from hV) (fun _ h=>h) fun U1 nN=>by
  obtain⟨U2,h1,h2⟩:=(Many.pick l i S hi nN).snd
  exact Many.wide _ w' U2 U1 h2 h1)
end
section
variable {κ:Type} {P:Program} {t kt et:TypeId} {ke:κ→Value} {w w':World} {b:Nat} {V V':Nat→Prop}
theorem cJ.empty (h:cJ ke b [] w V):∃ c,w.heap[b]?=some (.map #[] c):=by
 obtain⟨_,_,es,c,h3,h4⟩:=h
 have:es=#[]:=by
  have h5:=congrArg List.length h4
  simp at h5
  exact h5
 subst this
 exact⟨c,h3⟩
theorem cJ.Ai (ht:P.underlying t=some (.map kt et)) {c:Nat} (h:w.heap[b]?=some (.map #[] c)) :
 (Instr.range t (.map (some b))).run P w=.ok (.pointer (some ⟨w.heap.size,0,none⟩)) (w.alloc (.mapIter (some b) c #[] c)):=by
 have hg:(getObj b).run P w=.ok (.map #[] c) w:=MapKept.run_getObj_map h
 simp[Instr.range,run_underlying ht,hg,Result.andThen]
theorem cJ.Dy {c r:Nat} (ty:TypeId) (hr:w.heap[r]?=some (.mapIter (some b) c #[] c)) (h:w.heap[b]?=some (.map #[] c)):(Instr.next (((r:Nat):Value)) false ty).run P w=.ok (.tuple #[.bool false]) w:=by
 rcases run_next_at (P:=P) w ty r b c c #[] #[] c hr h (by simp) (aC _) with ⟨_,h⟩|⟨e,he,_⟩
 ·exact h
 ·simp[leftOf] at he
end
def cD (e:TypeId) (v:Value) (l:List Nat):cg:=fun w V=>Row w V e 1 v l.length (l.map fun p=>Value.pointer (some ⟨p,0,none⟩))
theorem cD.framed (e:TypeId) (v:Value) (l:List Nat):Framed (cD e v l):=fun _ _ _ h hk=>Row.keep h fun b hb _=>hk b hb
theorem Row.range {w:World} {V:Nat→Prop} {e:TypeId} {size n:Nat} {v:Value} {xs:List Value} (h:Row w V e size v n xs) (hn:0<n):∃ g cap,v=.slice (some ⟨g,0,none⟩) n cap∧V g∧g<w.heap.size∧n≤cap∧cap≤maxLen∧w.rangeAt g 0 xs:=by
 obtain⟨A,c,e2,hI,hc,hm⟩:=h.fw
 rcases h.2 with ⟨_,h1⟩|⟨g,cap,cur,h1,hV,hg,_⟩
 ·omega
 ·rw[h1] at e2
  injection e2 with e3 e4 e5
  subst e3 e5
  obtain⟨ad,ea,_,hb,hcell⟩:=hI.2 hn
  injection ea with ea
  subst ea
  refine⟨g,cap,h1,hV,hb,hc,hm,fun j u hu=>?_⟩
  rw[←Addr.add_mid]
  exact hcell j u hu
theorem cD.at {e:TypeId} {v:Value} {l:List Nat} {w:World} {V:Nat→Prop} (h:cD e v l w V) (hl:0<l.length):∃ g cap,v=.slice (some ⟨g,0,none⟩) l.length cap∧l.length≤cap∧cap≤maxLen∧g<w.heap.size∧∀ (w':World),Grow w w'→∀ k (hk:k<l.length),w'.cell? ⟨g,k,none⟩=some (.pointer (some ⟨l[k],0,none⟩)):=by
 obtain⟨g,cap,e1,_,hg,hc,hm,hr⟩:=Row.range h hl
 refine⟨g,cap,e1,hc,hm,hg,fun w' hw k hk=>?_⟩
 have:=hr k (.pointer (some ⟨l[k],0,none⟩)) (by simp[hk])
 rw[a_] at this
 exact (hw.cell (p:=⟨g,k,none⟩) hg).trans this
section
variable {Pr:Program} {f:FuncId} {args:Array Value} {S:cg} {l:List cg} {w:World} {P:Nat→Prop}
theorem Solo.LY {ι:Type} {C:ι→Ending→World→Prop} {S':ι→cg} (i:Nat) (hi:l[i]?=some S) (hF:bM l) (h:Solo P (Many l) w) (hc:∀ U:Nat→Prop,S w U→(∀ b,U b→b<w.heap.size)→(∀ b,U b→P b)→Calls Pr f args w fun e w'=>∃ k,C k e w'∧S' k w' (Ext U w w')∧Just U w w') :
 Calls Pr f args w fun e w'=>∃ k,C k e w'∧Just P w w'∧Solo P (Many (l.set i (S' k))) w':=by
 obtain⟨h0,V,h1,h4⟩:=h
 obtain⟨V1,V2,a,b,c,d,e⟩:=Many.pick l i S hi h1
 have hR:=Many.framed (l.eraseIdx i) fun R hR=>hF R (bo hR)
 refine (hc V1 a (fun x hx=>(h4 x (c x hx)).2) fun x hx=>(h4 x (c x hx)).1).mono fun en w' ⟨k,he,hs,hj⟩=>⟨k,he,hj.imp fun x hx=>(h4 x (c x hx)).1,fun b hb=>h0 b (aH hj.size hb),Ext V w w',Many.i4 l i S (S' k) hi ⟨Ext V1 w w',V2,hs,hR w w' V2 b fun x hx=>hj.block x (h4 x (d x hx)).2 (fun h1=>e x h1 hx),fun x hx=>?_,fun x hx => .inl (d x hx),fun x hx h2=>?_⟩,jd h4 h0 hj.size⟩
 ·rcases hx with hx|hx
  ·exact .inl (c x hx)
  ·exact .inr hx
 ·rcases hx with hx|hx
  ·exact e x hx h2
  ·have:=(h4 x (d x h2)).2;have:=hx.1;omega
end
section
variable {P:Program} {ops:Array Oper} {rest:List Oper} {o:Oper} {a:Act} {w:World} {Q:Exit→Act→World→Prop}
theorem eL (hw:Region.wanted o (yielded ops a.tmps)=true) (ty:TypeId) (x:Operand) (ho:o.op=.load ty x) (g b:Nat) (hx:a.eval x=.pointer (some ⟨g,b,none⟩)) (cs:List Value) (hr:w.rangeAt g b cs) {fs:Array Field} (hu:P.underlying ty=some (.struct fs)) (hi:(P.info? ty).map (·.size)=some cs.length)
 (h:wpList P ops Q rest (a.put o.dst (.agg cs.toArray)) w):wpList P ops Q (o :: rest) a w:=by
 unfold wpList
 rw[if_pos hw]
 exact .inl (wp_load_mid ty x ho g b hx cs _ hr hu rfl hi h)
end
theorem ct.range {w:World} {g:Nat} {t:TypeId} {vs:List Value} (h:ct w g t vs.toArray) (b:Nat) (cs:List Value) (hc:vs.drop b=cs):w.rangeAt g b cs:=fun j u hu=>by
 subst hc
 rw[h.cell]
 simpa using hu
end Go.Hop
end
section
namespace Go.Proofs.YtmijcbfgfkeodaaGreatDoor
open Go.RowKit Go.Hop V
theorem Fv (w:World):Calls au 211 #[ai none 0 0,ae af 1] w fun e w'=>∃ v,e=.returned v∧Row w' (fun b=>w.heap.size≤b∧b<w'.heap.size) 26 3 v 0 []∧Grow w w':=by
 obtain⟨i,hi,hz,hs,hb⟩:=Ex.info
 go_enter Tryz.func211,Tryz.ntmps211
 go_wp2_with (at_builtin;refine Lib.wpList_append_run _ rfl _ _ _ _ rfl _ _ rfl rfl _ _ (Lib.run_append_nil_zeros _ 41 3 _ 26 i (.agg #[ae af 0,ae af 0,ae af 0]) .i64 .i64 Tryz.underlying41 Tryz.underlying3 hi hz 1 al al al (by rw[hb];omega)) ?_)
 have hge:=grownCap_ge w 1 0 26
 have hle:grownCap w 1 0 26≤maxLen:=grownCap_le_maxLen w 1 0 26 (by unfold maxLen;omega)
 generalize grownCap w 1 0 26=cap at hge hle
 have hcs:(Builtin.zeroCells #[Value.int .i64 0,ae af 0,ae af 0] 1++Builtin.zeroCells #[Value.int .i64 0,ae af 0,ae af 0] (cap-1)).size=cap*3:=by
  rw[Array.size_append,size_zeroCells,size_zeroCells,show (#[Value.int .i64 0,ae af 0,ae af 0]:Array Value).size=3 from rfl];omega
 generalize Builtin.zeroCells #[Value.int .i64 0,ae af 0,ae af 0] 1++Builtin.zeroCells #[Value.int .i64 0,ae af 0,ae af 0] (cap-1)=cur at hcs
 have hc0:¬ cap<0:=by omega
 go_wp2_with fail
 go_ret
 refine⟨_,rfl,⟨rfl,.inr ⟨w.heap.size,cap,cur,rfl,⟨aC _,by simp⟩,?_,aZ _,hle,hcs,by simp⟩⟩,Grow.drew ((Below.refl _ _).alloc (aC _) _)⟩
 exact heap_alloc_new w _
theorem Aj (w:World) (b:Nat) (A:Option Addr) (c:Nat) (hB:ct w b 41 #[ai none 0 0,.slice A 1 c]) (D:Nat→Prop) (xs:List Value) (hxs:∀ u∈xs,u.oneCell'=true) (hI:In w D 3 A 1 xs) :
 Calls au 138 #[.slice (some ⟨b,0,none⟩) 2 2] w fun e w'=>∃ v,e=.returned v∧Row w' (fun b=>w.heap.size≤b∧b<w'.heap.size) 26 3 v 1 xs∧Grow w w':=by
 have e0:=hB.cell 0
 have e1:=hB.cell 1
 have hG:=Fv w
 go_enter Tryz.func138,Tryz.ntmps138
 go_wp2_with fail
 go_loopw [3,11] (fun s i wr=>((s=ae af 0∧i=ae af 0)∨(s=ae af 0∧i=ae af 1)∨(s=ae af 1∧i=ae af 2))∧w=wr) (fun _ i _=>2-(intOf i).toNat)
 case atStart=>exact⟨.inl ⟨rfl,rfl⟩,rfl⟩
 case round=>
  obtain⟨hsi,rfl⟩:=hrel
  rcases hsi with ⟨rfl,rfl⟩|⟨rfl,rfl⟩|⟨rfl,rfl⟩
  ·go_wp2_with fail
   go_roundw
   case rel=>exact⟨.inr (.inl ⟨rfl,rfl⟩),by trivial⟩
   case measure=>simp[intOf]
  ·go_wp2_with fail
   go_roundw
   case rel=>exact⟨.inr (.inr ⟨rfl,rfl⟩),by trivial⟩
   case measure=>simp[intOf]
  ·go_wp2_with fail
   refine hG.mono ?_
   rintro e w1 ⟨v1,rfl,nJ,hg1⟩
   go_wp2_with fail
   go_loopw [6,27] (fun v i wr=>((i=ae af 0∧Row wr (fun b=>w.heap.size≤b∧b<wr.heap.size) 26 3 v 0 [])∨(i=ae af 1∧Row wr (fun b=>w.heap.size≤b∧b<wr.heap.size) 26 3 v 0 [])∨(i=ae af 2∧Row wr (fun b=>w.heap.size≤b∧b<wr.heap.size) 26 3 v 1 xs))∧Grow w wr) (fun _ i _=>2-(intOf i).toNat)
   case atStart=>exact⟨.inl ⟨rfl,nJ⟩,hg1⟩
   case round=>
    obtain⟨hsi,hgr⟩:=hrel
    have e0:=(hB.grow hgr).cell 0
    have e1:=(hB.grow hgr).cell 1
    have hwr:=hgr.size
    rcases hsi with ⟨rfl,hR⟩|⟨rfl,hR⟩|⟨rfl,hR⟩
    ·go_wp2_with (at_builtin;refine stay ?_)
     refine bV ?_
     refine eD Ex _ rfl (.tmp 31) (.tmp 32) rfl _ 0 [] rfl hR 0 none 0 0 [] rfl Reads.nil (by simp) ak ?_
     intro v2 w2 hR2 hj2
     have hg2:Grow w w2:=Below.trans hgr (hj2.below (B:=w.heap.size) (fun b hb=>hb.1) hwr)
     have hR2:=hR2.mono (V':=fun b=>w.heap.size≤b∧b<w2.heap.size) fun b hb=>hb.elim (fun h=>⟨h.1,aA h.2 hj2.size⟩) fun h=>⟨aH hwr h.1,h.2⟩
     go_wp2_with fail
     go_roundw
     case rel=>exact⟨.inr (.inl ⟨rfl,hR2⟩),hg2⟩
     case measure=>simp[intOf]
    ·go_wp2_with (at_builtin;refine stay ?_)
     refine bV ?_
     refine eD Ex _ rfl (.tmp 31) (.tmp 32) rfl _ 0 [] rfl hR _ A 1 c xs rfl (hI.grow hgr).reads hxs ak ?_
     intro v2 w2 hR2 hj2
     have hg2:Grow w w2:=Below.trans hgr (hj2.below (B:=w.heap.size) (fun b hb=>hb.1) hwr)
     have hR2:=hR2.mono (V':=fun b=>w.heap.size≤b∧b<w2.heap.size) fun b hb=>hb.elim (fun h=>⟨h.1,aA h.2 hj2.size⟩) fun h=>⟨aH hwr h.1,h.2⟩
     go_wp2_with fail
     go_roundw
     case rel=>exact⟨.inr (.inr ⟨rfl,hR2⟩),hg2⟩
     case measure=>simp[intOf]
    ·go_wp2_with fail
     go_ret
     exact⟨_,rfl,hR,hgr⟩
theorem Iv (w:World) (A:Option Addr) (c:Nat) (fv:Value):Calls au 275 #[.slice A 1 c,ae af 0,ae af 1,fv] w fun e w'=>e=.returned (.tuple #[])∧w=w':=by
 go_enter Tryz.func275,Tryz.ntmps275
 go_wp2_with fail
 go_loopw [8] (fun i wr=>i=ae af 1∧w=wr) (fun _ _=>0)
 case atStart=>exact⟨rfl,rfl⟩
 case round=>
  obtain⟨rfl,rfl⟩:=hrel
  go_wp2_with fail
  go_end0
  exact⟨rfl,rfl⟩
theorem Iw (w:World) (A:Option Addr) (c:Nat) (l:Int) (fv:Value):Calls au 212 #[.slice A 1 c,ae af 0,ae af 1,ae af l,fv] w fun e w'=>e=.returned (.tuple #[])∧w=w':=by
 have hI:=Iv w A c fv
 go_enter Tryz.func212,Tryz.ntmps212
 go_wp2_with fail
 go_loopw [1,2] (fun a b wr=>a=ae af 0∧b=ae af 1∧w=wr) (fun _ _ _=>0)
 case atStart=>exact⟨rfl,rfl,rfl⟩
 case round=>
  obtain⟨rfl,rfl,rfl⟩:=hrel
  go_wp2_with fail
  refine hI.mono ?_
  rintro e w1 ⟨rfl,rfl⟩
  go_wp2_with fail
  refine bodyPost_ret (results_none rfl _ _ _) rfl ?_
  exact⟨rfl,rfl⟩
theorem Fw (w:World) (A:Option Addr) (c:Nat) (fv:Value):Calls au 139 #[.slice A 1 c,fv] w fun e w'=>e=.returned (.tuple #[])∧w=w':=by
 have hL:=yh w
 have hP:=fun l=>Iw w A c l fv
 go_enter Tryz.func139,Tryz.ntmps139
 go_wp2_with fail
 refine hL.mono ?_
 rintro e w1 ⟨l,rfl,rfl⟩
 go_wp2_with fail
 refine (hP l).mono ?_
 rintro e w1 ⟨rfl,rfl⟩
 go_wp2_with fail
 go_end0
 exact⟨rfl,rfl⟩
theorem xk (w:World) (A:Option Addr) (c:Nat):Calls au 142 #[.slice A 1 c] w fun e w'=>e=.returned (.slice A 1 c)∧w=w':=by
 go_enter Tryz.func142,Tryz.ntmps142
 go_wp2_with fail
 go_ret
 exact⟨rfl,rfl⟩
theorem Fx (w:World) (A:Option Addr) (c:Nat) (hc:1≤c):Calls au 141 #[.slice A 1 c] w fun e w'=>e=.returned (.slice A 1 1)∧w=w':=by
 have h1:¬ c<1:=by omega
 go_enter Tryz.func141,Tryz.ntmps141
 cases A with
 | none=>
   go_wp2_with fail
   go_ret
   exact⟨rfl,rfl⟩
 | some a=>
   go_wp2_with fail
   go_ret
   exact⟨rfl,rfl⟩
def mL (k:Int×Int×Int):Value := .agg #[ae af k.1,ae af k.2.1,ae af k.2.2]
theorem Ix:mc au 2 k_:=qS am
theorem Iy:mc au 26 mL:=me (fs:=(Tryz.prog.fieldsOf 26)) am (fun w b k=>by unfold mL;kernel_rfl)
 (fun w a b=>by
  unfold mL
  show (Op.equalIn 10000 _ _ _).run au w=_
  go_simp
  by_cases h1:a.1=b.1<;>by_cases h2:a.2.1=b.2.1<;>by_cases h3:a.2.2=b.2.2<;>simp[h1,h2,h3,Prod.ext_iff])
 (fun k=>by simp[mL,Instr.sameBits])
theorem zT (w:World):(zeroValue 378).run au w=.ok (.agg #[ae af 0,ae af 0]) w:=by kernel_rfl
theorem zD (w:World):(zeroValue 26).run au w=.ok (.agg #[ae af 0,ae af 0,ae af 0]) w:=by kernel_rfl
theorem bW {l l':List cg} (h:bM l) (h':bM l'):bM (l++l'):=fun S hS=>(List.mem_append.1 hS).elim (h S) (h' S)
theorem eS (b:List UInt8) (h:b.length≤65536):(frame b).length≤b.length+14:=by
 rw[jt]
 have:=cZ (n:=b.length) al
 omega
structure uq where
 (a st x d bT bK:Nat) (z:Qs)
def ib (p:uq) (node dH now tag last:Int):Array Value:=#[ae af node,ae af dH,.pointer (some ⟨p.x,0,none⟩),.pointer (some ⟨p.st,0,none⟩),ae af now,ae af tag,ae af last,.map (some p.bT),.map (some p.bK)]
def iW (p:uq) (B:cg) (node dH now tag last:Int) (asks:List (Int×Value)) (tr:List ((Int×Int×Int)×Value)) (n:Int) (bs:List UInt8) (k:Nat):List cg:=[B,Cell p.a 143 (ib p node dH now tag last),cJ k_ p.bK asks,cJ mL p.bT tr,cU p.x p.d n bs k]
theorem cE (p:uq) (B:cg) (hB:Framed B) (node dH now tag last:Int) (asks:List (Int×Value)) (tr:List ((Int×Int×Int)×Value)) (n:Int) (bs:List UInt8) (k:Nat):bM (iW p B node dH now tag last asks tr n bs k):=((((bM.nil.cons (cU.framed _ _ _ _ _)).cons (cJ.framed _ _)).cons (cJ.framed _ _)).cons (Cell.framed _ _ _)).cons hB
theorem _root_.Go.Hop.bM.tail {S:cg} {l:List cg} (h:bM (S :: l)):bM l:=fun R hR=>h R (bb _ hR)
theorem Ak (w:World) (st c:Nat) (A:Option Addr):Calls au 67 #[((st:Nat):Value),.slice A 0 c] w fun e w'=>e=.returned (.tuple #[])∧w=w':=by
 go_enter Tryz.func67,Tryz.ntmps67
 go_wp2_with fail
 go_loopw [8] (fun i wr=>i=ae af 0∧w=wr) (fun _ _=>0)
 case atStart=>exact⟨rfl,rfl⟩
 case round=>
  obtain⟨rfl,rfl⟩:=hrel
  go_wp2_with fail
  go_end0
  exact⟨rfl,rfl⟩
structure sT where
 (r s x d m:Nat)
def kh (p:sT) (node nodes commit:Int) (v:Value) (leads:Bool) (own:Int):Array Value:=#[ae af node,ae af nodes,.pointer (some ⟨p.s,0,none⟩),.pointer (some ⟨p.m,0,none⟩),ae af commit,v,.bool leads,ae af own]
def iX (p:sT) (node nodes commit:Int) (v:Value) (leads:Bool) (own:Int) (t h:Nat) (es:List En) (n:Int) (bs:List UInt8) (Mt Vt:cg):List cg:=[Cell p.r 164 (kh p node nodes commit v leads own),dJ p.s p.x p.d t h es n bs,Mt,Vt]
theorem dC (p:sT) (node nodes commit:Int) (v:Value) (leads:Bool) (own:Int) (t h:Nat) (es:List En) (n:Int) (bs:List UInt8) (Mt Vt:cg) (hM:Framed Mt) (hV:Framed Vt):bM (iX p node nodes commit v leads own t h es n bs Mt Vt):=(((bM.nil.cons hV).cons hM).cons (dJ.framed _ _ _ _ _ _ _ _)).cons (Cell.framed _ _ _)
def iP (P:Nat→Prop) (S0 S1:cg) (m1:Nat) (st:List (Nat×Nat)):cQ where
 G:=Just P
 T:=fun _=>Just P
 I := fun k w=>match k with
   | 0=>Solo P S0 w
   | _=>Solo P S1 w
 muts:=[m1]
 stage:=fun j=>if j=m1 then some 0 else st.lookup j
theorem iu {P:Nat→Prop} {S0 S1:cg} {m1:Nat} {st:List (Nat×Nat)} (h0:Framed S0) (h1:Framed S1):(iP P S0 S1 m1 st).Ok:=by
 refine⟨fun _ _ _=>Just.trans,fun _ _ h=>Just.bJ h,fun _ _ _ h=>h,fun k a b h hg=>?_⟩
 rcases k with _|k
 ·exact Solo.grow h h0 hg
 ·exact Solo.grow h h1 hg
theorem Dz (w:World):Many [cW] w (fun _=>False):=⟨fun _=>False,fun _=>False,trivial,trivial,fun _ h=>h,fun _ h=>h,fun _ h _=>h⟩
theorem Fy (w:World) (d node nodes:Nat) (KS:node<nodes) (h8:nodes≤8) (V:Nat→Prop) (hD:cT 133 d [] 0 w V) (hV:∀ b,V b→b<w.heap.size) :
 Calls au 30 #[ae af (node:Int),ae af (nodes:Int),((d:Nat):Value)] w fun e w'=>∃ p:sT,p.d=d∧e=.returned (.pointer (some ⟨p.r,0,none⟩))∧Many (iX p node nodes 0 (.pointer none) false 0 0 0 [] 0 [] (cX p.m [] [] none) cW) w' (Ext V w w')∧Just V w w':=by
 have hO:=zu w d V hD hV
 have d1:decide ((nodes:Int)<1)=false:=decide_eq_false al
 have d2:decide ((8:Int)<(nodes:Int))=false:=decide_eq_false al
 have d3:decide ((node:Int)<0)=false:=decide_eq_false al
 have d4:decide ((nodes:Int)≤(node:Int))=false:=decide_eq_false al
 go_enter Tryz.func30,Tryz.ntmps30
 go_wp2_with fail
 refine hO.mono ?_
 rintro e w1 ⟨s,x,rfl,hS,hj1⟩
 have Nq:=hj1.size
 have hlt:∀ b,Ext V w w1 b→b<w1.heap.size:=fun b hb=>by
  rcases hb with hb|hb
  ·have:=hV b hb;omega
  ·exact hb.2
 have hS1:Solo (cB V w) (Many [dJ s x d 0 0 [] 0 [],cW]) w1:=Solo.my (l:=[cW]) (V:=fun _=>False) (U:=Ext V w w1) (fun b hb => .inr al) (Dz w1) (fun b hb=>hb.elim) hS fun b hb=>⟨by
  rcases hb with hb|hb
  ·exact .inl hb
  ·exact .inr hb.1,hlt b hb,fun h=>h⟩
 have hF1:bM [dJ s x d 0 0 [] 0 [],cW]:=(bM.nil.cons cW.framed).cons (dJ.framed _ _ _ _ _ _ _ _)
 have hN:=rc w1
 go_wp2_with fail
 refine hN.mono ?_
 rintro e w2 ⟨m,rfl,hM,hg2⟩
 have hS2:=hS1.join hF1 hg2 hM (fun b hb=>hb)
 have hF2:=hF1.cons (cX.framed m [] [] none)
 have g3:=bN w2 (.cells (kh ⟨w2.heap.size,s,x,d,m⟩ node nodes 0 (.pointer none) false 0) 164)
 have dO:=hS2.join hF2 g3 (R:=Cell w2.heap.size 164 (kh ⟨w2.heap.size,s,x,d,m⟩ node nodes 0 (.pointer none) false 0)) (U:=fun b=>b=w2.heap.size) ⟨rfl,ct.made w2 _ _⟩ (fun b hb=>by obtain rfl:b=w2.heap.size:=hb;simp)
 have J3:Just (cB V w) w (w2.alloc (.cells (kh ⟨w2.heap.size,s,x,d,m⟩ node nodes 0 (.pointer none) false 0) 164)):=((hj1.imp fun b hb => .inl hb).trans (Just.bJ hg2)).trans (Just.bJ g3)
 go_wp2_with fail
 go_ret
 obtain⟨r1,r2⟩:=Solo.done (Solo.perm (List.Perm.cons _ (List.Perm.swap _ _ _)) dO) J3 hV
 exact⟨⟨w2.heap.size,s,x,d,m⟩,rfl,rfl,r1,r2⟩
theorem qh (w:World) (p:sT) (node nodes commit:Int) (v:Value) (leads:Bool) (own:Int) (hB:ct w p.r 164 (kh p node nodes commit v leads own)):Calls au 31 #[.pointer (some ⟨p.r,0,none⟩)] w fun e w'=>e=.returned (.pointer (some ⟨p.m,0,none⟩))∧w=w':=by
 unfold kh at hB
 have c:=hB.cell 3
 go_enter Tryz.func31,Tryz.ntmps31
 go_wp2_with fail
 go_ret
 exact⟨rfl,rfl⟩
theorem us (w:World) (p:sT) (node nodes commit:Int) (v:Value) (leads:Bool) (own:Int) (hB:ct w p.r 164 (kh p node nodes commit v leads own)):Calls au 110 #[.pointer (some ⟨p.r,0,none⟩)] w fun e w'=>e=.returned (.bool leads)∧w=w':=by
 unfold kh at hB
 have c:=hB.cell 6
 go_enter Tryz.func110,Tryz.ntmps110
 go_wp2_with fail
 go_ret
 exact⟨rfl,rfl⟩
theorem xl (w:World) (p:sT) (node nodes commit:Int) (v:Value) (leads:Bool) (own:Int):Turns au 85 #[.pointer (some ⟨p.r,0,none⟩)] (fun e=>e=.returned (.tuple #[])) (Cell p.r 164 (kh p node nodes commit v leads own)) (Cell p.r 164 (kh p node nodes commit (.pointer none) false own)) w:=by
 intro V ⟨hP,hB⟩ hV
 have b2:=(hB.put 6 (.bool false)).put 5 (.pointer none)
 have j2:=fh (w.setCell ⟨p.r,6,none⟩ (.bool false)) p.r 5 (.pointer none)
 have j1:=fh w p.r 6 (.bool false)
 have f6:=hB.frozen 6
 have c6:=hB.cell 6
 have f5:=(hB.put 6 (.bool false)).frozen 5
 have c5:=(hB.put 6 (.bool false)).cell 5
 unfold kh at c5 c6
 go_enter Tryz.func85,Tryz.ntmps85
 go_wp2_with fail
 go_end0
 exact⟨rfl,⟨.inl hP,b2⟩,(j1.trans j2).imp fun b hb=>hb▸hP⟩
theorem Iz (w:World) (d node dH:Nat) (KS:node<8) (hr1:1≤dH) (hr8:dH≤8) (V:Nat→Prop) (hD:cT 133 d [] 0 w V) (hV:∀ b,V b→b<w.heap.size) :
 Calls au 23 #[ae af (node:Int),ae af (dH:Int),((d:Nat):Value)] w fun e w'=>∃ p:uq,p.d=d∧e=.returned (.pointer (some ⟨p.a,0,none⟩))∧Many (iW p (cP p.st p.z 1 (ai none 0 0) [] [] 0 (ai none 0 0)) node dH 0 4294967296 0 [] [] 1 (frame (eI 1 [1])) (frame (eI 1 [1])).length) w' (Ext V w w')∧Just V w w':=by
 have hmm:=@run_makeMap au
 have hO:=tW w d [] 0 V hD hV
 have d1:decide ((node:Int)<0)=false:=decide_eq_false al
 have d2:decide ((8:Int)≤(node:Int))=false:=decide_eq_false al
 have d3:decide ((dH:Int)<1)=false:=decide_eq_false al
 have d4:decide ((8:Int)<(dH:Int))=false:=decide_eq_false al
 go_enter Tryz.func23,Tryz.ntmps23
 go_wp2_with fail
 refine hO.mono ?_
 rintro e w1 ⟨xs,j,x,u,hs,rfl,hX,hL,hj1⟩
 obtain⟨rfl,rfl⟩:=hs.one po
 obtain⟨A1,c1,q1,rfl,hB1,hq1,N4,hcm1⟩:=hX
 have gS:q1.length=0:=by have:=congrArg List.length hq1;simpa using this
 rw[gS]
 have hL:cU x d 0 [] 0 w1 (Ext V w w1):=hL
 have hlt:∀ b,Ext V w w1 b→b<w1.heap.size:=fun b hb=>by
  rcases hb with hb|hb
  ·have:=hV b hb;have:=hj1.size;omega
  ·exact hb.2
 have Nq:=hj1.size
 have hS1:Solo (cB V w) (Many [cU x d 0 [] 0]) w1:=Solo.my (l:=[]) (V:=fun _=>False) (U:=Ext V w w1) (fun b hb => .inr al) trivial (fun b hb=>hb.elim) hL fun b hb=>⟨by
  rcases hb with hb|hb
  ·exact .inl hb
  ·exact .inr hb.1,hlt b hb,fun h=>h⟩
 have hF1:bM [cU x d 0 [] 0]:=bM.nil.cons (cU.framed _ _ _ _ _)
 have hN:=Dd w1
 go_wp2_with fail
 refine hN.mono ?_
 rintro e w2 ⟨st,z,rfl,iT,hg2⟩
 have hS2:=hS1.join hF1 hg2 iT (fun b hb=>hb)
 have hF2:=hF1.cons (cP.framed st z 0 (ai none 0 0) [] [] 0 (ai none 0 0))
 have g3:Grow w2 (w2.alloc (.map #[] 0)):=(Below.refl _ w2).alloc (aC _) _
 have m3:cJ (κ:=Int×Int×Int) mL w2.heap.size [] (w2.alloc (.map #[] 0)) (fun b=>b=w2.heap.size):=cJ.made w2
 have z3:(w2.alloc (.map #[] 0)).heap.size=w2.heap.size+1:=by simp
 obtain⟨w3,HW3⟩:∃ w3:World,Hid (w3=w2.alloc (.map #[] 0)):=⟨_,rfl⟩
 rw[←HW3.out] at g3 m3 z3
 have dO:=hS2.join hF2 g3 m3 (fun b hb=>by omega)
 have i9:=hF2.cons (cJ.framed (ke:=mL) w2.heap.size [])
 have g4:Grow w3 (w3.alloc (.map #[] 0)):=(Below.refl _ w3).alloc (aC _) _
 have m4:cJ (κ:=Int) k_ w3.heap.size [] (w3.alloc (.map #[] 0)) (fun b=>b=w3.heap.size):=cJ.made w3
 have z4:(w3.alloc (.map #[] 0)).heap.size=w3.heap.size+1:=by simp
 obtain⟨w4,Gs⟩:∃ w4:World,Hid (w4=w3.alloc (.map #[] 0)):=⟨_,rfl⟩
 rw[←Gs.out] at g4 m4 z4
 have ev:=dO.join i9 g4 m4 (fun b hb=>by omega)
 have qc:=i9.cons (cJ.framed (ke:=k_) w3.heap.size [])
 obtain⟨bT,LZ⟩:∃ b:Nat,Hid (b=w2.heap.size):=⟨_,rfl⟩
 obtain⟨bK,Ps⟩:∃ b:Nat,Hid (b=w3.heap.size):=⟨_,rfl⟩
 obtain⟨a,Ha⟩:∃ b:Nat,Hid (b=w4.heap.size):=⟨_,rfl⟩
 have hK1:bK=bT+1:=by rw[Ps.out,LZ.out];omega
 have ha1:a=bT+1+1:=by rw[Ha.out,LZ.out];omega
 rw[←LZ.out,←Ps.out] at ev qc
 have g5:=bN w4 (.cells #[ae af (node:Int),ae af (dH:Int),((x:Nat):Value),((st:Nat):Value),ae af 0,ae af 0,ae af 0,.map (some bT),.map (some bK)] 143)
 have b5:=ct.made w4 143 #[ae af (node:Int),ae af (dH:Int),((x:Nat):Value),((st:Nat):Value),ae af 0,ae af 0,ae af 0,.map (some bT),.map (some bK)]
 obtain⟨w5,Pt⟩:∃ w5:World,Hid (w5=w4.alloc (.cells #[ae af (node:Int),ae af (dH:Int),((x:Nat):Value),((st:Nat):Value),ae af 0,ae af 0,ae af 0,.map (some bT),.map (some bK)] 143)):=⟨_,rfl⟩
 rw[←Pt.out] at g5 b5
 rw[←Ha.out] at b5
 have hS5:=ev.join qc g5 (R:=Cell a 143 (ib ⟨a,st,x,d,bT,bK,z⟩ node dH 0 0 0)) (U:=fun b=>b=a) ⟨rfl,b5⟩ (fun b hb=>by have:=b5.lt;have:=Ha.out;omega)
 have J5:Just (cB V w) w w5:=(((((hj1.imp fun b hb => .inl hb).trans (Just.bJ hg2)).trans (Just.bJ g3)).trans (Just.bJ g4)).trans (Just.bJ g5))
 have hS5:Solo (cB V w) (Many (iW ⟨a,st,x,d,bT,bK,z⟩ (cP st z 0 (ai none 0 0) [] [] 0 (ai none 0 0)) node dH 0 0 0 [] [] 0 [] 0)) w5:=hS5.perm (List.perm_middle (l₁:=[_,_,_]))
 have sU:=cE ⟨a,st,x,d,bT,bK,z⟩ (cP st z 0 (ai none 0 0) [] [] 0 (ai none 0 0)) (cP.framed _ _ _ _ _ _ _ _) node dH 0 0 0 [] [] 0 [] 0
 clear hS1 hS2 dO ev hF1 hF2 i9 qc g3 g4 g5 m3 m4 z3 z4
 have Fz:=hS5.blk 1 rfl
 unfold ib at Fz
 have k3:=Fz.cell 3
 go_wp2_with fail
 rw[←HW3.out,←Gs.out,←LZ.out,←ha1,←hK1,←Pt.out]
 clear k3 ha1 hK1
 refine (Ak _ st c1 A1).mono ?_
 rintro e w6 ⟨rfl,rfl⟩
 have eC:Solo (cB V w) (Many (eR st z 0 (ai none 0 0) [] [] 0 (ai none 0 0)++[Cell a 143 (ib ⟨a,st,x,d,bT,bK,z⟩ node dH 0 0 0),cJ (κ:=Int) k_ bK [],cJ (κ:=Int×Int×Int) mL bT [],cU x d 0 [] 0])) w5:=Solo.flat hS5
 have xm:=bW (cV st z 0 (ai none 0 0) [] [] 0 (ai none 0 0)) (cE ⟨a,st,x,d,bT,bK,z⟩ cW cW.framed node dH 0 0 0 [] [] 0 [] 0).tail
 have hs6:=eC.blk 0 rfl
 unfold ov at hs6
 have s0:=hs6.cell 0
 have k3:=Fz.cell 3
 go_wp2_with (refine dp rfl _ _ _ rfl eC xm J5 0 rfl rfl (ae af 1) rfl (aQ rfl) rfl am ?_;intro w7 gB J7;refine stay ?_)
 refine bV ?_
 have gB:Solo (cB V w) (Many (eR st z 1 (ai none 0 0) [] [] 0 (ai none 0 0)++[Cell a 143 (ib ⟨a,st,x,d,bT,bK,z⟩ node dH 0 0 0),cJ (κ:=Int) k_ bK [],cJ (κ:=Int×Int×Int) mL bT [],cU x d 0 [] 0])) w7:=gB
 have wW:=bW (cV st z 1 (ai none 0 0) [] [] 0 (ai none 0 0)) (cE ⟨a,st,x,d,bT,bK,z⟩ cW cW.framed node dH 0 0 0 [] [] 0 [] 0).tail
 clear k3 s0
 have IA:=gB.blk 6 rfl
 have hs7:=gB.blk 0 rfl
 unfold ib at IA
 unfold ov at hs7
 have k3:=IA.cell 3
 have s0:=hs7.cell 0
 have hE:Calls au 69 #[ae af 1] w7 _:=wY w7 1 ak
 go_wp2_with fail
 refine hE.mono ?_
 rintro e w8 ⟨v8,rfl,mK,JQ⟩
 have u9:=gB.grows wW mK
 have J8:=J7.trans (Just.bJ mK)
 have hrl:=iL 1 [1] ak ak
 have hrl2:(eI 1 [1]).length≤20:=by simpa using hrl
 have hfl:=eS (eI 1 [1]) al
 have hW:=r8 w8 x d 0 [] (eI 1 [1]) v8 JQ ak al (by simp;omega)
 rw[aR] at hW
 have hC:=u9.at_ 9 rfl wW hW
 go_wp2_with fail
 clear k3 s0
 refine hC.mono ?_
 rintro e w9 ⟨rfl,fK,iq⟩
 obtain⟨fb,Pu⟩:∃ fb:List UInt8,Hid (fb=frame (eI 1 [1])):=⟨_,rfl⟩
 rw[←Pu.out] at iq
 have iq:Solo (cB V w) (Many (eR st z 1 (ai none 0 0) [] [] 0 (ai none 0 0)++[Cell a 143 (ib ⟨a,st,x,d,bT,bK,z⟩ node dH 0 0 0),cJ (κ:=Int) k_ bK [],cJ (κ:=Int×Int×Int) mL bT [],cU x d 1 fb fb.length])) w9:=iq
 have L_:=bW (cV st z 1 (ai none 0 0) [] [] 0 (ai none 0 0)) (cE ⟨a,st,x,d,bT,bK,z⟩ cW cW.framed node dH 0 0 0 [] [] 1 fb fb.length).tail
 have J9:=J8.trans fK
 have JR:=iq.blk 6 rfl
 have DC:=iq.blk 0 rfl
 unfold ib at JR
 unfold ov at DC
 have k3:=JR.cell 3
 have s0:=DC.cell 0
 go_wp2_with (refine dp rfl _ _ _ rfl iq L_ J9 6 rfl rfl (ae af 4294967296) rfl (aQ rfl) rfl am ?_;intro wz hSz Jz;refine stay ?_)
 refine bV ?_
 go_wp2_with fail
 go_ret
 have hSz:Solo (cB V w) (Many (eR st z 1 (ai none 0 0) [] [] 0 (ai none 0 0)++[Cell a 143 (ib ⟨a,st,x,d,bT,bK,z⟩ node dH 0 4294967296 0),cJ (κ:=Int) k_ bK [],cJ (κ:=Int×Int×Int) mL bT [],cU x d 1 fb fb.length])) wz:=hSz
 obtain⟨r1,r2⟩:=Solo.done (Solo.eG hSz) Jz hV
 rw[←Pu.out]
 exact⟨⟨a,st,x,d,bT,bK,z⟩,rfl,rfl,r1,r2⟩
end Go.Proofs.YtmijcbfgfkeodaaGreatDoor
end
