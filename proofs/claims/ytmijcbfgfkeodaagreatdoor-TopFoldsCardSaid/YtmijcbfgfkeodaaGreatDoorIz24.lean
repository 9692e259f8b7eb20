/- Qadd2, Qidx, Qdel, Qdn, Qany. -/
import Derived.Test.YtmijcbfgfkeodaaGreatDoorIz23
set_option linter.all false
set_option maxRecDepth 100000
open Go.Value renaming int → ae,slice → ai
open Go.IntKind renaming i64 → af,u64 → ah
open Go.Proofs.Tryz renaming prog → au
open List renaming setIfInBounds_toArray → aw,drop_succ_cons → ax,set_cons_zero → ay,set_cons_succ → az,drop_zero → aB,length_append → aD,not_mem_nil → aE,mem_cons → aF,length_take → aK,append_assoc → aM,getElem_mem → aO,length_map → aP,length_singleton → aT,flatMap_cons → aU,map_append → aX,flatMap_append → bd,append_nil → bf,map_cons → bg,length_drop → bh,mem_of_mem_take → bp,flatMap_nil → bB
open Nat renaming lt_of_lt_of_le → aA,le_refl → aC,le_trans → aH,mul_le_mul_right → bm,lt_or_ge → bn,min_eq_left → bF
section
namespace Go.Proofs.YtmijcbfgfkeodaaGreatDoor.Q
open Go.RowKit Go.Hop
def nr (B:Nat) (seq:Int) (ds:List Dl) (u:Value) (w:World):Prop:=
 ∃ (b:fk) (H:Nat),b.seq=seq∧b.ds=ds∧u=.agg #[ae af b.seq,.slice b.A b.m b.c]∧fe w (fun x=>B≤x∧x<H) b∧H≤w.heap.size
def nt (B:Nat) (seq:Int) (ds:List Dl) (u:Value) (w:World):Prop:=
 ∃ (b:fk) (H:Nat) (A:Option Addr),b.seq=seq∧b.ds=ds∧u=.slice A 1 1∧In w (fun x=>B≤x) 2 A 1 b.cells∧fe w (fun x=>B≤x∧x<H) b∧H≤w.heap.size
def Fin (R:Nat→Prop) (B:Nat) (q:List fk) (seq:Int) (ds:List Dl) (u:Value) (w:World):Prop:=
 ∃ (b:fk) (R' D':Nat→Prop),b.seq=seq∧b.ds=ds∧Row w R' 159 2 u (q.length+1) ((q++[b]).flatMap fk.cells)∧fe w D' b∧
   (∀ x,R' x→(R x∨B≤x)∧x<w.heap.size∧¬ D' x)∧(∀ x,D' x→B≤x∧x<w.heap.size)
def yu (R:Nat→Prop) (g B:Nat) (Z:Nat→Prop) (A:Option Addr) (m:Nat) (v:Value) (q:List fk) (last seq:Int) (ds:List Dl):cQ where
 G:=Just fun b=>R b∨b=g
 T := fun k=>match k with
   | 0=>Just R
   | _=>Just fun b=>b=g
 I := fun k w=>match k with
   | 0=>Row w R 159 2 v q.length (q.flatMap fk.cells)∧ct w g 253 #[v,.int .i64 last]∧fV w Z A m ds
   | 1=>ct w g 253 #[v,.int .i64 last]
   | 2=>∃ u,ct w g 253 #[u,.int .i64 last]∧Fin R B q seq ds u w
   | _=>∃ u,ct w g 253 #[u,.int .i64 seq]∧Fin R B q seq ds u w
 muts:=[9,14,17]
 stage:=fun j=>if j=5 then some 0 else if j=7 then some 0 else if j=9 then some 0 else if j=14 then some 1 else if j=17 then some 2 else none
section
variable {R Z:Nat→Prop} {g B:Nat} {A:Option Addr} {m:Nat} {v:Value} {q:List fk} {last seq:Int} {ds:List Dl}
theorem D6 (hgR:¬ R g) (hgB:g<B) {x:Nat} (h1:R x∨B≤x) (h2:x=g):False:=by
 rw[h2] at h1
 rcases h1 with h1|h1
 ·exact hgR h1
 ·omega
theorem Fin.just {U:Nat→Prop} {u:Value} {w w':World} (h:Fin R B q seq ds u w) (hj:Just U w w') (hd:∀ x,x<w.heap.size→(R x∨B≤x)→¬ U x):Fin R B q seq ds u w':=by
 obtain⟨b,R',D',h1,h2,h3,h4,h5,h6⟩:=h
 exact⟨b,R',D',h1,h2,h3.just hj fun x hx=>hd x (h5 x hx).2.1 (h5 x hx).1,h4.just hj fun x hx=>hd x (h6 x hx).2 (.inr (h6 x hx).1),fun x hx=>⟨(h5 x hx).1,aA (h5 x hx).2.1 hj.size,(h5 x hx).2.2⟩,fun x hx=>⟨(h6 x hx).1,aA (h6 x hx).2 hj.size⟩⟩
theorem Fin.grow {u:Value} {w w':World} (h:Fin R B q seq ds u w) (hg:Grow w w'):Fin R B q seq ds u w':=
 h.just (U:=fun _=>False) (Just.bJ hg) fun _ _ _ h=>h
theorem D7 (pS:∀ x,R x→x<B) (hgR:¬ R g):(yu R g B Z A m v q last seq ds).Ok:=by
 refine⟨fun _ _ _=>Just.trans,fun _ _ h=>Just.bJ h,fun k a b h=>?_,fun k a b h hg=>?_⟩
 ·rcases k with _|k
  ·exact Just.imp h fun _ => .inl
  ·exact Just.imp h fun _ => .inr
 ·rcases k with _|_|_|k
  ·exact⟨h.1.grow hg,ct.grow h.2.1 hg,In.grow h.2.2 hg⟩
  ·exact ct.grow h hg
  ·obtain⟨u,h1,h2⟩:=h;exact⟨u,ct.grow h1 hg,h2.grow hg⟩
  ·obtain⟨u,h1,h2⟩:=h;exact⟨u,ct.grow h1 hg,h2.grow hg⟩
def Past (B:Nat) (φ:Value→World→Prop):Prop:=∀ u w w',φ u w→Just (fun b=>b<B) w w'→φ u w'
theorem nP (pS:∀ x,R x→x<B) (hgB:g<B) {φ:Value→World→Prop} (h:Past B φ):jl (yu R g B Z A m v q last seq ds) (fun _ u w=>φ u w):=fun k u w w' hu=>by
 refine⟨fun hg=>h u w w' hu (Just.bJ hg),fun _ ht=>?_⟩
 rcases k with _|k
 ·exact h u w w' hu (Just.imp ht pS)
 ·exact h u w w' hu (Just.imp ht fun b hb=>by rw[hb];exact hgB)
theorem sv (B:Nat) (seq:Int) (ds:List Dl):Past B (nr B seq ds):=fun u w w' hu hj=>by
 obtain⟨b,H,h1,h2,h3,h4,h5⟩:=hu
 exact⟨b,H,h1,h2,h3,h4.just hj fun x hx=>by omega,aH h5 hj.size⟩
theorem sw (B:Nat) (seq:Int) (ds:List Dl):Past B (nt B seq ds):=fun u w w' hu hj=>by
 obtain⟨b,H,A,h1,h2,h3,h4,h5,h6⟩:=hu
 exact⟨b,H,A,h1,h2,h3,h4.just hj fun x hx=>by omega,h5.just hj fun x hx=>by omega,aH h6 hj.size⟩
theorem zJ (pS:∀ x,R x→x<B) (hgR:¬ R g) (hgB:g<B):jl (yu R g B Z A m v q last seq ds) (Once (fun u w=>Fin R B q seq ds u w)):=fun k u w w' hu=>by
 rcases k with _|k
 ·exact hu.elim
 ·exact⟨fun hg=>Fin.grow hu hg,fun _ ht=>Fin.just hu ht fun x _ h1 (h2:x=g)=>D6 hgR hgB h1 h2⟩
theorem ug {w:World} {b:fk} {seq:Int} {ds:List Dl} {B:Nat} {args:Array Value} (hB:b.seq=seq∧b.ds=ds)
 (h:Calls au 226 args w fun e w'=>∃ A',e=.returned (.agg #[ae af b.seq,.slice A' b.m b.m])∧fe w' (New w w') ⟨b.seq,A',b.m,b.m,b.ds⟩∧Grow w w') (hs:B≤w.heap.size) :
 Calls au 226 args w fun e w'=>∃ u,e=.returned u∧Grow w w'∧nr B seq ds u w':=by
 obtain⟨h2,h3⟩:=hB
 refine h.mono fun e w' ⟨A',he,hb1,hg⟩=>⟨_,he,hg,⟨⟨b.seq,A',b.m,b.m,b.ds⟩,w'.heap.size,h2,h3,rfl,hb1.mono fun x hx=>⟨aH hs hx.1,hx.2⟩,aC _⟩⟩
theorem sx {w:World} {u:Value} {ρ:Operand→Value} {o:Oper} {x:Operand} (h:nr B seq ds u w) (hs:B≤w.heap.size) (h1:ρ x=u) (ho:o.op=.buildSlice 156 1 #[(0,x)]) :
 cz au (fun v w'=>Grow w w'∧nt B seq ds v w') ((execOp ρ o).run au w):=by
 obtain⟨dst,op,ty,pos,after,guard⟩:=o
 simp only at ho
 subst ho
 obtain⟨b,H,e1,e2,rfl,hb,hH⟩:=h
 have hg:Grow w (w.alloc (.cells #[ae af b.seq,.slice b.A b.m b.c] 159)):=(Below.refl _ w).alloc (aC _) _
 refine cF (u := .slice (some ⟨w.heap.size,0,none⟩) 1 1) (w:=w.alloc (.cells #[ae af b.seq,.slice b.A b.m b.c] 159)) (by go_simp) ⟨hg,b,H,some ⟨w.heap.size,0,none⟩,e1,e2,rfl,?_,hb.grow hg,aH hH hg.size⟩
 obtain⟨h3,h4⟩:=df w #[ae af b.seq,.slice b.A b.m b.c] 159 (0,0) (n:=1) (size:=2) rfl _ rfl
 exact⟨h3,fun hn=>⟨_,rfl,hs,by simp,by obtain⟨ad,e,_,hc⟩:=h4 hn;injection e with e;rw[e];exact hc⟩⟩
theorem lG {w:World} {u:Value} {ρ:Operand→Value} {o:Oper} {x y:Operand} {A0:Option Addr} {c0:Nat} (pS:∀ x,R x→x<B) (hgR:¬ R g) (h:Row w R 159 2 (.slice A0 q.length c0) q.length (q.flatMap fk.cells)) (hg:ct w g 253 #[.slice A0 q.length c0,ae af last]) (hq:q.length<16) (hu:nt B seq ds u w) (hBw:B≤w.heap.size)
 (h1:ρ x=.slice A0 q.length c0) (h2:ρ y=u) (ho:o.op=.call { callee := .builtin .append,args:=#[x,y],argTypes:=#[156,156] }) :
 cz au (fun v w'=>Just R w w'∧ct w' g 253 #[.slice A0 q.length c0,ae af last]∧Fin R B q seq ds v w') ((execOp ρ o).run au w):=by
 obtain⟨b,H,A,e1,e2,rfl,hI,hb,hH⟩:=hu
 refine fm px ho h1 h h2 hI.reads (su b) al fun v' w' hR hj=>⟨hj,hj.blk hg hgR,b,Ext R w w',fun x=>B≤x∧x<H,e1,e2,?_,hb.just hj fun x hx hr=>?_,fun x hx=>?_,fun x hx=>⟨hx.1,aA hx.2 (aH hH hj.size)⟩⟩
 ·rw[bd,aU,bB,bf];exact hR
 ·have h3:B≤x:=hx.1;have:=pS x hr;omega
 ·rcases hx with hx|hx
  ·have:=pS x hx
   exact⟨.inl hx,by have:=hj.size;omega,fun hd=>by have h3:B≤x:=hd.1;omega⟩
  ·exact⟨.inr (by have:=hx.1;omega),hx.2,fun hd=>by have:=hx.1;have h3:x<H:=hd.2;omega⟩
theorem x8 {w:World} {u:Value} {ρ:Operand→Value} {o:Oper} {x y:Operand} (hgR:¬ R g) (hgB:g<B) (h:ct w g 253 #[v,ae af last]) (hu:Fin R B q seq ds u w)
 (h1:ρ x=((g:Nat):Value)) (h2:ρ y=u) (ho:o.op=.store 156 x y) :
 cz au (fun v w'=>v=undef∧Just (fun b=>b=g) w w'∧∃ u,ct w' g 253 #[u,ae af last]∧Fin R B q seq ds u w') ((execOp ρ o).run au w):=by
 obtain⟨dst,op,ty,pos,after,guard⟩:=o
 simp only at ho
 subst ho
 have hj:=fh w g 0 u
 have hf:=hu.just hj fun x _ h1 (h2:x=g)=>D6 hgR hgB h1 h2
 obtain⟨b,R',D',e1,e2,hR,_⟩:=hu
 obtain⟨A,c,rfl,_⟩:=hR.fw
 have f0:=h.frozen 0
 have c0:=h.cell 0
 exact lp (w':=w.setCell ⟨g,0,none⟩ (.slice A (q.length+1) c)) (by go_simp) ⟨rfl,hj,_,h.put 0 _,hf⟩
theorem x9 {w:World} {ρ:Operand→Value} {o:Oper} {x y:Operand} (hgR:¬ R g) (hgB:g<B) (h:∃ u,ct w g 253 #[u,ae af last]∧Fin R B q seq ds u w)
 (h1:ρ x=.pointer (some ⟨g,1,none⟩)) (h2:ρ y=ae af seq) (ho:o.op=.store 2 x y) :
 cz au (fun v w'=>v=undef∧Just (fun b=>b=g) w w'∧∃ u,ct w' g 253 #[u,ae af seq]∧Fin R B q seq ds u w') ((execOp ρ o).run au w):=by
 obtain⟨dst,op,ty,pos,after,guard⟩:=o
 simp only at ho
 subst ho
 obtain⟨u,hB,hu⟩:=h
 have hj:=fh w g 1 (ae af seq)
 have hf:=hu.just hj fun x _ h1 (h2:x=g)=>D6 hgR hgB h1 h2
 have f0:=hB.frozen 1
 have c0:=hB.cell 1
 exact lp (w':=w.setCell ⟨g,1,none⟩ (ae af seq)) (by go_simp) ⟨rfl,hj,u,hB.put 1 _,hf⟩
end
theorem Ic (w:World) (Z:Nat→Prop) (g:Nat) (l:List Ab) (last seq:Int) (A:Option Addr) (m c:Nat) (ds:List Dl) (hd0:fV w Z A m ds) (hmc:m≤c) (hcm:c≤maxLen) (ha:¬ seq<1) (hb:¬ seq≤last) (hc:0<m) (hd:m≤8) (hl:l.length<16) :
 Turns au 222 #[((g:Nat):Value),.agg #[ae af seq,.slice A m c]] (fun e=>e=.returned (ae af 0)) (ck g l last) (ck g (l++[(seq,ds)]) seq) w:=by
 intro V hQ hV
 have hQ':=hQ
 obtain⟨h1,v,q,R,D,gS,h3,hB,i6,h6,h7,h8⟩:=hQ
 obtain⟨A0,c0,rfl,hI,hnc,hm0⟩:=i6.fw
 have hga:Grow w (w.alloc (.cells #[ae af seq,.slice A m c] 159)):=(Below.refl w.heap.size w).alloc (aC _) _
 have gl:=ct.made w 159 #[ae af seq,.slice A m c]
 obtain⟨x,HX⟩:∃ x:Nat,Hid (x=w.heap.size):=⟨_,rfl⟩
 obtain⟨wa,HA⟩:∃ wa:World,Hid (wa=w.alloc (.cells #[ae af seq,.slice A m c] 159)):=⟨_,rfl⟩
 have hsa:wa.heap.size=x+1:=by rw[HA.out,HX.out];simp
 have JM:=Lib.hid hsa
 clear hsa
 rw[←HA.out] at hga
 have hBx:ct wa x 159 #[ae af seq,.slice A m c]:=by rw[HA.out,HX.out];exact gl
 clear gl
 have ou:=hB.grow hga
 have D5:q.length<16:=by rw[←gS,aP] at hl;exact hl
 go_enter Tryz.func222,Tryz.ntmps222
 go_wp2_with fail
 rw[←HA.out,←HX.out]
 refine bL 25 53 [] rfl rfl am am am ?_ ?_
 ·intro x hx φ he
  cases hx
 intro ops' A' K' T hops hA' hK hT
 refine bQ 6 (.tmp 3) (((x:Nat):Value)) (((x:Nat):Value)) ?_
 refine bI 7 (.tmp 6) (((x:Nat):Value)) (ae af seq) (fun ρ h1 kk w1 (hg:Grow _ w1) hb hf=>by have c:=(hBx.grow hg).cell 0;go_simp) ?_
 refine cm 8 (.tmp 7) (.const (ae af 1)) (ae af seq) (ae af 1) (.bool false) (fun ρ h1 h2 kk w1 (hg:Grow _ w1) hb hf=>by first|(go_simp;done)|(go_simp;omega)) ?_
 refine bP 9 (.bool false) ?_
 refine bX 10 (cx hops 3 false 9 false) (.tmp 3) (((x:Nat):Value)) (((x:Nat):Value)) (fun ρ h1 kk w1 (hg:Grow _ w1) hb hf=>by go_simp) ?_
 refine bX 11 (cx hops 3 false 9 false) (.tmp 10) (((x:Nat):Value)) (ae af seq) (fun ρ h1 kk w1 (hg:Grow _ w1) hb hf=>by have c:=(hBx.grow hg).cell 0;go_simp) ?_
 refine da 12 (cx hops 3 false 9 false) (((g:Nat):Value)) ?_
 refine bX 13 (cx hops 3 false 9 false) (.tmp 12) (((g:Nat):Value)) (((g:Nat):Value)) (fun ρ h1 kk w1 (hg:Grow _ w1) hb hf=>by go_simp) ?_
 refine bX 14 (cx hops 3 false 9 false) (.tmp 13) (((g:Nat):Value)) (.pointer (some ⟨g,1,none⟩)) (fun ρ h1 kk w1 (hg:Grow _ w1) hb hf=>by go_simp) ?_
 refine bX 15 (cx hops 3 false 9 false) (.tmp 14) (.pointer (some ⟨g,1,none⟩)) (ae af last) (fun ρ h1 kk w1 (hg:Grow _ w1) hb hf=>by have c:=(ou.grow hg).cell 1;go_simp) ?_
 refine dc 16 (cx hops 3 false 9 false) (.tmp 11) (.tmp 15) (ae af seq) (ae af last) (.bool false) (fun ρ h1 h2 kk w1 (hg:Grow _ w1) hb hf=>by first|(go_simp;done)|(go_simp;omega)) ?_
 refine cG 17 false (.bool false) ?_
 refine bP 18 (.bool false) ?_
 refine bX 19 (cx hops 12 false 18 false) (.tmp 3) (((x:Nat):Value)) (.pointer (some ⟨x,1,none⟩)) (fun ρ h1 kk w1 (hg:Grow _ w1) hb hf=>by go_simp) ?_
 refine bX 20 (cx hops 12 false 18 false) (.tmp 19) (.pointer (some ⟨x,1,none⟩)) (.slice A m c) (fun ρ h1 kk w1 (hg:Grow _ w1) hb hf=>by have c:=(hBx.grow hg).cell 1;go_simp) ?_
 refine bX 21 (cx hops 12 false 18 false) (.tmp 20) (.slice A m c) (ae af (m:Int)) (fun ρ h1 kk w1 (hg:Grow _ w1) hb hf=>by go_simp) ?_
 refine dc 22 (cx hops 12 false 18 false) (.tmp 21) (.const (ae af 0)) (ae af (m:Int)) (ae af 0) (.bool false) (fun ρ h1 h2 kk w1 (hg:Grow _ w1) hb hf=>by first|(go_simp;done)|(go_simp;omega)) ?_
 refine cG 23 false (.bool false) ?_
 refine bP 24 (.bool false) ?_
 refine bX 25 (cx hops 18 false 24 false) (.tmp 3) (((x:Nat):Value)) (.pointer (some ⟨x,1,none⟩)) (fun ρ h1 kk w1 (hg:Grow _ w1) hb hf=>by go_simp) ?_
 refine bX 26 (cx hops 18 false 24 false) (.tmp 25) (.pointer (some ⟨x,1,none⟩)) (.slice A m c) (fun ρ h1 kk w1 (hg:Grow _ w1) hb hf=>by have c:=(hBx.grow hg).cell 1;go_simp) ?_
 refine bX 27 (cx hops 18 false 24 false) (.tmp 26) (.slice A m c) (ae af (m:Int)) (fun ρ h1 kk w1 (hg:Grow _ w1) hb hf=>by go_simp) ?_
 refine dc 28 (cx hops 18 false 24 false) (.tmp 27) (.const (ae af 8)) (ae af (m:Int)) (ae af 8) (.bool false) (fun ρ h1 h2 kk w1 (hg:Grow _ w1) hb hf=>by first|(go_simp;done)|(go_simp;omega)) ?_
 refine cG 29 false (.bool false) ?_
 refine bP 5 (.bool false) ?_
 refine ce (fun _ _ w1 (hg:Grow _ w1) _ bR=>hT _ _ ?_)
 clear hops hA' hK hT
 simp only[cj,Act.put,aw,ay,az,ax,aB]
 have c00:=(ou.grow hg).cell 0
 go_wp2_with fail
 have hgw:=hga.trans hg
 have D8:=i6.grow hgw
 have KL:=ou.grow hg
 have hBx1:=hBx.grow hg
 have hin1:∀ b∈q,fe w1 D b:=fun b hb=>(h6 b hb).grow hgw
 have hd1:=In.grow hd0 hgw
 have hxB:=hBx1.lt
 have hgB:g<w1.heap.size:=KL.lt
 have hgR:¬ R g:=fun h=>(h7 g h).2.1 rfl
 have hxw:w.heap.size≤x:=by have:=HX.out;omega
 have Ie:∀ x,R x→x<w.heap.size:=fun b hb=>hV b (h7 b hb).1
 have pS:∀ x,R x→x<w1.heap.size:=fun b hb=>aA (Ie b hb) hgw.size
 have hxn:¬ (R x∨x=g):=fun h=>by
  rcases h with h|h
  ·have:=Ie x h;omega
  ·have:=hB.lt;omega
 have rQ:∀ x,D x→¬ (R x∨x=g):=fun b hb h=>by
  rcases h with h|h
  ·exact (h7 b h).2.2 hb
  ·exact (h8 b hb).2 h
 obtain⟨B,JN⟩:∃ B:Nat,Hid (B=w1.heap.size):=⟨_,rfl⟩
 have HB:∀ w2,Just (fun b=>R b∨b=g) w1 w2→B≤w2.heap.size:=fun w2 h=>JN.out▸h.size
 have hBw:=JN.out
 rw[←hBw] at hgB pS
 have hBx:=hBx1
 have Ng:=hgw
 have Nh:w.heap.size≤B:=by rw[hBw];exact hgw.size
 clear ou hga h6 c00 hB hg hgw hBw
 have Ni:∀ (vs:Array Value) (w:World),(callFunc 226 vs).run au w=.ok (.enter 226 vs) w:=fun vs w=>by go_simp
 refine c_ rfl ?_
 refine er (yu R g B Z A m (.slice A0 q.length c0) q last seq ds) (D7 pS hgR) 0 18 53 [(7,.inr (fun _ u w=>nr B seq ds u w)),(8,.inr (fun _ u w=>nt B seq ds u w)),(9,.inr (Once (fun u w=>Fin R B q seq ds u w))),(14,.inl (undef)),(17,.inl (undef))] rfl am am am ?_ (Just.bJ (Grow.refl _).drew) ⟨D8,KL,hd1⟩ ?_
 ·intro x hx φ he
  simp only[aF,aE,or_false] at hx
  rcases hx with rfl|rfl|rfl|rfl|rfl<;>cases he
  all_goals first|exact ca (cn _)|exact nP pS hgB (sv B seq ds)|exact nP pS hgB (sw B seq ds)|exact zJ pS hgR hgB
 intro ops' A' K' T hops hA' hK hT
 refine bP 37 (((g:Nat):Value)) ?_
 refine bP 38 (((g:Nat):Value)) ?_
 refine bP 39 (((g:Nat):Value)) ?_
 refine bI 40 (.tmp 39) (((g:Nat):Value)) (((g:Nat):Value)) (fun ρ h1 kk w1 (hg:Just (fun b=>R b∨b=g) _ w1) hb hf=>by go_simp) ?_
 refine bI 41 (.tmp 40) (((g:Nat):Value)) (((g:Nat):Value)) (fun ρ h1 kk w1 (hg:Just (fun b=>R b∨b=g) _ w1) hb hf=>by go_simp) ?_
 refine bI 42 (.tmp 41) (((g:Nat):Value)) (.slice A0 q.length c0) (fun ρ h1 kk w1 (hg:Just (fun b=>R b∨b=g) _ w1) hb hf=>by obtain rfl:=cw 0 aj hb;have hI:=hb.1;have c:=hI.2.1.cell 0;go_simp) ?_
 refine bI 43 (.tmp 3) (((x:Nat):Value)) (.agg #[ae af seq,.slice A m c]) (fun ρ h1 kk w1 (hg:Just (fun b=>R b∨b=g) _ w1) hb hf=>by have hx:=hg.blk hBx (fun h=>hxn h);have e0:=hx.cell 0;have e1:=hx.cell 1;go_simp) ?_
 refine cH 44 aj ak (bO aj) (fun _ u w=>nr B seq ds u w) (by rw[hK.out];rfl) 226 _ _ aj [.agg #[ae af seq,.slice A m c]] aj Ni (fun kk w1 (hg:Just (fun b=>R b∨b=g) _ w1) hb hf=>cr (φ:=fun _ u w=>nr B seq ds u w) aj (by obtain rfl:=cw 0 aj hb;have hI:=hb.1;exact ug (b:=⟨seq,A,m,c,ds⟩) ⟨rfl,rfl⟩ (mB w1 Z ⟨seq,A,m,c,ds⟩ ⟨hI.2.2,hmc,hcm,hd⟩) (HB w1 hg))) (fun v44=>?_)
 refine fE 45 aj ak (bO aj) (fun _ u w=>nt B seq ds u w) (by rw[hK.out];rfl) (.tmp 44) (v44) aj (fun ρ h1 kk w1 (hg:Just (fun b=>R b∨b=g) _ w1) hb hf=>by refine cA (φ:=fun _ u w=>nt B seq ds u w) aj ?_;exact sx (cy hf (by rw[hA'.out];kernel_rfl)) (HB w1 hg) h1 rfl) (fun v45=>?_)
 refine gv 46 aj ak (bO aj) (Once (fun u w=>Fin R B q seq ds u w)) (by rw[hK.out];rfl) (.tmp 42) (.tmp 45) (.slice A0 q.length c0) (v45) aj aj (fun ρ h1 h2 kk w1 (hg:Just (fun b=>R b∨b=g) _ w1) hb hf=>by obtain rfl:=cw 0 aj hb;have hI:=hb.1;refine jE (φ:=Once (fun u w=>Fin R B q seq ds u w)) 0 aj ?_;exact lG pS hgR hI.1 hI.2.1 D5 (cy hf (by rw[hA'.out];kernel_rfl)) (HB w1 hg) h1 h2 rfl) (fun v46=>?_)
 refine bI 47 (.tmp 3) (((x:Nat):Value)) (((x:Nat):Value)) (fun ρ h1 kk w1 (hg:Just (fun b=>R b∨b=g) _ w1) hb hf=>by go_simp) ?_
 refine bI 48 (.tmp 47) (((x:Nat):Value)) (ae af seq) (fun ρ h1 kk w1 (hg:Just (fun b=>R b∨b=g) _ w1) hb hf=>by have c:=(hg.blk hBx (fun h=>hxn h)).cell 0;go_simp) ?_
 refine bI 49 (.tmp 37) (((g:Nat):Value)) (((g:Nat):Value)) (fun ρ h1 kk w1 (hg:Just (fun b=>R b∨b=g) _ w1) hb hf=>by go_simp) ?_
 refine bI 50 (.tmp 49) (((g:Nat):Value)) (((g:Nat):Value)) (fun ρ h1 kk w1 (hg:Just (fun b=>R b∨b=g) _ w1) hb hf=>by go_simp) ?_
 refine mO aj (bO aj) (undef) (by rw[hK.out];rfl) (.tmp 50) (.tmp 46) (((g:Nat):Value)) (v46) aj aj (fun ρ h1 h2 kk w1 (hg:Just (fun b=>R b∨b=g) _ w1) hb hf=>by obtain rfl:=cw 1 aj hb;have hI:=hb.1;refine gJ 1 aj ?_;exact x8 hgR hgB hI (cy hf (by rw[hA'.out];kernel_rfl)) h1 h2 rfl) ?_
 refine bI 51 (.tmp 38) (((g:Nat):Value)) (((g:Nat):Value)) (fun ρ h1 kk w1 (hg:Just (fun b=>R b∨b=g) _ w1) hb hf=>by go_simp) ?_
 refine bI 52 (.tmp 51) (((g:Nat):Value)) (.pointer (some ⟨g,1,none⟩)) (fun ρ h1 kk w1 (hg:Just (fun b=>R b∨b=g) _ w1) hb hf=>by go_simp) ?_
 refine mO aj (bO aj) (undef) (by rw[hK.out];rfl) (.tmp 52) (.tmp 48) (.pointer (some ⟨g,1,none⟩)) (ae af seq) aj aj (fun ρ h1 h2 kk w1 (hg:Just (fun b=>R b∨b=g) _ w1) hb hf=>by obtain rfl:=cw 2 aj hb;have hI:=hb.1;refine gJ 2 aj ?_;exact x9 hgR hgB hI h1 h2 rfl) ?_
 refine ce (fun _ _ w1 (hg:Just (fun b=>R b∨b=g) _ w1) hend bR=>hT _ _ ?_)
 clear hops hA' hK hT
 simp only[cj,Act.put,aw,ay,az]
 refine eY ?_
 have hE:∃ u,ct w1 g 253 #[u,ae af seq]∧Fin R B q seq ds u w1:=hend
 obtain⟨u,QV,b,R',D',e1,e2,hR',hb',LW,Gh⟩:=hE
 clear hend bR
 go_wp2_with fail
 go_ret
 have QW:Just (fun b=>R b∨b=g) w w1:=(Just.bJ Ng).trans hg
 refine⟨rfl,⟨.inl h1,u,q++[b],R',fun x=>D x∨D' x,?_,?_,QV,?_,fun b' hb=>?_,fun x hx=>?_,fun x hx=>?_⟩,QW.imp fun x hx=>?_⟩
 ·rw[aX,gS,bg,List.map_nil];simp only[fk.abs,e1,e2]
 ·rw[aD,aT];omega
 ·rw[aD,aT];exact hR'
 ·rcases List.mem_append.1 hb with h|h
  ·exact ((hin1 b' h).just hg rQ).mono fun _ => .inl
  ·rw[List.mem_singleton.1 h];exact hb'.mono fun _ => .inr
 ·have h2:=LW x hx
  refine⟨?_,?_,fun h=>?_⟩
  ·rcases h2.1 with h|h
   ·exact .inl (h7 x h).1
   ·exact .inr ⟨by have:=Nh;omega,h2.2.1⟩
  ·rcases h2.1 with h|h
   ·exact (h7 x h).2.1
   ·omega
  ·rcases h with h|h
   ·rcases h2.1 with h3|h3
    ·exact (h7 x h3).2.2 h
    ·have:=hV x (h8 x h).1;have:=Nh;omega
   ·exact h2.2.2 h
 ·rcases hx with h|h
  ·exact⟨.inl (h8 x h).1,(h8 x h).2⟩
  ·have h2:=Gh x h
   exact⟨.inr ⟨by have:=Nh;omega,h2.2⟩,by have:=h2.1;omega⟩
 ·rcases hx with h|h
  ·exact (h7 x h).1
  ·rw[h];exact h1
theorem rj (w:World) (sq s:Int) (sl:Value) (y:Nat) (hs1:sl.oneCell'=true) (hy:ct w y 2 #[ae af s]) :
 Calls au 323 #[.agg #[ae af sq,sl],((y:Nat):Value)] w fun e w'=>e=.returned (.bool (sq == s))∧Grow w w':=by
 have hga:Grow w (w.alloc (.cells #[ae af sq,sl] 159)):=(Below.refl w.heap.size w).alloc (aC _) _
 have c0:=(hy.grow hga).cell 0
 go_enter Tryz.func323,Tryz.ntmps323
 go_wp2_with fail
 go_ret
 exact⟨rfl,hga⟩
def Idx (q:List fk) (s r:Int):Prop:=(r=-1∧∀ b∈q,b.seq≠s)∨∃ (i:Nat) (h:i<q.length),r=(i:Int)∧q[i].seq=s∧∀ (j:Nat) (hj:j<q.length),j<i→q[j].seq≠s
theorem qf (w:World) (V D:Nat→Prop) (A:Option Addr) (n c:Nat) (q:List fk) (h:km w V D A n q) (hn:n≤1024) (s:Int) (y:Nat) (hy:ct w y 2 #[ae af s]) :
 Calls au 322 #[.slice A n c,.func (.func 323) #[] #[((y:Nat):Value)]] w fun e w'=>∃ r,e=.returned (ae af r)∧Idx q s r∧Grow w w':=by
 have gS:=h.len
 go_enter Tryz.func322,Tryz.ntmps322
 go_wp2_with fail
 go_loopw [8] (fun i wr=>∃ k:Nat,k≤n∧i=ae af k∧(∀ (j:Nat) (hj:j<q.length),j<k→q[j].seq≠s)∧Grow w wr) (fun i _=>n-(intOf i).toNat)
 case atStart=>exact⟨0,by omega,rfl,fun j hj h0=>absurd h0 al,Grow.refl _⟩
 case round=>
  obtain⟨k,hkn,rfl,hne,hg⟩:=hrel
  by_cases hk:k<n
  ·obtain⟨ad,hkq,rfl,hV,hB,e0,e1⟩:=(h.row.grow hg).iS al jU hk
   have e0:=e0 _ rfl
   have e1:=e1 0 _ rfl
   have hkne:q[k].seq≠s→∀ (j:Nat) (hj:j<q.length),j<k+1→q[j].seq≠s:=fun h0 j hj hjk=>by
    rcases bn j k with h1|h1
    ·exact hne j hj h1
    ·have:j=k:=by omega
     subst this;exact h0
   have hke:q[k].seq=s→Idx q s (k:Int):=fun h0 => .inr ⟨k,hkq,rfl,h0,hne⟩
   have HE:=Lib.hid hke
   have HN:=Lib.hid hkne
   clear hke hkne hne
   generalize q[k].seq=sq at e0 HE HN
   generalize q[k].c=cc at e1
   by_cases hs:sq=s
   ·have hb:(sq == s)=true:=by rw[hs];exact beq_self_eq_true s
    have HI:=HE.out hs
    clear hs HE HN
    go_wp2_with (go_at_call 323;refine (rj _ sq s _ y rfl (hy.grow hg)).mono ?_;rintro e w2 ⟨rfl,hg2⟩)
    go_ret
    exact⟨_,rfl,HI,hg.trans hg2⟩
   ·have hb:(sq == s)=false:=beq_eq_false_iff_ne.2 hs
    have HI:=Lib.hid (HN.out hs)
    clear hs HE HN
    go_wp2_with (go_at_call 323;refine (rj _ sq s _ y rfl (hy.grow hg)).mono ?_;rintro e w2 ⟨rfl,hg2⟩)
    go_roundw
    case rel=>exact⟨k+1,by omega,by go_num,HI.out,hg.trans hg2⟩
    case measure=>simp[intOf];omega
  ·obtain rfl:k=n:=by omega
   go_wp2_with fail
   go_ret
   refine⟨_,rfl,.inl ⟨rfl,fun b hb=>?_⟩,hg⟩
   obtain⟨i,hi,rfl⟩:=List.mem_iff_getElem.1 hb
   exact hne i hi al
theorem lT (w:World) (R:Nat→Prop) (A:Option Addr) (n c i:Nat) (xs:List Value) (h:Row w R 159 2 (.slice A n c) n xs) (hi:i<n) (hn:n≤1048576) (hx1:∀ u∈xs,u.oneCell'=true) :
 Calls au 324 #[.slice A n c,ae af (i:Int),ae af ((i:Int)+1)] w fun e w'=>e=.returned (.slice A (n-1) c)∧Row w' R 159 2 (.slice A (n-1) c) (n-1) (xs.take (i*2)++xs.drop ((i+1)*2))∧Just R w w':=by
 obtain⟨hlen,h|⟨g,cap,cur,e1,hV,hg,hnc,hm,hsz,htk⟩⟩:=h
 ·omega
 injection e1 with e1 _ e3
 subst e1 e3
 obtain⟨A2,HA2⟩:∃ A2:Option Addr,Hid (A2=if c=i+1 then some ⟨g,0,none⟩ else some ⟨g,(i+1)*2,none⟩):=⟨_,rfl⟩
 have hdl:(xs.drop ((i+1)*2)).length=(n-(i+1))*2:=by rw[bh,hlen];omega
 have hcell:∀ j,w.cell? ⟨g,j,none⟩=cur[j]?:=fun j=>cell_of_row w g j cur 159 (0,0) hg
 have hcx:∀ j u,xs[j]?=some u→cur[j]?=some u:=fun j u hu=>by
  rw[←htk,List.getElem?_take] at hu
  split at hu
  ·simpa using hu
  ·cases hu
 have hfz:∀ j,w.frozen? ⟨g,j,none⟩=false:=fun j=>ct.frozen (show ct w g 159 cur from hg) j
 have hrd:∀ w1,Grow w w1→Reads w1 w1.heap.size 2 A2 (n-(i+1)) (xs.drop ((i+1)*2)):=fun w1 hgr=>by
  refine⟨hdl,fun hpos=>⟨⟨g,(i+1)*2,none⟩,by rw[HA2.out,if_neg al],aA (Array.getElem?_eq_some_iff.1 hg).1 hgr.size,fun j u hu=>?_⟩⟩
  rw[List.getElem?_drop] at hu
  rw[Addr.add_lit,hgr.cell (show g<w.heap.size from (Array.getElem?_eq_some_iff.1 hg).1),hcell]
  exact hcx _ u hu
 have hci:¬ c<i:=by omega
 have hni:¬ (n:Int)<(i:Int)+1:=by omega
 have Nj:¬ (i:Int)+1<0:=by omega
 have hgw:=hg
 go_enter Tryz.func324,Tryz.ntmps324
 go_wp2_with fail
 refine bL 6 33 [] rfl rfl am am am ?_ ?_
 ·intro x hx φ he
  cases hx
 intro ops' A' K' T hops hA' hK hT
 refine bP 20 (.slice (some ⟨g,0,none⟩) n c) ?_
 refine bP 21 (ae af (i:Int)) ?_
 refine cm 22 (.tmp 20) (.tmp 21) (.slice (some ⟨g,0,none⟩) n c) (ae af (i:Int)) (.slice (some ⟨g,0,none⟩) i c) (fun ρ h1 h2 kk w1 (hg:Grow _ w1) hb hf=>by go_simp) ?_
 refine bP 23 (.slice (some ⟨g,0,none⟩) n c) ?_
 refine bP 24 (ae af ((i:Int)+1)) ?_
 refine cm 25 (.tmp 23) (.tmp 24) (.slice (some ⟨g,0,none⟩) n c) (ae af ((i:Int)+1)) (.slice A2 (n-(i+1)) (c-(i+1))) (fun ρ h1 h2 kk w1 (hg:Grow _ w1) hb hf=>by have hA:=HA2.out;go_simp) ?_
 refine ce (fun _ _ w1 (hg:Grow _ w1) _ bR=>hT _ _ ?_)
 clear hops hA' hK hT
 simp only[cj,Act.put,aw,ay,az,ax,aB]
 have hg1:w1.heap[g]?=some (.cells cur 159 (0,0)):=(hg.block g (Array.getElem?_eq_some_iff.1 hgw).1).trans hgw
 have hkm:i+(n-(i+1))=n-1:=by omega
 have Nk:n*2≤c*2:=bm _ hnc
 refine ky rfl (.tmp 22) (.tmp 25) rfl rfl rfl (kb px w1 _ hg1 (hrd w1 hg) (fun u hu=>hx1 u (List.mem_of_mem_drop hu)) al (by rw[hkm,hsz];omega)) ?_
 rw[hkm]
 obtain⟨sy,k1,k2,k3⟩:=eV g 159 (0,0) (xs.drop ((i+1)*2)) (i*2) w1 cur hg1 (by rw[hdl,←Nat.add_mul,hkm,hsz];omega)
 have fW:=dD g (xs.drop ((i+1)*2)) (i*2) w1
 have hsz1:=setCells_size g (xs.drop ((i+1)*2)) (i*2) w1
 generalize w1.setCells g (i*2) (xs.drop ((i+1)*2))=w2 at k1 fW hsz1 ⊢
 have HK:=Lib.hid (And.intro k2 k3)
 have HD:=Lib.hid hdl
 have HZ:=Lib.hid hsz
 have Nl:=Lib.hid hkm
 have HL:=Lib.hid hlen
 have HT:=Lib.hid htk
 clear k2 k3 hdl hsz hkm hlen htk hsz1 hcx hcell hrd hfz
 have hcn:¬ c=n-1:=by omega
 have Nm:¬ c<n:=by omega
 have Nn:¬ n<n-1:=by omega
 have hn1:n-(n-1)=1:=by omega
 have hcl:∀ ty,(Builtin.clear_ #[156] ty #[.slice (some ⟨g,(n-1)*2,none⟩) (n-(n-1)) (c-(n-1))]).run au w2=.ok (.tuple #[]) (w2.setCells g ((n-1)*2) (Builtin.zeroCells (.agg #[ae af 0,ai none 0 0]:Value).cells 1).toList):=fun ty=>by
  rw[hn1]
  refine h_ px (oG px) (by simp[Value.cells,Value.oneCell']) w2 ty g ((n-1)*2) 1 _ al (fun j hj=>?_) (fun j hj=>ct.frozen (show ct w2 g 159 sy from k1) _)
  have:=HK.out.1;have:=HZ.out
  rw[cell_of_row w2 g _ sy 159 (0,0) k1,Array.getElem?_eq_getElem al];rfl
 have hzl:(Builtin.zeroCells (.agg #[ae af 0,ai none 0 0]:Value).cells 1).toList.length=2:=by kernel_rfl
 obtain⟨Ig,m1,m2,m3⟩:=eV g 159 (0,0) (Builtin.zeroCells (.agg #[ae af 0,ai none 0 0]:Value).cells 1).toList ((n-1)*2) w2 sy k1 (by rw[hzl];have:=HK.out.1;have:=HZ.out;omega)
 have hO2:=dD g (Builtin.zeroCells (.agg #[ae af 0,ai none 0 0]:Value).cells 1).toList ((n-1)*2) w2
 generalize w2.setCells g ((n-1)*2) (Builtin.zeroCells (.agg #[ae af 0,ai none 0 0]:Value).cells 1).toList=w3 at hcl m1 hO2
 have HM:=Lib.hid (And.intro m2 m3)
 clear m2 m3 hzl hn1
 go_wp2_with fail
 go_ret
 have hj:Just R w w3:=(Just.bJ hg).trans (Just.dj (fW.trans hO2) hV)
 obtain⟨k2,k3⟩:=HK.out
 obtain⟨m2,m3⟩:=HM.out
 have hlen:=HL.out
 have hdl:=HD.out
 have hsz:=HZ.out
 have hkm:=Nl.out
 have htk:=HT.out
 have hti:cur.toList.take (i*2)=xs.take (i*2):=by rw[←htk,List.take_take,bF al]
 have Ih:(xs.take (i*2)).length=i*2:=by rw[aK];omega
 have hl2:(xs.take (i*2)++xs.drop ((i+1)*2)).length=(n-1)*2:=by rw[aD,Ih,hdl];omega
 refine⟨rfl,⟨hl2,.inr ⟨g,c,Ig,rfl,hV,m1,by omega,hm,by rw[m2,k2,hsz],?_⟩⟩,hj⟩
 have h1:sy.toList.take ((n-1)*2)=xs.take (i*2)++xs.drop ((i+1)*2):=by
  rw[k3,hti,←hl2];exact List.take_left
 rw[m3,h1,aM,←hl2];exact List.take_left
def pz (s:Int) (b:Ab):Bool:=b.1 == s
def rk (l:List Ab) (s:Int):Bool:=l.any (pz s)
def uh (l:List Ab) (s:Int):List Ab:=l.eraseP (pz s)
theorem rl {α:Type} {p:α→Bool}:∀ {l:List α} {i:Nat} (hi:i<l.length),p l[i]=true→(∀ (j:Nat) (hj:j<l.length),j<i→p l[j]=false)→l.eraseP p=l.take i++l.drop (i+1)
 | [],i,hi,_,_=>absurd hi (by simp)
 | a :: l,0,_,h,_=>by have h:p a=true:=h;simp[List.eraseP_cons,h]
 | a :: l,i+1,hi,h,hn=>by
   have h0:=hn 0 (by simp) al
   have hi':i<l.length:=by simpa using hi
   have h0:p a=false:=h0
   rw[List.eraseP_cons,h0,cond_false,rl hi' (by simpa using h) (fun j hj hji=>by have:=hn (j+1) (by simp;omega) al;simpa using this)]
   simp
theorem zK {q:List fk} {s:Int} (h:∀ b∈q,b.seq≠s):rk (q.map fk.abs) s=false∧uh (q.map fk.abs) s=q.map fk.abs:=by
 have h1:∀ a∈q.map fk.abs,¬ pz s a=true:=fun a ha=>by
  obtain⟨b,hb,rfl⟩:=List.mem_map.1 ha
  simp[pz,fk.abs,h b hb]
 exact⟨by unfold rk;rw[List.any_eq_false];exact h1,List.eraseP_of_forall_not h1⟩
theorem zL {q:List fk} {s:Int} {i:Nat} (hi:i<q.length) (h:q[i].seq=s) (hn:∀ (j:Nat) (hj:j<q.length),j<i→q[j].seq≠s) :
 rk (q.map fk.abs) s=true∧uh (q.map fk.abs) s=(q.take i++q.drop (i+1)).map fk.abs:=by
 have hi':i<(q.map fk.abs).length:=by simpa using hi
 refine⟨?_,?_⟩
 ·unfold rk
  rw[List.any_eq_true]
  exact⟨q[i].abs,List.mem_map_of_mem (aO hi),by simp[pz,fk.abs,h]⟩
 ·unfold uh
  rw[rl hi' (by simp[pz,fk.abs,h]) (fun j hj hji=>by have:=hn j (by simpa using hj) hji;simp[pz,fk.abs,this]),aX,List.map_take,List.map_drop]
theorem D9 (w:World) (g:Nat) (l:List Ab) (last s:Int) :
 Turns au 285 #[((g:Nat):Value),ae af s] (fun e=>e=.returned (.bool (rk l s))) (ck g l last) (ck g (uh l s) last) w:=by
 intro V hQ hV
 have hQ':=hQ
 obtain⟨h1,v,q,R,D,gS,h3,hB,i6,h6,h7,h8⟩:=hQ
 obtain⟨A0,c0,rfl,hI,hnc,hm0⟩:=i6.fw
 have hga:Grow w (w.alloc (.cells #[ae af s] 2)):=(Below.refl w.heap.size w).alloc (aC _) _
 have gl:=ct.made w 2 #[ae af s]
 have cc0:=(hB.grow hga).cell 0
 have hIx:=qf _ R D A0 _ c0 q ⟨hI.grow hga,fun b hb=>(h6 b hb).grow hga⟩ al s w.heap.size gl
 have hgR:¬ R g:=fun h=>(h7 g h).2.1 rfl
 go_enter Tryz.func285,Tryz.ntmps285
 go_wp2_with fail
 refine hIx.mono ?_
 clear hIx
 rintro e w1 ⟨r,rfl,hidx,hg1⟩
 have hgw:=hga.trans hg1
 rcases hidx with ⟨rfl,hne⟩|⟨i,hi,rfl,hs,hn⟩
 ·obtain⟨d1,d2⟩:=zK hne
  rw[gS] at d1 d2
  have HD:=Lib.hid (And.intro d1 d2)
  clear hne d1 d2 gS
  go_wp2_with fail
  go_ret
  rw[HD.out.1,HD.out.2]
  exact⟨rfl,ck.wide (ck.framed _ _ _ w w1 V hQ' fun b hb=>hgw.block b (hV b hb)) (fun _ => .inl),Just.bJ hgw⟩
 ·obtain⟨d1,d2⟩:=zL hi hs hn
  rw[gS] at d1 d2
  have HD:=Lib.hid (And.intro d1 d2)
  clear d1 d2 gS hs hn
  have hB1:=hB.grow hgw
  have c1:=hB1.cell 0
  go_wp2_with fail
  refine (lT w1 R A0 q.length c0 i _ (i6.grow hgw) hi al (D1 q)).mono ?_
  rintro e w2 ⟨rfl,hR2,hj2⟩
  have hB2:=hj2.blk hB1 hgR
  have f0:=hB2.frozen 0
  have c2:=hB2.cell 0
  go_wp2_with fail
  go_ret
  rw[HD.out.1,HD.out.2]
  have Ii:(q.take i++q.drop (i+1)).length=q.length-1:=by rw[aD,aK,bh];omega
  have hcs:(q.take i++q.drop (i+1)).flatMap fk.cells=(q.flatMap fk.cells).take (i*2)++(q.flatMap fk.cells).drop ((i+1)*2):=by
   rw[bd,kT fk.cells 2 jU,mQ fk.cells 2 jU]
  have hmem:∀ b∈q.take i++q.drop (i+1),b∈q:=fun b hb=>by
   rcases List.mem_append.1 hb with h|h
   ·exact bp h
   ·exact List.mem_of_mem_drop h
  have hjs:=fh w2 g 0 (.slice A0 (q.length-1) c0)
  refine⟨rfl,⟨.inl h1,_,q.take i++q.drop (i+1),R,D,rfl,by omega,hB2.put 0 _,?_,fun b hb=>?_,fun b hb=>⟨.inl (h7 b hb).1,(h7 b hb).2⟩,fun b hb=>⟨.inl (h8 b hb).1,(h8 b hb).2⟩⟩,?_⟩
  ·rw[Ii,hcs]
   exact hR2.just hjs fun b hb e=>hgR (by rw[←show b=g from e];exact hb)
  ·exact (((h6 b (hmem b hb)).grow hgw).just hj2 fun x hx hr=>(h7 x hr).2.2 hx).just hjs fun x hx e=>(h8 x hx).2 e
  ·exact ((Just.bJ hgw).trans (hj2.imp fun x hx=>(h7 x hx).1)).trans (hjs.imp fun x hx=>by rw[show x=g from hx];exact h1)
def Da (l:List Ab) (last seq:Int) (m:Nat):Int:=if seq<1 then 1 else if seq≤last then 1 else if m=0 then 1 else if 8<m then 1 else if 16≤l.length then 24 else 0
def Ij (l:List Ab) (last seq:Int) (m:Nat) (ds:List Dl):List Ab:=if Da l last seq m=0 then l++[(seq,ds)] else l
def Ik (l:List Ab) (last seq:Int) (m:Nat):Int:=if Da l last seq m=0 then seq else last
theorem ck.le {g:Nat} {l:List Ab} {last:Int} {w:World} {V:Nat→Prop} (h:ck g l last w V):l.length≤16:=by
 obtain⟨_,_,q,_,_,rfl,h3,_⟩:=h
 rw[aP];exact h3
theorem kV (w:World) (Z:Nat→Prop) (g:Nat) (l:List Ab) (last seq:Int) (A:Option Addr) (m c:Nat) (ds:List Dl) (hd0:fV w Z A m ds) (hmc:m≤c) (hcm:c≤maxLen) :
 Turns au 222 #[((g:Nat):Value),.agg #[ae af seq,.slice A m c]] (fun e=>e=.returned (ae af (Da l last seq m))) (ck g l last) (ck g (Ij l last seq m ds) (Ik l last seq m)) w:=by
 intro V hQ hV
 have hle:=hQ.le
 unfold Ij Ik Da
 by_cases h1:seq<1
 ·simp only[if_pos h1];exact KG w g l last seq A m c h1 V hQ hV
 ·by_cases h2:seq≤last
  ·simp only[if_neg h1,if_pos h2];exact KH w g l last seq A m c h1 h2 V hQ hV
  ·by_cases h3:m=0
   ·simp only[if_neg h1,if_neg h2,if_pos h3];exact KI w g l last seq A m c h1 h2 al V hQ hV
   ·by_cases h4:8<m
    ·simp only[if_neg h1,if_neg h2,if_neg h3,if_pos h4];exact KJ w g l last seq A m c h1 h2 h4 V hQ hV
    ·by_cases h5:16≤l.length
     ·simp only[if_neg h1,if_neg h2,if_neg h3,if_neg h4,if_pos h5];exact D4 w g l last seq A m c h1 h2 al al al V hQ hV
     ·simp only[if_neg h1,if_neg h2,if_neg h3,if_neg h4,if_neg h5,if_true];exact Ic w Z g l last seq A m c ds hd0 hmc hcm h1 h2 al al al V hQ hV
section
variable {P:Nat→Prop} {S S':cg} {w w':World}
end
theorem l5 (w:World) (g:Nat) (l:List Ab) (last:Int) (V:Nat→Prop) (hQ:ck g l last w V) (k:Nat) (hk:min l.length 4=k) :
 Calls au 304 #[((g:Nat):Value)] w fun e w'=>∃ A' q',e=.returned (.slice A' k k)∧km w' (New w w') (New w w') A' k q'∧q'.map fk.abs=l.take 4∧Grow w w':=hk▸x7 w g l last V hQ
theorem Il (w:World) (g:Nat) (l:List Ab) (last:Int) (V:Nat→Prop) (hQ:ck g l last w V) (k:Nat) (hk:l.length=k) :
 Calls au 159 #[((g:Nat):Value)] w fun e w'=>e=.returned (ae af (k:Int))∧w=w':=hk▸Fi w g l last V hQ
theorem Fj (w:World) (g:Nat) (l:List Ab) (last s:Int) (b:Bool) (l':List Ab) (h:rk l s=b∧uh l s=l') :
 Turns au 285 #[((g:Nat):Value),ae af s] (fun e=>e=.returned (.bool b)) (ck g l last) (ck g l' last) w:=by
 obtain⟨rfl,rfl⟩:=h
 exact D9 w g l last s
end Go.Proofs.YtmijcbfgfkeodaaGreatDoor.Q
end
