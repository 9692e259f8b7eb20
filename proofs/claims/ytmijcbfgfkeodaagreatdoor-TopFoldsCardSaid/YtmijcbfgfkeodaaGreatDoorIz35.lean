/- Nent, Nesnd, Nedel, Nedrp. -/
import Derived.Test.YtmijcbfgfkeodaaGreatDoorIz34
set_option linter.all false
set_option maxRecDepth 100000
open Go.Value renaming int → ae,slice → ai
open Go.IntKind renaming i64 → af,u64 → ah
open Go.Proofs.Tryz renaming prog → au
open List renaming setIfInBounds_toArray → aw,drop_succ_cons → ax,set_cons_zero → ay,set_cons_succ → az,drop_zero → aB,length_append → aD,not_mem_nil → aE,mem_cons → aF,take_succ_eq_append_getElem → aI,length_take → aK,append_assoc → aM,take_of_length_le → aN,getElem_mem → aO,length_map → aP,length_singleton → aT,flatMap_cons → aU,take_succ_cons → aV,map_append → aX,range → aY,flatMap_append → bd,append_nil → bf,map_cons → bg,length_drop → bh,mem_of_mem_take → bp,take_zero → bw,flatMap_nil → bB
open Nat renaming lt_of_lt_of_le → aA,le_refl → aC,le_trans → aH,mul_le_mul_right → bm,min_eq_left → bF
open Bool renaming and_eq_true → aS
section
namespace Go.Proofs.YtmijcbfgfkeodaaGreatDoor.Ne
open Go.RowKit Go.Hop
def jZ (nodes:Int) (v:Value) (P:Nat→Bool):Array Value:=(Value.int .i64 nodes :: v :: (aY 64).map fun i=>Value.bool (P i)).toArray
theorem DZ (nodes:Int) (v:Value) (P:Nat→Bool) {i:Nat} (hi:i<64):(jZ nodes v P)[2+i]?=some (.bool (P i)):=by
 unfold jZ
 rw[Nat.add_comm]
 simp[List.getElem?_range hi]
theorem rv (nodes:Int) (v v':Value) (P:Nat→Bool):(jZ nodes v P).setIfInBounds 1 v'=jZ nodes v' P:=by
 unfold jZ;simp
def ic (nodes i:Int):Bool:=decide (0≤i) && decide (i<nodes)
theorem rx {nodes i:Int} (h:0≤i∧i<nodes):ic nodes i=true:=by unfold ic;rw[decide_eq_true h.1,decide_eq_true h.2];rfl
theorem uI {nodes i:Int} (h:ic nodes i=true):0≤i∧i<nodes:=by
 unfold ic at h;rw[aS,decide_eq_true_eq,decide_eq_true_eq] at h;exact h
def M8 (nodes:Int) (a:Lb):Prop:=(0≤a.1∧a.1<nodes)∧(0≤a.2.1∧a.2.1<nodes)
def dy (g:Nat) (nodes:Int) (l:List Lb) (P:Nat→Bool):cg:=fun w V=>
 V g∧∃ (v:Value) (q:List Lt) (R D:Nat→Prop),q.map Lt.abs=l∧q.length≤64∧(1≤nodes∧nodes≤8)∧(∀ a∈l,M8 nodes a)∧ct w g 209 (jZ nodes v P)∧Row w R 211 3 v q.length (q.flatMap Lt.cells)∧(∀ b∈q,fz w D b)∧(∀ b,R b→V b∧b≠g∧¬ D b)∧(∀ b,D b→V b∧b≠g)
theorem dy.framed (g:Nat) (nodes:Int) (l:List Lb) (P:Nat→Bool):Framed (dy g nodes l P):=fun w w' V h hk=>by
 obtain⟨h1,v,q,R,D,h2,h3,hn,hi,h4,h5,h6,h7,h8⟩:=h
 exact⟨h1,v,q,R,D,h2,h3,hn,hi,(hk g h1).trans h4,h5.keep fun b hb _=>hk b (h7 b hb).1,fun b hb=>(h6 b hb).keep fun x hx _=>hk x (h8 x hx).1,h7,h8⟩
theorem dy.wide {g:Nat} {nodes:Int} {l:List Lb} {P:Nat→Bool} {w:World} {V V':Nat→Prop} (h:dy g nodes l P w V) (hV:∀ b,V b→V' b):dy g nodes l P w V':=by
 obtain⟨h1,v,q,R,D,h2,h3,hn,hi,h4,h5,h6,h7,h8⟩:=h
 exact⟨hV g h1,v,q,R,D,h2,h3,hn,hi,h4,h5,h6,fun b hb=>⟨hV b (h7 b hb).1,(h7 b hb).2⟩,fun b hb=>⟨hV b (h8 b hb).1,(h8 b hb).2⟩⟩
structure PK (w:World) (V D:Nat→Prop) (A:Option Addr) (n:Nat) (q:List Lt):Prop where
 row:In w V 3 A n (q.flatMap Lt.cells)
 all:∀ b∈q,fz w D b
theorem dy.PL {g:Nat} {nodes:Int} {l:List Lb} {P:Nat→Bool} {w:World} {V:Nat→Prop} (h:dy g nodes l P w V) :
 ∃ A c q,Hid (q.map Lt.abs=l)∧Hid (l.length=q.length)∧q.length≤64∧(1≤nodes∧nodes≤8)∧(∀ a∈l,M8 nodes a)∧ct w g 209 (jZ nodes (.slice A q.length c) P)∧PK w V V A q.length q∧q.length≤c∧c≤maxLen:=by
 obtain⟨h1,v,q,R,D,rfl,h3,hn,hi,h4,h5,h6,h7,h8⟩:=h
 obtain⟨A,c,rfl,hI,hnc,hm⟩:=h5.fw
 exact⟨A,c,q,Lib.hid rfl,Lib.hid (aP ..),h3,hn,hi,h4,⟨hI.mono fun b hb=>(h7 b hb).1,fun b hb=>(h6 b hb).mono fun x hx=>(h8 x hx).1⟩,hnc,hm⟩
theorem D_ (w:World) (g:Nat) (nodes i:Int) (v:Value) (P:Nat→Bool) (hB:ct w g 209 (jZ nodes v P)) :
 Calls au 307 #[((g:Nat):Value),ae af i] w fun e w'=>e=.returned (.bool (ic nodes i))∧w=w':=by
 have c0:w.cell? ⟨g,0,none⟩=some (ae af nodes):=hB.cell 0
 unfold ic
 by_cases h:0≤i
 ·go_enter Tryz.func307,Tryz.ntmps307
  go_wp2_with fail
  go_ret
  exact⟨fL (by rw[decide_eq_true h];simp),rfl⟩
 ·go_enter Tryz.func307,Tryz.ntmps307
  go_wp2_with fail
  go_ret
  exact⟨fL (by rw[decide_eq_false (p:=0≤i) al];rfl),rfl⟩
theorem nB (w:World) (g:Nat) (nodes i:Int) (A:Option Addr) (n c:Nat) (P:Nat→Bool) (hB:ct w g 209 (jZ nodes (.slice A n c) P)) :
 Calls au 248 #[((g:Nat):Value),ae af i] w fun e w'=>e=.returned (.bool (ic (n:Int) i))∧w=w':=by
 have c1:w.cell? ⟨g,1,none⟩=some (.slice A n c):=hB.cell 1
 unfold ic
 by_cases h:0≤i
 ·go_enter Tryz.func248,Tryz.ntmps248
  go_wp2_with fail
  go_ret
  exact⟨fL (by rw[decide_eq_true h];simp),rfl⟩
 ·go_enter Tryz.func248,Tryz.ntmps248
  go_wp2_with fail
  go_ret
  exact⟨fL (by rw[decide_eq_false (p:=0≤i) al];rfl),rfl⟩
theorem E0:(Tryz.prog.info? 209).map (fun i=>(i.zero,i.size,i.bytes))=some (some (.agg (jZ 0 (ai none 0 0) (fun _=>false))),66,96):=by kernel_rfl
theorem E1 (w:World):(zeroValue 209).run au w=.ok (.agg (jZ 0 (ai none 0 0) (fun _=>false))) w:=by
 obtain⟨i,hi,hz,_,_⟩:=info_parts E0
 simp[zeroValue,typeInfo,hi,hz]
theorem AO (nodes nodes':Int) (v:Value) (P:Nat→Bool):(jZ nodes v P).setIfInBounds 0 (ae af nodes')=jZ nodes' v P:=by
 unfold jZ;simp
theorem FO (nodes:Int) (v:Value) (P:Nat→Bool):¬ jZ nodes v P=#[]:=fun h=>by
 have:=congrArg (fun a:Array Value=>a[0]?) h
 simp[jZ] at this
theorem j3 (w:World) (nodes:Int) (h1:1≤nodes) (h8:nodes≤8) :
 Calls au 188 #[ae af nodes] w fun e w'=>e=.returned (.pointer (some ⟨w.heap.size,0,none⟩))∧dy w.heap.size nodes [] (fun _=>false) w' (New w w')∧Grow w w':=by
 have ha:¬ nodes<1:=by omega
 have hb:¬ 8<nodes:=by omega
 have hz:=E1
 have hc:=AO 0 nodes (ai none 0 0) (fun _=>false)
 have hne:=FO 0 (ai none 0 0) (fun _=>false)
 generalize jZ 0 (ai none 0 0) (fun _=>false)=np at hz hc hne
 go_enter Tryz.func188,Tryz.ntmps188
 go_wp2_with fail
 go_ret
 exact⟨rfl,⟨⟨aC _,by simp⟩,_,[],fun _=>False,fun _=>False,rfl,by simp,⟨h1,h8⟩,by simp,ct.made w _ _,Row.nil,by simp,fun _ h=>h.elim,fun _ h=>h.elim⟩,(Below.refl w.heap.size w).alloc (aC _) _⟩
def L9 (l:List Lb) (w0:World) (u:Value) (w:World):Prop:=∃ (A:Option Addr) (n c:Nat) (q:List Lt),u=.slice A n c∧PK w (New w0 w) (New w0 w) A n q∧q.map Lt.abs=l∧n≤c∧c≤maxLen
theorem sf (w:World) (g:Nat) (nodes:Int) (l:List Lb) (P:Nat→Bool) (V:Nat→Prop) (hQ:dy g nodes l P w V) :
 Calls au 49 #[((g:Nat):Value)] w fun e w'=>∃ u,e=.returned u∧L9 l w u w'∧Grow w w':=by
 obtain⟨A,c,q,HQ,HL,h64,hN,hInv,hB,hI,hnc,hcm⟩:=hQ.PL
 have cc1:w.cell? ⟨g,1,none⟩=some (.slice A q.length c):=hB.cell 1
 go_enter Tryz.func49,Tryz.ntmps49
 go_wp2_with fail
 go_loopw [3,11] (fun s i wr=>∃ (k:Nat) (q':List Lt) (R D':Nat→Prop),k≤q.length∧i=ae af k∧Own wr R 211 3 s k (q'.flatMap Lt.cells)∧(∀ b∈q',fz wr D' b)∧q'.map Lt.abs=(q.take k).map Lt.abs∧(∀ b,R b→New w wr b∧¬ D' b)∧(∀ b,D' b→New w wr b)∧Grow w wr) (fun _ i _=>q.length-(intOf i).toNat)
 case atStart=>exact⟨0,[],fun _=>False,fun _=>False,by omega,rfl,Own.nil,by simp,by simp,fun _ h=>h.elim,fun _ h=>h.elim,Grow.refl _⟩
 case round=>
  obtain⟨k,q',R,D',hkn,rfl,hO,hin,habs,hR,hD,hg⟩:=hrel
  obtain⟨A1,c1,rfl,hI1,Cy,hm1⟩:=hO.fw
  by_cases hk:k<q.length
  ·obtain⟨ad,hkq,rfl,hV,hB,e0,e1⟩:=(hI.row.grow hg).iS al nA hk
   have gy:=(hI.all q[k] (aO hkq)).grow hg
   have hsn:q.take (k+1)=q.take k++[q[k]]:=aI hkq
   have e0:=e0 _ rfl
   have e2:=e1 1 _ rfl
   have e1:=e1 0 _ rfl
   have HS:=Lib.hid hsn
   clear hsn
   generalize q[k]=b at gy e0 e1 e2 HS
   obtain⟨f,t,Ab,mb,cb,bs⟩:=b
   dsimp only[Lt.cells] at e0 e1 e2
   have hga:Grow wr (wr.alloc (.cells #[ae af f,ae af t,.slice Ab mb cb] 211)):=(Below.refl wr.heap.size wr).alloc (aC _) _
   go_wp2_with fail
   refine (mB _ V ⟨f,t,Ab,mb,cb,bs⟩ (gy.grow hga)).mono ?_
   rintro e w1 ⟨A2,c2,rfl,hb2,hg1⟩
   have hs1:=hg1.size
   simp only[di] at hs1
   have hgB:=(Below.refl w1.heap.size w1).alloc (aC _) (.cells #[ae af f,ae af t,.slice A2 mb c2] 211)
   go_wp2_with (at_builtin;refine stay ?_)
   refine bV ?_
   have hsr:=hg.size
   have iF:∀ b,R b→b<wr.heap.size:=fun b hb=>(hR b hb).1.2
   refine cR (V:=R) mD _ rfl (.tmp 15) (.tmp 18) rfl (.slice A1 k c1) k (q'.flatMap Lt.cells) rfl (((hO.grow iF (hga.trans hg1)).grow (fun b hb=>by have:=iF b hb;omega) hgB)) (w1.heap.size+1) (some ⟨w1.heap.size,0,none⟩) 1 1 (Lt.cells ⟨f,t,A2,mb,c2,bs⟩) rfl (df w1 _ 211 _ rfl _ rfl) (xu _) al ?_
   intro v2 w2 hO2 hj2
   have hs2:=hj2.size
   simp only[di] at hs2
   have hgj:Below w.heap.size w1 w2:=Below.trans (hgB.mono al) (hj2.below (B:=w.heap.size) (fun b hb=>(hR b hb).1.1) (by simp;omega))
   have hg2:Grow w w2:=Below.trans (hg.trans (hga.trans hg1)) hgj
   have hD2:∀ b:Lt,fz w1 D' b→fz w2 D' b:=fun b hb=>(hb.grow hgB).just hj2 fun x hx hr=>(hR x hr).2 hx
   have BR:∀ b:Lt,fz w1 (New (wr.alloc (.cells #[ae af f,ae af t,.slice Ab mb cb] 211)) w1) b→fz w2 (New (wr.alloc (.cells #[ae af f,ae af t,.slice Ab mb cb] 211)) w1) b:=fun b hb=>(hb.grow hgB).just hj2 fun x hx hr=>by have:=hx.1;have:=iF x hr;simp at *;omega
   go_wp2_with fail
   go_roundw
   case rel=>
    refine⟨k+1,q'++[⟨f,t,A2,mb,c2,bs⟩],Ext R (w1.alloc (.cells #[ae af f,ae af t,.slice A2 mb c2] 211)) w2,fun b=>D' b∨New (wr.alloc (.cells #[ae af f,ae af t,.slice Ab mb cb] 211)) w1 b,by omega,by go_num,?_,fun b hb=>?_,?_,fun b hb=>?_,fun b hb=>?_,hg2⟩
    ·rw[bd,aU,bB,bf];exact hO2
    ·rcases List.mem_append.1 hb with hb|hb
     ·exact (hD2 b ((hin b hb).grow (hga.trans hg1))).mono fun _ => .inl
     ·rw[List.mem_singleton.1 hb];exact (BR _ hb2).mono fun _ => .inr
    ·rw[aX,habs,HS.out,aX];rfl
    ·rcases hb with hb|⟨h1,h2⟩
     ·refine⟨⟨(hR b hb).1.1,by have:=iF b hb;omega⟩,fun hd=>?_⟩
      rcases hd with hd|hd
      ·exact (hR b hb).2 hd
      ·have:=hd.1;have:=iF b hb;simp at *;omega
     ·simp only[di] at h1
      refine⟨⟨by omega,h2⟩,fun hd=>?_⟩
      rcases hd with hd|hd
      ·have:=(hD b hd).2;omega
      ·have:=hd.2;omega
    ·rcases hb with hb|hb
     ·have:=hD b hb;exact⟨this.1,by have:=this.2;omega⟩
     ·have h1:=hb.1;have h2:=hb.2;simp only[di] at h1;exact⟨by omega,by omega⟩
   case measure=>simp[intOf];omega
  ·obtain rfl:k=q.length:=by omega
   go_wp2_with fail
   go_ret
   refine⟨_,rfl,⟨A1,q.length,c1,q',rfl,⟨hI1.mono fun b hb=>(hR b hb).1,fun b hb=>(hin b hb).mono hD⟩,?_,Cy,hm1⟩,hg⟩
   rw[habs,aN al,HQ.out]
theorem jx:eZ fz:=fun _ _ _ _ _ h hj hd=>h.just hj hd
theorem E2 {w:World} {u:Value} {ρ:Operand→Value} {o:Oper} {x:Operand} {b:Lt} (h1:ρ x=u) (hu:u=.agg (Lt.cells b).toArray) (ho:o.op=.buildSlice 107 1 #[(0,x)]) :
 (execOp ρ o).run au w=.ok (.value (.slice (some ⟨w.heap.size,0,none⟩) 1 1)) (w.alloc (.cells (Lt.cells b).toArray 211)):=by
 obtain⟨dst,op,ty,pos,after,guard⟩:=o
 simp only at ho
 subst ho hu
 unfold Lt.cells at h1 ⊢
 go_simp
theorem E3 {w:World} {b:Lt} (a:Lb) {B:Nat} {args:Array Value} (h:Calls au 124 args w fun e w'=>∃ A' c',e=.returned (.agg #[ae af b.f,ae af b.t,.slice A' b.m c'])∧fz w' (New w w') ⟨b.f,b.t,A',b.m,c',b.bs⟩∧Grow w w') (hs:B≤w.heap.size) (hB:b.abs=a:=by rfl) :
 Calls au 124 args w fun e w'=>∃ u,e=.returned u∧Grow w w'∧yR Lt.cells fz B (fun b=>b.abs=a) u w':=by
 refine h.mono fun e w' ⟨A',c',he,hb1,hg⟩=>⟨_,he,hg,⟨⟨b.f,b.t,A',b.m,c',b.bs⟩,w'.heap.size,hB,rfl,hb1.mono fun x hx=>⟨aH hs hx.1,hx.2⟩,aC _⟩⟩
theorem FP (w:World) (Z:Nat→Prop) (g:Nat) (nodes:Int) (l:List Lb) (P:Nat→Bool) (f t:Int) (A:Option Addr) (m c:Nat) (bs:List UInt8) (hd0:Bj w Z A m bs) (hmc:m≤c) (hcm:c≤maxLen) (hsm:m≤1048576) (hf:ic nodes f=true) (ht:ic nodes t=true) (hl:l.length<64) :
 Turns au 250 #[((g:Nat):Value),.agg #[ae af f,ae af t,.slice A m c]] (fun e=>e=.returned (ae af 0)) (dy g nodes l P) (dy g nodes (l++[(f,t,bs)]) P) w:=by
 intro V hQ hV
 have hQ':=hQ
 obtain⟨h1,v,q,R,D,gS,h64,hN,hInv,hB,i6,h6,h7,h8⟩:=hQ
 obtain⟨A0,c0,rfl,hI,hnc,hm0⟩:=i6.fw
 have hga:Grow w (w.alloc (.cells #[ae af f,ae af t,.slice A m c] 211)):=(Below.refl w.heap.size w).alloc (aC _) _
 have gl:=ct.made w 211 #[ae af f,ae af t,.slice A m c]
 obtain⟨x,HX⟩:∃ x:Nat,Hid (x=w.heap.size):=⟨_,rfl⟩
 obtain⟨wa,HA⟩:∃ wa:World,Hid (wa=w.alloc (.cells #[ae af f,ae af t,.slice A m c] 211)):=⟨_,rfl⟩
 have JM:Hid (wa.heap.size=x+1):=Lib.hid (by rw[HA.out,HX.out];simp)
 rw[←HA.out] at hga
 have hBx:ct wa x 211 #[ae af f,ae af t,.slice A m c]:=by rw[HA.out,HX.out];exact gl
 clear gl
 have ou:=hB.grow hga
 have x1:=hBx.cell 1
 have cq1:wa.cell? ⟨g,1,none⟩=some (.slice A0 q.length c0):=ou.cell 1
 have D5:q.length<64:=by rw[←gS,aP] at hl;exact hl
 have yY:=Lib.hid gS
 clear gS
 go_enter Tryz.func250,Tryz.ntmps250
 go_wp2_with fail
 rw[←HA.out,←HX.out]
 go_wp2_with (go_at_call 307;refine (D_ wa g nodes _ _ _ ou).mono ?_;rintro e w2 ⟨rfl,hw2⟩;subst hw2)
 have D8:=i6.grow hga
 have hin1:∀ b∈q,fz wa D b:=fun b hb=>(h6 b hb).grow hga
 have hd1:=In.grow hd0 hga
 have hgB:g<wa.heap.size:=ou.lt
 have hgR:¬ R g:=fun h=>(h7 g h).2.1 rfl
 have hxw:w.heap.size≤x:=by have:=HX.out;omega
 have Ie:∀ x,R x→x<w.heap.size:=fun b hb=>hV b (h7 b hb).1
 obtain⟨B,JN⟩:∃ B:Nat,Hid (B=wa.heap.size):=⟨_,rfl⟩
 have pS:∀ x,R x→x<B:=fun b hb=>by have:=Ie b hb;have:=JN.out;have:=hga.size;omega
 have hxn:¬ R x:=fun h=>by have:=Ie x h;omega
 have HB:∀ w2,Just R wa w2→B≤w2.heap.size:=fun w2 h=>JN.out▸h.size
 have O4:∀ (vs:Array Value) (w:World),(callFunc 124 vs).run au w=.ok (.enter 124 vs) w:=fun vs w=>by go_simp
 refine c_ rfl ?_
 refine er (oS R (fun w=>Row w R 211 3 (.slice A0 q.length c0) q.length (q.flatMap Lt.cells)∧ct w g 209 (jZ nodes (.slice A0 q.length c0) P)∧Bj w Z A m bs) 8 [(4,0),(6,0)]) (yQ fun a b h hg=>⟨h.1.grow hg,h.2.1.grow hg,In.grow h.2.2 hg⟩) 0 9 36 [(6,.inr (fun _ u w=>yR Lt.cells fz B (fun b=>b.abs=(f,t,bs)) u w)),(7,.inr (fun _ u w=>yS 3 Lt.cells fz B (fun b=>b.abs=(f,t,bs)) u w)),(8,.inr (Once (tq 211 3 Lt.cells fz R B q (fun b=>b.abs=(f,t,bs)))))] rfl am am am ?_ (Just.bJ (Grow.refl _).drew) ⟨D8,ou,hd1⟩ ?_
 ·intro x hx φ he
  simp only[aF,aE,or_false] at hx
  rcases hx with rfl|rfl|rfl<;>cases he
  all_goals first|exact ca (cn _)|exact qJ pS (yU jx)|exact qJ pS (yV jx)|exact oT (rS jx)
 intro ops' A' K' T hops hA' hK hT
 refine bP 25 (((g:Nat):Value)) ?_
 refine bP 26 (((g:Nat):Value)) ?_
 refine bI 27 (.tmp 26) (((g:Nat):Value)) (((g:Nat):Value)) (fun ρ h1 kk w1 (hg:Just R _ w1) hb hf=>by go_simp) ?_
 refine bI 28 (.tmp 27) (((g:Nat):Value)) (.pointer (some ⟨g,1,none⟩)) (fun ρ h1 kk w1 (hg:Just R _ w1) hb hf=>by go_simp) ?_
 refine bI 29 (.tmp 28) (.pointer (some ⟨g,1,none⟩)) (.slice A0 q.length c0) (fun ρ h1 kk w1 (hg:Just R _ w1) hb hf=>by obtain rfl:=cw 0 aj hb;have hI:=hb.1;have c:w1.cell? ⟨g,1,none⟩=some (.slice A0 q.length c0):=hI.2.1.cell 1;go_simp) ?_
 refine bI 30 (.tmp 3) (((x:Nat):Value)) (.agg #[ae af f,ae af t,.slice A m c]) (fun ρ h1 kk w1 (hg:Just R _ w1) hb hf=>by have hx:=hg.blk hBx (fun h=>hxn h);have e0:=hx.cell 0;have e1:=hx.cell 1;have e2:=hx.cell 2;go_simp) ?_
 refine cH 31 aj ak (bO aj) (fun _ u w=>yR Lt.cells fz B (fun b=>b.abs=(f,t,bs)) u w) (by rw[hK.out];rfl) 124 _ _ aj [.agg #[ae af f,ae af t,.slice A m c]] aj O4 (fun kk w1 (hg:Just R _ w1) hb hf=>cr (φ:=fun _ u w=>yR Lt.cells fz B (fun b=>b.abs=(f,t,bs)) u w) aj (by obtain rfl:=cw 0 aj hb;have hI:=hb.1;exact E3 (f,t,bs) (mB w1 Z ⟨f,t,A,m,c,bs⟩ ⟨hI.2.2,hmc,hcm,hsm⟩) (HB w1 hg))) (fun v31=>?_)
 refine fE 32 aj ak (bO aj) (fun _ u w=>yS 3 Lt.cells fz B (fun b=>b.abs=(f,t,bs)) u w) (by rw[hK.out];rfl) (.tmp 31) (v31) aj (fun ρ h1 kk w1 (hg:Just R _ w1) hb hf=>by refine cA (φ:=fun _ u w=>yS 3 Lt.cells fz B (fun b=>b.abs=(f,t,bs)) u w) aj ?_;exact yW (e:=211) jx nA (cy hf (by rw[hA'.out];kernel_rfl)) (HB w1 hg) (fun b hb=>E2 h1 hb rfl)) (fun v32=>?_)
 refine gv 33 aj ak (bO aj) (Once (tq 211 3 Lt.cells fz R B q (fun b=>b.abs=(f,t,bs)))) (by rw[hK.out];rfl) (.tmp 29) (.tmp 32) (.slice A0 q.length c0) (v32) aj aj (fun ρ h1 h2 kk w1 (hg:Just R _ w1) hb hf=>by obtain rfl:=cw 0 aj hb;have hI:=hb.1;refine jE (φ:=Once (tq 211 3 Lt.cells fz R B q (fun b=>b.abs=(f,t,bs)))) 0 aj ?_;exact eN (tt (X:=fun b:Lt=>b.abs=(f,t,bs)) mD jx xu pS hI.1 (cy hf (by rw[hA'.out];kernel_rfl)) (HB w1 hg) al h1 h2 rfl) fun u w2 h=>⟨h.1,trivial,h.2⟩) (fun v33=>?_)
 refine ce (fun _ _ w1 (hg:Just R _ w1) hend bR=>hT _ _ ?_)
 clear hops hA' hK hT
 simp only[cj,Act.put,aw,ay,az]
 have hE:(tq 211 3 Lt.cells fz R B q (fun b=>b.abs=(f,t,bs))) v33 w1:=bR.1
 clear hend bR
 obtain⟨b,R',D',e1,hR',hb',LW,Gh⟩:=hE
 obtain⟨A3,c3,hv3,_⟩:=hR'.fw
 subst hv3
 have hB1:=hg.blk ou hgR
 have f1:=hB1.frozen 1
 have c11:w1.cell? ⟨g,1,none⟩=some (.slice A0 q.length c0):=hB1.cell 1
 refine fM 9 12 am am ?_
 simp only[aV,bw,ax,aB]
 go_wp2_with fail
 refine eY ?_
 go_wp2_with fail
 go_ret
 have hBw:B=wa.heap.size:=JN.out
 have hgas:=hga.size
 have hjs:=fh w1 g 1 (.slice A3 (q.length+1) c3)
 have hBg:g<B:=by omega
 refine⟨rfl,⟨.inl h1,.slice A3 (q.length+1) c3,q++[b],R',fun x=>D x∨D' x,?_,?_,hN,?_,?_,?_,fun b' hb=>?_,fun x hx=>?_,fun x hx=>?_⟩,?_⟩
 ·rw[aX,yY.out,bg,List.map_nil,e1]
 ·rw[aD,aT];omega
 ·intro a ha
  rcases List.mem_append.1 ha with h|h
  ·exact hInv a h
  ·rw[List.mem_singleton.1 h];exact⟨uI hf,uI ht⟩
 ·have:=hB1.put 1 (.slice A3 (q.length+1) c3)
  rwa [rv] at this
 ·rw[aD,aT]
  exact hR'.just hjs fun b hb h=>by
   have h2:=LW b hb
   rw[show b=g from h] at h2
   rcases h2.1 with h3|h3
   ·exact hgR h3
   ·omega
 ·rcases List.mem_append.1 hb with h|h
  ·exact (((hin1 b' h).just hg fun x hx hr=>(h7 x hr).2.2 hx).just hjs fun x hx h=>(h8 x hx).2 h).mono fun _ => .inl
  ·rw[List.mem_singleton.1 h];exact (hb'.just hjs fun x hx h=>by have:=(Gh x hx).1;rw[show x=g from h] at this;omega).mono fun _ => .inr
 ·have h2:=LW x hx
  refine⟨?_,?_,fun h=>?_⟩
  ·rcases h2.1 with h|h
   ·exact .inl (h7 x h).1
   ·exact .inr ⟨by omega,by rw[dw];exact h2.2.1⟩
  ·rcases h2.1 with h|h
   ·exact (h7 x h).2.1
   ·omega
  ·rcases h with h|h
   ·rcases h2.1 with h3|h3
    ·exact (h7 x h3).2.2 h
    ·have:=hV x (h8 x h).1;omega
   ·exact h2.2.2 h
 ·rcases hx with h|h
  ·exact⟨.inl (h8 x h).1,(h8 x h).2⟩
  ·have h2:=Gh x h
   exact⟨.inr ⟨by omega,by rw[dw];exact h2.2⟩,by have:=h2.1;omega⟩
 ·exact ((Just.bJ hga).trans (hg.imp fun x hx=>(h7 x hx).1)).trans (hjs.imp fun x hx=>by rw[show x=g from hx];exact h1)
theorem lT (w:World) (R:Nat→Prop) (A:Option Addr) (n c i:Nat) (xs:List Value) (h:Row w R 211 3 (.slice A n c) n xs) (hi:i<n) (hn:n≤1048576) (hx1:∀ u∈xs,u.oneCell'=true) :
 Calls au 249 #[.slice A n c,ae af (i:Int),ae af ((i:Int)+1)] w fun e w'=>e=.returned (.slice A (n-1) c)∧Row w' R 211 3 (.slice A (n-1) c) (n-1) (xs.take (i*3)++xs.drop ((i+1)*3))∧Just R w w':=by
 obtain⟨hlen,h|⟨g,cap,cur,e1,hV,hg,hnc,hm,hsz,htk⟩⟩:=h
 ·omega
 injection e1 with e1 _ e3
 subst e1 e3
 obtain⟨A2,HA2⟩:∃ A2:Option Addr,Hid (A2=if c=i+1 then some ⟨g,0,none⟩ else some ⟨g,(i+1)*3,none⟩):=⟨_,rfl⟩
 have hdl:(xs.drop ((i+1)*3)).length=(n-(i+1))*3:=by rw[bh,hlen];omega
 have hcell:∀ j,w.cell? ⟨g,j,none⟩=cur[j]?:=fun j=>cell_of_row w g j cur 211 (0,0) hg
 have hcx:∀ j u,xs[j]?=some u→cur[j]?=some u:=fun j u hu=>by
  rw[←htk,List.getElem?_take] at hu
  split at hu
  ·simpa using hu
  ·cases hu
 have hfz:∀ j,w.frozen? ⟨g,j,none⟩=false:=fun j=>ct.frozen (show ct w g 211 cur from hg) j
 have hrd:∀ w1,Grow w w1→Reads w1 w1.heap.size 3 A2 (n-(i+1)) (xs.drop ((i+1)*3)):=fun w1 hgr=>by
  refine⟨hdl,fun hpos=>⟨⟨g,(i+1)*3,none⟩,by rw[HA2.out,if_neg al],aA (Array.getElem?_eq_some_iff.1 hg).1 hgr.size,fun j u hu=>?_⟩⟩
  rw[List.getElem?_drop] at hu
  rw[Addr.add_lit,hgr.cell (show g<w.heap.size from (Array.getElem?_eq_some_iff.1 hg).1),hcell]
  exact hcx _ u hu
 have hci:¬ c<i:=by omega
 have hni:¬ (n:Int)<(i:Int)+1:=by omega
 have Nj:¬ (i:Int)+1<0:=by omega
 have hgw:=hg
 go_enter Tryz.func249,Tryz.ntmps249
 go_wp2_with fail
 refine bL 6 33 [] rfl rfl am am am ?_ ?_
 ·intro x hx φ he
  cases hx
 intro ops' A' K' T hops hA' hK hT
 refine bP 20 (.slice (some ⟨g,0,none⟩) n c) ?_
 refine bP 21 (ae af (i:Int)) ?_
 refine cm 22 (.tmp 20) (.tmp 21) (.slice (some ⟨g,0,none⟩) n c) (ae af (i:Int)) (.slice (some ⟨g,0,none⟩) i c) (fun ρ h1 h2 kk w1 (hg:Grow _ w1) hb hf=>by go_simp) ?_
 refine bP 23 (.slice (some ⟨g,0,none⟩) n c) ?_
 refine bP 24 (ae af ((i:Int)+1)) ?_
 refine cm 25 (.tmp 23) (.tmp 24) (.slice (some ⟨g,0,none⟩) n c) (ae af ((i:Int)+1)) (.slice A2 (n-(i+1)) (c-(i+1))) (fun ρ h1 h2 kk w1 (hg:Grow _ w1) hb hf=>by have hA:=HA2.out;go_simp) ?_
 refine ce (fun _ _ w1 (hg:Grow _ w1) _ bR=>hT _ _ ?_)
 clear hops hA' hK hT
 simp only[cj,Act.put,aw,ay,az,ax,aB]
 have hg1:w1.heap[g]?=some (.cells cur 211 (0,0)):=(hg.block g (Array.getElem?_eq_some_iff.1 hgw).1).trans hgw
 have hkm:i+(n-(i+1))=n-1:=by omega
 have Nk:n*3≤c*3:=bm _ hnc
 refine ky rfl (.tmp 22) (.tmp 25) rfl rfl rfl (kb mD w1 _ hg1 (hrd w1 hg) (fun u hu=>hx1 u (List.mem_of_mem_drop hu)) al (by rw[hkm,hsz];omega)) ?_
 rw[hkm]
 obtain⟨sy,k1,k2,k3⟩:=eV g 211 (0,0) (xs.drop ((i+1)*3)) (i*3) w1 cur hg1 (by rw[hdl,←Nat.add_mul,hkm,hsz];omega)
 have fW:=dD g (xs.drop ((i+1)*3)) (i*3) w1
 have hsz1:=setCells_size g (xs.drop ((i+1)*3)) (i*3) w1
 generalize w1.setCells g (i*3) (xs.drop ((i+1)*3))=w2 at k1 fW hsz1 ⊢
 have HK:=Lib.hid (And.intro k2 k3)
 have HD:=Lib.hid hdl
 have HZ:=Lib.hid hsz
 have Nl:=Lib.hid hkm
 have HL:=Lib.hid hlen
 have HT:=Lib.hid htk
 clear k2 k3 hdl hsz hkm hlen htk hsz1 hcx hcell hrd hfz
 have hcn:¬ c=n-1:=by omega
 have Nm:¬ c<n:=by omega
 have Nn:¬ n<n-1:=by omega
 have hn1:n-(n-1)=1:=by omega
 have hcl:∀ ty,(Builtin.clear_ #[107] ty #[.slice (some ⟨g,(n-1)*3,none⟩) (n-(n-1)) (c-(n-1))]).run au w2=.ok (.tuple #[]) (w2.setCells g ((n-1)*3) (Builtin.zeroCells (.agg #[ae af 0,ae af 0,ai none 0 0]:Value).cells 1).toList):=fun ty=>by
  rw[hn1]
  refine h_ mD (oG mD) (by simp[Value.cells,Value.oneCell']) w2 ty g ((n-1)*3) 1 _ al (fun j hj=>?_) (fun j hj=>ct.frozen (show ct w2 g 211 sy from k1) _)
  have:=HK.out.1;have:=HZ.out
  rw[cell_of_row w2 g _ sy 211 (0,0) k1,Array.getElem?_eq_getElem al];rfl
 have hzl:(Builtin.zeroCells (.agg #[ae af 0,ae af 0,ai none 0 0]:Value).cells 1).toList.length=3:=by kernel_rfl
 obtain⟨Ig,m1,m2,m3⟩:=eV g 211 (0,0) (Builtin.zeroCells (.agg #[ae af 0,ae af 0,ai none 0 0]:Value).cells 1).toList ((n-1)*3) w2 sy k1 (by rw[hzl];have:=HK.out.1;have:=HZ.out;omega)
 have hO2:=dD g (Builtin.zeroCells (.agg #[ae af 0,ae af 0,ai none 0 0]:Value).cells 1).toList ((n-1)*3) w2
 generalize w2.setCells g ((n-1)*3) (Builtin.zeroCells (.agg #[ae af 0,ae af 0,ai none 0 0]:Value).cells 1).toList=w3 at hcl m1 hO2
 have HM:=Lib.hid (And.intro m2 m3)
 clear m2 m3 hzl hn1
 go_wp2_with fail
 go_ret
 have hj:Just R w w3:=(Just.bJ hg).trans (Just.dj (fW.trans hO2) hV)
 obtain⟨k2,k3⟩:=HK.out
 obtain⟨m2,m3⟩:=HM.out
 have hlen:=HL.out
 have hdl:=HD.out
 have hsz:=HZ.out
 have hkm:=Nl.out
 have htk:=HT.out
 have hti:cur.toList.take (i*3)=xs.take (i*3):=by rw[←htk,List.take_take,bF al]
 have Ih:(xs.take (i*3)).length=i*3:=by rw[aK];omega
 have hl2:(xs.take (i*3)++xs.drop ((i+1)*3)).length=(n-1)*3:=by rw[aD,Ih,hdl];omega
 refine⟨rfl,⟨hl2,.inr ⟨g,c,Ig,rfl,hV,m1,by omega,hm,by rw[m2,k2,hsz],?_⟩⟩,hj⟩
 have h1:sy.toList.take ((n-1)*3)=xs.take (i*3)++xs.drop ((i+1)*3):=by
  rw[k3,hti,←hl2];exact List.take_left
 rw[m3,h1,aM,←hl2];exact List.take_left
def minus (l:List Lb) (i:Nat):List Lb:=l.take i++l.drop (i+1)
theorem AP {g:Nat} {nodes:Int} {P:Nat→Bool} {w w1 w2:World} {V R D:Nat→Prop} {q:List Lt} {l:List Lb} {A0:Option Addr} {c0 i:Nat} (h1:V g) (gS:q.map Lt.abs=l) (h64:q.length≤64) (hN:1≤nodes∧nodes≤8) (hInv:∀ a∈l,M8 nodes a)
 (hB1:ct w1 g 209 (jZ nodes (.slice A0 q.length c0) P)) (h6:∀ b∈q,fz w1 D b) (h7:∀ b,R b→V b∧b≠g∧¬ D b) (h8:∀ b,D b→V b∧b≠g) (hi:i<q.length) (hg:Grow w w1)
 (hR2:Row w2 R 211 3 (.slice A0 (q.length-1) c0) (q.length-1) ((q.flatMap Lt.cells).take (i*3)++(q.flatMap Lt.cells).drop ((i+1)*3))) (hj2:Just R w1 w2) :
 dy g nodes (minus l i) P (w2.setCell ⟨g,1,none⟩ (.slice A0 (q.length-1) c0)) V∧Just V w (w2.setCell ⟨g,1,none⟩ (.slice A0 (q.length-1) c0)):=by
 have hgR:¬ R g:=fun h=>(h7 g h).2.1 rfl
 have hB2:=hj2.blk hB1 hgR
 have Ii:(q.take i++q.drop (i+1)).length=q.length-1:=by rw[aD,aK,bh];omega
 have hcs:(q.take i++q.drop (i+1)).flatMap Lt.cells=(q.flatMap Lt.cells).take (i*3)++(q.flatMap Lt.cells).drop ((i+1)*3):=by
  rw[bd,kT Lt.cells 3 nA,mQ Lt.cells 3 nA]
 have hmem:∀ b∈q.take i++q.drop (i+1),b∈q:=fun b hb=>by
  rcases List.mem_append.1 hb with h|h
  ·exact bp h
  ·exact List.mem_of_mem_drop h
 have hjs:=fh w2 g 1 (.slice A0 (q.length-1) c0)
 refine⟨⟨h1,.slice A0 (q.length-1) c0,q.take i++q.drop (i+1),R,D,?_,by omega,hN,fun a ha=>hInv a ?_,?_,?_,fun b hb=>?_,h7,h8⟩,?_⟩
 ·rw[aX,List.map_take,List.map_drop,gS];rfl
 ·unfold minus at ha
  rcases List.mem_append.1 ha with h|h
  ·exact bp h
  ·exact List.mem_of_mem_drop h
 ·have:=hB2.put 1 (.slice A0 (q.length-1) c0)
  rwa [rv] at this
 ·rw[Ii,hcs]
  exact hR2.just hjs fun b hb e=>hgR (by rw[←show b=g from e];exact hb)
 ·exact ((h6 b (hmem b hb)).just hj2 fun x hx hr=>(h7 x hr).2.2 hx).just hjs fun x hx e=>(h8 x hx).2 e
 ·exact ((Just.bJ hg).trans (hj2.imp fun x hx=>(h7 x hx).1)).trans (hjs.imp fun x hx=>by rw[show x=g from hx];exact h1)
end Go.Proofs.YtmijcbfgfkeodaaGreatDoor.Ne
end
