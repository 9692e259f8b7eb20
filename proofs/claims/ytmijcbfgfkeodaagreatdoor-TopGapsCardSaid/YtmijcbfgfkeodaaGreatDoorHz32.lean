/- Nent, Nesnd, Nedel, Nedrp. -/
import Derived.Test.YtmijcbfgfkeodaaGreatDoorHz31
set_option linter.all false
set_option maxRecDepth 100000
section
namespace Go.Proofs.YtmijcbfgfkeodaaGreatDoor.Ne
open Go.RowKit Go.Hop
def netc (nodes:Int) (v:Value) (P:Nat→Bool):Array Value:=(Value.int .i64 nodes :: v :: (List.range 64).map fun i=>Value.bool (P i)).toArray
theorem netc_p (nodes:Int) (v:Value) (P:Nat→Bool) {i:Nat} (hi:i<64):(netc nodes v P)[2+i]?=some (.bool (P i)):=by
 unfold netc
 rw[Nat.add_comm]
 simp[List.getElem?_range hi]
theorem netc_set1 (nodes:Int) (v v':Value) (P:Nat→Bool):(netc nodes v P).setIfInBounds 1 v'=netc nodes v' P:=by
 unfold netc;simp
def nodeB (nodes i:Int):Bool:=decide (0≤i) && decide (i<nodes)
theorem nodeB_yes {nodes i:Int} (h:0≤i∧i<nodes):nodeB nodes i=true:=by unfold nodeB;rw[decide_eq_true h.1,decide_eq_true h.2];rfl
theorem nodeB_is {nodes i:Int} (h:nodeB nodes i=true):0≤i∧i<nodes:=by
 unfold nodeB at h;rw[Bool.and_eq_true,decide_eq_true_eq,decide_eq_true_eq] at h;exact h
def InN (nodes:Int) (a:Lb):Prop:=(0≤a.1∧a.1<nodes)∧(0≤a.2.1∧a.2.1<nodes)
def NetAt (g:Nat) (nodes:Int) (l:List Lb) (P:Nat→Bool):Thing:=fun w V=>
 V g∧∃ (v:Value) (q:List Lt) (R D:Nat→Prop),q.map Lt.abs=l∧q.length≤64∧(1≤nodes∧nodes≤8)∧(∀ a∈l,InN nodes a)∧Blk w g 209 (netc nodes v P)∧Row w R 211 3 v q.length (q.flatMap Lt.cells)∧(∀ b∈q,LtIn w D b)∧(∀ b,R b→V b∧b≠g∧¬ D b)∧(∀ b,D b→V b∧b≠g)
theorem NetAt.framed (g:Nat) (nodes:Int) (l:List Lb) (P:Nat→Bool):Framed (NetAt g nodes l P):=fun w w' V h hk=>by
 obtain⟨h1,v,q,R,D,h2,h3,hn,hi,h4,h5,h6,h7,h8⟩:=h
 exact⟨h1,v,q,R,D,h2,h3,hn,hi,(hk g h1).trans h4,h5.keep fun b hb _=>hk b (h7 b hb).1,fun b hb=>(h6 b hb).keep fun x hx _=>hk x (h8 x hx).1,h7,h8⟩
theorem NetAt.wide {g:Nat} {nodes:Int} {l:List Lb} {P:Nat→Bool} {w:World} {V V':Nat→Prop} (h:NetAt g nodes l P w V) (hV:∀ b,V b→V' b):NetAt g nodes l P w V':=by
 obtain⟨h1,v,q,R,D,h2,h3,hn,hi,h4,h5,h6,h7,h8⟩:=h
 exact⟨hV g h1,v,q,R,D,h2,h3,hn,hi,h4,h5,h6,fun b hb=>⟨hV b (h7 b hb).1,(h7 b hb).2⟩,fun b hb=>⟨hV b (h8 b hb).1,(h8 b hb).2⟩⟩
structure Lts (w:World) (V D:Nat→Prop) (A:Option Addr) (n:Nat) (q:List Lt):Prop where
 row:In w V 3 A n (q.flatMap Lt.cells)
 all:∀ b∈q,LtIn w D b
theorem NetAt.lts {g:Nat} {nodes:Int} {l:List Lb} {P:Nat→Bool} {w:World} {V:Nat→Prop} (h:NetAt g nodes l P w V) :
 ∃ A c q,Hid (q.map Lt.abs=l)∧Hid (l.length=q.length)∧q.length≤64∧(1≤nodes∧nodes≤8)∧(∀ a∈l,InN nodes a)∧Blk w g 209 (netc nodes (.slice A q.length c) P)∧Lts w V V A q.length q∧q.length≤c∧c≤maxLen:=by
 obtain⟨h1,v,q,R,D,rfl,h3,hn,hi,h4,h5,h6,h7,h8⟩:=h
 obtain⟨A,c,rfl,hI,hnc,hm⟩:=h5.in_
 exact⟨A,c,q,Lib.hid rfl,Lib.hid (List.length_map ..),h3,hn,hi,h4,⟨hI.mono fun b hb=>(h7 b hb).1,fun b hb=>(h6 b hb).mono fun x hx=>(h8 x hx).1⟩,hnc,hm⟩
theorem node_any (w:World) (g:Nat) (nodes i:Int) (v:Value) (P:Nat→Bool) (hB:Blk w g 209 (netc nodes v P)) :
 Calls Tryz.prog 307 #[.pointer (some ⟨g,0,none⟩),.int .i64 i] w fun e w'=>e=.returned (.bool (nodeB nodes i))∧w=w':=by
 have c0:w.cell? ⟨g,0,none⟩=some (.int .i64 nodes):=hB.cell 0
 unfold nodeB
 by_cases h:0≤i
 ·go_enter Tryz.func307,Tryz.ntmps307
  go_wp2_with fail
  go_ret
  exact⟨ret_bool (by rw[decide_eq_true h];simp),rfl⟩
 ·go_enter Tryz.func307,Tryz.ntmps307
  go_wp2_with fail
  go_ret
  exact⟨ret_bool (by rw[decide_eq_false (p:=0≤i) (by omega)];rfl),rfl⟩
theorem there_any (w:World) (g:Nat) (nodes i:Int) (A:Option Addr) (n c:Nat) (P:Nat→Bool) (hB:Blk w g 209 (netc nodes (.slice A n c) P)) :
 Calls Tryz.prog 248 #[.pointer (some ⟨g,0,none⟩),.int .i64 i] w fun e w'=>e=.returned (.bool (nodeB (n:Int) i))∧w=w':=by
 have c1:w.cell? ⟨g,1,none⟩=some (.slice A n c):=hB.cell 1
 unfold nodeB
 by_cases h:0≤i
 ·go_enter Tryz.func248,Tryz.ntmps248
  go_wp2_with fail
  go_ret
  exact⟨ret_bool (by rw[decide_eq_true h];simp),rfl⟩
 ·go_enter Tryz.func248,Tryz.ntmps248
  go_wp2_with fail
  go_ret
  exact⟨ret_bool (by rw[decide_eq_false (p:=0≤i) (by omega)];rfl),rfl⟩
theorem net_info:(Tryz.prog.info? 209).map (fun i=>(i.zero,i.size,i.bytes))=some (some (.agg (netc 0 (.slice none 0 0) (fun _=>false))),66,96):=by kernel_rfl
theorem net_zero (w:World):(zeroValue 209).run Tryz.prog w=.ok (.agg (netc 0 (.slice none 0 0) (fun _=>false))) w:=by
 obtain⟨i,hi,hz,_,_⟩:=info_parts net_info
 simp[zeroValue,typeInfo,hi,hz]
theorem netc_set0 (nodes nodes':Int) (v:Value) (P:Nat→Bool):(netc nodes v P).setIfInBounds 0 (.int .i64 nodes')=netc nodes' v P:=by
 unfold netc;simp
theorem netc_ne (nodes:Int) (v:Value) (P:Nat→Bool):¬ netc nodes v P=#[]:=fun h=>by
 have:=congrArg (fun a:Array Value=>a[0]?) h
 simp[netc] at this
theorem New_any (w:World) (nodes:Int) (h1:1≤nodes) (h8:nodes≤8) :
 Calls Tryz.prog 188 #[.int .i64 nodes] w fun e w'=>e=.returned (.pointer (some ⟨w.heap.size,0,none⟩))∧NetAt w.heap.size nodes [] (fun _=>false) w' (New w w')∧Grow w w':=by
 have ha:¬ nodes<1:=by omega
 have hb:¬ 8<nodes:=by omega
 have hz:=net_zero
 have hc:=netc_set0 0 nodes (.slice none 0 0) (fun _=>false)
 have hne:=netc_ne 0 (.slice none 0 0) (fun _=>false)
 generalize netc 0 (.slice none 0 0) (fun _=>false)=np at hz hc hne
 go_enter Tryz.func188,Tryz.ntmps188
 go_wp2_with fail
 go_ret
 exact⟨rfl,⟨⟨Nat.le_refl _,by simp⟩,_,[],fun _=>False,fun _=>False,rfl,by simp,⟨h1,h8⟩,by simp,Blk.made w _ _,Row.nil,by simp,fun _ h=>h.elim,fun _ h=>h.elim⟩,(Below.refl w.heap.size w).alloc (Nat.le_refl _) _⟩
def IsLts (l:List Lb) (w0:World) (u:Value) (w:World):Prop:=∃ (A:Option Addr) (n c:Nat) (q:List Lt),u=.slice A n c∧Lts w (New w0 w) (New w0 w) A n q∧q.map Lt.abs=l∧n≤c∧c≤maxLen
theorem All_any (w:World) (g:Nat) (nodes:Int) (l:List Lb) (P:Nat→Bool) (V:Nat→Prop) (hQ:NetAt g nodes l P w V) :
 Calls Tryz.prog 49 #[.pointer (some ⟨g,0,none⟩)] w fun e w'=>∃ u,e=.returned u∧IsLts l w u w'∧Grow w w':=by
 obtain⟨A,c,q,HQ,HL,h64,hN,hInv,hB,hI,hnc,hcm⟩:=hQ.lts
 have cc1:w.cell? ⟨g,1,none⟩=some (.slice A q.length c):=hB.cell 1
 go_enter Tryz.func49,Tryz.ntmps49
 go_wp2_with fail
 go_loopw [3,11] (fun s i wr=>∃ (k:Nat) (q':List Lt) (R D':Nat→Prop),k≤q.length∧i=.int .i64 k∧Own wr R 211 3 s k (q'.flatMap Lt.cells)∧(∀ b∈q',LtIn wr D' b)∧q'.map Lt.abs=(q.take k).map Lt.abs∧(∀ b,R b→New w wr b∧¬ D' b)∧(∀ b,D' b→New w wr b)∧Grow w wr) (fun _ i _=>q.length-(intOf i).toNat)
 case atStart=>exact⟨0,[],fun _=>False,fun _=>False,by omega,rfl,Own.nil,by simp,by simp,fun _ h=>h.elim,fun _ h=>h.elim,Grow.refl _⟩
 case round=>
  obtain⟨k,q',R,D',hkn,rfl,hO,hin,habs,hR,hD,hg⟩:=hrel
  obtain⟨A1,c1,rfl,hI1,hnc1,hm1⟩:=hO.in_
  by_cases hk:k<q.length
  ·obtain⟨ad,hkq,rfl,hV,hB,e0,e1⟩:=(hI.row.grow hg).rec_ (by omega) lt_len hk
   have hbin:=(hI.all q[k] (List.getElem_mem hkq)).grow hg
   have hsn:q.take (k+1)=q.take k++[q[k]]:=List.take_succ_eq_append_getElem hkq
   have e0:=e0 _ rfl
   have e2:=e1 1 _ rfl
   have e1:=e1 0 _ rfl
   have HS:=Lib.hid hsn
   clear hsn
   generalize q[k]=b at hbin e0 e1 e2 HS
   obtain⟨f,t,Ab,mb,cb,bs⟩:=b
   dsimp only[Lt.cells] at e0 e1 e2
   have hga:Grow wr (wr.alloc (.cells #[.int .i64 f,.int .i64 t,.slice Ab mb cb] 211)):=(Below.refl wr.heap.size wr).alloc (Nat.le_refl _) _
   go_wp2_with fail
   refine (own_any _ V ⟨f,t,Ab,mb,cb,bs⟩ (hbin.grow hga)).mono ?_
   rintro e w1 ⟨A2,c2,rfl,hb2,hg1⟩
   have hs1:=hg1.size
   simp only[alloc_size] at hs1
   have hgB:=(Below.refl w1.heap.size w1).alloc (Nat.le_refl _) (.cells #[.int .i64 f,.int .i64 t,.slice A2 mb c2] 211)
   go_wp2_with (at_builtin;refine stay ?_)
   refine stay_out ?_
   have hsr:=hg.size
   have hRlt:∀ b,R b→b<wr.heap.size:=fun b hb=>(hR b hb).1.2
   refine wpList_own (V:=R) letterE _ rfl (.tmp 15) (.tmp 18) rfl (.slice A1 k c1) k (q'.flatMap Lt.cells) rfl (((hO.grow hRlt (hga.trans hg1)).grow (fun b hb=>by have:=hRlt b hb;omega) hgB)) (w1.heap.size+1) (some ⟨w1.heap.size,0,none⟩) 1 1 (Lt.cells ⟨f,t,A2,mb,c2,bs⟩) rfl (reads_laid w1 _ 211 _ rfl _ rfl) (lt_one _) (by omega) ?_
   intro v2 w2 hO2 hj2
   have hs2:=hj2.size
   simp only[alloc_size] at hs2
   have hgj:Below w.heap.size w1 w2:=Below.trans (hgB.mono (by omega)) (hj2.below (B:=w.heap.size) (fun b hb=>(hR b hb).1.1) (by simp;omega))
   have hg2:Grow w w2:=Below.trans (hg.trans (hga.trans hg1)) hgj
   have hD2:∀ b:Lt,LtIn w1 D' b→LtIn w2 D' b:=fun b hb=>(hb.grow hgB).just hj2 fun x hx hr=>(hR x hr).2 hx
   have hN2:∀ b:Lt,LtIn w1 (New (wr.alloc (.cells #[.int .i64 f,.int .i64 t,.slice Ab mb cb] 211)) w1) b→LtIn w2 (New (wr.alloc (.cells #[.int .i64 f,.int .i64 t,.slice Ab mb cb] 211)) w1) b:=fun b hb=>(hb.grow hgB).just hj2 fun x hx hr=>by have:=hx.1;have:=hRlt x hr;simp at *;omega
   go_wp2_with fail
   go_roundw
   case rel=>
    refine⟨k+1,q'++[⟨f,t,A2,mb,c2,bs⟩],Ext R (w1.alloc (.cells #[.int .i64 f,.int .i64 t,.slice A2 mb c2] 211)) w2,fun b=>D' b∨New (wr.alloc (.cells #[.int .i64 f,.int .i64 t,.slice Ab mb cb] 211)) w1 b,by omega,by go_num,?_,fun b hb=>?_,?_,fun b hb=>?_,fun b hb=>?_,hg2⟩
    ·rw[List.flatMap_append,List.flatMap_cons,List.flatMap_nil,List.append_nil];exact hO2
    ·rcases List.mem_append.1 hb with hb|hb
     ·exact (hD2 b ((hin b hb).grow (hga.trans hg1))).mono fun _ => .inl
     ·rw[List.mem_singleton.1 hb];exact (hN2 _ hb2).mono fun _ => .inr
    ·rw[List.map_append,habs,HS.out,List.map_append];rfl
    ·rcases hb with hb|⟨h1,h2⟩
     ·refine⟨⟨(hR b hb).1.1,by have:=hRlt b hb;omega⟩,fun hd=>?_⟩
      rcases hd with hd|hd
      ·exact (hR b hb).2 hd
      ·have:=hd.1;have:=hRlt b hb;simp at *;omega
     ·simp only[alloc_size] at h1
      refine⟨⟨by omega,h2⟩,fun hd=>?_⟩
      rcases hd with hd|hd
      ·have:=(hD b hd).2;omega
      ·have:=hd.2;omega
    ·rcases hb with hb|hb
     ·have:=hD b hb;exact⟨this.1,by have:=this.2;omega⟩
     ·have h1:=hb.1;have h2:=hb.2;simp only[alloc_size] at h1;exact⟨by omega,by omega⟩
   case measure=>simp[intOf];omega
  ·obtain rfl:k=q.length:=by omega
   go_wp2_with fail
   go_ret
   refine⟨_,rfl,⟨A1,q.length,c1,q',rfl,⟨hI1.mono fun b hb=>(hR b hb).1,fun b hb=>(hin b hb).mono hD⟩,?_,hnc1,hm1⟩,hg⟩
   rw[habs,List.take_of_length_le (by omega),HQ.out]
theorem ltIn_just:GoodJust LtIn:=fun _ _ _ _ _ h hj hd=>h.just hj hd
theorem lt_built {w:World} {u:Value} {ρ:Operand→Value} {o:Oper} {x:Operand} {b:Lt} (h1:ρ x=u) (hu:u=.agg (Lt.cells b).toArray) (ho:o.op=.buildSlice 107 1 #[(0,x)]) :
 (execOp ρ o).run Tryz.prog w=.ok (.value (.slice (some ⟨w.heap.size,0,none⟩) 1 1)) (w.alloc (.cells (Lt.cells b).toArray 211)):=by
 obtain⟨dst,op,ty,pos,after,guard⟩:=o
 simp only at ho
 subst ho hu
 unfold Lt.cells at h1 ⊢
 go_simp
theorem own_newG {w:World} {b:Lt} (a:Lb) {B:Nat} {args:Array Value} (h:Calls Tryz.prog 124 args w fun e w'=>∃ A' c',e=.returned (.agg #[.int .i64 b.f,.int .i64 b.t,.slice A' b.m c'])∧LtIn w' (New w w') ⟨b.f,b.t,A',b.m,c',b.bs⟩∧Grow w w') (hs:B≤w.heap.size) (hB:b.abs=a:=by rfl) :
 Calls Tryz.prog 124 args w fun e w'=>∃ u,e=.returned u∧Grow w w'∧NewG Lt.cells LtIn B (fun b=>b.abs=a) u w':=by
 refine h.mono fun e w' ⟨A',c',he,hb1,hg⟩=>⟨_,he,hg,⟨⟨b.f,b.t,A',b.m,c',b.bs⟩,w'.heap.size,hB,rfl,hb1.mono fun x hx=>⟨Nat.le_trans hs hx.1,hx.2⟩,Nat.le_refl _⟩⟩
theorem Send_ok (w:World) (Z:Nat→Prop) (g:Nat) (nodes:Int) (l:List Lb) (P:Nat→Bool) (f t:Int) (A:Option Addr) (m c:Nat) (bs:List UInt8) (hd0:BIn w Z A m bs) (hmc:m≤c) (hcm:c≤maxLen) (hsm:m≤1048576) (hf:nodeB nodes f=true) (ht:nodeB nodes t=true) (hl:l.length<64) :
 Turns Tryz.prog 250 #[.pointer (some ⟨g,0,none⟩),.agg #[.int .i64 f,.int .i64 t,.slice A m c]] (fun e=>e=.returned (.int .i64 0)) (NetAt g nodes l P) (NetAt g nodes (l++[(f,t,bs)]) P) w:=by
 intro V hQ hV
 have hQ':=hQ
 obtain⟨h1,v,q,R,D,hql,h64,hN,hInv,hB,hRow,h6,h7,h8⟩:=hQ
 obtain⟨A0,c0,rfl,hI,hnc,hm0⟩:=hRow.in_
 have hga:Grow w (w.alloc (.cells #[.int .i64 f,.int .i64 t,.slice A m c] 211)):=(Below.refl w.heap.size w).alloc (Nat.le_refl _) _
 have hBx0:=Blk.made w 211 #[.int .i64 f,.int .i64 t,.slice A m c]
 obtain⟨x,HX⟩:∃ x:Nat,Hid (x=w.heap.size):=⟨_,rfl⟩
 obtain⟨wa,HA⟩:∃ wa:World,Hid (wa=w.alloc (.cells #[.int .i64 f,.int .i64 t,.slice A m c] 211)):=⟨_,rfl⟩
 have HSA:Hid (wa.heap.size=x+1):=Lib.hid (by rw[HA.out,HX.out];simp)
 rw[←HA.out] at hga
 have hBx:Blk wa x 211 #[.int .i64 f,.int .i64 t,.slice A m c]:=by rw[HA.out,HX.out];exact hBx0
 clear hBx0
 have hBq:=hB.grow hga
 have x1:=hBx.cell 1
 have cq1:wa.cell? ⟨g,1,none⟩=some (.slice A0 q.length c0):=hBq.cell 1
 have hq16:q.length<64:=by rw[←hql,List.length_map] at hl;exact hl
 have HQL:=Lib.hid hql
 clear hql
 go_enter Tryz.func250,Tryz.ntmps250
 go_wp2_with fail
 rw[←HA.out,←HX.out]
 go_wp2_with (go_at_call 307;refine (node_any wa g nodes _ _ _ hBq).mono ?_;rintro e w2 ⟨rfl,hw2⟩;subst hw2)
 have hRow1:=hRow.grow hga
 have hin1:∀ b∈q,LtIn wa D b:=fun b hb=>(h6 b hb).grow hga
 have hd1:=In.grow hd0 hga
 have hgB:g<wa.heap.size:=hBq.lt
 have hgR:¬ R g:=fun h=>(h7 g h).2.1 rfl
 have hxw:w.heap.size≤x:=by have:=HX.out;omega
 have hRw:∀ x,R x→x<w.heap.size:=fun b hb=>hV b (h7 b hb).1
 obtain⟨B,HBd⟩:∃ B:Nat,Hid (B=wa.heap.size):=⟨_,rfl⟩
 have hRB:∀ x,R x→x<B:=fun b hb=>by have:=hRw b hb;have:=HBd.out;have:=hga.size;omega
 have hxn:¬ R x:=fun h=>by have:=hRw x h;omega
 have HB:∀ w2,Just R wa w2→B≤w2.heap.size:=fun w2 h=>HBd.out▸h.size
 have k124:∀ (vs:Array Value) (w:World),(callFunc 124 vs).run Tryz.prog w=.ok (.enter 124 vs) w:=fun vs w=>by go_simp
 refine wp_region_reg rfl ?_
 refine reg_flow (AppRow R (fun w=>Row w R 211 3 (.slice A0 q.length c0) q.length (q.flatMap Lt.cells)∧Blk w g 209 (netc nodes (.slice A0 q.length c0) P)∧BIn w Z A m bs) 8 [(4,0),(6,0)]) (appRow_ok fun a b h hg=>⟨h.1.grow hg,h.2.1.grow hg,In.grow h.2.2 hg⟩) 0 9 36 [(6,.inr (fun _ u w=>NewG Lt.cells LtIn B (fun b=>b.abs=(f,t,bs)) u w)),(7,.inr (fun _ u w=>RowG 3 Lt.cells LtIn B (fun b=>b.abs=(f,t,bs)) u w)),(8,.inr (Once (FinG 211 3 Lt.cells LtIn R B q (fun b=>b.abs=(f,t,bs)))))] rfl (by kernel_rfl) (by kernel_rfl) (by kernel_rfl) ?_ (Just.of_grow (Grow.refl _).drew) ⟨hRow1,hBq,hd1⟩ ?_
 ·intro x hx φ he
  simp only[List.mem_cons,List.not_mem_nil,or_false] at hx
  rcases hx with rfl|rfl|rfl<;>cases he
  all_goals first|exact lasts_quiet (lasting_bytes _)|exact lasts_row hRB (newG_past ltIn_just)|exact lasts_row hRB (rowG_past ltIn_just)|exact lasts_row_once (finG_lasting ltIn_just)
 intro ops' A' K' T hops hA' hK hT
 refine fl_mvN 25 (.pointer (some ⟨g,0,none⟩)) ?_
 refine fl_mvN 26 (.pointer (some ⟨g,0,none⟩)) ?_
 refine fl_op1N 27 (.tmp 26) (.pointer (some ⟨g,0,none⟩)) (.pointer (some ⟨g,0,none⟩)) (fun ρ h1 kk w1 (hg:Just R _ w1) hb hf=>by go_simp) ?_
 refine fl_op1N 28 (.tmp 27) (.pointer (some ⟨g,0,none⟩)) (.pointer (some ⟨g,1,none⟩)) (fun ρ h1 kk w1 (hg:Just R _ w1) hb hf=>by go_simp) ?_
 refine fl_op1N 29 (.tmp 28) (.pointer (some ⟨g,1,none⟩)) (.slice A0 q.length c0) (fun ρ h1 kk w1 (hg:Just R _ w1) hb hf=>by obtain rfl:=before_some 0 (by rfl) hb;have hI:=hb.1;have c:w1.cell? ⟨g,1,none⟩=some (.slice A0 q.length c0):=hI.2.1.cell 1;go_simp) ?_
 refine fl_op1N 30 (.tmp 3) (.pointer (some ⟨x,0,none⟩)) (.agg #[.int .i64 f,.int .i64 t,.slice A m c]) (fun ρ h1 kk w1 (hg:Just R _ w1) hb hf=>by have hx:=hg.blk hBx (fun h=>hxn h);have e0:=hx.cell 0;have e1:=hx.cell 1;have e2:=hx.cell 2;go_simp) ?_
 refine fl_callAny 31 (by rfl) (by decide) (wanted_none (by rfl)) (fun _ u w=>NewG Lt.cells LtIn B (fun b=>b.abs=(f,t,bs)) u w) (by rw[hK.out];rfl) 124 _ _ (by rfl) [.agg #[.int .i64 f,.int .i64 t,.slice A m c]] (by rfl) k124 (fun kk w1 (hg:Just R _ w1) hb hf=>calls_behindAny (φ:=fun _ u w=>NewG Lt.cells LtIn B (fun b=>b.abs=(f,t,bs)) u w) (by rfl) (by obtain rfl:=before_some 0 (by rfl) hb;have hI:=hb.1;exact own_newG (f,t,bs) (own_any w1 Z ⟨f,t,A,m,c,bs⟩ ⟨hI.2.2,hmc,hcm,hsm⟩) (HB w1 hg))) (fun v31=>?_)
 refine fl_any1 32 (by rfl) (by decide) (wanted_none (by rfl)) (fun _ u w=>RowG 3 Lt.cells LtIn B (fun b=>b.abs=(f,t,bs)) u w) (by rw[hK.out];rfl) (.tmp 31) (v31) (by rfl) (fun ρ h1 kk w1 (hg:Just R _ w1) hb hf=>by refine upon_behindAny (φ:=fun _ u w=>RowG 3 Lt.cells LtIn B (fun b=>b.abs=(f,t,bs)) u w) (by rfl) ?_;exact rowG_made (e:=211) ltIn_just lt_len (facts_take hf (by rw[hA'.out];kernel_rfl)) (HB w1 hg) (fun b hb=>lt_built h1 hb rfl)) (fun v32=>?_)
 refine fl_any2 33 (by rfl) (by decide) (wanted_none (by rfl)) (Once (FinG 211 3 Lt.cells LtIn R B q (fun b=>b.abs=(f,t,bs)))) (by rw[hK.out];rfl) (.tmp 29) (.tmp 32) (.slice A0 q.length c0) (v32) (by rfl) (by rfl) (fun ρ h1 h2 kk w1 (hg:Just R _ w1) hb hf=>by obtain rfl:=before_some 0 (by rfl) hb;have hI:=hb.1;refine upon_turnAny (φ:=Once (FinG 211 3 Lt.cells LtIn R B q (fun b=>b.abs=(f,t,bs)))) 0 (by rfl) ?_;exact upon_imp (finG_append (X:=fun b:Lt=>b.abs=(f,t,bs)) letterE ltIn_just lt_one hRB hI.1 (facts_take hf (by rw[hA'.out];kernel_rfl)) (HB w1 hg) (by omega) h1 h2 rfl) fun u w2 h=>⟨h.1,trivial,h.2⟩) (fun v33=>?_)
 refine fl_end (fun _ _ w1 (hg:Just R _ w1) hend hfacts=>hT _ _ ?_)
 clear hops hA' hK hT
 simp only[putsL,Act.put,List.setIfInBounds_toArray,List.set_cons_zero,List.set_cons_succ]
 have hE:(FinG 211 3 Lt.cells LtIn R B q (fun b=>b.abs=(f,t,bs))) v33 w1:=hfacts.1
 clear hend hfacts
 obtain⟨b,R',D',e1,hR',hb',hRx,hDx⟩:=hE
 obtain⟨A3,c3,hv3,_⟩:=hR'.in_
 subst hv3
 have hB1:=hg.blk hBq hgR
 have f1:=hB1.frozen 1
 have c11:w1.cell? ⟨g,1,none⟩=some (.slice A0 q.length c0):=hB1.cell 1
 refine reg_line 9 12 (by kernel_rfl) (by kernel_rfl) ?_
 simp only[List.take_succ_cons,List.take_zero,List.drop_succ_cons,List.drop_zero]
 go_wp2_with fail
 refine reg_end ?_
 go_wp2_with fail
 go_ret
 have hBw:B=wa.heap.size:=HBd.out
 have hgas:=hga.size
 have hjs:=just_at w1 g 1 (.slice A3 (q.length+1) c3)
 have hBg:g<B:=by omega
 refine⟨rfl,⟨.inl h1,.slice A3 (q.length+1) c3,q++[b],R',fun x=>D x∨D' x,?_,?_,hN,?_,?_,?_,fun b' hb=>?_,fun x hx=>?_,fun x hx=>?_⟩,?_⟩
 ·rw[List.map_append,HQL.out,List.map_cons,List.map_nil,e1]
 ·rw[List.length_append,List.length_singleton];omega
 ·intro a ha
  rcases List.mem_append.1 ha with h|h
  ·exact hInv a h
  ·rw[List.mem_singleton.1 h];exact⟨nodeB_is hf,nodeB_is ht⟩
 ·have:=hB1.put 1 (.slice A3 (q.length+1) c3)
  rwa [netc_set1] at this
 ·rw[List.length_append,List.length_singleton]
  exact hR'.just hjs fun b hb h=>by
   have h2:=hRx b hb
   rw[show b=g from h] at h2
   rcases h2.1 with h3|h3
   ·exact hgR h3
   ·omega
 ·rcases List.mem_append.1 hb with h|h
  ·exact (((hin1 b' h).just hg fun x hx hr=>(h7 x hr).2.2 hx).just hjs fun x hx h=>(h8 x hx).2 h).mono fun _ => .inl
  ·rw[List.mem_singleton.1 h];exact (hb'.just hjs fun x hx h=>by have:=(hDx x hx).1;rw[show x=g from h] at this;omega).mono fun _ => .inr
 ·have h2:=hRx x hx
  refine⟨?_,?_,fun h=>?_⟩
  ·rcases h2.1 with h|h
   ·exact .inl (h7 x h).1
   ·exact .inr ⟨by omega,by rw[setCell_size];exact h2.2.1⟩
  ·rcases h2.1 with h|h
   ·exact (h7 x h).2.1
   ·omega
  ·rcases h with h|h
   ·rcases h2.1 with h3|h3
    ·exact (h7 x h3).2.2 h
    ·have:=hV x (h8 x h).1;omega
   ·exact h2.2.2 h
 ·rcases hx with h|h
  ·exact⟨.inl (h8 x h).1,(h8 x h).2⟩
  ·have h2:=hDx x h
   exact⟨.inr ⟨by omega,by rw[setCell_size];exact h2.2⟩,by have:=h2.1;omega⟩
 ·exact ((Just.of_grow hga).trans (hg.imp fun x hx=>(h7 x hx).1)).trans (hjs.imp fun x hx=>by rw[show x=g from hx];exact h1)
theorem delete_any (w:World) (R:Nat→Prop) (A:Option Addr) (n c i:Nat) (xs:List Value) (h:Row w R 211 3 (.slice A n c) n xs) (hi:i<n) (hn:n≤1048576) (hx1:∀ u∈xs,u.oneCell'=true) :
 Calls Tryz.prog 249 #[.slice A n c,.int .i64 (i:Int),.int .i64 ((i:Int)+1)] w fun e w'=>e=.returned (.slice A (n-1) c)∧Row w' R 211 3 (.slice A (n-1) c) (n-1) (xs.take (i*3)++xs.drop ((i+1)*3))∧Just R w w':=by
 obtain⟨hlen,h|⟨g,cap,cur,e1,hV,hg,hnc,hm,hsz,htk⟩⟩:=h
 ·omega
 injection e1 with e1 _ e3
 subst e1 e3
 obtain⟨A2,HA2⟩:∃ A2:Option Addr,Hid (A2=if c=i+1 then some ⟨g,0,none⟩ else some ⟨g,(i+1)*3,none⟩):=⟨_,rfl⟩
 have hdl:(xs.drop ((i+1)*3)).length=(n-(i+1))*3:=by rw[List.length_drop,hlen];omega
 have hcell:∀ j,w.cell? ⟨g,j,none⟩=cur[j]?:=fun j=>cell_of_row w g j cur 211 (0,0) hg
 have hcx:∀ j u,xs[j]?=some u→cur[j]?=some u:=fun j u hu=>by
  rw[←htk,List.getElem?_take] at hu
  split at hu
  ·simpa using hu
  ·cases hu
 have hfz:∀ j,w.frozen? ⟨g,j,none⟩=false:=fun j=>Blk.frozen (show Blk w g 211 cur from hg) j
 have hrd:∀ w1,Grow w w1→Reads w1 w1.heap.size 3 A2 (n-(i+1)) (xs.drop ((i+1)*3)):=fun w1 hgr=>by
  refine⟨hdl,fun hpos=>⟨⟨g,(i+1)*3,none⟩,by rw[HA2.out,if_neg (by omega)],Nat.lt_of_lt_of_le (Array.getElem?_eq_some_iff.1 hg).1 hgr.size,fun j u hu=>?_⟩⟩
  rw[List.getElem?_drop] at hu
  rw[Addr.add_lit,hgr.cell (show g<w.heap.size from (Array.getElem?_eq_some_iff.1 hg).1),hcell]
  exact hcx _ u hu
 have hci:¬ c<i:=by omega
 have hni:¬ (n:Int)<(i:Int)+1:=by omega
 have hni2:¬ (i:Int)+1<0:=by omega
 have hgw:=hg
 go_enter Tryz.func249,Tryz.ntmps249
 go_wp2_with fail
 refine wp_region_flow 6 33 [] rfl rfl (by kernel_rfl) (by kernel_rfl) (by kernel_rfl) ?_ ?_
 ·intro x hx φ he
  cases hx
 intro ops' A' K' T hops hA' hK hT
 refine fl_mvN 20 (.slice (some ⟨g,0,none⟩) n c) ?_
 refine fl_mvN 21 (.int .i64 (i:Int)) ?_
 refine fl_op2N 22 (.tmp 20) (.tmp 21) (.slice (some ⟨g,0,none⟩) n c) (.int .i64 (i:Int)) (.slice (some ⟨g,0,none⟩) i c) (fun ρ h1 h2 kk w1 (hg:Grow _ w1) hb hf=>by go_simp) ?_
 refine fl_mvN 23 (.slice (some ⟨g,0,none⟩) n c) ?_
 refine fl_mvN 24 (.int .i64 ((i:Int)+1)) ?_
 refine fl_op2N 25 (.tmp 23) (.tmp 24) (.slice (some ⟨g,0,none⟩) n c) (.int .i64 ((i:Int)+1)) (.slice A2 (n-(i+1)) (c-(i+1))) (fun ρ h1 h2 kk w1 (hg:Grow _ w1) hb hf=>by have hA:=HA2.out;go_simp) ?_
 refine fl_end (fun _ _ w1 (hg:Grow _ w1) _ hfacts=>hT _ _ ?_)
 clear hops hA' hK hT
 simp only[putsL,Act.put,List.setIfInBounds_toArray,List.set_cons_zero,List.set_cons_succ,List.drop_succ_cons,List.drop_zero]
 have hg1:w1.heap[g]?=some (.cells cur 211 (0,0)):=(hg.block g (Array.getElem?_eq_some_iff.1 hgw).1).trans hgw
 have hkm:i+(n-(i+1))=n-1:=by omega
 have hncs:n*3≤c*3:=Nat.mul_le_mul_right _ hnc
 refine wpList_app_run rfl (.tmp 22) (.tmp 25) rfl rfl rfl (run_append_over letterE w1 _ hg1 (hrd w1 hg) (fun u hu=>hx1 u (List.mem_of_mem_drop hu)) (by omega) (by rw[hkm,hsz];omega)) ?_
 rw[hkm]
 obtain⟨cur1,k1,k2,k3⟩:=setCells_heap g 211 (0,0) (xs.drop ((i+1)*3)) (i*3) w1 cur hg1 (by rw[hdl,←Nat.add_mul,hkm,hsz];omega)
 have hO1:=setCells_only g (xs.drop ((i+1)*3)) (i*3) w1
 have hsz1:=setCells_size g (xs.drop ((i+1)*3)) (i*3) w1
 generalize w1.setCells g (i*3) (xs.drop ((i+1)*3))=w2 at k1 hO1 hsz1 ⊢
 have HK:=Lib.hid (And.intro k2 k3)
 have HD:=Lib.hid hdl
 have HZ:=Lib.hid hsz
 have HKM:=Lib.hid hkm
 have HL:=Lib.hid hlen
 have HT:=Lib.hid htk
 clear k2 k3 hdl hsz hkm hlen htk hsz1 hcx hcell hrd hfz
 have hcn:¬ c=n-1:=by omega
 have hcn2:¬ c<n:=by omega
 have hcn3:¬ n<n-1:=by omega
 have hn1:n-(n-1)=1:=by omega
 have hcl:∀ ty,(Builtin.clear_ #[107] ty #[.slice (some ⟨g,(n-1)*3,none⟩) (n-(n-1)) (c-(n-1))]).run Tryz.prog w2=.ok (.tuple #[]) (w2.setCells g ((n-1)*3) (Builtin.zeroCells (.agg #[.int .i64 0,.int .i64 0,.slice none 0 0]:Value).cells 1).toList):=fun ty=>by
  rw[hn1]
  refine run_clear_cells letterE (zero_run letterE) (by simp[Value.cells,Value.oneCell']) w2 ty g ((n-1)*3) 1 _ (by omega) (fun j hj=>?_) (fun j hj=>Blk.frozen (show Blk w2 g 211 cur1 from k1) _)
  have:=HK.out.1;have:=HZ.out
  rw[cell_of_row w2 g _ cur1 211 (0,0) k1,Array.getElem?_eq_getElem (by omega)];rfl
 have hzl:(Builtin.zeroCells (.agg #[.int .i64 0,.int .i64 0,.slice none 0 0]:Value).cells 1).toList.length=3:=by kernel_rfl
 obtain⟨cur2,m1,m2,m3⟩:=setCells_heap g 211 (0,0) (Builtin.zeroCells (.agg #[.int .i64 0,.int .i64 0,.slice none 0 0]:Value).cells 1).toList ((n-1)*3) w2 cur1 k1 (by rw[hzl];have:=HK.out.1;have:=HZ.out;omega)
 have hO2:=setCells_only g (Builtin.zeroCells (.agg #[.int .i64 0,.int .i64 0,.slice none 0 0]:Value).cells 1).toList ((n-1)*3) w2
 generalize w2.setCells g ((n-1)*3) (Builtin.zeroCells (.agg #[.int .i64 0,.int .i64 0,.slice none 0 0]:Value).cells 1).toList=w3 at hcl m1 hO2
 have HM:=Lib.hid (And.intro m2 m3)
 clear m2 m3 hzl hn1
 go_wp2_with fail
 go_ret
 have hj:Just R w w3:=(Just.of_grow hg).trans (Just.of_only (hO1.trans hO2) hV)
 obtain⟨k2,k3⟩:=HK.out
 obtain⟨m2,m3⟩:=HM.out
 have hlen:=HL.out
 have hdl:=HD.out
 have hsz:=HZ.out
 have hkm:=HKM.out
 have htk:=HT.out
 have hti:cur.toList.take (i*3)=xs.take (i*3):=by rw[←htk,List.take_take,Nat.min_eq_left (by omega)]
 have hlti:(xs.take (i*3)).length=i*3:=by rw[List.length_take];omega
 have hl2:(xs.take (i*3)++xs.drop ((i+1)*3)).length=(n-1)*3:=by rw[List.length_append,hlti,hdl];omega
 refine⟨rfl,⟨hl2,.inr ⟨g,c,cur2,rfl,hV,m1,by omega,hm,by rw[m2,k2,hsz],?_⟩⟩,hj⟩
 have h1:cur1.toList.take ((n-1)*3)=xs.take (i*3)++xs.drop ((i+1)*3):=by
  rw[k3,hti,←hl2];exact List.take_left
 rw[m3,h1,List.append_assoc,←hl2];exact List.take_left
def minus (l:List Lb) (i:Nat):List Lb:=l.take i++l.drop (i+1)
theorem net_minus {g:Nat} {nodes:Int} {P:Nat→Bool} {w w1 w2:World} {V R D:Nat→Prop} {q:List Lt} {l:List Lb} {A0:Option Addr} {c0 i:Nat} (h1:V g) (hql:q.map Lt.abs=l) (h64:q.length≤64) (hN:1≤nodes∧nodes≤8) (hInv:∀ a∈l,InN nodes a)
 (hB1:Blk w1 g 209 (netc nodes (.slice A0 q.length c0) P)) (h6:∀ b∈q,LtIn w1 D b) (h7:∀ b,R b→V b∧b≠g∧¬ D b) (h8:∀ b,D b→V b∧b≠g) (hi:i<q.length) (hg:Grow w w1)
 (hR2:Row w2 R 211 3 (.slice A0 (q.length-1) c0) (q.length-1) ((q.flatMap Lt.cells).take (i*3)++(q.flatMap Lt.cells).drop ((i+1)*3))) (hj2:Just R w1 w2) :
 NetAt g nodes (minus l i) P (w2.setCell ⟨g,1,none⟩ (.slice A0 (q.length-1) c0)) V∧Just V w (w2.setCell ⟨g,1,none⟩ (.slice A0 (q.length-1) c0)):=by
 have hgR:¬ R g:=fun h=>(h7 g h).2.1 rfl
 have hB2:=hj2.blk hB1 hgR
 have hql':(q.take i++q.drop (i+1)).length=q.length-1:=by rw[List.length_append,List.length_take,List.length_drop];omega
 have hcs:(q.take i++q.drop (i+1)).flatMap Lt.cells=(q.flatMap Lt.cells).take (i*3)++(q.flatMap Lt.cells).drop ((i+1)*3):=by
  rw[List.flatMap_append,flat_take Lt.cells 3 lt_len,flat_drop Lt.cells 3 lt_len]
 have hmem:∀ b∈q.take i++q.drop (i+1),b∈q:=fun b hb=>by
  rcases List.mem_append.1 hb with h|h
  ·exact List.mem_of_mem_take h
  ·exact List.mem_of_mem_drop h
 have hjs:=just_at w2 g 1 (.slice A0 (q.length-1) c0)
 refine⟨⟨h1,.slice A0 (q.length-1) c0,q.take i++q.drop (i+1),R,D,?_,by omega,hN,fun a ha=>hInv a ?_,?_,?_,fun b hb=>?_,h7,h8⟩,?_⟩
 ·rw[List.map_append,List.map_take,List.map_drop,hql];rfl
 ·unfold minus at ha
  rcases List.mem_append.1 ha with h|h
  ·exact List.mem_of_mem_take h
  ·exact List.mem_of_mem_drop h
 ·have:=hB2.put 1 (.slice A0 (q.length-1) c0)
  rwa [netc_set1] at this
 ·rw[hql',hcs]
  exact hR2.just hjs fun b hb e=>hgR (by rw[←show b=g from e];exact hb)
 ·exact ((h6 b (hmem b hb)).just hj2 fun x hx hr=>(h7 x hr).2.2 hx).just hjs fun x hx e=>(h8 x hx).2 e
 ·exact ((Just.of_grow hg).trans (hj2.imp fun x hx=>(h7 x hx).1)).trans (hjs.imp fun x hx=>by rw[show x=g from hx];exact h1)
end Go.Proofs.YtmijcbfgfkeodaaGreatDoor.Ne
end
