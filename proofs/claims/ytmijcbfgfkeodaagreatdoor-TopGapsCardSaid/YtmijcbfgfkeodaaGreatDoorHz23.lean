/- Bk3, Bk4, Bk5. -/
import Derived.Test.YtmijcbfgfkeodaaGreatDoorHz19
import Derived.Test.YtmijcbfgfkeodaaGreatDoorHz22
set_option linter.all false
set_option maxRecDepth 100000
section
namespace Go.Proofs.YtmijcbfgfkeodaaGreatDoor
open Go.RowKit Go.Hop
structure Qs where
 (a b c d:Nat)
def bkC (ep:Int) (sl:Value) (z:Qs) (cu:Value):Array Value:=#[.int .i64 ep,sl,.int .i64 1,.pointer (some ⟨z.a,0,none⟩),.pointer (some ⟨z.b,0,none⟩),.pointer (some ⟨z.c,0,none⟩),.pointer (some ⟨z.d,0,none⟩),cu]
def Smp (sl:Value) (l:List Dl):Thing:=fun w V=>Row w V 29 2 sl l.length (dcells l)
theorem Smp.framed (sl:Value) (l:List Dl):Framed (Smp sl l):=fun w w' V h hk=>Row.keep h fun b hb _=>hk b hb
theorem Smp.nil (w:World) (V:Nat→Prop):Smp (.slice none 0 0) [] w V:=Row.nil
def bookL (s:Nat) (z:Qs) (ep:Int) (sl:Value) (smp:List Dl) (l0:List Q.Ab) (k0:Int) (cu:Value):List Thing:=[Cell s 148 (bkC ep sl z cu),Smp sl smp,Q.QueueAt z.a l0 k0,Q.QueueAt z.b [] 0,Q.QueueAt z.c [] 0,Q.QueueAt z.d [] 0]
def BookT (s:Nat) (z:Qs) (ep:Int) (sl:Value) (smp:List Dl) (l0:List Q.Ab) (k0:Int) (cu:Value):Thing:=Many (bookL s z ep sl smp l0 k0 cu)
theorem bookL_framed (s:Nat) (z:Qs) (ep:Int) (sl:Value) (smp:List Dl) (l0:List Q.Ab) (k0:Int) (cu:Value):AllFramed (bookL s z ep sl smp l0 k0 cu):=(((((AllFramed.nil.cons (Q.QueueAt.framed _ _ _)).cons (Q.QueueAt.framed _ _ _)).cons (Q.QueueAt.framed _ _ _)).cons (Q.QueueAt.framed _ _ _)).cons (Smp.framed _ _)).cons (Cell.framed _ _ _)
theorem BookT.framed (s:Nat) (z:Qs) (ep:Int) (sl:Value) (smp:List Dl) (l0:List Q.Ab) (k0:Int) (cu:Value):Framed (BookT s z ep sl smp l0 k0 cu):=Many.framed _ (bookL_framed _ _ _ _ _ _ _ _)
def pq (gs:List Nat) (i:Nat):Value:=(gs[i]?.map fun g => .pointer (some ⟨g,0,none⟩)).getD (.pointer none)
def bkL (gs:List Nat):Array Value:=#[.int .i64 0,.slice none 0 0,.int .i64 1,pq gs 0,pq gs 1,pq gs 2,pq gs 3,.slice none 0 0]
theorem bkL_more (gs:List Nat) (g:Nat) (h:gs.length<4):(bkL gs).setIfInBounds (3+gs.length) (.pointer (some ⟨g,0,none⟩))=bkL (gs++[g]):=by
 match gs,h with
 | [],_=>rfl
 | [a],_=>rfl
 | [a,b],_=>rfl
 | [a,b,c],_=>rfl
theorem bkL_next (gs:List Nat) (h:gs.length<4):(bkL gs)[3+gs.length]?=some (.pointer none):=by
 match gs,h with
 | [],_=>rfl
 | [a],_=>rfl
 | [a,b],_=>rfl
 | [a,b,c],_=>rfl
def QNewF (B:Nat) (u:Value) (w:World):Prop:=∃ g,u=.pointer (some ⟨g,0,none⟩)∧∃ V:Nat→Prop,(∀ b,V b→B≤b∧b<w.heap.size)∧Q.QueueAt g [] 0 w V
theorem qNewF_lasting (B:Nat):Lasting (QNewF B):=fun u w w' ⟨g,e,V,h1,h2⟩ hg=>⟨g,e,V,fun b hb=>by have:=h1 b hb;have:=hg.size;omega,Q.QueueAt.framed _ _ _ w w' V h2 fun b hb=>hg.block b (h1 b hb).2⟩
theorem qNew_is (wr w:World) (hs:Grow wr w):Calls Tryz.prog 147 #[] w fun e w'=>∃ v,e=.returned v∧Grow w w'∧QNewF wr.heap.size v w':=
 (Q.New_any w).mono fun e w' ⟨h1,h2,h3⟩=>⟨_,h1,h3,_,rfl,_,fun b hb=>⟨by have:=hs.size;have:=hb.1;omega,hb.2⟩,h2⟩
theorem bookq_framed (s:Nat) (cs:Array Value) (gs:List Nat):AllFramed (Cell s 148 cs :: gs.map fun g=>Q.QueueAt g [] 0):=AllFramed.cons (Cell.framed _ _ _) fun S hS=>by
 obtain⟨g,_,rfl⟩:=List.mem_map.1 hS
 exact Q.QueueAt.framed _ _ _
theorem bNew_any (w:World):Calls Tryz.prog 66 #[] w fun e w'=>∃ s z,e=.returned (.pointer (some ⟨s,0,none⟩))∧BookT s z 0 (.slice none 0 0) [] [] 0 (.slice none 0 0) w' (New w w')∧Grow w w':=by
 have k147:∀ (vs:Array Value) (w:World),(callFunc 147 vs).run Tryz.prog w=.ok (.enter 147 vs) w:=fun vs w=>by go_simp
 have hga:=grow_alloc w (.cells (bkL []) 148)
 have hBs:=Blk.made w 148 (bkL [])
 obtain⟨s,HS⟩:∃ s:Nat,Hid (s=w.heap.size):=⟨_,rfl⟩
 obtain⟨wa,HA_⟩:∃ wa:World,Hid (wa=w.alloc (.cells (bkL []) 148)):=⟨_,rfl⟩
 rw[←HA_.out] at hga hBs
 rw[←HS.out] at hBs
 have hS0:Solo (fun b=>w.heap.size≤b) (Many (Cell s 148 (bkL []) :: ([]:List Nat).map fun g=>Q.QueueAt g [] 0)) wa:=
  Solo.of_new (V:=fun b=>b=s) (fun b hb=>by have:=hga.size;omega) ⟨fun b=>b=s,fun _=>False,⟨rfl,hBs⟩,trivial,fun _ h=>h,fun _ h=>h.elim,fun _ _ h=>h⟩ fun b hb=>by have:=HS.out;have:=hBs.lt;omega
 have HA2:Hid (wa=w.alloc (.cells #[.int .i64 0,.slice none 0 0,.int .i64 1,.pointer none,.pointer none,.pointer none,.pointer none,.slice none 0 0] 148)):=HA_
 clear HA_
 have hww:=hga.size
 go_enter Tryz.func66,Tryz.ntmps66
 go_wp2_with fail
 rw[←HA2.out,←HS.out]
 go_loopw [5] (fun i wr=>∃ gs:List Nat,gs.length≤4∧i=.int .i64 (gs.length:Int)∧Solo (fun b=>w.heap.size≤b) (Many (Cell s 148 (bkL gs) :: gs.map fun g=>Q.QueueAt g [] 0)) wr∧Just (fun b=>w.heap.size≤b) w wr) (fun i _=>4-(intOf i).toNat)
 case atStart=>exact⟨[],by decide,rfl,hS0,Just.of_grow hga⟩
 case round=>
  obtain⟨gs,hgl,rfl,hS,hj⟩:=hrel
  by_cases hk:gs.length<4
  ·have hF:=bookq_framed s (bkL gs) gs
   have hB:=hS.blk 0 rfl
   have hlt4:decide ((gs.length:Int)<4)=true:=decide_eq_true (by omega)
   obtain⟨k,HK⟩:∃ k:Nat,Hid (k=gs.length):=⟨_,rfl⟩
   have hnx:=bkL_next gs hk
   rw[←HK.out] at hlt4 hk hnx ⊢
   go_wp2_with fail
   refine wp_region_flow 6 16 [(2,.inr (fun _=>QNewF wr.heap.size))] rfl rfl (by kernel_rfl) (by kernel_rfl) (by kernel_rfl) ?_ ?_
   ·intro x hx φ he
    simp only[List.mem_cons,List.not_mem_nil,or_false] at hx
    rcases hx with rfl<;>cases he
    all_goals first|exact lasts_quiet (lasting_bytes _)|exact lasts_quiet (qNewF_lasting _)
   intro ops' A' K' T hops hA' hK hT
   refine fl_mvN 8 (.pointer (some ⟨s,0,none⟩)) ?_
   refine fl_mvN 9 (.int .i64 (k:Int)) ?_
   refine fl_callAny 10 (by rfl) (by decide) (wanted_none (by rfl)) (fun _=>QNewF wr.heap.size) (by rw[hK.out];rfl) 147 _ _ (by rfl) [] (by rfl) k147 (fun kk w1 (hg:Grow _ w1) hb hf=>calls_behindAny (φ:=fun _=>QNewF wr.heap.size) (by rfl) (by exact (qNew_is wr w1 hg))) (fun v10=>?_)
   refine fl_op1G 11 (.tmp 8) (.pointer (some ⟨s,0,none⟩)) (.pointer (some ⟨s,0,none⟩)) ?_
   refine fl_op1G 12 (.tmp 11) (.pointer (some ⟨s,0,none⟩)) (.pointer (some ⟨s,3,none⟩)) ?_
   refine fl_op2N 13 (.tmp 12) (.tmp 9) (.pointer (some ⟨s,3,none⟩)) (.int .i64 (k:Int)) (.pointer (some ⟨s,3+k,none⟩)) (fun ρ h1 h2 kk w1 (hg:Grow _ w1) hb hf=>by go_simp;try (intro h;exfalso;omega)) ?_
   refine fl_end (fun _ _ w1 (hg:Grow _ w1) _ hfacts=>hT _ _ ?_)
   clear hops hA' hK hT
   simp only[putsL,Act.put,List.setIfInBounds_toArray,List.set_cons_zero,List.set_cons_succ,List.drop_succ_cons,List.drop_zero]
   obtain⟨g,rfl,V,hV,hQ⟩:QNewF wr.heap.size v10 w1:=hfacts.1
   clear hfacts
   have hS1:=(hS.join hF hg hQ hV).puts 1 rfl (hF.cons (Q.QueueAt.framed _ _ _)) (3+k) (.pointer (some ⟨g,0,none⟩))
   have hP:=(hS.lics 0 rfl).1
   rw[HK.out,bkL_more gs g (by have:=HK.out;omega),←HK.out] at hS1
   have hS2:=hS1.perm (l':=Cell s 148 (bkL (gs++[g])) :: (gs++[g]).map fun g=>Q.QueueAt g [] 0) ((List.Perm.swap _ _ _).trans (List.Perm.cons _ (by rw[List.map_append];exact (List.perm_append_singleton _ _).symm)))
   have hj1:=(hj.trans (Just.of_grow hg)).put (V:=fun b=>w.heap.size≤b) hP (3+k) (.pointer (some ⟨g,0,none⟩))
   have hB1:=hB.grow hg
   have c0:=hB1.cell (3+k)
   rw[hnx] at c0
   have f0:=hB1.frozen (3+k)
   clear hB hnx
   obtain⟨w2,HW⟩:∃ w2:World,Hid (w2=w1.setCell ⟨s,3+k,none⟩ (.pointer (some ⟨g,0,none⟩))):=⟨_,rfl⟩
   rw[←HW.out] at hS2 hj1
   have hgl':k+1≤4:=by have:=HK.out;omega
   go_wp2_with fail
   go_roundw
   case rel=>exact⟨gs++[g],by rw[List.length_append,←HK.out];exact hgl',by rw[List.length_append,←HK.out];go_num,by rw[←HW.out];exact hS2,by rw[←HW.out];exact hj1⟩
   case measure=>simp[intOf];omega
  ·obtain⟨k,HK⟩:∃ k:Nat,Hid (k=gs.length):=⟨_,rfl⟩
   have h4:gs.length=4:=by omega
   obtain⟨g0,g1,g2,g3,rfl⟩:∃ a b c d,gs=[a,b,c,d]:=by
    match gs,h4 with
    | [a,b,c,d],_=>exact⟨a,b,c,d,rfl⟩
   go_wp2_with fail
   go_ret
   obtain⟨_,U,hU,hlt⟩:=hS
   have hU2:Many (Smp (.slice none 0 0) [] :: Cell s 148 (bkC 0 (.slice none 0 0) ⟨g0,g1,g2,g3⟩ (.slice none 0 0)) :: [g0,g1,g2,g3].map fun g=>Q.QueueAt g [] 0) wr U:=⟨fun _=>False,U,Smp.nil _ _,hU,fun _ h=>h.elim,fun _ h=>h,fun _ h=>h.elim⟩
   exact⟨s,⟨g0,g1,g2,g3⟩,rfl,Many.wide _ wr U _ (fun b hb=>hlt b hb) (Many.perm (List.Perm.swap _ _ _) hU2),hj.below (B:=w.heap.size) (fun b hb=>hb) (Nat.le_refl _)⟩
theorem bAdd2_yes (w:World) (s:ByteArray) (n x:Nat) (y:Nat) (hy:Blk w y 29 #[.string s,.int .u64 (x:Int)]):Calls Tryz.prog 225 #[.agg #[.string s,.int .u64 (n:Int)],.pointer (some ⟨y,0,none⟩)] w fun e w'=>e=.returned (.bool true)∧Grow w w':=by
 have hga:=grow_alloc w (.cells #[.string s,.int .u64 (n:Int)] 29)
 have c0:=(hy.grow hga).cell 0
 go_enter Tryz.func225,Tryz.ntmps225
 go_wp2_with fail
 go_ret
 exact⟨by simp,hga⟩
theorem idx2_yes (w:World) (s:ByteArray) (n x y c:Nat) (A:Option Addr) (D:Nat→Prop) (hd:DIn w D A 1 [(s,n)]) (hy:Blk w y 29 #[.string s,.int .u64 (x:Int)]):Calls Tryz.prog 156 #[.slice A 1 c,.func (.func 225) #[] #[.pointer (some ⟨y,0,none⟩)]] w fun e w'=>e=.returned (.int .i64 0)∧Grow w w':=by
 obtain⟨ad,hq,rfl,f0,f1⟩:=del_cells hd (k:=0) (by omega)
 have e0:w.cell? ad=some (.string s):=f0 w (Grow.refl _)
 have e1:w.cell? ⟨ad.block,ad.off+1,none⟩=some (.int .u64 (n:Int)):=f1 w (Grow.refl _)
 clear f0 f1
 have hC:=bAdd2_yes w s n x y hy
 go_enter Tryz.func156,Tryz.ntmps156
 go_wp2_with fail
 go_loopw [8] (fun i wr=>i=.int .i64 0∧w=wr) (fun _ _=>0)
 case atStart=>exact⟨rfl,rfl⟩
 case round=>
  obtain⟨rfl,rfl⟩:=hrel
  go_wp2_with fail
  refine hC.mono ?_
  rintro e w2 ⟨rfl,hg2⟩
  go_wp2_with fail
  go_ret
  exact⟨rfl,hg2⟩
theorem contF_yes (w:World) (s:ByteArray) (n x y c:Nat) (A:Option Addr) (D:Nat→Prop) (hd:DIn w D A 1 [(s,n)]) (hy:Blk w y 29 #[.string s,.int .u64 (x:Int)]):Calls Tryz.prog 204 #[.slice A 1 c,.func (.func 225) #[] #[.pointer (some ⟨y,0,none⟩)]] w fun e w'=>e=.returned (.bool true)∧Grow w w':=by
 have hI:=idx2_yes w s n x y c A D hd hy
 go_enter Tryz.func204,Tryz.ntmps204
 go_wp2_with fail
 refine hI.mono ?_
 rintro e w2 ⟨rfl,hg2⟩
 go_wp2_with fail
 go_ret
 exact⟨rfl,hg2⟩
theorem bAdd1_yes (w:World) (s:ByteArray) (n x y c:Nat) (sq:Int) (A:Option Addr) (D:Nat→Prop) (hd:DIn w D A 1 [(s,n)]) (hy:Blk w y 159 #[.int .i64 sq,.slice A 1 c]):Calls Tryz.prog 224 #[.agg #[.string s,.int .u64 (x:Int)],.pointer (some ⟨y,0,none⟩)] w fun e w'=>e=.returned (.bool true)∧Grow w w':=by
 have hga:=grow_alloc w (.cells #[.string s,.int .u64 (x:Int)] 29)
 have c1:=(hy.grow hga).cell 1
 have hC:=contF_yes _ s n x w.heap.size c A D (In.grow hd hga) (Blk.made w 29 #[.string s,.int .u64 (x:Int)])
 go_enter Tryz.func224,Tryz.ntmps224
 go_wp2_with fail
 refine hC.mono ?_
 rintro e w2 ⟨rfl,hg2⟩
 go_wp2_with fail
 go_ret
 exact⟨rfl,hga.trans hg2⟩
theorem idx1_yes (w:World) (s:ByteArray) (n x y c c2:Nat) (sq:Int) (A A2:Option Addr) (D D2:Nat→Prop) (hd2:DIn w D2 A2 1 [(s,x)]) (hd:DIn w D A 1 [(s,n)]) (hy:Blk w y 159 #[.int .i64 sq,.slice A 1 c]):Calls Tryz.prog 156 #[.slice A2 1 c2,.func (.func 224) #[] #[.pointer (some ⟨y,0,none⟩)]] w fun e w'=>e=.returned (.int .i64 0)∧Grow w w':=by
 obtain⟨ad,hq,rfl,f0,f1⟩:=del_cells hd2 (k:=0) (by omega)
 have e0:w.cell? ad=some (.string s):=f0 w (Grow.refl _)
 have e1:w.cell? ⟨ad.block,ad.off+1,none⟩=some (.int .u64 (x:Int)):=f1 w (Grow.refl _)
 clear f0 f1
 have hC:=bAdd1_yes w s n x y c sq A D hd hy
 go_enter Tryz.func156,Tryz.ntmps156
 go_wp2_with fail
 go_loopw [8] (fun i wr=>i=.int .i64 0∧w=wr) (fun _ _=>0)
 case atStart=>exact⟨rfl,rfl⟩
 case round=>
  obtain⟨rfl,rfl⟩:=hrel
  go_wp2_with fail
  refine hC.mono ?_
  rintro e w2 ⟨rfl,hg2⟩
  go_wp2_with fail
  go_ret
  exact⟨rfl,hg2⟩
theorem dlt_info:(Tryz.prog.info? 29).map (fun i=>(i.zero,i.size,i.bytes))=some (some (.agg #[.string ⟨#[]⟩,.int .u64 0]),2,24):=by kernel_rfl
theorem dltE:Elem Tryz.prog 30 29 2 24 (.agg #[.string ⟨#[]⟩,.int .u64 0]):=⟨Tryz.underlying30,info_parts dlt_info,rfl,by decide,by decide⟩
theorem delF_one (w:World) (s:ByteArray) (n x y c:Nat) (sq:Int) (A:Option Addr) (D V:Nat→Prop) (sl:Value) (hR:Row w V 29 2 sl 1 (dcells [(s,x)])) (hd:DIn w D A 1 [(s,n)]) (hy:Blk w y 159 #[.int .i64 sq,.slice A 1 c]) :
 Calls Tryz.prog 223 #[sl,.func (.func 224) #[] #[.pointer (some ⟨y,0,none⟩)]] w fun e w'=>∃ sl',e=.returned sl'∧Row w' V 29 2 sl' 0 []∧Just V w w'∧sl'.oneCell'=true:=by
 obtain⟨hl,h0|⟨g,cap,cur,rfl,hV,hg,hc1,hcm,hcs,htk⟩⟩:=id hR
 ·exact absurd h0.2 (by omega)
 obtain⟨A2,c2,e2,hd2,_,_⟩:=hR.in_
 injection e2 with e2 _ e3
 subst e2 e3
 have hI:=idx1_yes w s n x y c cap sq A _ D V hd2 hd hy
 have n1:decide ((1:Int)<1)=false:=rfl
 go_enter Tryz.func223,Tryz.ntmps223
 go_wp2_with fail
 refine hI.mono ?_
 rintro e w1 ⟨rfl,hg1⟩
 have hB1:Blk w1 g 29 cur:=(hg1.block g (Array.getElem?_eq_some_iff.1 hg).1).trans hg
 have hcl:∀ ty,(Builtin.clear_ #[30] ty #[.slice (some ⟨g,0,none⟩) 1 cap]).run Tryz.prog w1=.ok (.tuple #[]) (w1.setCells g 0 (Builtin.zeroCells (.agg #[.string ⟨#[]⟩,.int .u64 0]:Value).cells 1).toList):=fun ty=>by
  have h2:2≤cur.size:=by omega
  refine run_clear_cells dltE (zero_run dltE) (by simp[Value.cells,Value.oneCell']) w1 ty g 0 1 cap (by omega) (fun j hj=>?_) (fun j hj=>hB1.frozen _)
  rw[hB1.cell]
  have:0+j<cur.size:=by omega
  rw[Array.getElem?_eq_getElem this];rfl
 go_wp2_with fail
 go_loopw [5,6] (fun j i wr=>j=.int .i64 0∧i=.int .i64 1∧w1=wr) (fun _ _ _=>0)
 case atStart=>exact⟨rfl,rfl,rfl⟩
 case round=>
  obtain⟨rfl,rfl,rfl⟩:=hrel
  go_wp2_with fail
  go_ret
  have hZl:(Builtin.zeroCells #[Value.string ⟨#[]⟩,Value.int IntKind.u64 0] 1).toList.length=2:=by simp[Builtin.zeroCells]
  generalize (Builtin.zeroCells #[Value.string ⟨#[]⟩,Value.int IntKind.u64 0] 1).toList=Z at hZl ⊢
  have hB2:=hB1.part 0 Z (by omega)
  refine⟨_,rfl,⟨rfl,.inr ⟨g,cap,_,rfl,hV,hB2,Nat.zero_le _,hcm,?_,rfl⟩⟩,(Just.of_grow hg1).trans ((just_part g 0 Z w1).imp fun b hb=>by rw[hb];exact hV),rfl⟩
  simp only[List.size_toArray,List.length_append,List.length_take,List.length_drop,Array.length_toList,hZl]
  omega
theorem bright_ok (w:World) (s:ByteArray) (x:Nat) (hp:L.parseE s=0) (hs:s.size≤1000000) (hx:1≤x):Calls Tryz.prog 151 #[.agg #[.string s,.int .u64 (x:Int)]] w fun e w'=>e=.returned (.bool true)∧Grow w w':=by
 have hga:=grow_alloc w (.cells #[.string s,.int .u64 (x:Int)] 29)
 have hB:=Blk.made w 29 #[.string s,.int .u64 (x:Int)]
 have hP:=L.Parse_any (w.alloc (.cells #[.string s,.int .u64 (x:Int)] 29)) s hs
 rw[hp] at hP
 have hx':decide ((0:Int)<(x:Int))=true:=decide_eq_true (by omega)
 go_enter Tryz.func151,Tryz.ntmps151
 go_wp2_with fail
 refine hP.mono ?_
 rintro e w2 ⟨Ap,cp,rfl,_,_,hg2⟩
 have c1:=(hB.grow hg2).cell 1
 go_wp2_with fail
 go_ret
 exact⟨by first|rfl|(simp;omega),hga.trans hg2⟩
theorem bMay_0 (w:World) (st:Nat) (ep:Int) (A:Option Addr) (c:Nat) (z:Qs) (cu:Value) (hst:Blk w st 148 (bkC ep (.slice A 0 c) z cu)) (s:ByteArray) (x:Nat) (hp:L.parseE s=0) (hs:s.size≤1000000) (hx:1≤x):Calls Tryz.prog 70 #[.pointer (some ⟨st,0,none⟩),.agg #[.string s,.int .u64 (x:Int)]] w fun e w'=>e=.returned (.int .i64 0)∧Grow w w':=by
 have hga:=grow_alloc w (.cells #[.string s,.int .u64 (x:Int)] 29)
 have hB:=Blk.made w 29 #[.string s,.int .u64 (x:Int)]
 have hR:=bright_ok (w.alloc (.cells #[.string s,.int .u64 (x:Int)] 29)) s x hp hs hx
 unfold bkC at hst
 have hlt:decide ((32:Int)≤0)=false:=rfl
 go_enter Tryz.func70,Tryz.ntmps70
 go_wp2_with fail
 refine hR.mono ?_
 rintro e w2 ⟨rfl,hg2⟩
 have c0:=(hB.grow hg2).cell 0
 have c1:=(hB.grow hg2).cell 1
 have b1:=(hst.grow (hga.trans hg2)).cell 1
 go_wp2_with fail
 clear c0 c1 b1
 go_loopw [24] (fun i wr=>i=.int .i64 0∧w2=wr) (fun _ _=>0)
 case atStart=>exact⟨rfl,rfl⟩
 case round=>
  obtain⟨rfl,rfl⟩:=hrel
  go_wp2_with fail
  go_ret
  exact⟨rfl,hga.trans hg2⟩
theorem id_info:(Tryz.prog.info? 26).map (fun i=>(i.zero,i.size,i.bytes))=some (some (.agg #[.int .i64 0,.int .i64 0,.int .i64 0]),3,24):=by kernel_rfl
theorem idE:Elem Tryz.prog 41 26 3 24 (.agg #[.int .i64 0,.int .i64 0,.int .i64 0]):=⟨Tryz.underlying41,info_parts id_info,rfl,by decide,by decide⟩
theorem ident_made {w:World} {o:Oper} {ρ:Operand→Value} {x:Operand} {a b c:Int} (ho:o.op=.buildSlice 41 1 #[(0,x)]) (hx:ρ x=.agg #[.int .i64 a,.int .i64 b,.int .i64 c]) :
 flowUpon Tryz.prog (fun u w'=>Grow w w'∧IsIn 3 1 [.int .i64 a,.int .i64 b,.int .i64 c] u w') ((execOp ρ o).run Tryz.prog w):=by
 obtain⟨dst,op,ty,pos,after,guard⟩:=o
 simp only at ho
 subst ho
 exact flowUpon_value (u := .slice (some ⟨w.heap.size,0,none⟩) 1 1) (w:=w.alloc (.cells #[.int .i64 a,.int .i64 b,.int .i64 c] 26)) (by go_simp) ⟨(Below.refl _ w).alloc (Nat.le_refl _) _,isIn_blk (Blk.made w _ _) rfl⟩
theorem ident_one (a b c:Int):∀ u∈[Value.int .i64 a,.int .i64 b,.int .i64 c],u.oneCell'=true:=by simp[Value.oneCell']
def NewRow (B:Nat) (e:TypeId) (size n:Nat) (xs:List Value) (u:Value) (w:World):Prop:=∃ V:Nat→Prop,Row w V e size u n xs∧∀ b,V b→B≤b∧b<w.heap.size
theorem newRow_lasting (B:Nat) (e:TypeId) (size n:Nat) (xs:List Value):Lasting (NewRow B e size n xs):=fun u w w' ⟨V,h,hV⟩ hg=>⟨V,h.grow hg,fun b hb=>⟨(hV b hb).1,Nat.lt_of_lt_of_le (hV b hb).2 hg.size⟩⟩
theorem app_nil {e t:TypeId} {size bytes:Nat} {z:Value} (E:Elem Tryz.prog t e size bytes z) {B:Nat} {w:World} {o:Oper} {ρ:Operand→Value} {s x:Operand} {u:Value} {n:Nat} {xs:List Value} (hB:B≤w.heap.size) (hI:IsIn size n xs u w) (hs:ρ s=.slice none 0 0) (hx:ρ x=u) (ho:o.op=.call { callee := .builtin .append,args:=#[s,x],argTypes:=#[t,t] }) (h1:∀ u∈xs,u.oneCell'=true) (hb:n*bytes≤140737488355328) :
 flowUpon Tryz.prog (fun v w'=>Grow w w'∧NewRow B e size n xs v w') ((execOp ρ o).run Tryz.prog w):=by
 obtain⟨A,rfl,h⟩:=hI
 refine flow_append_row E ho hs (Row.nil (V:=fun _=>False)) hx h.reads h1 (by rw[Nat.zero_add];exact hb) fun v' w' hR hj=>⟨hj.below (B:=w.heap.size) (fun b hb=>hb.elim) (Nat.le_refl _),?_⟩
 rw[Nat.zero_add,List.nil_append] at hR
 exact⟨_,hR,fun b hb=>hb.elim (fun h=>h.elim) fun h=>⟨Nat.le_trans hB h.1,h.2⟩⟩
theorem newRow_one {B:Nat} {e:TypeId} {size n:Nat} {xs:List Value} {u:Value} {w:World} (h:NewRow B e size n xs u w):∃ A c,u=.slice A n c:=by
 obtain⟨V,h,_⟩:=h
 obtain⟨A,c,e,_⟩:=h.in_
 exact⟨A,c,e⟩
def BookE (st:Nat) (z:Qs) (ep:Int) (l0:List Q.Ab) (k0:Int):Thing:=fun w V=>∃ A c cu,BookT st z ep (.slice A 0 c) [] l0 k0 cu w V
theorem BookE.framed (st:Nat) (z:Qs) (ep:Int) (l0:List Q.Ab) (k0:Int):Framed (BookE st z ep l0 k0):=fun w w' V ⟨A,c,cu,h⟩ hk=>⟨A,c,cu,BookT.framed _ _ _ _ _ _ _ _ w w' V h hk⟩
theorem bAdd_one (w:World) (st:Nat) (z:Qs) (ep:Int) (sl:Value) (s:ByteArray) (n x sq c:Nat) (l0:List Q.Ab) (k0:Int) (A:Option Addr) (D V:Nat→Prop) (hBk:BookT st z ep sl [(s,x)] l0 k0 (.slice none 0 0) w V) (hV:∀ b,V b→b<w.heap.size) (hd:DIn w D A 1 [(s,n)]) (hDl:∀ b,D b→b<w.heap.size) (hDV:∀ b,D b→¬ V b) (hc1:1≤c) (hc:c≤maxLen) (hadd:Q.addE l0 k0 sq 1=0) :
 Calls Tryz.prog 161 #[.pointer (some ⟨st,0,none⟩),.int .i64 0,.agg #[.int .i64 (sq:Int),.slice A 1 c]] w fun e w'=>e=.returned (.tuple #[])∧BookE st z ep (l0++[((sq:Int),[(s,n)])]) sq w' (Ext V w w')∧Just V w w':=by
 have k222:∀ (vs:Array Value) (w:World),(callFunc 222 vs).run Tryz.prog w=.ok (.enter 222 vs) w:=fun vs w=>by go_simp
 have hF:=bookL_framed st z ep sl [(s,x)] l0 k0 (.slice none 0 0)
 have hS:=Solo.begin_ hBk hV
 have hg0:=grow_alloc w (.cells #[.int .i64 (sq:Int),.slice A 1 c] 159)
 have hBy:=Blk.made w 159 #[.int .i64 (sq:Int),.slice A 1 c]
 obtain⟨y,HY⟩:∃ y:Nat,Hid (y=w.heap.size):=⟨_,rfl⟩
 obtain⟨wa,HA_⟩:∃ wa:World,Hid (wa=w.alloc (.cells #[.int .i64 (sq:Int),.slice A 1 c] 159)):=⟨_,rfl⟩
 rw[←HA_.out] at hg0 hBy
 rw[←HY.out] at hBy
 have hSa:=hS.join hF hg0 (R:=Cell y 159 #[.int .i64 (sq:Int),.slice A 1 c]) (U:=fun b=>b=y) ⟨rfl,hBy⟩ (fun b hb=>by have:=HY.out;have:=hBy.lt;omega)
 have hFa:=hF.cons (Cell.framed y 159 #[.int .i64 (sq:Int),.slice A 1 c])
 have hY1:=hSa.blk 0 rfl
 have hs1:=hSa.blk 1 rfl
 unfold bkC at hs1
 clear hBy
 go_enter Tryz.func161,Tryz.ntmps161
 go_wp2_with fail
 rw[←HA_.out,←HY.out]
 refine wp_region_flow 7 37 [] rfl rfl (by kernel_rfl) (by kernel_rfl) (by kernel_rfl) ?_ ?_
 ·intro x hx φ he
  cases hx
 intro ops' A' K' T hops hA' hK hT
 refine fl_mvN 6 (.pointer (some ⟨st,0,none⟩)) ?_
 refine fl_mvN 7 (.int .i64 0) ?_
 refine fl_op1G 8 (.tmp 6) (.pointer (some ⟨st,0,none⟩)) (.pointer (some ⟨st,0,none⟩)) ?_
 refine fl_op1G 9 (.tmp 8) (.pointer (some ⟨st,0,none⟩)) (.pointer (some ⟨st,3,none⟩)) ?_
 refine fl_op2N 10 (.tmp 9) (.tmp 7) (.pointer (some ⟨st,3,none⟩)) (.int .i64 0) (.pointer (some ⟨st,3,none⟩)) (fun ρ h1 h2 kk w1 (hg:Grow _ w1) hb hf=>by go_simp) ?_
 refine fl_op1N 11 (.tmp 10) (.pointer (some ⟨st,3,none⟩)) (.pointer (some ⟨z.a,0,none⟩)) (fun ρ h1 kk w1 (hg:Grow _ w1) hb hf=>by have c:=(hs1.grow hg).cell 3;go_simp) ?_
 refine fl_op1N 12 (.tmp 5) (.pointer (some ⟨y,0,none⟩)) (.agg #[.int .i64 (sq:Int),.slice A 1 c]) (fun ρ h1 kk w1 (hg:Grow _ w1) hb hf=>by have c0:=(hY1.grow hg).cell 0;have c1:=(hY1.grow hg).cell 1;go_simp) ?_
 refine fl_end (fun _ _ w1 (hg:Grow _ w1) _ hfacts=>hT _ _ ?_)
 clear hops hA' hK hT
 simp only[putsL,Act.put,List.setIfInBounds_toArray,List.set_cons_zero,List.set_cons_succ,List.drop_succ_cons,List.drop_zero]
 have hS1:=hSa.grows hFa hg
 have J1:=Just.of_grow (V:=Lic V w) (hg0.trans hg)
 have hd1:=In.grow hd (hg0.trans hg)
 have hA:=Q.Add_any w1 D z.a l0 k0 sq A 1 c [(s,n)] hd1 hc1 hc
 rw[hadd] at hA
 have hcall:=hS1.at_ 3 rfl hFa hA
 go_wp2_with fail
 refine hcall.mono ?_
 rintro en w2 ⟨rfl,hj2,hS2⟩
 have hl1:Q.addL l0 k0 sq 1 [(s,n)]=l0++[((sq:Int),[(s,n)])]:=if_pos hadd
 have hl2:Q.addK l0 k0 sq 1=(sq:Int):=if_pos hadd
 rw[hl1,hl2] at hS2
 obtain⟨l1,HL⟩:∃ l1,Hid (l1=l0++[((sq:Int),[(s,n)])]):=⟨_,rfl⟩
 rw[←HL.out] at hS2
 have hS2:Solo (Lic V w) (Many (Cell y 159 #[.int .i64 (sq:Int),.slice A 1 c] :: bookL st z ep sl [(s,x)] l1 sq (.slice none 0 0))) w2:=hS2
 have hFb:=(bookL_framed st z ep sl [(s,x)] l1 sq (.slice none 0 0)).cons (Cell.framed y 159 #[.int .i64 (sq:Int),.slice A 1 c])
 have hY2:=hS2.blk 0 rfl
 have hs2:=hS2.blk 1 rfl
 unfold bkC at hs2
 have J2:=J1.trans hj2
 have hlic:∀ b,D b→¬ Lic V w b:=fun b hb hl=>hl.elim (hDV b hb) (fun h=>by have:=hDl b hb;omega)
 have hd2:DIn w2 D A 1 [(s,n)]:=In.just hd J2 hlic
 have k1:=hs2.cell 1
 have hDF:=hS2.atE (ι:=Value) (C:=fun i e=>e=.returned i∧i.oneCell'=true) (S':=fun i w V=>Row w V 29 2 i 0 []) 2 rfl hFb (fun U hU hUl=>(delF_one w2 s n x y c sq A D U sl hU hd2 hY2).mono fun e w' ⟨i,h1,h2,h3,h4⟩=>⟨i,⟨h1,h4⟩,h2.mono fun b hb => .inl hb,h3⟩)
 go_wp2_with fail
 clear k1
 refine hDF.mono ?_
 rintro en w3 ⟨sl',⟨rfl,hone⟩,hj3,hS3⟩
 obtain⟨U3,hR3,_⟩:=hS3.see 2 rfl
 obtain⟨A9,c9,rfl,_⟩:=hR3.in_
 have hS3:Solo (Lic V w) (Many [Cell y 159 #[.int .i64 (sq:Int),.slice A 1 c],Cell st 148 (bkC ep sl z (.slice none 0 0)),Smp (.slice A9 0 c9) [],Q.QueueAt z.a l1 sq,Q.QueueAt z.b [] 0,Q.QueueAt z.c [] 0,Q.QueueAt z.d [] 0]) w3:=hS3
 have hFc:AllFramed [Cell y 159 #[.int .i64 (sq:Int),.slice A 1 c],Cell st 148 (bkC ep sl z (.slice none 0 0)),Smp (.slice A9 0 c9) [],Q.QueueAt z.a l1 sq,Q.QueueAt z.b [] 0,Q.QueueAt z.c [] 0,Q.QueueAt z.d [] 0]:=((((((AllFramed.nil.cons (Q.QueueAt.framed _ _ _)).cons (Q.QueueAt.framed _ _ _)).cons (Q.QueueAt.framed _ _ _)).cons (Q.QueueAt.framed _ _ _)).cons (Smp.framed _ _)).cons (Cell.framed _ _ _)).cons (Cell.framed _ _ _)
 have hs3:=hS3.blk 1 rfl
 have hP3:=(hS3.lics 1 rfl).1
 unfold bkC at hs3
 have k1:=hs3.cell 1
 have f1:=hs3.frozen 1
 have hS4:=hS3.puts 1 rfl hFc 1 (.slice A9 0 c9)
 have j4:=((J2.trans hj3)).put (V:=Lic V w) hP3 1 (.slice A9 0 c9)
 obtain⟨w4,HW4⟩:∃ w4:World,Hid (w4=w3.setCell ⟨st,1,none⟩ (.slice A9 0 c9)):=⟨_,rfl⟩
 rw[←HW4.out] at hS4 j4
 have hS4:Solo (Lic V w) (Many (Cell y 159 #[.int .i64 (sq:Int),.slice A 1 c] :: bookL st z ep (.slice A9 0 c9) [] l1 sq (.slice none 0 0))) w4:=hS4
 have hFd:=(bookL_framed st z ep (.slice A9 0 c9) [] l1 sq (.slice none 0 0)).cons (Cell.framed y 159 #[.int .i64 (sq:Int),.slice A 1 c])
 have hY4:=hS4.blk 0 rfl
 have hs4:=hS4.blk 1 rfl
 unfold bkC at hs4
 go_wp2_with fail
 rw[←HW4.out]
 clear k1 f1
 refine wp_region_flow 13 37 [(9,.inr (fun _=>IsIn 3 1 [.int .i64 0,.int .i64 0,.int .i64 (sq:Int)])),(10,.inr (fun _=>NewRow w4.heap.size 26 3 1 [.int .i64 0,.int .i64 0,.int .i64 (sq:Int)]))] rfl rfl (by kernel_rfl) (by kernel_rfl) (by kernel_rfl) ?_ ?_
 ·intro x hx φ he
  simp only[List.mem_cons,List.not_mem_nil,or_false] at hx
  rcases hx with rfl|rfl<;>cases he
  all_goals first|exact lasts_quiet (lasting_bytes _)|first|exact lasts_quiet (isIn_lasting _ _ _)|exact lasts_quiet (newRow_lasting _ _ _ _ _)
 intro ops' A' K' T hops hA' hK hT
 refine fl_mvN 24 (.pointer (some ⟨st,0,none⟩)) ?_
 refine fl_mvN 25 (.pointer (some ⟨st,0,none⟩)) ?_
 refine fl_op1N 26 (.tmp 25) (.pointer (some ⟨st,0,none⟩)) (.pointer (some ⟨st,0,none⟩)) (fun ρ h1 kk w5 (hg:Grow _ w5) hb hf=>by go_simp) ?_
 refine fl_op1N 27 (.tmp 26) (.pointer (some ⟨st,0,none⟩)) (.pointer (some ⟨st,7,none⟩)) (fun ρ h1 kk w5 (hg:Grow _ w5) hb hf=>by go_simp) ?_
 refine fl_op1N 28 (.tmp 27) (.pointer (some ⟨st,7,none⟩)) (.slice none 0 0) (fun ρ h1 kk w5 (hg:Grow _ w5) hb hf=>by have c:=(hs4.grow hg).cell 7;go_simp) ?_
 refine fl_mvN 29 (.int .i64 0) ?_
 refine fl_op1N 30 (.tmp 5) (.pointer (some ⟨y,0,none⟩)) (.pointer (some ⟨y,0,none⟩)) (fun ρ h1 kk w5 (hg:Grow _ w5) hb hf=>by go_simp) ?_
 refine fl_op1N 31 (.tmp 30) (.pointer (some ⟨y,0,none⟩)) (.int .i64 (sq:Int)) (fun ρ h1 kk w5 (hg:Grow _ w5) hb hf=>by have c:=(hY4.grow hg).cell 0;go_simp) ?_
 refine fl_op2N 32 (.tmp 29) (.tmp 31) (.int .i64 0) (.int .i64 (sq:Int)) (.agg #[.int .i64 0,.int .i64 0,.int .i64 (sq:Int)]) (fun ρ h1 h2 kk w5 (hg:Grow _ w5) hb hf=>by go_simp) ?_
 refine fl_any1 33 (by rfl) (by decide) (wanted_none (by rfl)) (fun _=>IsIn 3 1 [.int .i64 0,.int .i64 0,.int .i64 (sq:Int)]) (by rw[hK.out];rfl) (.tmp 32) (.agg #[.int .i64 0,.int .i64 0,.int .i64 (sq:Int)]) (by rfl) (fun ρ h1 kk w5 (hg:Grow _ w5) hb hf=>by refine upon_behindAny (φ:=fun _=>IsIn 3 1 [.int .i64 0,.int .i64 0,.int .i64 (sq:Int)]) (by rfl) ?_;exact ident_made rfl h1) (fun v33=>?_)
 refine fl_any2 34 (by rfl) (by decide) (wanted_none (by rfl)) (fun _=>NewRow w4.heap.size 26 3 1 [.int .i64 0,.int .i64 0,.int .i64 (sq:Int)]) (by rw[hK.out];rfl) (.tmp 28) (.tmp 33) (.slice none 0 0) (v33) (by rfl) (by rfl) (fun ρ h1 h2 kk w5 (hg:Grow _ w5) hb hf=>by refine upon_behindAny (φ:=fun _=>NewRow w4.heap.size 26 3 1 [.int .i64 0,.int .i64 0,.int .i64 (sq:Int)]) (by rfl) ?_;exact app_nil idE hg.size (facts_take hf (by rw[hA'.out];kernel_rfl)) h1 h2 rfl (ident_one _ _ _) (by decide)) (fun v34=>?_)
 refine fl_op1N 35 (.tmp 24) (.pointer (some ⟨st,0,none⟩)) (.pointer (some ⟨st,0,none⟩)) (fun ρ h1 kk w5 (hg:Grow _ w5) hb hf=>by go_simp) ?_
 refine fl_op1N 36 (.tmp 35) (.pointer (some ⟨st,0,none⟩)) (.pointer (some ⟨st,7,none⟩)) (fun ρ h1 kk w5 (hg:Grow _ w5) hb hf=>by go_simp) ?_
 refine fl_end (fun _ _ w5 (hg:Grow _ w5) _ hfacts=>hT _ _ ?_)
 clear hops hA' hK hT
 simp only[putsL,Act.put,List.setIfInBounds_toArray,List.set_cons_zero,List.set_cons_succ,List.drop_succ_cons,List.drop_zero]
 obtain⟨A6,c6,rfl⟩:=newRow_one hfacts.1
 clear hfacts
 have hS5:=hS4.grows hFd hg
 have J5:=j4.trans (Just.of_grow hg)
 have hs5:=hS5.blk 1 rfl
 have hP5:=(hS5.lics 1 rfl).1
 unfold bkC at hs5
 have k7:=hs5.cell 7
 have f7:=hs5.frozen 7
 have hS6:=hS5.puts 1 rfl hFd 7 (.slice A6 1 c6)
 have J6:=J5.put (V:=Lic V w) hP5 7 (.slice A6 1 c6)
 go_wp2_with fail
 go_end0
 have hS6:Solo (Lic V w) (Many (Cell y 159 #[.int .i64 (sq:Int),.slice A 1 c] :: bookL st z ep (.slice A9 0 c9) [] l1 sq (.slice A6 1 c6))) _:=hS6
 obtain⟨r1,r2⟩:=Solo.done (l:=bookL st z ep (.slice A9 0 c9) [] l1 sq (.slice A6 1 c6)) hS6.drop1 J6 hV
 rw[←HL.out]
 exact⟨rfl,⟨A9,c9,_,r1⟩,r2⟩
end Go.Proofs.YtmijcbfgfkeodaaGreatDoor
end
