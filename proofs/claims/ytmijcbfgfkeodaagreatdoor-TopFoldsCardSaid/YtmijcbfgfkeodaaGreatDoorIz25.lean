/- Bk3, Bk4, Bk5, Or1. -/
import Derived.Test.YtmijcbfgfkeodaaGreatDoorIz24
import Derived.Sort.Grow
set_option linter.all false
set_option maxRecDepth 100000
open Go.Value renaming int → ae,slice → ai
open Go.IntKind renaming i64 → af,u64 → ah
open Go.Proofs.Tryz renaming prog → au
open List renaming setIfInBounds_toArray → aw,drop_succ_cons → ax,set_cons_zero → ay,set_cons_succ → az,drop_zero → aB,length_append → aD,not_mem_nil → aE,mem_cons → aF,length_take → aK,nil_append → aR,map_append → aX,length_drop → bh,drop_of_length_le → bD,size_toArray → bH
open Nat renaming lt_of_lt_of_le → aA,le_refl → aC,le_trans → aH,zero_le → aZ,zero_add → a_
open Array renaming length_toList → bG
section
namespace Go.Proofs.YtmijcbfgfkeodaaGreatDoor
open Go.RowKit Go.Hop
structure Qs where
 (a b c d:Nat)
def ov (ep:Int) (sl:Value) (z:Qs) (cu:Value):Array Value:=#[ae af ep,sl,ae af 1,.pointer (some ⟨z.a,0,none⟩),.pointer (some ⟨z.b,0,none⟩),.pointer (some ⟨z.c,0,none⟩),.pointer (some ⟨z.d,0,none⟩),cu]
def Bh (sl:Value) (l:List Dl):cg:=fun w V=>Row w V 29 2 sl l.length (eE l)
theorem Bh.framed (sl:Value) (l:List Dl):Framed (Bh sl l):=fun w w' V h hk=>Row.keep h fun b hb _=>hk b hb
theorem Bh.nil (w:World) (V:Nat→Prop):Bh (ai none 0 0) [] w V:=Row.nil
def eR (s:Nat) (z:Qs) (ep:Int) (sl:Value) (fJ:List Dl) (l0:List Q.Ab) (k0:Int) (cu:Value):List cg:=[Cell s 148 (ov ep sl z cu),Bh sl fJ,Q.ck z.a l0 k0,Q.ck z.b [] 0,Q.ck z.c [] 0,Q.ck z.d [] 0]
def cP (s:Nat) (z:Qs) (ep:Int) (sl:Value) (fJ:List Dl) (l0:List Q.Ab) (k0:Int) (cu:Value):cg:=Many (eR s z ep sl fJ l0 k0 cu)
theorem cV (s:Nat) (z:Qs) (ep:Int) (sl:Value) (fJ:List Dl) (l0:List Q.Ab) (k0:Int) (cu:Value):bM (eR s z ep sl fJ l0 k0 cu):=(((((bM.nil.cons (Q.ck.framed _ _ _)).cons (Q.ck.framed _ _ _)).cons (Q.ck.framed _ _ _)).cons (Q.ck.framed _ _ _)).cons (Bh.framed _ _)).cons (Cell.framed _ _ _)
theorem cP.framed (s:Nat) (z:Qs) (ep:Int) (sl:Value) (fJ:List Dl) (l0:List Q.Ab) (k0:Int) (cu:Value):Framed (cP s z ep sl fJ l0 k0 cu):=Many.framed _ (cV _ _ _ _ _ _ _ _)
def pq (gs:List Nat) (i:Nat):Value:=(gs[i]?.map fun g => ((g:Nat):Value)).getD (.pointer none)
def Ew (gs:List Nat):Array Value:=#[ae af 0,ai none 0 0,ae af 1,pq gs 0,pq gs 1,pq gs 2,pq gs 3,ai none 0 0]
theorem Db (gs:List Nat) (g:Nat) (h:gs.length<4):(Ew gs).setIfInBounds (3+gs.length) (((g:Nat):Value))=Ew (gs++[g]):=by
 match gs,h with
 | [],_=>rfl
 | [a],_=>rfl
 | [a,b],_=>rfl
 | [a,b,c],_=>rfl
theorem Dc (gs:List Nat) (h:gs.length<4):(Ew gs)[3+gs.length]?=some (.pointer none):=by
 match gs,h with
 | [],_=>rfl
 | [a],_=>rfl
 | [a,b],_=>rfl
 | [a,b,c],_=>rfl
def rm (B:Nat) (u:Value) (w:World):Prop:=∃ g,u=((g:Nat):Value)∧∃ V:Nat→Prop,(∀ b,V b→B≤b∧b<w.heap.size)∧Q.ck g [] 0 w V
theorem qg (B:Nat):dv (rm B):=fun u w w' ⟨g,e,V,h1,h2⟩ hg=>⟨g,e,V,fun b hb=>by have:=h1 b hb;have:=hg.size;omega,Q.ck.framed _ _ _ w w' V h2 fun b hb=>hg.block b (h1 b hb).2⟩
theorem Fl (wr w:World) (hs:Grow wr w):Calls au 147 #[] w fun e w'=>∃ v,e=.returned v∧Grow w w'∧rm wr.heap.size v w':=
 (Q.j3 w).mono fun e w' ⟨h1,h2,h3⟩=>⟨_,h1,h3,_,rfl,_,fun b hb=>⟨by have:=hs.size;have:=hb.1;omega,hb.2⟩,h2⟩
theorem sA (s:Nat) (cs:Array Value) (gs:List Nat):bM (Cell s 148 cs :: gs.map fun g=>Q.ck g [] 0):=bM.cons (Cell.framed _ _ _) fun S hS=>by
 obtain⟨g,_,rfl⟩:=List.mem_map.1 hS
 exact Q.ck.framed _ _ _
theorem Dd (w:World):Calls au 66 #[] w fun e w'=>∃ s z,e=.returned (((s:Nat):Value))∧cP s z 0 (ai none 0 0) [] [] 0 (ai none 0 0) w' (New w w')∧Grow w w':=by
 have Np:∀ (vs:Array Value) (w:World),(callFunc 147 vs).run au w=.ok (.enter 147 vs) w:=fun vs w=>by go_simp
 have hga:=bN w (.cells (Ew []) 148)
 have JO:=ct.made w 148 (Ew [])
 obtain⟨s,HS⟩:∃ s:Nat,Hid (s=w.heap.size):=⟨_,rfl⟩
 obtain⟨wa,dq⟩:∃ wa:World,Hid (wa=w.alloc (.cells (Ew []) 148)):=⟨_,rfl⟩
 rw[←dq.out] at hga JO
 rw[←HS.out] at JO
 have hS0:Solo (fun b=>w.heap.size≤b) (Many (Cell s 148 (Ew []) :: ([]:List Nat).map fun g=>Q.ck g [] 0)) wa:=
  Solo.pr (V:=fun b=>b=s) (fun b hb=>by have:=hga.size;omega) ⟨fun b=>b=s,fun _=>False,⟨rfl,JO⟩,trivial,fun _ h=>h,fun _ h=>h.elim,fun _ _ h=>h⟩ fun b hb=>by have:=HS.out;have:=JO.lt;omega
 have HA2:Hid (wa=w.alloc (.cells #[ae af 0,ai none 0 0,ae af 1,.pointer none,.pointer none,.pointer none,.pointer none,ai none 0 0] 148)):=dq
 clear dq
 have Nq:=hga.size
 go_enter Tryz.func66,Tryz.ntmps66
 go_wp2_with fail
 rw[←HA2.out,←HS.out]
 go_loopw [5] (fun i wr=>∃ gs:List Nat,gs.length≤4∧i=ae af (gs.length:Int)∧Solo (fun b=>w.heap.size≤b) (Many (Cell s 148 (Ew gs) :: gs.map fun g=>Q.ck g [] 0)) wr∧Just (fun b=>w.heap.size≤b) w wr) (fun i _=>4-(intOf i).toNat)
 case atStart=>exact⟨[],by decide,rfl,hS0,Just.bJ hga⟩
 case round=>
  obtain⟨gs,hgl,rfl,hS,hj⟩:=hrel
  by_cases hk:gs.length<4
  ·have hF:=sA s (Ew gs) gs
   have hB:=hS.blk 0 rfl
   have Nr:decide ((gs.length:Int)<4)=true:=decide_eq_true al
   obtain⟨k,HK⟩:∃ k:Nat,Hid (k=gs.length):=⟨_,rfl⟩
   have hnx:=Dc gs hk
   rw[←HK.out] at Nr hk hnx ⊢
   go_wp2_with fail
   refine bL 6 16 [(2,.inr (fun _=>rm wr.heap.size))] rfl rfl am am am ?_ ?_
   ·intro x hx φ he
    simp only[aF,aE,or_false] at hx
    rcases hx with rfl<;>cases he
    all_goals first|exact ca (cn _)|exact ca (qg _)
   intro ops' A' K' T hops hA' hK hT
   refine bP 8 (((s:Nat):Value)) ?_
   refine bP 9 (ae af (k:Int)) ?_
   refine cH 10 aj ak (bO aj) (fun _=>rm wr.heap.size) (by rw[hK.out];rfl) 147 _ _ aj [] aj Np (fun kk w1 (hg:Grow _ w1) hb hf=>cr (φ:=fun _=>rm wr.heap.size) aj (by exact (Fl wr w1 hg))) (fun v10=>?_)
   refine bQ 11 (.tmp 8) (((s:Nat):Value)) (((s:Nat):Value)) ?_
   refine bQ 12 (.tmp 11) (((s:Nat):Value)) (.pointer (some ⟨s,3,none⟩)) ?_
   refine cm 13 (.tmp 12) (.tmp 9) (.pointer (some ⟨s,3,none⟩)) (ae af (k:Int)) (.pointer (some ⟨s,3+k,none⟩)) (fun ρ h1 h2 kk w1 (hg:Grow _ w1) hb hf=>by go_simp;try (intro h;exfalso;omega)) ?_
   refine ce (fun _ _ w1 (hg:Grow _ w1) _ bR=>hT _ _ ?_)
   clear hops hA' hK hT
   simp only[cj,Act.put,aw,ay,az,ax,aB]
   obtain⟨g,rfl,V,hV,hQ⟩:rm wr.heap.size v10 w1:=bR.1
   clear bR
   have hS1:=(hS.join hF hg hQ hV).puts 1 rfl (hF.cons (Q.ck.framed _ _ _)) (3+k) (((g:Nat):Value))
   have hP:=(hS.ig 0 rfl).1
   rw[HK.out,Db gs g (by have:=HK.out;omega),←HK.out] at hS1
   have hS2:=hS1.perm (l':=Cell s 148 (Ew (gs++[g])) :: (gs++[g]).map fun g=>Q.ck g [] 0) ((List.Perm.swap _ _ _).trans (List.Perm.cons _ (by rw[aX];exact (List.perm_append_singleton _ _).symm)))
   have hj1:=(hj.trans (Just.bJ hg)).put (V:=fun b=>w.heap.size≤b) hP (3+k) (((g:Nat):Value))
   have hB1:=hB.grow hg
   have c0:=hB1.cell (3+k)
   rw[hnx] at c0
   have f0:=hB1.frozen (3+k)
   clear hB hnx
   obtain⟨w2,HW⟩:∃ w2:World,Hid (w2=w1.setCell ⟨s,3+k,none⟩ (((g:Nat):Value))):=⟨_,rfl⟩
   rw[←HW.out] at hS2 hj1
   have Ns:k+1≤4:=by have:=HK.out;omega
   go_wp2_with fail
   go_roundw
   case rel=>exact⟨gs++[g],by rw[aD,←HK.out];exact Ns,by rw[aD,←HK.out];go_num,by rw[←HW.out];exact hS2,by rw[←HW.out];exact hj1⟩
   case measure=>simp[intOf];omega
  ·obtain⟨k,HK⟩:∃ k:Nat,Hid (k=gs.length):=⟨_,rfl⟩
   have h4:gs.length=4:=by omega
   obtain⟨g0,g1,g2,g3,rfl⟩:∃ a b c d,gs=[a,b,c,d]:=by
    match gs,h4 with
    | [a,b,c,d],_=>exact⟨a,b,c,d,rfl⟩
   go_wp2_with fail
   go_ret
   obtain⟨_,U,hU,hlt⟩:=hS
   have oi:Many (Bh (ai none 0 0) [] :: Cell s 148 (ov 0 (ai none 0 0) ⟨g0,g1,g2,g3⟩ (ai none 0 0)) :: [g0,g1,g2,g3].map fun g=>Q.ck g [] 0) wr U:=⟨fun _=>False,U,Bh.nil _ _,hU,fun _ h=>h.elim,fun _ h=>h,fun _ h=>h.elim⟩
   exact⟨s,⟨g0,g1,g2,g3⟩,rfl,Many.wide _ wr U _ (fun b hb=>hlt b hb) (Many.perm (List.Perm.swap _ _ _) oi),hj.below (B:=w.heap.size) (fun b hb=>hb) (aC _)⟩
theorem zM (w:World) (s:ByteArray) (n x:Nat) (y:Nat) (hy:ct w y 29 #[.string s,ae ah (x:Int)]):Calls au 225 #[.agg #[.string s,ae ah (n:Int)],((y:Nat):Value)] w fun e w'=>e=.returned (.bool true)∧Grow w w':=by
 have hga:=bN w (.cells #[.string s,ae ah (n:Int)] 29)
 have c0:=(hy.grow hga).cell 0
 go_enter Tryz.func225,Tryz.ntmps225
 go_wp2_with fail
 go_ret
 exact⟨by simp,hga⟩
theorem De (w:World) (s:ByteArray) (n x y c:Nat) (A:Option Addr) (D:Nat→Prop) (hd:fV w D A 1 [(s,n)]) (hy:ct w y 29 #[.string s,ae ah (x:Int)]):Calls au 156 #[.slice A 1 c,.func (.func 225) #[] #[((y:Nat):Value)]] w fun e w'=>e=.returned (ae af 0)∧Grow w w':=by
 obtain⟨ad,hq,rfl,f0,f1⟩:=gM hd (k:=0) al
 have e0:w.cell? ad=some (.string s):=f0 w (Grow.refl _)
 have e1:w.cell? ⟨ad.block,ad.off+1,none⟩=some (ae ah (n:Int)):=f1 w (Grow.refl _)
 clear f0 f1
 have hC:=zM w s n x y hy
 go_enter Tryz.func156,Tryz.ntmps156
 go_wp2_with fail
 go_loopw [8] (fun i wr=>i=ae af 0∧w=wr) (fun _ _=>0)
 case atStart=>exact⟨rfl,rfl⟩
 case round=>
  obtain⟨rfl,rfl⟩:=hrel
  go_wp2_with fail
  refine hC.mono ?_
  rintro e w2 ⟨rfl,hg2⟩
  go_wp2_with fail
  go_ret
  exact⟨rfl,hg2⟩
theorem zN (w:World) (s:ByteArray) (n x y c:Nat) (A:Option Addr) (D:Nat→Prop) (hd:fV w D A 1 [(s,n)]) (hy:ct w y 29 #[.string s,ae ah (x:Int)]):Calls au 204 #[.slice A 1 c,.func (.func 225) #[] #[((y:Nat):Value)]] w fun e w'=>e=.returned (.bool true)∧Grow w w':=by
 have hI:=De w s n x y c A D hd hy
 go_enter Tryz.func204,Tryz.ntmps204
 go_wp2_with fail
 refine hI.mono ?_
 rintro e w2 ⟨rfl,hg2⟩
 go_wp2_with fail
 go_ret
 exact⟨rfl,hg2⟩
theorem zO (w:World) (s:ByteArray) (n x y c:Nat) (sq:Int) (A:Option Addr) (D:Nat→Prop) (hd:fV w D A 1 [(s,n)]) (hy:ct w y 159 #[ae af sq,.slice A 1 c]):Calls au 224 #[.agg #[.string s,ae ah (x:Int)],((y:Nat):Value)] w fun e w'=>e=.returned (.bool true)∧Grow w w':=by
 have hga:=bN w (.cells #[.string s,ae ah (x:Int)] 29)
 have c1:=(hy.grow hga).cell 1
 have hC:=zN _ s n x w.heap.size c A D (In.grow hd hga) (ct.made w 29 #[.string s,ae ah (x:Int)])
 go_enter Tryz.func224,Tryz.ntmps224
 go_wp2_with fail
 refine hC.mono ?_
 rintro e w2 ⟨rfl,hg2⟩
 go_wp2_with fail
 go_ret
 exact⟨rfl,hga.trans hg2⟩
theorem Df (w:World) (s:ByteArray) (n x y c c2:Nat) (sq:Int) (A A2:Option Addr) (D D2:Nat→Prop) (hd2:fV w D2 A2 1 [(s,x)]) (hd:fV w D A 1 [(s,n)]) (hy:ct w y 159 #[ae af sq,.slice A 1 c]):Calls au 156 #[.slice A2 1 c2,.func (.func 224) #[] #[((y:Nat):Value)]] w fun e w'=>e=.returned (ae af 0)∧Grow w w':=by
 obtain⟨ad,hq,rfl,f0,f1⟩:=gM hd2 (k:=0) al
 have e0:w.cell? ad=some (.string s):=f0 w (Grow.refl _)
 have e1:w.cell? ⟨ad.block,ad.off+1,none⟩=some (ae ah (x:Int)):=f1 w (Grow.refl _)
 clear f0 f1
 have hC:=zO w s n x y c sq A D hd hy
 go_enter Tryz.func156,Tryz.ntmps156
 go_wp2_with fail
 go_loopw [8] (fun i wr=>i=ae af 0∧w=wr) (fun _ _=>0)
 case atStart=>exact⟨rfl,rfl⟩
 case round=>
  obtain⟨rfl,rfl⟩:=hrel
  go_wp2_with fail
  refine hC.mono ?_
  rintro e w2 ⟨rfl,hg2⟩
  go_wp2_with fail
  go_ret
  exact⟨rfl,hg2⟩
theorem Dg:(Tryz.prog.info? 29).map (fun i=>(i.zero,i.size,i.bytes))=some (some (.agg #[.string ⟨#[]⟩,ae ah 0]),2,24):=by kernel_rfl
theorem Dh:Elem au 30 29 2 24 (.agg #[.string ⟨#[]⟩,ae ah 0]):=⟨Tryz.underlying30,info_parts Dg,rfl,by decide,by decide⟩
theorem Di (w:World) (s:ByteArray) (n x y c:Nat) (sq:Int) (A:Option Addr) (D V:Nat→Prop) (sl:Value) (hR:Row w V 29 2 sl 1 (eE [(s,x)])) (hd:fV w D A 1 [(s,n)]) (hy:ct w y 159 #[ae af sq,.slice A 1 c]) :
 Calls au 223 #[sl,.func (.func 224) #[] #[((y:Nat):Value)]] w fun e w'=>∃ sl',e=.returned sl'∧Row w' V 29 2 sl' 0 []∧Just V w w'∧sl'.oneCell'=true:=by
 obtain⟨hl,h0|⟨g,cap,cur,rfl,hV,hg,hc1,hcm,hcs,htk⟩⟩:=id hR
 ·exact absurd h0.2 al
 obtain⟨A2,c2,e2,hd2,_,_⟩:=hR.fw
 injection e2 with e2 _ e3
 subst e2 e3
 have hI:=Df w s n x y c cap sq A _ D V hd2 hd hy
 have n1:decide ((1:Int)<1)=false:=rfl
 go_enter Tryz.func223,Tryz.ntmps223
 go_wp2_with fail
 refine hI.mono ?_
 rintro e w1 ⟨rfl,hg1⟩
 have hB1:ct w1 g 29 cur:=(hg1.block g (Array.getElem?_eq_some_iff.1 hg).1).trans hg
 have hcl:∀ ty,(Builtin.clear_ #[30] ty #[.slice (some ⟨g,0,none⟩) 1 cap]).run au w1=.ok (.tuple #[]) (w1.setCells g 0 (Builtin.zeroCells (.agg #[.string ⟨#[]⟩,ae ah 0]:Value).cells 1).toList):=fun ty=>by
  have h2:2≤cur.size:=by omega
  refine h_ Dh (oG Dh) (by simp[Value.cells,Value.oneCell']) w1 ty g 0 1 cap al (fun j hj=>?_) (fun j hj=>hB1.frozen _)
  rw[hB1.cell]
  have:0+j<cur.size:=by omega
  rw[Array.getElem?_eq_getElem this];rfl
 go_wp2_with fail
 go_loopw [5,6] (fun j i wr=>j=ae af 0∧i=ae af 1∧w1=wr) (fun _ _ _=>0)
 case atStart=>exact⟨rfl,rfl,rfl⟩
 case round=>
  obtain⟨rfl,rfl,rfl⟩:=hrel
  go_wp2_with fail
  go_ret
  have Pk:(Builtin.zeroCells #[Value.string ⟨#[]⟩,Value.int IntKind.u64 0] 1).toList.length=2:=by simp[Builtin.zeroCells]
  generalize (Builtin.zeroCells #[Value.string ⟨#[]⟩,Value.int IntKind.u64 0] 1).toList=Z at Pk ⊢
  have hB2:=hB1.part 0 Z al
  refine⟨_,rfl,⟨rfl,.inr ⟨g,cap,_,rfl,hV,hB2,aZ _,hcm,?_,rfl⟩⟩,(Just.bJ hg1).trans ((kY g 0 Z w1).imp fun b hb=>by rw[hb];exact hV),rfl⟩
  simp only[bH,aD,aK,bh,bG,Pk]
  omega
theorem zP (w:World) (s:ByteArray) (x:Nat) (hp:L.fH s=0) (hs:s.size≤1000000) (hx:1≤x):Calls au 151 #[.agg #[.string s,ae ah (x:Int)]] w fun e w'=>e=.returned (.bool true)∧Grow w w':=by
 have hga:=bN w (.cells #[.string s,ae ah (x:Int)] 29)
 have hB:=ct.made w 29 #[.string s,ae ah (x:Int)]
 have hP:=L.mU (w.alloc (.cells #[.string s,ae ah (x:Int)] 29)) s hs
 rw[hp] at hP
 have hx':decide ((0:Int)<(x:Int))=true:=decide_eq_true al
 go_enter Tryz.func151,Tryz.ntmps151
 go_wp2_with fail
 refine hP.mono ?_
 rintro e w2 ⟨Ap,cp,rfl,_,_,hg2⟩
 have c1:=(hB.grow hg2).cell 1
 go_wp2_with fail
 go_ret
 exact⟨by first|rfl|(simp;omega),hga.trans hg2⟩
theorem Im (w:World) (st:Nat) (ep:Int) (A:Option Addr) (c:Nat) (z:Qs) (cu:Value) (hst:ct w st 148 (ov ep (.slice A 0 c) z cu)) (s:ByteArray) (x:Nat) (hp:L.fH s=0) (hs:s.size≤1000000) (hx:1≤x):Calls au 70 #[((st:Nat):Value),.agg #[.string s,ae ah (x:Int)]] w fun e w'=>e=.returned (ae af 0)∧Grow w w':=by
 have hga:=bN w (.cells #[.string s,ae ah (x:Int)] 29)
 have hB:=ct.made w 29 #[.string s,ae ah (x:Int)]
 have hR:=zP (w.alloc (.cells #[.string s,ae ah (x:Int)] 29)) s x hp hs hx
 unfold ov at hst
 have hlt:decide ((32:Int)≤0)=false:=rfl
 go_enter Tryz.func70,Tryz.ntmps70
 go_wp2_with fail
 refine hR.mono ?_
 rintro e w2 ⟨rfl,hg2⟩
 have c0:=(hB.grow hg2).cell 0
 have c1:=(hB.grow hg2).cell 1
 have b1:=(hst.grow (hga.trans hg2)).cell 1
 go_wp2_with fail
 clear c0 c1 b1
 go_loopw [24] (fun i wr=>i=ae af 0∧w2=wr) (fun _ _=>0)
 case atStart=>exact⟨rfl,rfl⟩
 case round=>
  obtain⟨rfl,rfl⟩:=hrel
  go_wp2_with fail
  go_ret
  exact⟨rfl,hga.trans hg2⟩
theorem Fo:(Tryz.prog.info? 26).map (fun i=>(i.zero,i.size,i.bytes))=some (some (.agg #[ae af 0,ae af 0,ae af 0]),3,24):=by kernel_rfl
theorem Ex:Elem au 41 26 3 24 (.agg #[ae af 0,ae af 0,ae af 0]):=⟨Tryz.underlying41,info_parts Fo,rfl,by decide,by decide⟩
theorem lU {w:World} {o:Oper} {ρ:Operand→Value} {x:Operand} {a b c:Int} (ho:o.op=.buildSlice 41 1 #[(0,x)]) (hx:ρ x=.agg #[ae af a,ae af b,ae af c]) :
 cz au (fun u w'=>Grow w w'∧fT 3 1 [ae af a,ae af b,ae af c] u w') ((execOp ρ o).run au w):=by
 obtain⟨dst,op,ty,pos,after,guard⟩:=o
 simp only at ho
 subst ho
 exact cF (u := .slice (some ⟨w.heap.size,0,none⟩) 1 1) (w:=w.alloc (.cells #[ae af a,ae af b,ae af c] 26)) (by go_simp) ⟨(Below.refl _ w).alloc (aC _) _,iK (ct.made w _ _) rfl⟩
theorem jw (a b c:Int):∀ u∈[Value.int .i64 a,ae af b,ae af c],u.oneCell'=true:=by simp[Value.oneCell']
def fC (B:Nat) (e:TypeId) (size n:Nat) (xs:List Value) (u:Value) (w:World):Prop:=∃ V:Nat→Prop,Row w V e size u n xs∧∀ b,V b→B≤b∧b<w.heap.size
theorem iM (B:Nat) (e:TypeId) (size n:Nat) (xs:List Value):dv (fC B e size n xs):=fun u w w' ⟨V,h,hV⟩ hg=>⟨V,h.grow hg,fun b hb=>⟨(hV b hb).1,aA (hV b hb).2 hg.size⟩⟩
theorem sB {e t:TypeId} {size bytes:Nat} {z:Value} (E:Elem au t e size bytes z) {B:Nat} {w:World} {o:Oper} {ρ:Operand→Value} {s x:Operand} {u:Value} {n:Nat} {xs:List Value} (hB:B≤w.heap.size) (hI:fT size n xs u w) (hs:ρ s=ai none 0 0) (hx:ρ x=u) (ho:o.op=.call { callee := .builtin .append,args:=#[s,x],argTypes:=#[t,t] }) (h1:∀ u∈xs,u.oneCell'=true) (hb:n*bytes≤140737488355328) :
 cz au (fun v w'=>Grow w w'∧fC B e size n xs v w') ((execOp ρ o).run au w):=by
 obtain⟨A,rfl,h⟩:=hI
 refine fm E ho hs (Row.nil (V:=fun _=>False)) hx h.reads h1 (by rw[a_];exact hb) fun v' w' hR hj=>⟨hj.below (B:=w.heap.size) (fun b hb=>hb.elim) (aC _),?_⟩
 rw[a_,aR] at hR
 exact⟨_,hR,fun b hb=>hb.elim (fun h=>h.elim) fun h=>⟨aH hB h.1,h.2⟩⟩
theorem iN {B:Nat} {e:TypeId} {size n:Nat} {xs:List Value} {u:Value} {w:World} (h:fC B e size n xs u w):∃ A c,u=.slice A n c:=by
 obtain⟨V,h,_⟩:=h
 obtain⟨A,c,e,_⟩:=h.fw
 exact⟨A,c,e⟩
def iO (st:Nat) (z:Qs) (ep:Int) (l0:List Q.Ab) (k0:Int):cg:=fun w V=>∃ A c cu,cP st z ep (.slice A 0 c) [] l0 k0 cu w V
theorem iO.framed (st:Nat) (z:Qs) (ep:Int) (l0:List Q.Ab) (k0:Int):Framed (iO st z ep l0 k0):=fun w w' V ⟨A,c,cu,h⟩ hk=>⟨A,c,cu,cP.framed _ _ _ _ _ _ _ _ w w' V h hk⟩
theorem Dj (w:World) (st:Nat) (z:Qs) (ep:Int) (sl:Value) (s:ByteArray) (n x sq c:Nat) (l0:List Q.Ab) (k0:Int) (A:Option Addr) (D V:Nat→Prop) (iT:cP st z ep sl [(s,x)] l0 k0 (ai none 0 0) w V) (hV:∀ b,V b→b<w.heap.size) (hd:fV w D A 1 [(s,n)]) (hDl:∀ b,D b→b<w.heap.size) (j5:∀ b,D b→¬ V b) (hc1:1≤c) (hc:c≤maxLen) (hadd:Q.Da l0 k0 sq 1=0) :
 Calls au 161 #[((st:Nat):Value),ae af 0,.agg #[ae af (sq:Int),.slice A 1 c]] w fun e w'=>e=.returned (.tuple #[])∧iO st z ep (l0++[((sq:Int),[(s,n)])]) sq w' (Ext V w w')∧Just V w w':=by
 have k222:∀ (vs:Array Value) (w:World),(callFunc 222 vs).run au w=.ok (.enter 222 vs) w:=fun vs w=>by go_simp
 have hF:=cV st z ep sl [(s,x)] l0 k0 (ai none 0 0)
 have hS:=Solo.begin_ iT hV
 have hg0:=bN w (.cells #[ae af (sq:Int),.slice A 1 c] 159)
 have du:=ct.made w 159 #[ae af (sq:Int),.slice A 1 c]
 obtain⟨y,HY⟩:∃ y:Nat,Hid (y=w.heap.size):=⟨_,rfl⟩
 obtain⟨wa,dq⟩:∃ wa:World,Hid (wa=w.alloc (.cells #[ae af (sq:Int),.slice A 1 c] 159)):=⟨_,rfl⟩
 rw[←dq.out] at hg0 du
 rw[←HY.out] at du
 have ez:=hS.join hF hg0 (R:=Cell y 159 #[ae af (sq:Int),.slice A 1 c]) (U:=fun b=>b=y) ⟨rfl,du⟩ (fun b hb=>by have:=HY.out;have:=du.lt;omega)
 have eP:=hF.cons (Cell.framed y 159 #[ae af (sq:Int),.slice A 1 c])
 have kf:=ez.blk 0 rfl
 have hs1:=ez.blk 1 rfl
 unfold ov at hs1
 clear du
 go_enter Tryz.func161,Tryz.ntmps161
 go_wp2_with fail
 rw[←dq.out,←HY.out]
 refine bL 7 37 [] rfl rfl am am am ?_ ?_
 ·intro x hx φ he
  cases hx
 intro ops' A' K' T hops hA' hK hT
 refine bP 6 (((st:Nat):Value)) ?_
 refine bP 7 (ae af 0) ?_
 refine bQ 8 (.tmp 6) (((st:Nat):Value)) (((st:Nat):Value)) ?_
 refine bQ 9 (.tmp 8) (((st:Nat):Value)) (.pointer (some ⟨st,3,none⟩)) ?_
 refine cm 10 (.tmp 9) (.tmp 7) (.pointer (some ⟨st,3,none⟩)) (ae af 0) (.pointer (some ⟨st,3,none⟩)) (fun ρ h1 h2 kk w1 (hg:Grow _ w1) hb hf=>by go_simp) ?_
 refine bI 11 (.tmp 10) (.pointer (some ⟨st,3,none⟩)) (.pointer (some ⟨z.a,0,none⟩)) (fun ρ h1 kk w1 (hg:Grow _ w1) hb hf=>by have c:=(hs1.grow hg).cell 3;go_simp) ?_
 refine bI 12 (.tmp 5) (((y:Nat):Value)) (.agg #[ae af (sq:Int),.slice A 1 c]) (fun ρ h1 kk w1 (hg:Grow _ w1) hb hf=>by have c0:=(kf.grow hg).cell 0;have c1:=(kf.grow hg).cell 1;go_simp) ?_
 refine ce (fun _ _ w1 (hg:Grow _ w1) _ bR=>hT _ _ ?_)
 clear hops hA' hK hT
 simp only[cj,Act.put,aw,ay,az,ax,aB]
 have hS1:=ez.grows eP hg
 have J1:=Just.bJ (V:=cB V w) (hg0.trans hg)
 have hd1:=In.grow hd (hg0.trans hg)
 have hA:=Q.kV w1 D z.a l0 k0 sq A 1 c [(s,n)] hd1 hc1 hc
 rw[hadd] at hA
 have hcall:=hS1.at_ 3 rfl eP hA
 go_wp2_with fail
 refine hcall.mono ?_
 rintro en w2 ⟨rfl,hj2,hS2⟩
 have hl1:Q.Ij l0 k0 sq 1 [(s,n)]=l0++[((sq:Int),[(s,n)])]:=if_pos hadd
 have hl2:Q.Ik l0 k0 sq 1=(sq:Int):=if_pos hadd
 rw[hl1,hl2] at hS2
 obtain⟨l1,HL⟩:∃ l1,Hid (l1=l0++[((sq:Int),[(s,n)])]):=⟨_,rfl⟩
 rw[←HL.out] at hS2
 have hS2:Solo (cB V w) (Many (Cell y 159 #[ae af (sq:Int),.slice A 1 c] :: eR st z ep sl [(s,x)] l1 sq (ai none 0 0))) w2:=hS2
 have iU:=(cV st z ep sl [(s,x)] l1 sq (ai none 0 0)).cons (Cell.framed y 159 #[ae af (sq:Int),.slice A 1 c])
 have hY2:=hS2.blk 0 rfl
 have hs2:=hS2.blk 1 rfl
 unfold ov at hs2
 have J2:=J1.trans hj2
 have Nt:∀ b,D b→¬ cB V w b:=fun b hb hl=>hl.elim (j5 b hb) (fun h=>by have:=hDl b hb;omega)
 have hd2:fV w2 D A 1 [(s,n)]:=In.just hd J2 Nt
 have k1:=hs2.cell 1
 have QX:=hS2.Qo (ι:=Value) (C:=fun i e=>e=.returned i∧i.oneCell'=true) (S':=fun i w V=>Row w V 29 2 i 0 []) 2 rfl iU (fun U hU ey=>(Di w2 s n x y c sq A D U sl hU hd2 hY2).mono fun e w' ⟨i,h1,h2,h3,h4⟩=>⟨i,⟨h1,h4⟩,h2.mono fun b hb => .inl hb,h3⟩)
 go_wp2_with fail
 clear k1
 refine QX.mono ?_
 rintro en w3 ⟨sl',⟨rfl,hone⟩,hj3,dO⟩
 obtain⟨U3,qQ,_⟩:=dO.see 2 rfl
 obtain⟨A9,c9,rfl,_⟩:=qQ.fw
 have dO:Solo (cB V w) (Many [Cell y 159 #[ae af (sq:Int),.slice A 1 c],Cell st 148 (ov ep sl z (ai none 0 0)),Bh (.slice A9 0 c9) [],Q.ck z.a l1 sq,Q.ck z.b [] 0,Q.ck z.c [] 0,Q.ck z.d [] 0]) w3:=dO
 have Bg:bM [Cell y 159 #[ae af (sq:Int),.slice A 1 c],Cell st 148 (ov ep sl z (ai none 0 0)),Bh (.slice A9 0 c9) [],Q.ck z.a l1 sq,Q.ck z.b [] 0,Q.ck z.c [] 0,Q.ck z.d [] 0]:=((((((bM.nil.cons (Q.ck.framed _ _ _)).cons (Q.ck.framed _ _ _)).cons (Q.ck.framed _ _ _)).cons (Q.ck.framed _ _ _)).cons (Bh.framed _ _)).cons (Cell.framed _ _ _)).cons (Cell.framed _ _ _)
 have hs3:=dO.blk 1 rfl
 have hP3:=(dO.ig 1 rfl).1
 unfold ov at hs3
 have k1:=hs3.cell 1
 have f1:=hs3.frozen 1
 have ev:=dO.puts 1 rfl Bg 1 (.slice A9 0 c9)
 have j4:=((J2.trans hj3)).put (V:=cB V w) hP3 1 (.slice A9 0 c9)
 obtain⟨w4,Gs⟩:∃ w4:World,Hid (w4=w3.setCell ⟨st,1,none⟩ (.slice A9 0 c9)):=⟨_,rfl⟩
 rw[←Gs.out] at ev j4
 have ev:Solo (cB V w) (Many (Cell y 159 #[ae af (sq:Int),.slice A 1 c] :: eR st z ep (.slice A9 0 c9) [] l1 sq (ai none 0 0))) w4:=ev
 have Pm:=(cV st z ep (.slice A9 0 c9) [] l1 sq (ai none 0 0)).cons (Cell.framed y 159 #[ae af (sq:Int),.slice A 1 c])
 have qX:=ev.blk 0 rfl
 have hs4:=ev.blk 1 rfl
 unfold ov at hs4
 go_wp2_with fail
 rw[←Gs.out]
 clear k1 f1
 refine bL 13 37 [(9,.inr (fun _=>fT 3 1 [ae af 0,ae af 0,ae af (sq:Int)])),(10,.inr (fun _=>fC w4.heap.size 26 3 1 [ae af 0,ae af 0,ae af (sq:Int)]))] rfl rfl am am am ?_ ?_
 ·intro x hx φ he
  simp only[aF,aE,or_false] at hx
  rcases hx with rfl|rfl<;>cases he
  all_goals first|exact ca (cn _)|first|exact ca (fj _ _ _)|exact ca (iM _ _ _ _ _)
 intro ops' A' K' T hops hA' hK hT
 refine bP 24 (((st:Nat):Value)) ?_
 refine bP 25 (((st:Nat):Value)) ?_
 refine bI 26 (.tmp 25) (((st:Nat):Value)) (((st:Nat):Value)) (fun ρ h1 kk w5 (hg:Grow _ w5) hb hf=>by go_simp) ?_
 refine bI 27 (.tmp 26) (((st:Nat):Value)) (.pointer (some ⟨st,7,none⟩)) (fun ρ h1 kk w5 (hg:Grow _ w5) hb hf=>by go_simp) ?_
 refine bI 28 (.tmp 27) (.pointer (some ⟨st,7,none⟩)) (ai none 0 0) (fun ρ h1 kk w5 (hg:Grow _ w5) hb hf=>by have c:=(hs4.grow hg).cell 7;go_simp) ?_
 refine bP 29 (ae af 0) ?_
 refine bI 30 (.tmp 5) (((y:Nat):Value)) (((y:Nat):Value)) (fun ρ h1 kk w5 (hg:Grow _ w5) hb hf=>by go_simp) ?_
 refine bI 31 (.tmp 30) (((y:Nat):Value)) (ae af (sq:Int)) (fun ρ h1 kk w5 (hg:Grow _ w5) hb hf=>by have c:=(qX.grow hg).cell 0;go_simp) ?_
 refine cm 32 (.tmp 29) (.tmp 31) (ae af 0) (ae af (sq:Int)) (.agg #[ae af 0,ae af 0,ae af (sq:Int)]) (fun ρ h1 h2 kk w5 (hg:Grow _ w5) hb hf=>by go_simp) ?_
 refine fE 33 aj ak (bO aj) (fun _=>fT 3 1 [ae af 0,ae af 0,ae af (sq:Int)]) (by rw[hK.out];rfl) (.tmp 32) (.agg #[ae af 0,ae af 0,ae af (sq:Int)]) aj (fun ρ h1 kk w5 (hg:Grow _ w5) hb hf=>by refine cA (φ:=fun _=>fT 3 1 [ae af 0,ae af 0,ae af (sq:Int)]) aj ?_;exact lU rfl h1) (fun v33=>?_)
 refine gv 34 aj ak (bO aj) (fun _=>fC w4.heap.size 26 3 1 [ae af 0,ae af 0,ae af (sq:Int)]) (by rw[hK.out];rfl) (.tmp 28) (.tmp 33) (ai none 0 0) (v33) aj aj (fun ρ h1 h2 kk w5 (hg:Grow _ w5) hb hf=>by refine cA (φ:=fun _=>fC w4.heap.size 26 3 1 [ae af 0,ae af 0,ae af (sq:Int)]) aj ?_;exact sB Ex hg.size (cy hf (by rw[hA'.out];kernel_rfl)) h1 h2 rfl (jw _ _ _) ak) (fun v34=>?_)
 refine bI 35 (.tmp 24) (((st:Nat):Value)) (((st:Nat):Value)) (fun ρ h1 kk w5 (hg:Grow _ w5) hb hf=>by go_simp) ?_
 refine bI 36 (.tmp 35) (((st:Nat):Value)) (.pointer (some ⟨st,7,none⟩)) (fun ρ h1 kk w5 (hg:Grow _ w5) hb hf=>by go_simp) ?_
 refine ce (fun _ _ w5 (hg:Grow _ w5) _ bR=>hT _ _ ?_)
 clear hops hA' hK hT
 simp only[cj,Act.put,aw,ay,az,ax,aB]
 obtain⟨A6,c6,rfl⟩:=iN bR.1
 clear bR
 have hS5:=ev.grows Pm hg
 have J5:=j4.trans (Just.bJ hg)
 have hs5:=hS5.blk 1 rfl
 have QY:=(hS5.ig 1 rfl).1
 unfold ov at hs5
 have k7:=hs5.cell 7
 have f7:=hs5.frozen 7
 have eC:=hS5.puts 1 rfl Pm 7 (.slice A6 1 c6)
 have J6:=J5.put (V:=cB V w) QY 7 (.slice A6 1 c6)
 go_wp2_with fail
 go_end0
 have eC:Solo (cB V w) (Many (Cell y 159 #[ae af (sq:Int),.slice A 1 c] :: eR st z ep (.slice A9 0 c9) [] l1 sq (.slice A6 1 c6))) _:=eC
 obtain⟨r1,r2⟩:=Solo.done (l:=eR st z ep (.slice A9 0 c9) [] l1 sq (.slice A6 1 c6)) eC.drop1 J6 hV
 rw[←HL.out]
 exact⟨rfl,⟨A9,c9,_,r1⟩,r2⟩
end Go.Proofs.YtmijcbfgfkeodaaGreatDoor
end
section
namespace Go.Proofs.YtmijcbfgfkeodaaGreatDoor
open Go.RowKit Go.Hop V
def dE (w w':World):Prop:=∃ (q:Nat) (os:Array Obj),w'=Sort.grow (w.drewN q) os
theorem dE.refl (w:World):dE w w:=⟨0,#[],by rw[Sort.grow_empty];rfl⟩
theorem dE.drew (w:World):dE w w.drew:=⟨1,#[],by rw[Sort.grow_empty];rfl⟩
theorem dE.alloc (w:World) (o:Obj):dE w (w.alloc o):=⟨0,#[o],by rw[Sort.alloc_eq_grow];rfl⟩
theorem dE.trans {a b c:World} (h:dE a b) (k:dE b c):dE a c:=by
 obtain⟨q,os,rfl⟩:=h
 obtain⟨q',os',rfl⟩:=k
 exact⟨q+q',os++os',by rw[show Sort.grow ((Sort.grow (a.drewN q) os).drewN q') os'=Sort.grow (Sort.grow ((a.drewN q).drewN q') os) os' from rfl,Sort.grow_grow,World.drewN_drewN]⟩
theorem dE.grow {a b:World} (h:dE a b):Grow a b:=by
 obtain⟨q,os,rfl⟩:=h
 exact⟨rfl,rfl,rfl,by simp[Sort.grow,World.drewN],fun k hk=>by simp only[Sort.grow,World.drewN];exact Array.getElem?_append_left hk⟩
def pU.laid:pU:=⟨dE,dE.refl⟩
def sC:cQ where
 G:=dE
 T:=fun _ _ _=>False
 I:=fun _ _=>True
 muts:=[]
 stage:=fun _=>none
 q:=pU.laid
theorem zQ:sC.Ok:=⟨fun _ _ _=>dE.trans,fun _ _ h=>h,fun _ _ _ h=>h.elim,fun _ _ _ h _=>h⟩
theorem sD {φ:Value→World→Prop} (h:dv φ):jl sC (fun _=>φ):=fun _ u w w' hu=>⟨fun hg=>h u w w' hu (dE.grow hg),fun hk=>by simp[sC] at hk⟩
def fZ (a b:Int):Int:=if a<b then -1 else if b<a then 1 else 0
def Io:List Int→Int
 | []=>0
 | x :: l=>if x=0 then Io l else x
theorem pA (w:World) (x:Int):Calls au 283 #[ae af x] w fun e w'=>e=.returned (.bool false)∧w=w':=by
 go_enter Tryz.func283,Tryz.ntmps283
 go_wp2_with fail
 go_ret
 exact⟨by simp,rfl⟩
theorem Dk (w:World) (a b:Int):Calls au 214 #[ae af a,ae af b] w fun e w'=>e=.returned (ae af (fZ a b))∧w=w':=by
 unfold fZ
 by_cases h1:a<b
 ·have d1:decide (a<b)=true:=decide_eq_true h1
  rw[if_pos h1]
  go_enter Tryz.func214,Tryz.ntmps214
  go_wp2_with (go_at_call 283;refine (pA _ _).mono ?_;rintro e w' ⟨rfl,rfl⟩)
  go_ret
  exact⟨rfl,rfl⟩
 ·have d1:decide (a<b)=false:=decide_eq_false h1
  rw[if_neg h1]
  by_cases h2:b<a
  ·have d2:decide (b<a)=true:=decide_eq_true h2
   have d3:decide (a > b)=true:=decide_eq_true h2
   rw[if_pos h2]
   go_enter Tryz.func214,Tryz.ntmps214
   go_wp2_with (go_at_call 283;refine (pA _ _).mono ?_;rintro e w' ⟨rfl,rfl⟩)
   go_ret
   exact⟨rfl,rfl⟩
  ·have d2:decide (b<a)=false:=decide_eq_false h2
   have d3:decide (a > b)=false:=decide_eq_false h2
   rw[if_neg h2]
   go_enter Tryz.func214,Tryz.ntmps214
   go_wp2_with (go_at_call 283;refine (pA _ _).mono ?_;rintro e w' ⟨rfl,rfl⟩)
   go_ret
   exact⟨rfl,rfl⟩
theorem pB (w:World) (x:Int):Calls au 284 #[ae af x] w fun e w'=>e=.returned (.bool false)∧w=w':=by
 go_enter Tryz.func284,Tryz.ntmps284
 go_wp2_with fail
 go_ret
 exact⟨by simp,rfl⟩
theorem Dm (w:World) (a b:Int):Calls au 215 #[ae af a,ae af b] w fun e w'=>e=.returned (ae af (fZ a b))∧w=w':=by
 unfold fZ
 by_cases h1:a<b
 ·have d1:decide (a<b)=true:=decide_eq_true h1
  rw[if_pos h1]
  go_enter Tryz.func215,Tryz.ntmps215
  go_wp2_with (go_at_call 284;refine (pB _ _).mono ?_;rintro e w' ⟨rfl,rfl⟩)
  go_ret
  exact⟨rfl,rfl⟩
 ·have d1:decide (a<b)=false:=decide_eq_false h1
  rw[if_neg h1]
  by_cases h2:b<a
  ·have d2:decide (b<a)=true:=decide_eq_true h2
   have d3:decide (a > b)=true:=decide_eq_true h2
   rw[if_pos h2]
   go_enter Tryz.func215,Tryz.ntmps215
   go_wp2_with (go_at_call 284;refine (pB _ _).mono ?_;rintro e w' ⟨rfl,rfl⟩)
   go_ret
   exact⟨rfl,rfl⟩
  ·have d2:decide (b<a)=false:=decide_eq_false h2
   have d3:decide (a > b)=false:=decide_eq_false h2
   rw[if_neg h2]
   go_enter Tryz.func215,Tryz.ntmps215
   go_wp2_with (go_at_call 284;refine (pB _ _).mono ?_;rintro e w' ⟨rfl,rfl⟩)
   go_ret
   exact⟨rfl,rfl⟩
theorem zR (w:World) (D:Nat→Prop) (A:Option Addr) (n c:Nat) (l:List Int) (h:In w D 1 A n (l.map (Value.int .i64))) (hn:n≤1048576):Calls au 213 #[.slice A n c] w fun e w'=>e=.returned (ae af (Io l))∧w=w':=by
 have hln:l.length=n:=by have:=h.1;simpa using this
 obtain⟨R,HR⟩:∃ R:Int,Hid (R=Io l):=⟨_,rfl⟩
 rw[←HR.out]
 go_enter Tryz.func213,Tryz.ntmps213
 go_wp2_with fail
 go_loopw [8] (fun i wr=>∃ k:Nat,k≤n∧i=ae af (k:Int)∧Io (l.drop k)=R∧w=wr) (fun i _=>n-(intOf i).toNat)
 case atStart=>exact⟨0,by omega,rfl,HR.out.symm,rfl⟩
 case round=>
  obtain⟨k,hk,rfl,hR,rfl⟩:=hrel
  by_cases hlt:k<n
  ·obtain⟨ad,u,rfl,_,hu,hcl⟩:=h.reads.at_ hlt
   rw[List.getElem?_map,List.getElem?_eq_getElem al] at hu
   obtain rfl:=Option.some.inj hu
   rw[List.drop_eq_getElem_cons al,Io] at hR
   generalize l[k]=z at hcl hR
   clear hu
   by_cases hz:z=0
   ·subst hz
    rw[if_pos rfl] at hR
    have HR2:=Lib.hid hR
    clear hR
    go_wp2_with fail
    go_roundw
    case rel=>exact⟨k+1,by omega,by go_num,HR2.out,by trivial⟩
    case measure=>simp[intOf];omega
   ·rw[if_neg hz] at hR
    subst hR
    have dz:decide (z=0)=false:=decide_eq_false hz
    have dz2:(z == 0)=false:=beq_eq_false_iff_ne.2 hz
    go_wp2_with fail
    go_ret
    exact⟨rfl,rfl⟩
  ·obtain rfl:k=n:=by omega
   rw[bD al] at hR
   have hR:0=R:=hR
   subst hR
   go_wp2_with fail
   go_ret
   exact⟨rfl,rfl⟩
theorem Dn (w:World) (u:Value) (l:List Int) (h:fT 1 l.length (l.map (Value.int .i64)) u w) (hn:l.length≤1048576):Calls au 213 #[u] w fun e w'=>e=.returned (ae af (Io l))∧dE w w':=by
 obtain⟨A,rfl,h⟩:=h
 exact (zR w _ A _ _ l h hn).mono fun e w' ⟨h1,h2⟩=>⟨h1,h2▸dE.refl _⟩
theorem xb {w:World} {o:Oper} {ρ:Operand→Value} {x y z:Operand} {a b c:Int} (ho:o.op=.buildSlice 38 3 #[(0,x),(1,y),(2,z)]) (hx:ρ x=ae af a) (hy:ρ y=ae af b) (hz:ρ z=ae af c) :
 cz au (fun u w'=>dE w w'∧fT 1 3 [ae af a,ae af b,ae af c] u w') ((execOp ρ o).run au w):=by
 obtain⟨dst,op,ty,pos,after,guard⟩:=o
 simp only at ho
 subst ho
 exact cF (u := .slice (some ⟨w.heap.size,0,none⟩) 3 3) (w:=w.alloc (.cells #[ae af a,ae af b,ae af c] 3)) (by go_simp) ⟨dE.alloc _ _,iK (ct.made w _ _) rfl⟩
theorem Dp (w:World) (a b:Int):Calls au 214 #[ae af a,ae af b] w fun e w'=>e=.returned (ae af (fZ a b))∧dE w w':=(Dk w a b).mono fun e w' ⟨h1,h2⟩=>⟨h1,by subst h2;exact dE.refl _⟩
theorem Ip (w:World) (a b:Int):Calls au 215 #[ae af a,ae af b] w fun e w'=>e=.returned (ae af (fZ a b))∧dE w w':=(Dm w a b).mono fun e w' ⟨h1,h2⟩=>⟨h1,by subst h2;exact dE.refl _⟩
def nQ (x y:Int×Int×Int):Int:=Io [fZ x.1 y.1,fZ x.2.1 y.2.1,fZ x.2.2 y.2.2]
theorem zU (x y:Int×Int×Int) (w:World):Calls au 140 #[.agg #[ae af x.1,ae af x.2.1,ae af x.2.2],.agg #[ae af y.1,ae af y.2.1,ae af y.2.2]] w fun e w'=>e=.returned (ae af (nQ x y))∧∃ q os',w'=Sort.grow (w.drewN q) os':=by
 have KM:∀ (vs:Array Value) (w:World),(callFunc 214 vs).run au w=.ok (.enter 214 vs) w:=fun vs w=>by go_simp
 have Nu:∀ (vs:Array Value) (w:World),(callFunc 215 vs).run au w=.ok (.enter 215 vs) w:=fun vs w=>by go_simp
 have Nv:∀ (vs:Array Value) (w:World),(callFunc 213 vs).run au w=.ok (.enter 213 vs) w:=fun vs w=>by go_simp
 have g1:=dE.alloc w (.cells #[ae af x.1,ae af x.2.1,ae af x.2.2] 26)
 have b1:=ct.made w 26 #[ae af x.1,ae af x.2.1,ae af x.2.2]
 obtain⟨xa,HX⟩:∃ y:Nat,Hid (y=w.heap.size):=⟨_,rfl⟩
 obtain⟨wa,dq⟩:∃ wa:World,Hid (wa=w.alloc (.cells #[ae af x.1,ae af x.2.1,ae af x.2.2] 26)):=⟨_,rfl⟩
 have hz0:wa.heap.size=xa+1:=by rw[dq.out,HX.out];simp
 rw[←dq.out] at g1 b1
 rw[←HX.out] at b1
 have g2:=dE.alloc wa (.cells #[ae af y.1,ae af y.2.1,ae af y.2.2] 26)
 have b2:=ct.made wa 26 #[ae af y.1,ae af y.2.1,ae af y.2.2]
 obtain⟨ya,HY⟩:∃ y:Nat,Hid (y=xa+1):=⟨_,rfl⟩
 obtain⟨wb,ia⟩:∃ wb:World,Hid (wb=wa.alloc (.cells #[ae af y.1,ae af y.2.1,ae af y.2.2] 26)):=⟨_,rfl⟩
 rw[hz0,←HY.out] at b2
 rw[←ia.out] at g2 b2
 have b1:=b1.grow g2.grow
 go_enter Tryz.func140,Tryz.ntmps140
 go_wp2_with fail
 rw[←dq.out,←HX.out,←HY.out,←ia.out]
 refine c_ rfl ?_
 refine er sC zQ 0 18 22 [(4,.inl (ae af (fZ x.1 y.1))),(9,.inl (ae af (fZ x.2.1 y.2.1))),(14,.inl (ae af (fZ x.2.2 y.2.2))),(15,.inr (fun _=>fT 1 3 [ae af (fZ x.1 y.1),ae af (fZ x.2.1 y.2.1),ae af (fZ x.2.2 y.2.2)])),(16,.inl (ae af (nQ x y)))] rfl am am am ?_ (dE.drew _) trivial ?_
 ·intro x hx φ he
  simp only[aF,aE,or_false] at hx
  rcases hx with rfl|rfl|rfl|rfl|rfl<;>cases he
  all_goals first|exact ca (cn _)|exact sD (fj _ _ _)
 intro ops' A' K' T hops hA' hK hT
 refine bI 5 (.tmp 2) (((xa:Nat):Value)) (((xa:Nat):Value)) (fun ρ h1 kk w1 (hg:dE _ w1) hb hf=>by go_simp) ?_
 refine bI 6 (.tmp 5) (((xa:Nat):Value)) (ae af x.1) (fun ρ h1 kk w1 (hg:dE _ w1) hb hf=>by have c:=(b1.grow hg.grow).cell 0;go_simp) ?_
 refine bI 7 (.tmp 3) (((ya:Nat):Value)) (((ya:Nat):Value)) (fun ρ h1 kk w1 (hg:dE _ w1) hb hf=>by go_simp) ?_
 refine bI 8 (.tmp 7) (((ya:Nat):Value)) (ae af y.1) (fun ρ h1 kk w1 (hg:dE _ w1) hb hf=>by have c:=(b2.grow hg.grow).cell 0;go_simp) ?_
 refine cC 9 aj ak (bO aj) (ae af (fZ x.1 y.1)) (by rw[hK.out];rfl) 214 _ _ aj [ae af x.1,ae af y.1] aj KM (fun kk w1 (hg:dE _ w1) hb hf=>b_ aj (by exact Dp w1 x.1 y.1)) ?_
 refine bI 10 (.tmp 2) (((xa:Nat):Value)) (.pointer (some ⟨xa,1,none⟩)) (fun ρ h1 kk w1 (hg:dE _ w1) hb hf=>by go_simp) ?_
 refine bI 11 (.tmp 10) (.pointer (some ⟨xa,1,none⟩)) (ae af x.2.1) (fun ρ h1 kk w1 (hg:dE _ w1) hb hf=>by have c:=(b1.grow hg.grow).cell 1;go_simp) ?_
 refine bI 12 (.tmp 3) (((ya:Nat):Value)) (.pointer (some ⟨ya,1,none⟩)) (fun ρ h1 kk w1 (hg:dE _ w1) hb hf=>by go_simp) ?_
 refine bI 13 (.tmp 12) (.pointer (some ⟨ya,1,none⟩)) (ae af y.2.1) (fun ρ h1 kk w1 (hg:dE _ w1) hb hf=>by have c:=(b2.grow hg.grow).cell 1;go_simp) ?_
 refine cC 14 aj ak (bO aj) (ae af (fZ x.2.1 y.2.1)) (by rw[hK.out];rfl) 214 _ _ aj [ae af x.2.1,ae af y.2.1] aj KM (fun kk w1 (hg:dE _ w1) hb hf=>b_ aj (by exact Dp w1 x.2.1 y.2.1)) ?_
 refine bI 15 (.tmp 2) (((xa:Nat):Value)) (.pointer (some ⟨xa,2,none⟩)) (fun ρ h1 kk w1 (hg:dE _ w1) hb hf=>by go_simp) ?_
 refine bI 16 (.tmp 15) (.pointer (some ⟨xa,2,none⟩)) (ae af x.2.2) (fun ρ h1 kk w1 (hg:dE _ w1) hb hf=>by have c:=(b1.grow hg.grow).cell 2;go_simp) ?_
 refine bI 17 (.tmp 3) (((ya:Nat):Value)) (.pointer (some ⟨ya,2,none⟩)) (fun ρ h1 kk w1 (hg:dE _ w1) hb hf=>by go_simp) ?_
 refine bI 18 (.tmp 17) (.pointer (some ⟨ya,2,none⟩)) (ae af y.2.2) (fun ρ h1 kk w1 (hg:dE _ w1) hb hf=>by have c:=(b2.grow hg.grow).cell 2;go_simp) ?_
 refine cC 19 aj ak (bO aj) (ae af (fZ x.2.2 y.2.2)) (by rw[hK.out];rfl) 215 _ _ aj [ae af x.2.2,ae af y.2.2] aj Nu (fun kk w1 (hg:dE _ w1) hb hf=>b_ aj (by exact Ip w1 x.2.2 y.2.2)) ?_
 refine gH 20 aj ak (bO aj) (fun _=>fT 1 3 [ae af (fZ x.1 y.1),ae af (fZ x.2.1 y.2.1),ae af (fZ x.2.2 y.2.2)]) (by rw[hK.out];rfl) (fun kk w1 (hg:dE _ w1) hb hf=>by refine cA (φ:=fun _=>fT 1 3 [ae af (fZ x.1 y.1),ae af (fZ x.2.1 y.2.1),ae af (fZ x.2.2 y.2.2)]) aj ?_;exact xb rfl rfl rfl rfl) (fun v20=>?_)
 refine cC 21 aj ak (bO aj) (ae af (nQ x y)) (by rw[hK.out];rfl) 213 _ _ aj [v20] aj Nv (fun kk w1 (hg:dE _ w1) hb hf=>b_ aj (by exact Dn w1 v20 [fZ x.1 y.1,fZ x.2.1 y.2.1,fZ x.2.2 y.2.2] (cy hf (by rw[hA'.out];kernel_rfl)) (by simp))) ?_
 refine bP 4 (ae af (nQ x y)) ?_
 refine ce (fun _ _ w1 (hg:dE _ w1) hend bR=>hT _ _ ?_)
 clear hops hA' hK hT
 simp only[cj,Act.put,aw,ay,az]
 refine eY ?_
 clear bR
 go_wp2_with fail
 go_ret
 exact⟨rfl,(g1.trans g2).trans hg⟩
end Go.Proofs.YtmijcbfgfkeodaaGreatDoor
end
