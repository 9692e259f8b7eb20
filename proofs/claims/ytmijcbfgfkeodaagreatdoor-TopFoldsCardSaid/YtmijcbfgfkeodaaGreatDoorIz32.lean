/- Aga, Re2. -/
import Derived.Test.YtmijcbfgfkeodaaGreatDoorIz31
set_option linter.all false
set_option maxRecDepth 100000
set_option maxHeartbeats 2000000
open Go.Value renaming int → ae,slice → ai
open Go.IntKind renaming i64 → af,u64 → ah
open Go.Proofs.Tryz renaming prog → au
open List renaming setIfInBounds_toArray → aw,drop_succ_cons → ax,set_cons_zero → ay,set_cons_succ → az,drop_zero → aB,not_mem_nil → aE,mem_cons → aF,nil_append → aR
open Nat renaming lt_of_lt_of_le → aA,le_of_ble_eq_true → aQ,zero_add → a_
section
namespace Go.Proofs.YtmijcbfgfkeodaaGreatDoor
open Go.RowKit Go.Hop V
theorem Ay:(Tryz.prog.info? 270).map (fun i=>(i.zero,i.size,i.bytes))=some (some (.agg #[ae af 0,ae af 0,ae af 0,ae af 0,ae af 0,ae af 0,ae af 0,ai none 0 0,.string ⟨#[]⟩,ae af 0,ae af 0,ae af 0,ae af 0,ae ah 0,ae af 0,ae af 0,ai none 0 0,ae af 0,ae af 0]),19,192):=by kernel_rfl
theorem Gy:Elem au 68 270 19 192 (.agg #[ae af 0,ae af 0,ae af 0,ae af 0,ae af 0,ae af 0,ae af 0,ai none 0 0,.string ⟨#[]⟩,ae af 0,ae af 0,ae af 0,ae af 0,ae ah 0,ae af 0,ae af 0,ai none 0 0,ae af 0,ae af 0]):=⟨Tryz.underlying68,info_parts Ay,rfl,by decide,by decide⟩
theorem ux (w:World) (ρ:Operand→Value) (o:Oper) (ho:o.op=.alloc 26):(execOp ρ o).run au w=.ok (.value (.pointer (some ⟨w.heap.size,0,none⟩))) (w.alloc (.cells #[ae af 0,ae af 0,ae af 0] 26)):=by
 obtain⟨dst,op,ty,pos,after,guard⟩:=o
 simp only at ho
 subst ho
 go_simp
theorem DJ (w:World) (ρ:Operand→Value) (o:Oper) (ho:o.op=.alloc 378):(execOp ρ o).run au w=.ok (.value (.pointer (some ⟨w.heap.size,0,none⟩))) (w.alloc (.cells #[ae af 0,ae af 0] 378)):=by
 obtain⟨dst,op,ty,pos,after,guard⟩:=o
 simp only at ho
 subst ho
 go_simp
theorem Az (to:Int) (e:En) (A:Option Addr) (c:Nat):∀ u∈(ki to e A c).toList,u.oneCell'=true:=by simp[ki,Value.oneCell']
def ej (B:Nat) (to:Int) (e:En) (u:Value) (w:World):Prop:=∃ (A:Option Addr) (c:Nat) (U:Nat→Prop),Row w U 270 19 u 1 (ki to e A c).toList∧(∀ b,U b→B≤b∧b<w.heap.size)∧fY w (fun b=>B≤b∧b<w.heap.size) ⟨e,A,c⟩
theorem ej.sl {B:Nat} {to:Int} {e:En} {u:Value} {w:World} (h:ej B to e u w):∃ A c,u=.slice A 1 c:=by
 obtain⟨A,c,U,h1,_⟩:=h
 obtain⟨A2,c2,e2,_⟩:=h1.fw
 exact⟨A2,c2,e2⟩
theorem ej.grow {B:Nat} {to:Int} {e:En} {u:Value} {w w':World} (h:ej B to e u w) (hg:Grow w w'):ej B to e u w':=by
 obtain⟨A,c,U,h1,h2,h3⟩:=h
 exact⟨A,c,U,h1.grow hg,fun b hb=>⟨(h2 b hb).1,aA (h2 b hb).2 hg.size⟩,iw h3 hg⟩
theorem FD (w:World) (p:uq) (node:Nat) (now tag:Int) (n:Int) (bs:List UInt8) (k:Nat) (ep:Int) (sl:Value) (fJ:List Dl) (k0:Int) (cu:Value) (s:ByteArray) (x:Nat) (hnow:0≤now∧now≤4611686018427387904) (htag:0≤tag∧tag≤4611686018427387904) (V:Nat→Prop) (hM:Many (iW p (cP p.st p.z ep sl fJ [(1,[(s,x)])] k0 cu) node 1 now tag 0 [] [] n bs k) w V) (hV:∀ b,V b→b<w.heap.size) :
 Calls au 245 #[.pointer (some ⟨p.a,0,none⟩),ae af 1] w fun e w'=>(∃ u,e=.returned u∧ej w.heap.size 0 ⟨1,node,0,1,ep,[(s,x)],⟨#[]⟩,node,tag+1⟩ u w')∧(∃ y:Int,Many (iW p (cP p.st p.z ep sl fJ [(1,[(s,x)])] k0 cu) node 1 (now+1) (tag+1) 0 [(tag+1,.agg #[ae af (node:Int),ae af 0,ae af 1])] [(((node:Int),0,1),.agg #[ae af 1,ae af y])] n bs k) w' (Ext V w w'))∧Just V w w':=by
 have hmn:∀ ts t w,(Builtin.min_ ts t #[ae af 1,ae af 1024]).run au w=.ok (ae af 1) w:=fun ts t w=>by rw[run_min_int2];rfl
 have hmx:∀ ts t w,(Builtin.max_ ts t #[ae af 0,ae af 1]).run au w=.ok (ae af 1) w:=fun ts t w=>by rw[run_max_int2];rfl
 have x0:∀ w:World,(Instr.index 146 (.agg #[.pointer (some ⟨p.z.a,0,none⟩),.pointer (some ⟨p.z.b,0,none⟩),.pointer (some ⟨p.z.c,0,none⟩),.pointer (some ⟨p.z.d,0,none⟩)]) (ae af 0)).run au w=.ok (.pointer (some ⟨p.z.a,0,none⟩)) w:=fun _=>by kernel_rfl
 have x1:∀ w:World,(Instr.index 146 (.agg #[.pointer (some ⟨p.z.a,0,none⟩),.pointer (some ⟨p.z.b,0,none⟩),.pointer (some ⟨p.z.c,0,none⟩),.pointer (some ⟨p.z.d,0,none⟩)]) (ae af 1)).run au w=.ok (.pointer (some ⟨p.z.b,0,none⟩)) w:=fun _=>by kernel_rfl
 have x2:∀ w:World,(Instr.index 146 (.agg #[.pointer (some ⟨p.z.a,0,none⟩),.pointer (some ⟨p.z.b,0,none⟩),.pointer (some ⟨p.z.c,0,none⟩),.pointer (some ⟨p.z.d,0,none⟩)]) (ae af 2)).run au w=.ok (.pointer (some ⟨p.z.c,0,none⟩)) w:=fun _=>by kernel_rfl
 have x3:∀ w:World,(Instr.index 146 (.agg #[.pointer (some ⟨p.z.a,0,none⟩),.pointer (some ⟨p.z.b,0,none⟩),.pointer (some ⟨p.z.c,0,none⟩),.pointer (some ⟨p.z.d,0,none⟩)]) (ae af 3)).run au w=.ok (.pointer (some ⟨p.z.d,0,none⟩)) w:=fun _=>by kernel_rfl
 have hS0:=Solo.begin_ hM hV
 have dX:=cE p (cP p.st p.z ep sl fJ [(1,[(s,x)])] k0 cu) (cP.framed _ _ _ _ _ _ _ _) node 1 now tag 0 [] [] n bs k
 have ha0:=hS0.blk 1 rfl
 unfold ib at ha0
 have k4:=ha0.cell 4
 go_enter Tryz.func245,Tryz.ntmps245
 go_wp2_with fail
 go_loopw [5,15] (fun u i wr=>(u=(ai none 0 0)∧i=ae af 0∧w=wr)∨(i=ae af 1∧ej w.heap.size 0 ⟨1,node,0,1,ep,[(s,x)],⟨#[]⟩,node,tag+1⟩ u wr∧(∃ y:Int,Solo (cB V w) (Many (iW p (cP p.st p.z ep sl fJ [(1,[(s,x)])] k0 cu) node 1 (now+1) (tag+1) 0 [(tag+1,.agg #[ae af (node:Int),ae af 0,ae af 1])] [(((node:Int),0,1),.agg #[ae af 1,ae af y])] n bs k)) wr)∧Just (cB V w) w wr)) (fun _ i _=>1-(intOf i).toNat)
 case atStart=>exact .inl ⟨rfl,rfl,rfl⟩
 case round=>
  rcases hrel with ⟨rfl,rfl,rfl⟩|⟨rfl,hOut,⟨y,DI⟩,sI⟩
  ·have J0:Just (cB V w) w w:=Just.bJ (Grow.refl w)
   go_wp2_with (refine dp rfl _ _ _ rfl hS0 dX J0 1 rfl rfl (ae af (now+1)) rfl (aQ rfl) rfl am ?_;intro w1 hS1 J1;refine stay ?_)
   refine bV ?_
   clear k4
   have hS1:Solo (cB V w) (Many (iW p (cP p.st p.z ep sl fJ [(1,[(s,x)])] k0 cu) node 1 (now+1) tag 0 [] [] n bs k)) w1:=hS1
   have hF1:=cE p (cP p.st p.z ep sl fJ [(1,[(s,x)])] k0 cu) (cP.framed _ _ _ _ _ _ _ _) node 1 (now+1) tag 0 [] [] n bs k
   have FE:Solo (cB V w) (Many (eR p.st p.z ep sl fJ [(1,[(s,x)])] k0 cu++[Cell p.a 143 (ib p node 1 (now+1) tag 0),cJ k_ p.bK [],cJ mL p.bT [],cU p.x p.d n bs k])) w1:=Solo.flat hS1
   have ha1:=FE.blk 6 rfl
   have qi:=FE.blk 0 rfl
   unfold ib at ha1
   unfold ov at qi
   have k3:=ha1.cell 3
   have q3:=qi.cell 3
   have q4:=qi.cell 4
   have q5:=qi.cell 5
   have q6:=qi.cell 6
   have hw1:=J1.size
   go_wp2_with fail
   clear k3 q3 q4 q5 q6
   go_loopw [5,31] (fun u i wr=>(u=(ai none 0 0)∧i=ae af 0∧w1=wr)∨((i=ae af 1∨i=ae af 2∨i=ae af 3∨i=ae af 4)∧ej w.heap.size 0 ⟨1,node,0,1,ep,[(s,x)],⟨#[]⟩,node,tag+1⟩ u wr∧(∃ y:Int,Solo (cB V w) (Many (iW p (cP p.st p.z ep sl fJ [(1,[(s,x)])] k0 cu) node 1 (now+1) (tag+1) 0 [(tag+1,.agg #[ae af (node:Int),ae af 0,ae af 1])] [(((node:Int),0,1),.agg #[ae af 1,ae af y])] n bs k)) wr)∧Just (cB V w) w wr)) (fun _ i _=>4-(intOf i).toNat)
   case atStart=>exact .inl ⟨rfl,rfl,rfl⟩
   case round=>
    rcases hrel with ⟨rfl,rfl,rfl⟩|⟨hi,hOut,⟨y,DI⟩,sI⟩
    ·obtain⟨U2,IK,oi⟩:=FE.see 2 rfl
     have DK:=Q.l5 w1 p.z.a [(1,[(s,x)])] k0 U2 IK 1 rfl
     go_wp2_with fail
     refine DK.mono ?_
     rintro e w2 ⟨A2,q',rfl,Be,hq',hg2⟩
     obtain⟨b,rfl⟩:∃ b:Q.fk,q'=[b]:=by
      have h:=congrArg List.length hq'
      simp at h
      match q',h with
      | [b],_=>exact⟨b,rfl⟩
     have hb1:b.abs=(1,[(s,x)]):=by simpa using hq'
     have Gz:b.seq=1:=congrArg Prod.fst hb1
     have IL:b.ds=[(s,x)]:=congrArg Prod.snd hb1
     have hbi:=Be.all b (by simp)
     have Py:b.m=1:=by have:=fV.len hbi.ds;rw[IL] at this;simpa using this.symm
     obtain⟨ad,hkq,rfl,Nx,hlb,f0,f1⟩:=Be.row.iS al Q.jU (k:=0) al
     have e0:w2.cell? ad=some (ae af b.seq):=f0 _ rfl
     have e1:w2.cell? ⟨ad.block,ad.off+1,none⟩=some (.slice b.A b.m b.c):=f1 0 _ rfl
     clear f0 f1
     obtain⟨sq,A,m,c,ds⟩:=b
     dsimp only at Gz IL hbi Py e0 e1
     subst Gz IL Py
     have hd2:fV w2 (New w1 w2) A 1 [(s,x)]:=hbi.ds
     have hc1:1≤c:=hbi.le
     have hcm:c≤maxLen:=hbi.max
     clear hbi Be hq' hb1 hkq Nx hlb DK
     have hww2:=hg2.size
     go_wp2_with fail
     go_loopw [5,38] (fun u i wr=>(u=(ai none 0 0)∧i=ae af 0∧w2=wr)∨(i=ae af 1∧ej w.heap.size 0 ⟨1,node,0,1,ep,[(s,x)],⟨#[]⟩,node,tag+1⟩ u wr∧(∃ y:Int,Solo (cB V w) (Many (iW p (cP p.st p.z ep sl fJ [(1,[(s,x)])] k0 cu) node 1 (now+1) (tag+1) 0 [(tag+1,.agg #[ae af (node:Int),ae af 0,ae af 1])] [(((node:Int),0,1),.agg #[ae af 1,ae af y])] n bs k)) wr)∧Just (cB V w) w wr)) (fun _ i _=>1-(intOf i).toNat)
     case atStart=>exact .inl ⟨rfl,rfl,rfl⟩
     case round=>
      rcases hrel with ⟨rfl,rfl,rfl⟩|⟨rfl,hOut,⟨y,DI⟩,sI⟩
      ·have hgb:=bN w2 (.cells #[ae af 1,.slice A 1 c] 159)
       have hBb:=ct.made w2 159 #[ae af 1,.slice A 1 c]
       obtain⟨yb,Pz⟩:∃ y:Nat,Hid (y=w2.heap.size):=⟨_,rfl⟩
       obtain⟨w3,HW3⟩:∃ w':World,Hid (w'=w2.alloc (.cells #[ae af 1,.slice A 1 c] 159)):=⟨_,rfl⟩
       rw[←HW3.out] at hgb hBb
       rw[←Pz.out] at hBb
       have hg3:Grow w1 w3:=hg2.trans hgb
       have Am:=ha1.grow hg3
       go_wp2_with fail
       rw[←HW3.out,←Pz.out]
       refine bL 9 80 [(8,.inr (fun _=>fR w3.heap.size 26 #[ae af 0,ae af 0,ae af 0]))] rfl rfl am am am ?_ ?_
       ·intro x hx φ he
        simp only[aF,aE,or_false] at hx
        rcases hx with rfl<;>cases he
        all_goals first|exact ca (cn _)|exact ca (fS _ _ _)
       intro ops' A' K' T hops hA' hK hT
       refine bP 42 (.pointer (some ⟨p.a,0,none⟩)) ?_
       refine bI 43 (.tmp 42) (.pointer (some ⟨p.a,0,none⟩)) (.pointer (some ⟨p.a,0,none⟩)) (fun ρ h1 kk w4 (hg4:Grow _ w4) hb hf=>by go_simp) ?_
       refine bI 44 (.tmp 43) (.pointer (some ⟨p.a,0,none⟩)) (.pointer (some ⟨p.a,0,none⟩)) (fun ρ h1 kk w4 (hg4:Grow _ w4) hb hf=>by go_simp) ?_
       refine bI 45 (.tmp 44) (.pointer (some ⟨p.a,0,none⟩)) (ae af (node:Int)) (fun ρ h1 kk w4 (hg4:Grow _ w4) hb hf=>by have c:=(Am.grow hg4).cell 0;go_simp) ?_
       refine bP 46 (ae af 0) ?_
       refine bI 47 (.tmp 9) (((yb:Nat):Value)) (((yb:Nat):Value)) (fun ρ h1 kk w4 (hg4:Grow _ w4) hb hf=>by go_simp) ?_
       refine bI 48 (.tmp 47) (((yb:Nat):Value)) (ae af 1) (fun ρ h1 kk w4 (hg4:Grow _ w4) hb hf=>by have c:=(hBb.grow hg4).cell 0;go_simp) ?_
       refine mP 49 aj ak (bO aj) (by rw[hK.out];rfl) aj (.tmp 45) (.tmp 46) (.tmp 48) (ae af (node:Int)) (ae af 0) (ae af 1) aj aj aj (.agg #[ae af (node:Int),ae af 0,ae af 1]) (fun ρ h1 h2 h3 kk w4 (hg4:Grow _ w4) hb hf=>by go_simp) ?_
       refine gH 10 aj ak (bO aj) (fun _=>fR w3.heap.size 26 #[ae af 0,ae af 0,ae af 0]) (by rw[hK.out];rfl) (fun kk w4 (hg4:Grow _ w4) hb hf=>by refine cA (φ:=fun _=>fR w3.heap.size 26 #[ae af 0,ae af 0,ae af 0]) aj ?_;exact cF (ux w4 _ _ rfl) ⟨bN w4 _,_,rfl,ct.made w4 _ _,hg4.size⟩) (fun v10=>?_)
       refine ce (fun _ _ w4 (hg4:Grow _ w4) _ bR=>hT _ _ ?_)
       clear hops hA' hK hT
       simp only[cj,Act.put,aw,ay,az,ax,aB]
       obtain⟨yi,rfl,hI0,hi0⟩:fR w3.heap.size 26 #[ae af 0,ae af 0,ae af 0] v10 w4:=bR.1
       clear bR
       go_wp2_with (refine ch rfl 26 _ _ rfl _ rfl [ae af (node:Int),ae af 0,ae af 1] rfl hI0 rfl rfl am ?_;intro w5 JW dY hs5;refine stay ?_)
       refine bV ?_
       have hg5:Grow w3 w5:=Below.trans hg4 (dY.below (B:=w3.heap.size) (fun b hb=>by rw[hb];exact hi0) hg4.size)
       have IM:Grow w1 w5:=hg3.trans hg5
       have Fz:=ha1.grow IM
       obtain⟨UT,Re,Rf⟩:=(FE.grows (bW (cV p.st p.z ep sl fJ [(1,[(s,x)])] k0 cu) hF1.tail) IM).see 8 rfl
       have hLk:∀ w6,Grow w5 w6→(Instr.lookup 140 (.map (some p.bT)) (.agg #[ae af (node:Int),ae af 0,ae af 1]) false).run au w6=.ok (.agg #[ae af 0,ae af 0]) w6:=fun w6 hg=>by
        have NQ:=cJ.framed (ke:=mL) p.bT [] w5 w6 UT Re fun b hb=>hg.block b (Rf b hb).2
        have h:=cJ.look Iy (t:=140) (et:=378) am (zT w6) NQ ((node:Int),0,1) false
        rw[if_neg ak,xY] at h
        exact h
       go_wp2_with fail
       refine bL 7 80 [(6,.inr (fun _=>fR w5.heap.size 378 #[ae af 0,ae af 0]))] rfl rfl am am am ?_ ?_
       ·intro x hx φ he
        simp only[aF,aE,or_false] at hx
        rcases hx with rfl<;>cases he
        all_goals first|exact ca (cn _)|exact ca (fS _ _ _)
       intro ops' A' K' T hops hA' hK hT
       refine bP 50 (.pointer (some ⟨p.a,0,none⟩)) ?_
       refine bI 51 (.tmp 50) (.pointer (some ⟨p.a,0,none⟩)) (.pointer (some ⟨p.a,0,none⟩)) (fun ρ h1 kk w6 (dT:Grow _ w6) hb hf=>by go_simp) ?_
       refine bI 52 (.tmp 51) (.pointer (some ⟨p.a,0,none⟩)) (.pointer (some ⟨p.a,7,none⟩)) (fun ρ h1 kk w6 (dT:Grow _ w6) hb hf=>by go_simp) ?_
       refine bI 53 (.tmp 52) (.pointer (some ⟨p.a,7,none⟩)) (.map (some p.bT)) (fun ρ h1 kk w6 (dT:Grow _ w6) hb hf=>by have c:=(Fz.grow dT).cell 7;go_simp) ?_
       refine bI 54 (.tmp 10) (((yi:Nat):Value)) (.agg #[ae af (node:Int),ae af 0,ae af 1]) (fun ρ h1 kk w6 (dT:Grow _ w6) hb hf=>by have c0:=(JW.grow dT).cell 0;have c1:=(JW.grow dT).cell 1;have c2:=(JW.grow dT).cell 2;go_simp) ?_
       refine cm 55 (.tmp 53) (.tmp 54) (.map (some p.bT)) (.agg #[ae af (node:Int),ae af 0,ae af 1]) (.agg #[ae af 0,ae af 0]) (fun ρ h1 h2 kk w6 (dT:Grow _ w6) hb hf=>by have hl:=hLk w6 dT;go_simp) ?_
       refine gH 11 aj ak (bO aj) (fun _=>fR w5.heap.size 378 #[ae af 0,ae af 0]) (by rw[hK.out];rfl) (fun kk w6 (dT:Grow _ w6) hb hf=>by refine cA (φ:=fun _=>fR w5.heap.size 378 #[ae af 0,ae af 0]) aj ?_;exact cF (DJ w6 _ _ rfl) ⟨bN w6 _,_,rfl,ct.made w6 _ _,dT.size⟩) (fun v11=>?_)
       refine ce (fun _ _ w6 (dT:Grow _ w6) _ bR=>hT _ _ ?_)
       clear hops hA' hK hT
       simp only[cj,Act.put,aw,ay,az,ax,aB]
       obtain⟨yt,rfl,hT0,ht0⟩:fR w5.heap.size 378 #[ae af 0,ae af 0] v11 w6:=bR.1
       clear bR hLk
       go_wp2_with (refine ch rfl 378 _ _ rfl _ rfl [ae af 0,ae af 0] rfl hT0 rfl rfl am ?_;intro w7 NR nn hs7;refine stay ?_)
       refine bV ?_
       have o1:Grow w5 w7:=Below.trans dT (nn.below (B:=w5.heap.size) (fun b hb=>by rw[hb];exact ht0) dT.size)
       have vW:Grow w1 w7:=IM.trans o1
       have IP:=JW.grow o1
       have KX:=hBb.grow (hg5.trans o1)
       go_wp2_with fail
       refine bL 12 80 [] rfl rfl am am am ?_ ?_
       ·intro x hx φ he
        cases hx
       intro ops' A' K' T hops hA' hK hT
       refine bI 56 (.tmp 11) (((yt:Nat):Value)) (((yt:Nat):Value)) (fun ρ h1 kk w8 (mK:Grow _ w8) hb hf=>by go_simp) ?_
       refine bI 57 (.tmp 56) (((yt:Nat):Value)) (ae af 0) (fun ρ h1 kk w8 (mK:Grow _ w8) hb hf=>by have c:=(NR.grow mK).cell 0;go_simp) ?_
       refine cm 58 (.tmp 57) (.const (ae af 0)) (ae af 0) (ae af 0) (.bool true) (fun ρ h1 h2 kk w8 (mK:Grow _ w8) hb hf=>by go_simp) ?_
       refine bP 59 (.bool true) ?_
       refine bU 60 (cx hops 3 false 59 true) ?_
       refine bU 61 (cx hops 3 false 59 true) ?_
       refine bU 62 (cx hops 3 false 59 true) ?_
       refine bU 63 (cx hops 3 false 59 true) ?_
       refine bU 64 (cx hops 3 false 59 true) ?_
       refine bU 65 (cx hops 3 false 59 true) ?_
       refine bU 66 (cx hops 3 false 59 true) ?_
       refine cG 67 true (.bool true) ?_
       refine ce (fun _ _ w8 (mK:Grow _ w8) _ bR=>hT _ _ ?_)
       clear hops hA' hK hT
       simp only[cj,Act.put,aw,ay,az,ax,aB]
       have FG:Grow w1 w8:=vW.trans mK
       have i0:=(IP.grow mK).cell 0
       have i1:=(IP.grow mK).cell 1
       have i2:=(IP.grow mK).cell 2
       have t0:=(NR.grow mK).cell 0
       have t1:=(NR.grow mK).cell 1
       have b0:=(KX.grow mK).cell 0
       have b1:=(KX.grow mK).cell 1
       have u9:=hS1.grows hF1 FG
       obtain⟨h08,U8,hU8,DL⟩:=id hS1
       have hw8:=FG.size
       have JX:=Many.framed _ hF1 w1 w8 U8 hU8 fun b hb=>FG.block b (DL b hb).2
       have Rh:fV w8 (New w1 w2) A 1 [(s,x)]:=In.grow hd2 (hgb.trans (hg5.trans (o1.trans mK)))
       have hw28:=(hgb.trans (hg5.trans (o1.trans mK))).size
       have hSd:=FB w8 p node (now+1) tag [] [] n bs k ep sl fJ [(1,[(s,x)])] k0 cu s x c A (New w1 w2) htag (tag+1) rfl hc1 hcm U8 JX (fun b hb=>by have:=(DL b hb).2;omega) Rh (fun b hb=>by have:=hb.2;omega) (fun b hb hu=>by have:=(DL b hu).2;have:=hb.1;omega)
       go_wp2_with fail
       clear i0 i1 i2 t0 t1 b0 b1
       refine hSd.mono ?_
       rintro e w9 ⟨⟨A9,c9,rfl,PD⟩,⟨y9,yB⟩,fK⟩
       have IQ:dQ ([]:List (Int×Value)) (tag+1) (.agg #[ae af (node:Int),ae af 0,ae af 1])=[(tag+1,.agg #[ae af (node:Int),ae af 0,ae af 1])]:=by simp[dQ]
       have NS:dQ ([]:List ((Int×Int×Int)×Value)) ((node:Int),0,1) (.agg #[ae af 1,ae af y9])=[(((node:Int),0,1),.agg #[ae af 1,ae af y9])]:=by simp[dQ]
       rw[IQ,NS] at yB
       have R3:=fK.size
       have iq:Solo (cB V w) (Many (iW p (cP p.st p.z ep sl fJ [(1,[(s,x)])] k0 cu) node 1 (now+1) (tag+1) 0 [(tag+1,.agg #[ae af (node:Int),ae af 0,ae af 1])] [(((node:Int),0,1),.agg #[ae af 1,ae af y9])] n bs k)) w9:=Solo.pr (fun b hb => .inr al) yB fun b hb=>by
        rcases hb with hb|hb
        ·have:=DL b hb;exact⟨this.1,by omega⟩
        ·exact⟨.inr (by have:=hb.1;omega),hb.2⟩
       have J9:Just (cB V w) w w9:=((J1.trans (Just.bJ FG)).trans (fK.imp fun b hb=>(DL b hb).1))
       have KY:=ct.made w9 270 (ki 0 ⟨1,node,0,1,ep,[(s,x)],⟨#[]⟩,node,tag+1⟩ A9 c9)
       have IR:=KY.fw (size:=19) (n:=1) aj
       have DN:=bN w9 (.cells (ki 0 ⟨1,node,0,1,ep,[(s,x)],⟨#[]⟩,node,tag+1⟩ A9 c9) 270)
       dsimp only[ki]
       go_wp2_with (at_builtin;refine stay ?_)
       refine bV ?_
       refine eD Gy _ rfl (.tmp 68) (.tmp 74) rfl (ai none 0 0) 0 [] rfl (Row.nil (V:=fun _=>False)) _ _ 1 1 (ki 0 ⟨1,node,0,1,ep,[(s,x)],⟨#[]⟩,node,tag+1⟩ A9 c9).toList rfl IR.reads (Az _ _ _ _) ak ?_
       intro v10 Cc s6 IU
       have DO:=IU.below (B:=w9.heap.size) (fun b hb=>hb.elim) (by simp)
       have lS:Grow w9 Cc:=Below.trans DN DO
       have Ri:ej w.heap.size 0 ⟨1,node,0,1,ep,[(s,x)],⟨#[]⟩,node,tag+1⟩ v10 Cc:=by
        simp only[a_,aR] at s6
        refine⟨A9,c9,_,s6,fun b hb=>?_,In.mono (In.grow PD.1 lS) fun b hb=>⟨by have:=hb.1;omega,by have:=hb.2.1;have:=lS.size;omega⟩,PD.2⟩
        rcases hb with hb|hb
        ·exact hb.elim
        ·exact⟨by have:=hb.1;simp at this;omega,hb.2⟩
       have gZ:=iq.grows (cE _ _ (cP.framed _ _ _ _ _ _ _ _) _ _ _ _ _ _ _ _ _ _) lS
       have NT:=J9.trans (Just.bJ lS)
       clear IR KY DN
       go_wp2_with fail
       go_roundw
       case rel=>exact .inr ⟨rfl,Ri,⟨y9,gZ⟩,NT⟩
       case measure=>simp[intOf]
      ·go_wp2_with fail
       go_roundw
       case rel=>exact .inr ⟨.inl rfl,hOut,⟨y,DI⟩,sI⟩
       case measure=>simp[intOf]
    ·obtain⟨Ao,co,rfl⟩:=hOut.sl
     have IV:=Solo.flat (l:=eR p.st p.z ep sl fJ [(1,[(s,x)])] k0 cu) DI
     rcases hi with rfl|rfl|rfl|rfl
     ·obtain⟨U2,IK,oi⟩:=IV.see 3 rfl
      have DK:=Q.l5 wr p.z.b [] 0 U2 IK 0 rfl
      go_wp2_with fail
      refine DK.mono ?_
      rintro e w2 ⟨A2,q',rfl,_,_,hg2⟩
      have uy:=hOut.grow hg2
      have DR:=DI.grows (cE _ _ (cP.framed _ _ _ _ _ _ _ _) _ _ _ _ _ _ _ _ _ _) hg2
      have DT:=sI.trans (Just.bJ hg2)
      clear DK
      go_wp2_with fail
      go_loopw [5,38] (fun u i wr=>u=.slice Ao 1 co∧i=ae af 0∧w2=wr) (fun _ _ _=>0)
      case atStart=>exact⟨rfl,rfl,rfl⟩
      case round=>
       obtain⟨rfl,rfl,rfl⟩:=hrel
       go_wp2_with fail
       go_roundw
       case rel=>exact .inr ⟨.inr (.inl rfl),uy,⟨y,DR⟩,DT⟩
       case measure=>simp[intOf]
     ·obtain⟨U2,IK,oi⟩:=IV.see 4 rfl
      have DK:=Q.l5 wr p.z.c [] 0 U2 IK 0 rfl
      go_wp2_with fail
      refine DK.mono ?_
      rintro e w2 ⟨A2,q',rfl,_,_,hg2⟩
      have uy:=hOut.grow hg2
      have DR:=DI.grows (cE _ _ (cP.framed _ _ _ _ _ _ _ _) _ _ _ _ _ _ _ _ _ _) hg2
      have DT:=sI.trans (Just.bJ hg2)
      clear DK
      go_wp2_with fail
      go_loopw [5,38] (fun u i wr=>u=.slice Ao 1 co∧i=ae af 0∧w2=wr) (fun _ _ _=>0)
      case atStart=>exact⟨rfl,rfl,rfl⟩
      case round=>
       obtain⟨rfl,rfl,rfl⟩:=hrel
       go_wp2_with fail
       go_roundw
       case rel=>exact .inr ⟨.inr (.inr (.inl rfl)),uy,⟨y,DR⟩,DT⟩
       case measure=>simp[intOf]
     ·obtain⟨U2,IK,oi⟩:=IV.see 5 rfl
      have DK:=Q.l5 wr p.z.d [] 0 U2 IK 0 rfl
      go_wp2_with fail
      refine DK.mono ?_
      rintro e w2 ⟨A2,q',rfl,_,_,hg2⟩
      have uy:=hOut.grow hg2
      have DR:=DI.grows (cE _ _ (cP.framed _ _ _ _ _ _ _ _) _ _ _ _ _ _ _ _ _ _) hg2
      have DT:=sI.trans (Just.bJ hg2)
      clear DK
      go_wp2_with fail
      go_loopw [5,38] (fun u i wr=>u=.slice Ao 1 co∧i=ae af 0∧w2=wr) (fun _ _ _=>0)
      case atStart=>exact⟨rfl,rfl,rfl⟩
      case round=>
       obtain⟨rfl,rfl,rfl⟩:=hrel
       go_wp2_with fail
       go_roundw
       case rel=>exact .inr ⟨.inr (.inr (.inr rfl)),uy,⟨y,DR⟩,DT⟩
       case measure=>simp[intOf]
     ·go_wp2_with fail
      go_roundw
      case rel=>exact .inr ⟨rfl,hOut,⟨y,DI⟩,sI⟩
      case measure=>simp[intOf]
  ·go_wp2_with fail
   go_ret
   obtain⟨r1,r2⟩:=Solo.done DI sI hV
   exact⟨⟨_,rfl,hOut⟩,⟨y,r1⟩,r2⟩
def uz (u:Value) (_:World):Prop:=∃ (A:Option Addr) (n c:Nat),u=.slice A n c
theorem qm:dv uz:=fun _ _ _ h _=>h
theorem AA (w:World) (p:sT) (commit:Int) (v:Value) (leads:Bool) (own:Int) (hB:ct w p.r 164 (kh p 0 1 commit v leads own)) (t c:Int) (lg:Value):Calls au 91 #[.pointer (some ⟨p.r,0,none⟩),.agg #[ae af 5,ae af 0,ae af 0,ae af 0,ae af 0,ae af 0,ai none 0 0,.string ⟨#[]⟩,ae af 0,ae af 0,ae af 0,ae af 0,ae ah 0,ae af t,ae af 0,lg,ae af c,ae af 0]] w fun e w'=>e=.returned (ai none 0 0)∧Grow w w':=by
 unfold kh at hB
 have hga:=bN w (.cells #[ae af 5,ae af 0,ae af 0,ae af 0,ae af 0,ae af 0,ai none 0 0,.string ⟨#[]⟩,ae af 0,ae af 0,ae af 0,ae af 0,ae ah 0,ae af t,ae af 0,lg,ae af c,ae af 0] 73)
 have hB:=hB.grow hga
 have c0:=hB.cell 0
 have c1:=hB.cell 1
 obtain⟨wa,dq⟩:∃ wa:World,Hid (wa=w.alloc (.cells #[ae af 5,ae af 0,ae af 0,ae af 0,ae af 0,ae af 0,ai none 0 0,.string ⟨#[]⟩,ae af 0,ae af 0,ae af 0,ae af 0,ae ah 0,ae af t,ae af 0,lg,ae af c,ae af 0] 73)):=⟨_,rfl⟩
 rw[←dq.out] at hga
 go_enter Tryz.func91,Tryz.ntmps91
 go_wp2_with fail
 rw[←dq.out]
 rw[←dq.out] at c0 c1
 go_loopw [5,11] (fun u i wr=>u=ai none 0 0∧(i=ae af 0∨i=ae af 1)∧wa=wr) (fun _ i _=>1-(intOf i).toNat)
 case atStart=>exact⟨rfl,.inl rfl,rfl⟩
 case round=>
  obtain⟨rfl,hi,rfl⟩:=hrel
  rcases hi with rfl|rfl
  ·go_wp2_with fail
   go_roundw
   case rel=>first|exact⟨rfl,.inr rfl,rfl⟩|simp
   case measure=>simp[intOf]
  ·go_wp2_with fail
   go_ret
   exact⟨rfl,hga⟩
theorem AB {w:World} {o:Oper} {ρ:Operand→Value} {x1 x2 x3:Operand} {t c:Int} {A:Option Addr} {n m:Nat} (ho:o.op=.build 73 #[(0,.const (ae af 5)),(5,x1),(7,x2),(8,x3)]) (hc:∀ v,ρ (.const v)=v) (h1:ρ x1=ae af t) (h2:ρ x2=.slice A n m) (h3:ρ x3=ae af c) :
 (execOp ρ o).run au w=.ok (.value (.agg #[ae af 5,ae af 0,ae af 0,ae af 0,ae af 0,ae af 0,ai none 0 0,.string ⟨#[]⟩,ae af 0,ae af 0,ae af 0,ae af 0,ae ah 0,ae af t,ae af 0,.slice A n m,ae af c,ae af 0])) w:=by
 obtain⟨dst,op,ty,pos,after,guard⟩:=o
 simp only at ho
 subst ho
 have h0:=hc (ae af 5)
 go_simp
theorem lu (w:World) (p:sT) (commit:Int) (v:Value) (leads:Bool) (own:Int) (hB:ct w p.r 164 (kh p 0 1 commit v leads own)) (t h:Nat) (es:List En) (n:Int) (bs:List UInt8) (V:Nat→Prop) (hS:dJ p.s p.x p.d t h es n bs w V) (hV:∀ b,V b→b<w.heap.size) (hn:es.length≤1048576):Calls au 172 #[.pointer (some ⟨p.r,0,none⟩)] w fun e w'=>e=.returned (ai none 0 0)∧Grow w w':=by
 have NU:∀ (vs:Array Value) (w:World),(callFunc 83 vs).run au w=.ok (.enter 83 vs) w:=fun vs w=>by go_simp
 have NV:∀ (vs:Array Value) (w:World),(callFunc 89 vs).run au w=.ok (.enter 89 vs) w:=fun vs w=>by go_simp
 have Rj:∀ (vs:Array Value) (w:World),(callFunc 91 vs).run au w=.ok (.enter 91 vs) w:=fun vs w=>by go_simp
 have GA:=fun w1 (hg:Grow w w1)=>dJ.framed p.s p.x p.d t h es n bs w w1 V hS fun b hb=>hg.block b (hV b hb)
 have hB':=hB
 unfold kh at hB
 go_enter Tryz.func172,Tryz.ntmps172
 go_wp2_with fail
 refine bL 18 20 [(5,.inl (ae af (t:Int))),(10,.inr (fun _=>uz)),(16,.inl (ai none 0 0))] rfl rfl am am am ?_ ?_
 ·intro x hx φ he
  simp only[aF,aE,or_false] at hx
  rcases hx with rfl|rfl|rfl<;>cases he
  all_goals first|exact ca (cn _)|exact ca qm
 intro ops' A' K' T hops hA' hK hT
 refine bP 3 (.pointer (some ⟨p.r,0,none⟩)) ?_
 refine bP 4 (.pointer (some ⟨p.r,0,none⟩)) ?_
 refine bQ 5 (.tmp 4) (.pointer (some ⟨p.r,0,none⟩)) (.pointer (some ⟨p.r,0,none⟩)) ?_
 refine bQ 6 (.tmp 5) (.pointer (some ⟨p.r,0,none⟩)) (.pointer (some ⟨p.r,2,none⟩)) ?_
 refine bI 7 (.tmp 6) (.pointer (some ⟨p.r,2,none⟩)) (.pointer (some ⟨p.s,0,none⟩)) (fun ρ h1 kk w1 (hg:Grow _ w1) hb hf=>by have c:=(hB.grow hg).cell 2;go_simp) ?_
 refine cC 8 aj ak (bO aj) (ae af (t:Int)) (by rw[hK.out];rfl) 83 _ _ aj [.pointer (some ⟨p.s,0,none⟩)] aj NU (fun kk w1 (hg:Grow _ w1) hb hf=>b_ aj (by exact db (rb w1 _ _ _ t h es n bs V (GA w1 hg)))) ?_
 refine bP 9 (.pointer (some ⟨p.r,0,none⟩)) ?_
 refine bQ 10 (.tmp 9) (.pointer (some ⟨p.r,0,none⟩)) (.pointer (some ⟨p.r,0,none⟩)) ?_
 refine bQ 11 (.tmp 10) (.pointer (some ⟨p.r,0,none⟩)) (.pointer (some ⟨p.r,2,none⟩)) ?_
 refine bI 12 (.tmp 11) (.pointer (some ⟨p.r,2,none⟩)) (.pointer (some ⟨p.s,0,none⟩)) (fun ρ h1 kk w1 (hg:Grow _ w1) hb hf=>by have c:=(hB.grow hg).cell 2;go_simp) ?_
 refine cH 13 aj ak (bO aj) (fun _=>uz) (by rw[hK.out];rfl) 89 _ _ aj [.pointer (some ⟨p.s,0,none⟩)] aj NV (fun kk w1 (hg:Grow _ w1) hb hf=>cr (φ:=fun _=>uz) aj (by exact (mr w1 _ _ _ t h es n bs V (GA w1 hg) hn).mono fun e w2 h9=>by obtain⟨u,h1,_,⟨A9,h3⟩,h2⟩:=h9;exact⟨u,h1,h2,⟨A9,_,_,h3⟩⟩)) (fun v13=>?_)
 refine bP 14 (.pointer (some ⟨p.r,0,none⟩)) ?_
 refine bQ 15 (.tmp 14) (.pointer (some ⟨p.r,0,none⟩)) (.pointer (some ⟨p.r,0,none⟩)) ?_
 refine bQ 16 (.tmp 15) (.pointer (some ⟨p.r,0,none⟩)) (.pointer (some ⟨p.r,4,none⟩)) ?_
 refine bI 17 (.tmp 16) (.pointer (some ⟨p.r,4,none⟩)) (ae af commit) (fun ρ h1 kk w1 (hg:Grow _ w1) hb hf=>by have c:=(hB.grow hg).cell 4;go_simp) ?_
 refine lz 18 aj ak (bO aj) (by rw[hK.out];rfl) aj (.agg #[ae af 5,ae af 0,ae af 0,ae af 0,ae af 0,ae af 0,ai none 0 0,.string ⟨#[]⟩,ae af 0,ae af 0,ae af 0,ae af 0,ae ah 0,ae af (t:Int),ae af 0,v13,ae af commit,ae af 0]) (fun kk w1 (hg:Grow _ w1) hb hf=>by obtain⟨A9,n9,c9,rfl⟩:uz v13 w1:=(cy hf (by rw[hA'.out];kernel_rfl));exact AB rfl (fun v=>rfl) rfl rfl rfl) ?_
 refine cC 19 aj ak (bO aj) (ai none 0 0) (by rw[hK.out];rfl) 91 _ _ aj [.pointer (some ⟨p.r,0,none⟩),.agg #[ae af 5,ae af 0,ae af 0,ae af 0,ae af 0,ae af 0,ai none 0 0,.string ⟨#[]⟩,ae af 0,ae af 0,ae af 0,ae af 0,ae ah 0,ae af (t:Int),ae af 0,v13,ae af commit,ae af 0]] aj Rj (fun kk w1 (hg:Grow _ w1) hb hf=>b_ aj (by exact AA w1 p commit v leads own (hB'.grow hg) t commit v13)) ?_
 refine bP 2 (ai none 0 0) ?_
 refine ce (fun _ _ w1 (hg:Grow _ w1) _ bR=>hT _ _ ?_)
 clear hops hA' hK hT
 simp only[cj,Act.put,aw,ay,az,ax,aB]
 go_wp2_with fail
 go_ret
 exact⟨rfl,hg⟩
theorem AE (w:World) (p:sT) (v:Value) (leads:Bool) (own:Int) (hB:ct w p.r 164 (kh p 0 1 0 v leads own)) (t h:Nat) (es:List En) (n:Int) (bs:List UInt8) (V:Nat→Prop) (hS:dJ p.s p.x p.d t h es n bs w V) (hes:es=[]):Calls au 176 #[.pointer (some ⟨p.r,0,none⟩),ae af 0] w fun e w'=>e=.returned (ai none 0 0)∧Grow w w':=by
 subst hes
 have hL:=mr w p.s p.x p.d t h [] n bs V hS (by simp)
 have hmn:∀ ts t w,(Builtin.min_ ts t #[ae af 0,ae af 0]).run au w=.ok (ae af 0) w:=fun ts t w=>by rw[run_min_int2];rfl
 unfold kh at hB
 have c2:=hB.cell 2
 go_enter Tryz.func176,Tryz.ntmps176
 go_wp2_with fail
 refine hL.mono ?_
 rintro e w1 ⟨u,rfl,_,⟨A,rfl⟩,hg⟩
 have c4:=(hB.grow hg).cell 4
 clear c2
 go_wp2_with fail
 go_loopw [5] (fun u wr=>u=ai none 0 0∧w1=wr) (fun _ _=>0)
 case atStart=>exact⟨rfl,rfl⟩
 case round=>
  obtain⟨rfl,rfl⟩:=hrel
  go_wp2_with fail
  go_ret
  exact⟨rfl,hg⟩
end Go.Proofs.YtmijcbfgfkeodaaGreatDoor
end
