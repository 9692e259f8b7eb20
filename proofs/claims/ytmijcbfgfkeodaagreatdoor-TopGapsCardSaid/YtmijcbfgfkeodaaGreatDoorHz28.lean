/- Aga, Re2. -/
import Derived.Test.YtmijcbfgfkeodaaGreatDoorHz27
set_option linter.all false
set_option maxRecDepth 100000
section
namespace Go.Proofs.YtmijcbfgfkeodaaGreatDoor
open Go.RowKit Go.Hop Go.Proofs.YtmijcbfgfkeodaaGreatDoor.V
theorem sent_info:(Tryz.prog.info? 270).map (fun i=>(i.zero,i.size,i.bytes))=some (some (.agg #[.int .i64 0,.int .i64 0,.int .i64 0,.int .i64 0,.int .i64 0,.int .i64 0,.int .i64 0,.slice none 0 0,.string ⟨#[]⟩,.int .i64 0,.int .i64 0,.int .i64 0,.int .i64 0,.int .u64 0,.int .i64 0,.int .i64 0,.slice none 0 0,.int .i64 0,.int .i64 0]),19,192):=by kernel_rfl
theorem sentE:Elem Tryz.prog 68 270 19 192 (.agg #[.int .i64 0,.int .i64 0,.int .i64 0,.int .i64 0,.int .i64 0,.int .i64 0,.int .i64 0,.slice none 0 0,.string ⟨#[]⟩,.int .i64 0,.int .i64 0,.int .i64 0,.int .i64 0,.int .u64 0,.int .i64 0,.int .i64 0,.slice none 0 0,.int .i64 0,.int .i64 0]):=⟨Tryz.underlying68,info_parts sent_info,rfl,by decide,by decide⟩
theorem run_alcI (w:World) (ρ:Operand→Value) (o:Oper) (ho:o.op=.alloc 26):(execOp ρ o).run Tryz.prog w=.ok (.value (.pointer (some ⟨w.heap.size,0,none⟩))) (w.alloc (.cells #[.int .i64 0,.int .i64 0,.int .i64 0] 26)):=by
 obtain⟨dst,op,ty,pos,after,guard⟩:=o
 simp only at ho
 subst ho
 go_simp
theorem run_alcT (w:World) (ρ:Operand→Value) (o:Oper) (ho:o.op=.alloc 378):(execOp ρ o).run Tryz.prog w=.ok (.value (.pointer (some ⟨w.heap.size,0,none⟩))) (w.alloc (.cells #[.int .i64 0,.int .i64 0] 378)):=by
 obtain⟨dst,op,ty,pos,after,guard⟩:=o
 simp only at ho
 subst ho
 go_simp
theorem sentA_one (to:Int) (e:En) (A:Option Addr) (c:Nat):∀ u∈(sentA to e A c).toList,u.oneCell'=true:=by simp[sentA,Value.oneCell']
def OneSent (B:Nat) (to:Int) (e:En) (u:Value) (w:World):Prop:=∃ (A:Option Addr) (c:Nat) (U:Nat→Prop),Row w U 270 19 u 1 (sentA to e A c).toList∧(∀ b,U b→B≤b∧b<w.heap.size)∧ElIn w (fun b=>B≤b∧b<w.heap.size) ⟨e,A,c⟩
theorem OneSent.sl {B:Nat} {to:Int} {e:En} {u:Value} {w:World} (h:OneSent B to e u w):∃ A c,u=.slice A 1 c:=by
 obtain⟨A,c,U,h1,_⟩:=h
 obtain⟨A2,c2,e2,_⟩:=h1.in_
 exact⟨A2,c2,e2⟩
theorem OneSent.grow {B:Nat} {to:Int} {e:En} {u:Value} {w w':World} (h:OneSent B to e u w) (hg:Grow w w'):OneSent B to e u w':=by
 obtain⟨A,c,U,h1,h2,h3⟩:=h
 exact⟨A,c,U,h1.grow hg,fun b hb=>⟨(h2 b hb).1,Nat.lt_of_lt_of_le (h2 b hb).2 hg.size⟩,elIn_grow h3 hg⟩
set_option maxHeartbeats 4000000 in
theorem aTick_1 (w:World) (p:AgP) (node:Nat) (now tag:Int) (n:Int) (bs:List UInt8) (k:Nat) (ep:Int) (sl:Value) (smp:List Dl) (k0:Int) (cu:Value) (s:ByteArray) (x:Nat) (hnow:0≤now∧now≤4611686018427387904) (htag:0≤tag∧tag≤4611686018427387904) (V:Nat→Prop) (hM:Many (agL p (BookT p.st p.z ep sl smp [(1,[(s,x)])] k0 cu) node 1 now tag 0 [] [] n bs k) w V) (hV:∀ b,V b→b<w.heap.size) :
 Calls Tryz.prog 245 #[.pointer (some ⟨p.a,0,none⟩),.int .i64 1] w fun e w'=>(∃ u,e=.returned u∧OneSent w.heap.size 0 ⟨1,node,0,1,ep,[(s,x)],⟨#[]⟩,node,tag+1⟩ u w')∧(∃ y:Int,Many (agL p (BookT p.st p.z ep sl smp [(1,[(s,x)])] k0 cu) node 1 (now+1) (tag+1) 0 [(tag+1,.agg #[.int .i64 (node:Int),.int .i64 0,.int .i64 1])] [(((node:Int),0,1),.agg #[.int .i64 1,.int .i64 y])] n bs k) w' (Ext V w w'))∧Just V w w':=by
 have hmn:∀ ts t w,(Builtin.min_ ts t #[.int .i64 1,.int .i64 1024]).run Tryz.prog w=.ok (.int .i64 1) w:=fun ts t w=>by rw[run_min_int2];rfl
 have hmx:∀ ts t w,(Builtin.max_ ts t #[.int .i64 0,.int .i64 1]).run Tryz.prog w=.ok (.int .i64 1) w:=fun ts t w=>by rw[run_max_int2];rfl
 have x0:∀ w:World,(Instr.index 146 (.agg #[.pointer (some ⟨p.z.a,0,none⟩),.pointer (some ⟨p.z.b,0,none⟩),.pointer (some ⟨p.z.c,0,none⟩),.pointer (some ⟨p.z.d,0,none⟩)]) (.int .i64 0)).run Tryz.prog w=.ok (.pointer (some ⟨p.z.a,0,none⟩)) w:=fun _=>by kernel_rfl
 have x1:∀ w:World,(Instr.index 146 (.agg #[.pointer (some ⟨p.z.a,0,none⟩),.pointer (some ⟨p.z.b,0,none⟩),.pointer (some ⟨p.z.c,0,none⟩),.pointer (some ⟨p.z.d,0,none⟩)]) (.int .i64 1)).run Tryz.prog w=.ok (.pointer (some ⟨p.z.b,0,none⟩)) w:=fun _=>by kernel_rfl
 have x2:∀ w:World,(Instr.index 146 (.agg #[.pointer (some ⟨p.z.a,0,none⟩),.pointer (some ⟨p.z.b,0,none⟩),.pointer (some ⟨p.z.c,0,none⟩),.pointer (some ⟨p.z.d,0,none⟩)]) (.int .i64 2)).run Tryz.prog w=.ok (.pointer (some ⟨p.z.c,0,none⟩)) w:=fun _=>by kernel_rfl
 have x3:∀ w:World,(Instr.index 146 (.agg #[.pointer (some ⟨p.z.a,0,none⟩),.pointer (some ⟨p.z.b,0,none⟩),.pointer (some ⟨p.z.c,0,none⟩),.pointer (some ⟨p.z.d,0,none⟩)]) (.int .i64 3)).run Tryz.prog w=.ok (.pointer (some ⟨p.z.d,0,none⟩)) w:=fun _=>by kernel_rfl
 have hS0:=Solo.begin_ hM hV
 have hF0:=agL_framed p (BookT p.st p.z ep sl smp [(1,[(s,x)])] k0 cu) (BookT.framed _ _ _ _ _ _ _ _) node 1 now tag 0 [] [] n bs k
 have ha0:=hS0.blk 1 rfl
 unfold agC at ha0
 have k4:=ha0.cell 4
 go_enter Tryz.func245,Tryz.ntmps245
 go_wp2_with fail
 go_loopw [5,15] (fun u i wr=>(u=(.slice none 0 0)∧i=.int .i64 0∧w=wr)∨(i=.int .i64 1∧OneSent w.heap.size 0 ⟨1,node,0,1,ep,[(s,x)],⟨#[]⟩,node,tag+1⟩ u wr∧(∃ y:Int,Solo (Lic V w) (Many (agL p (BookT p.st p.z ep sl smp [(1,[(s,x)])] k0 cu) node 1 (now+1) (tag+1) 0 [(tag+1,.agg #[.int .i64 (node:Int),.int .i64 0,.int .i64 1])] [(((node:Int),0,1),.agg #[.int .i64 1,.int .i64 y])] n bs k)) wr)∧Just (Lic V w) w wr)) (fun _ i _=>1-(intOf i).toNat)
 case atStart=>exact .inl ⟨rfl,rfl,rfl⟩
 case round=>
  rcases hrel with ⟨rfl,rfl,rfl⟩|⟨rfl,hOut,⟨y,hSf⟩,hjf⟩
  ·have J0:Just (Lic V w) w w:=Just.of_grow (Grow.refl w)
   go_wp2_with (refine wpList_putS rfl _ _ _ rfl hS0 hF0 J0 1 rfl rfl (.int .i64 (now+1)) rfl (Nat.le_of_ble_eq_true rfl) rfl (by kernel_rfl) ?_;intro w1 hS1 J1;refine stay ?_)
   refine stay_out ?_
   clear k4
   have hS1:Solo (Lic V w) (Many (agL p (BookT p.st p.z ep sl smp [(1,[(s,x)])] k0 cu) node 1 (now+1) tag 0 [] [] n bs k)) w1:=hS1
   have hF1:=agL_framed p (BookT p.st p.z ep sl smp [(1,[(s,x)])] k0 cu) (BookT.framed _ _ _ _ _ _ _ _) node 1 (now+1) tag 0 [] [] n bs k
   have hS1f:Solo (Lic V w) (Many (bookL p.st p.z ep sl smp [(1,[(s,x)])] k0 cu++[Cell p.a 143 (agC p node 1 (now+1) tag 0),GMap keI p.bK [],GMap keD p.bT [],LogAt p.x p.d n bs k])) w1:=Solo.flat hS1
   have ha1:=hS1f.blk 6 rfl
   have hst1:=hS1f.blk 0 rfl
   unfold agC at ha1
   unfold bkC at hst1
   have k3:=ha1.cell 3
   have q3:=hst1.cell 3
   have q4:=hst1.cell 4
   have q5:=hst1.cell 5
   have q6:=hst1.cell 6
   have hw1:=J1.size
   go_wp2_with fail
   clear k3 q3 q4 q5 q6
   go_loopw [5,31] (fun u i wr=>(u=(.slice none 0 0)∧i=.int .i64 0∧w1=wr)∨((i=.int .i64 1∨i=.int .i64 2∨i=.int .i64 3∨i=.int .i64 4)∧OneSent w.heap.size 0 ⟨1,node,0,1,ep,[(s,x)],⟨#[]⟩,node,tag+1⟩ u wr∧(∃ y:Int,Solo (Lic V w) (Many (agL p (BookT p.st p.z ep sl smp [(1,[(s,x)])] k0 cu) node 1 (now+1) (tag+1) 0 [(tag+1,.agg #[.int .i64 (node:Int),.int .i64 0,.int .i64 1])] [(((node:Int),0,1),.agg #[.int .i64 1,.int .i64 y])] n bs k)) wr)∧Just (Lic V w) w wr)) (fun _ i _=>4-(intOf i).toNat)
   case atStart=>exact .inl ⟨rfl,rfl,rfl⟩
   case round=>
    rcases hrel with ⟨rfl,rfl,rfl⟩|⟨hi,hOut,⟨y,hSf⟩,hjf⟩
    ·obtain⟨U2,hQ2,hU2⟩:=hS1f.see 2 rfl
     have hFl:=Q.Flight_at w1 p.z.a [(1,[(s,x)])] k0 U2 hQ2 1 rfl
     go_wp2_with fail
     refine hFl.mono ?_
     rintro e w2 ⟨A2,q',rfl,hBt,hq',hg2⟩
     obtain⟨b,rfl⟩:∃ b:Q.Bat,q'=[b]:=by
      have h:=congrArg List.length hq'
      simp at h
      match q',h with
      | [b],_=>exact⟨b,rfl⟩
     have hb1:b.abs=(1,[(s,x)]):=by simpa using hq'
     have hbseq:b.seq=1:=congrArg Prod.fst hb1
     have hbds:b.ds=[(s,x)]:=congrArg Prod.snd hb1
     have hbi:=hBt.all b (by simp)
     have hbm:b.m=1:=by have:=DIn.len hbi.ds;rw[hbds] at this;simpa using this.symm
     obtain⟨ad,hkq,rfl,hVb,hlb,f0,f1⟩:=hBt.row.rec_ (by omega) Q.bat_len (k:=0) (by omega)
     have e0:w2.cell? ad=some (.int .i64 b.seq):=f0 _ rfl
     have e1:w2.cell? ⟨ad.block,ad.off+1,none⟩=some (.slice b.A b.m b.c):=f1 0 _ rfl
     clear f0 f1
     obtain⟨sq,A,m,c,ds⟩:=b
     dsimp only at hbseq hbds hbi hbm e0 e1
     subst hbseq hbds hbm
     have hd2:DIn w2 (New w1 w2) A 1 [(s,x)]:=hbi.ds
     have hc1:1≤c:=hbi.le
     have hcm:c≤maxLen:=hbi.max
     clear hbi hBt hq' hb1 hkq hVb hlb hFl
     have hww2:=hg2.size
     go_wp2_with fail
     go_loopw [5,38] (fun u i wr=>(u=(.slice none 0 0)∧i=.int .i64 0∧w2=wr)∨(i=.int .i64 1∧OneSent w.heap.size 0 ⟨1,node,0,1,ep,[(s,x)],⟨#[]⟩,node,tag+1⟩ u wr∧(∃ y:Int,Solo (Lic V w) (Many (agL p (BookT p.st p.z ep sl smp [(1,[(s,x)])] k0 cu) node 1 (now+1) (tag+1) 0 [(tag+1,.agg #[.int .i64 (node:Int),.int .i64 0,.int .i64 1])] [(((node:Int),0,1),.agg #[.int .i64 1,.int .i64 y])] n bs k)) wr)∧Just (Lic V w) w wr)) (fun _ i _=>1-(intOf i).toNat)
     case atStart=>exact .inl ⟨rfl,rfl,rfl⟩
     case round=>
      rcases hrel with ⟨rfl,rfl,rfl⟩|⟨rfl,hOut,⟨y,hSf⟩,hjf⟩
      ·have hgb:=grow_alloc w2 (.cells #[.int .i64 1,.slice A 1 c] 159)
       have hBb:=Blk.made w2 159 #[.int .i64 1,.slice A 1 c]
       obtain⟨yb,HYb⟩:∃ y:Nat,Hid (y=w2.heap.size):=⟨_,rfl⟩
       obtain⟨w3,HW3⟩:∃ w':World,Hid (w'=w2.alloc (.cells #[.int .i64 1,.slice A 1 c] 159)):=⟨_,rfl⟩
       rw[←HW3.out] at hgb hBb
       rw[←HYb.out] at hBb
       have hg3:Grow w1 w3:=hg2.trans hgb
       have ha3:=ha1.grow hg3
       go_wp2_with fail
       rw[←HW3.out,←HYb.out]
       refine wp_region_flow 9 80 [(8,.inr (fun _=>IsBlk w3.heap.size 26 #[.int .i64 0,.int .i64 0,.int .i64 0]))] rfl rfl (by kernel_rfl) (by kernel_rfl) (by kernel_rfl) ?_ ?_
       ·intro x hx φ he
        simp only[List.mem_cons,List.not_mem_nil,or_false] at hx
        rcases hx with rfl<;>cases he
        all_goals first|exact lasts_quiet (lasting_bytes _)|exact lasts_quiet (isBlk_lasting _ _ _)
       intro ops' A' K' T hops hA' hK hT
       refine fl_mvN 42 (.pointer (some ⟨p.a,0,none⟩)) ?_
       refine fl_op1N 43 (.tmp 42) (.pointer (some ⟨p.a,0,none⟩)) (.pointer (some ⟨p.a,0,none⟩)) (fun ρ h1 kk w4 (hg4:Grow _ w4) hb hf=>by go_simp) ?_
       refine fl_op1N 44 (.tmp 43) (.pointer (some ⟨p.a,0,none⟩)) (.pointer (some ⟨p.a,0,none⟩)) (fun ρ h1 kk w4 (hg4:Grow _ w4) hb hf=>by go_simp) ?_
       refine fl_op1N 45 (.tmp 44) (.pointer (some ⟨p.a,0,none⟩)) (.int .i64 (node:Int)) (fun ρ h1 kk w4 (hg4:Grow _ w4) hb hf=>by have c:=(ha3.grow hg4).cell 0;go_simp) ?_
       refine fl_mvN 46 (.int .i64 0) ?_
       refine fl_op1N 47 (.tmp 9) (.pointer (some ⟨yb,0,none⟩)) (.pointer (some ⟨yb,0,none⟩)) (fun ρ h1 kk w4 (hg4:Grow _ w4) hb hf=>by go_simp) ?_
       refine fl_op1N 48 (.tmp 47) (.pointer (some ⟨yb,0,none⟩)) (.int .i64 1) (fun ρ h1 kk w4 (hg4:Grow _ w4) hb hf=>by have c:=(hBb.grow hg4).cell 0;go_simp) ?_
       refine fl_op3 49 (by rfl) (by decide) (wanted_none (by rfl)) (by rw[hK.out];rfl) (by rfl) (.tmp 45) (.tmp 46) (.tmp 48) (.int .i64 (node:Int)) (.int .i64 0) (.int .i64 1) (by rfl) (by rfl) (by rfl) (.agg #[.int .i64 (node:Int),.int .i64 0,.int .i64 1]) (fun ρ h1 h2 h3 kk w4 (hg4:Grow _ w4) hb hf=>by go_simp) ?_
       refine fl_any 10 (by rfl) (by decide) (wanted_none (by rfl)) (fun _=>IsBlk w3.heap.size 26 #[.int .i64 0,.int .i64 0,.int .i64 0]) (by rw[hK.out];rfl) (fun kk w4 (hg4:Grow _ w4) hb hf=>by refine upon_behindAny (φ:=fun _=>IsBlk w3.heap.size 26 #[.int .i64 0,.int .i64 0,.int .i64 0]) (by rfl) ?_;exact flowUpon_value (run_alcI w4 _ _ rfl) ⟨grow_alloc w4 _,_,rfl,Blk.made w4 _ _,hg4.size⟩) (fun v10=>?_)
       refine fl_end (fun _ _ w4 (hg4:Grow _ w4) _ hfacts=>hT _ _ ?_)
       clear hops hA' hK hT
       simp only[putsL,Act.put,List.setIfInBounds_toArray,List.set_cons_zero,List.set_cons_succ,List.drop_succ_cons,List.drop_zero]
       obtain⟨yi,rfl,hI0,hi0⟩:IsBlk w3.heap.size 26 #[.int .i64 0,.int .i64 0,.int .i64 0] v10 w4:=hfacts.1
       clear hfacts
       go_wp2_with (refine wpList_fill rfl 26 _ _ rfl _ rfl [.int .i64 (node:Int),.int .i64 0,.int .i64 1] rfl hI0 rfl rfl (by kernel_rfl) ?_;intro w5 hYi hj5 hs5;refine stay ?_)
       refine stay_out ?_
       have hg5:Grow w3 w5:=Below.trans hg4 (hj5.below (B:=w3.heap.size) (fun b hb=>by rw[hb];exact hi0) hg4.size)
       have hg15:Grow w1 w5:=hg3.trans hg5
       have ha5:=ha1.grow hg15
       obtain⟨UT,hGT,hUT⟩:=(hS1f.grows (allFramed_app (bookL_framed p.st p.z ep sl smp [(1,[(s,x)])] k0 cu) hF1.tail) hg15).see 8 rfl
       have hLk:∀ w6,Grow w5 w6→(Instr.lookup 140 (.map (some p.bT)) (.agg #[.int .i64 (node:Int),.int .i64 0,.int .i64 1]) false).run Tryz.prog w6=.ok (.agg #[.int .i64 0,.int .i64 0]) w6:=fun w6 hg=>by
        have hG6:=GMap.framed (ke:=keD) p.bT [] w5 w6 UT hGT fun b hb=>hg.block b (hUT b hb).2
        have h:=GMap.look keyD (t:=140) (et:=378) (by kernel_rfl) (zT w6) hG6 ((node:Int),0,1) false
        rw[if_neg (by decide),glk_nil] at h
        exact h
       go_wp2_with fail
       refine wp_region_flow 7 80 [(6,.inr (fun _=>IsBlk w5.heap.size 378 #[.int .i64 0,.int .i64 0]))] rfl rfl (by kernel_rfl) (by kernel_rfl) (by kernel_rfl) ?_ ?_
       ·intro x hx φ he
        simp only[List.mem_cons,List.not_mem_nil,or_false] at hx
        rcases hx with rfl<;>cases he
        all_goals first|exact lasts_quiet (lasting_bytes _)|exact lasts_quiet (isBlk_lasting _ _ _)
       intro ops' A' K' T hops hA' hK hT
       refine fl_mvN 50 (.pointer (some ⟨p.a,0,none⟩)) ?_
       refine fl_op1N 51 (.tmp 50) (.pointer (some ⟨p.a,0,none⟩)) (.pointer (some ⟨p.a,0,none⟩)) (fun ρ h1 kk w6 (hg6:Grow _ w6) hb hf=>by go_simp) ?_
       refine fl_op1N 52 (.tmp 51) (.pointer (some ⟨p.a,0,none⟩)) (.pointer (some ⟨p.a,7,none⟩)) (fun ρ h1 kk w6 (hg6:Grow _ w6) hb hf=>by go_simp) ?_
       refine fl_op1N 53 (.tmp 52) (.pointer (some ⟨p.a,7,none⟩)) (.map (some p.bT)) (fun ρ h1 kk w6 (hg6:Grow _ w6) hb hf=>by have c:=(ha5.grow hg6).cell 7;go_simp) ?_
       refine fl_op1N 54 (.tmp 10) (.pointer (some ⟨yi,0,none⟩)) (.agg #[.int .i64 (node:Int),.int .i64 0,.int .i64 1]) (fun ρ h1 kk w6 (hg6:Grow _ w6) hb hf=>by have c0:=(hYi.grow hg6).cell 0;have c1:=(hYi.grow hg6).cell 1;have c2:=(hYi.grow hg6).cell 2;go_simp) ?_
       refine fl_op2N 55 (.tmp 53) (.tmp 54) (.map (some p.bT)) (.agg #[.int .i64 (node:Int),.int .i64 0,.int .i64 1]) (.agg #[.int .i64 0,.int .i64 0]) (fun ρ h1 h2 kk w6 (hg6:Grow _ w6) hb hf=>by have hl:=hLk w6 hg6;go_simp) ?_
       refine fl_any 11 (by rfl) (by decide) (wanted_none (by rfl)) (fun _=>IsBlk w5.heap.size 378 #[.int .i64 0,.int .i64 0]) (by rw[hK.out];rfl) (fun kk w6 (hg6:Grow _ w6) hb hf=>by refine upon_behindAny (φ:=fun _=>IsBlk w5.heap.size 378 #[.int .i64 0,.int .i64 0]) (by rfl) ?_;exact flowUpon_value (run_alcT w6 _ _ rfl) ⟨grow_alloc w6 _,_,rfl,Blk.made w6 _ _,hg6.size⟩) (fun v11=>?_)
       refine fl_end (fun _ _ w6 (hg6:Grow _ w6) _ hfacts=>hT _ _ ?_)
       clear hops hA' hK hT
       simp only[putsL,Act.put,List.setIfInBounds_toArray,List.set_cons_zero,List.set_cons_succ,List.drop_succ_cons,List.drop_zero]
       obtain⟨yt,rfl,hT0,ht0⟩:IsBlk w5.heap.size 378 #[.int .i64 0,.int .i64 0] v11 w6:=hfacts.1
       clear hfacts hLk
       go_wp2_with (refine wpList_fill rfl 378 _ _ rfl _ rfl [.int .i64 0,.int .i64 0] rfl hT0 rfl rfl (by kernel_rfl) ?_;intro w7 hYt hj7 hs7;refine stay ?_)
       refine stay_out ?_
       have hg7:Grow w5 w7:=Below.trans hg6 (hj7.below (B:=w5.heap.size) (fun b hb=>by rw[hb];exact ht0) hg6.size)
       have hg17:Grow w1 w7:=hg15.trans hg7
       have hYi7:=hYi.grow hg7
       have hBb7:=hBb.grow (hg5.trans hg7)
       go_wp2_with fail
       refine wp_region_flow 12 80 [] rfl rfl (by kernel_rfl) (by kernel_rfl) (by kernel_rfl) ?_ ?_
       ·intro x hx φ he
        cases hx
       intro ops' A' K' T hops hA' hK hT
       refine fl_op1N 56 (.tmp 11) (.pointer (some ⟨yt,0,none⟩)) (.pointer (some ⟨yt,0,none⟩)) (fun ρ h1 kk w8 (hg8:Grow _ w8) hb hf=>by go_simp) ?_
       refine fl_op1N 57 (.tmp 56) (.pointer (some ⟨yt,0,none⟩)) (.int .i64 0) (fun ρ h1 kk w8 (hg8:Grow _ w8) hb hf=>by have c:=(hYt.grow hg8).cell 0;go_simp) ?_
       refine fl_op2N 58 (.tmp 57) (.const (.int .i64 0)) (.int .i64 0) (.int .i64 0) (.bool true) (fun ρ h1 h2 kk w8 (hg8:Grow _ w8) hb hf=>by go_simp) ?_
       refine fl_mvN 59 (.bool true) ?_
       refine fl_skipW 60 (wif hops 3 false 59 true) ?_
       refine fl_skipW 61 (wif hops 3 false 59 true) ?_
       refine fl_skipW 62 (wif hops 3 false 59 true) ?_
       refine fl_skipW 63 (wif hops 3 false 59 true) ?_
       refine fl_skipW 64 (wif hops 3 false 59 true) ?_
       refine fl_skipW 65 (wif hops 3 false 59 true) ?_
       refine fl_skipW 66 (wif hops 3 false 59 true) ?_
       refine fl_pickN 67 true (.bool true) ?_
       refine fl_end (fun _ _ w8 (hg8:Grow _ w8) _ hfacts=>hT _ _ ?_)
       clear hops hA' hK hT
       simp only[putsL,Act.put,List.setIfInBounds_toArray,List.set_cons_zero,List.set_cons_succ,List.drop_succ_cons,List.drop_zero]
       have hg18:Grow w1 w8:=hg17.trans hg8
       have i0:=(hYi7.grow hg8).cell 0
       have i1:=(hYi7.grow hg8).cell 1
       have i2:=(hYi7.grow hg8).cell 2
       have t0:=(hYt.grow hg8).cell 0
       have t1:=(hYt.grow hg8).cell 1
       have b0:=(hBb7.grow hg8).cell 0
       have b1:=(hBb7.grow hg8).cell 1
       have hS8:=hS1.grows hF1 hg18
       obtain⟨h08,U8,hU8,hUl8⟩:=id hS1
       have hw8:=hg18.size
       have hM8:=Many.framed _ hF1 w1 w8 U8 hU8 fun b hb=>hg18.block b (hUl8 b hb).2
       have hd8:DIn w8 (New w1 w2) A 1 [(s,x)]:=In.grow hd2 (hgb.trans (hg5.trans (hg7.trans hg8)))
       have hw28:=(hgb.trans (hg5.trans (hg7.trans hg8))).size
       have hSd:=asend_1 w8 p node (now+1) tag [] [] n bs k ep sl smp [(1,[(s,x)])] k0 cu s x c A (New w1 w2) htag (tag+1) rfl hc1 hcm U8 hM8 (fun b hb=>by have:=(hUl8 b hb).2;omega) hd8 (fun b hb=>by have:=hb.2;omega) (fun b hb hu=>by have:=(hUl8 b hu).2;have:=hb.1;omega)
       go_wp2_with fail
       clear i0 i1 i2 t0 t1 b0 b1
       refine hSd.mono ?_
       rintro e w9 ⟨⟨A9,c9,rfl,hE9⟩,⟨y9,hM9⟩,hj9⟩
       have hg9:gput ([]:List (Int×Value)) (tag+1) (.agg #[.int .i64 (node:Int),.int .i64 0,.int .i64 1])=[(tag+1,.agg #[.int .i64 (node:Int),.int .i64 0,.int .i64 1])]:=by simp[gput]
       have hg9':gput ([]:List ((Int×Int×Int)×Value)) ((node:Int),0,1) (.agg #[.int .i64 1,.int .i64 y9])=[(((node:Int),0,1),.agg #[.int .i64 1,.int .i64 y9])]:=by simp[gput]
       rw[hg9,hg9'] at hM9
       have hw9:=hj9.size
       have hS9:Solo (Lic V w) (Many (agL p (BookT p.st p.z ep sl smp [(1,[(s,x)])] k0 cu) node 1 (now+1) (tag+1) 0 [(tag+1,.agg #[.int .i64 (node:Int),.int .i64 0,.int .i64 1])] [(((node:Int),0,1),.agg #[.int .i64 1,.int .i64 y9])] n bs k)) w9:=Solo.of_new (fun b hb => .inr (by omega)) hM9 fun b hb=>by
        rcases hb with hb|hb
        ·have:=hUl8 b hb;exact⟨this.1,by omega⟩
        ·exact⟨.inr (by have:=hb.1;omega),hb.2⟩
       have J9:Just (Lic V w) w w9:=((J1.trans (Just.of_grow hg18)).trans (hj9.imp fun b hb=>(hUl8 b hb).1))
       have hB9:=Blk.made w9 270 (sentA 0 ⟨1,node,0,1,ep,[(s,x)],⟨#[]⟩,node,tag+1⟩ A9 c9)
       have hI9:=hB9.in_ (size:=19) (n:=1) (by rfl)
       have hga9:=grow_alloc w9 (.cells (sentA 0 ⟨1,node,0,1,ep,[(s,x)],⟨#[]⟩,node,tag+1⟩ A9 c9) 270)
       dsimp only[sentA]
       go_wp2_with (at_builtin;refine stay ?_)
       refine stay_out ?_
       refine wpList_row sentE _ rfl (.tmp 68) (.tmp 74) rfl (.slice none 0 0) 0 [] rfl (Row.nil (V:=fun _=>False)) _ _ 1 1 (sentA 0 ⟨1,node,0,1,ep,[(s,x)],⟨#[]⟩,node,tag+1⟩ A9 c9).toList rfl hI9.reads (sentA_one _ _ _ _) (by decide) ?_
       intro v10 w10 hR10 hj10
       have hg10a:=hj10.below (B:=w9.heap.size) (fun b hb=>hb.elim) (by simp)
       have hg10:Grow w9 w10:=Below.trans hga9 hg10a
       have hOS:OneSent w.heap.size 0 ⟨1,node,0,1,ep,[(s,x)],⟨#[]⟩,node,tag+1⟩ v10 w10:=by
        simp only[Nat.zero_add,List.nil_append] at hR10
        refine⟨A9,c9,_,hR10,fun b hb=>?_,In.mono (In.grow hE9.1 hg10) fun b hb=>⟨by have:=hb.1;omega,by have:=hb.2.1;have:=hg10.size;omega⟩,hE9.2⟩
        rcases hb with hb|hb
        ·exact hb.elim
        ·exact⟨by have:=hb.1;simp at this;omega,hb.2⟩
       have hS10:=hS9.grows (agL_framed _ _ (BookT.framed _ _ _ _ _ _ _ _) _ _ _ _ _ _ _ _ _ _) hg10
       have J10:=J9.trans (Just.of_grow hg10)
       clear hI9 hB9 hga9
       go_wp2_with fail
       go_roundw
       case rel=>exact .inr ⟨rfl,hOS,⟨y9,hS10⟩,J10⟩
       case measure=>simp[intOf]
      ·go_wp2_with fail
       go_roundw
       case rel=>exact .inr ⟨.inl rfl,hOut,⟨y,hSf⟩,hjf⟩
       case measure=>simp[intOf]
    ·obtain⟨Ao,co,rfl⟩:=hOut.sl
     have hSff:=Solo.flat (l:=bookL p.st p.z ep sl smp [(1,[(s,x)])] k0 cu) hSf
     rcases hi with rfl|rfl|rfl|rfl
     ·obtain⟨U2,hQ2,hU2⟩:=hSff.see 3 rfl
      have hFl:=Q.Flight_at wr p.z.b [] 0 U2 hQ2 0 rfl
      go_wp2_with fail
      refine hFl.mono ?_
      rintro e w2 ⟨A2,q',rfl,_,_,hg2⟩
      have hOut2:=hOut.grow hg2
      have hSf2:=hSf.grows (agL_framed _ _ (BookT.framed _ _ _ _ _ _ _ _) _ _ _ _ _ _ _ _ _ _) hg2
      have hjf2:=hjf.trans (Just.of_grow hg2)
      clear hFl
      go_wp2_with fail
      go_loopw [5,38] (fun u i wr=>u=.slice Ao 1 co∧i=.int .i64 0∧w2=wr) (fun _ _ _=>0)
      case atStart=>exact⟨rfl,rfl,rfl⟩
      case round=>
       obtain⟨rfl,rfl,rfl⟩:=hrel
       go_wp2_with fail
       go_roundw
       case rel=>exact .inr ⟨.inr (.inl rfl),hOut2,⟨y,hSf2⟩,hjf2⟩
       case measure=>simp[intOf]
     ·obtain⟨U2,hQ2,hU2⟩:=hSff.see 4 rfl
      have hFl:=Q.Flight_at wr p.z.c [] 0 U2 hQ2 0 rfl
      go_wp2_with fail
      refine hFl.mono ?_
      rintro e w2 ⟨A2,q',rfl,_,_,hg2⟩
      have hOut2:=hOut.grow hg2
      have hSf2:=hSf.grows (agL_framed _ _ (BookT.framed _ _ _ _ _ _ _ _) _ _ _ _ _ _ _ _ _ _) hg2
      have hjf2:=hjf.trans (Just.of_grow hg2)
      clear hFl
      go_wp2_with fail
      go_loopw [5,38] (fun u i wr=>u=.slice Ao 1 co∧i=.int .i64 0∧w2=wr) (fun _ _ _=>0)
      case atStart=>exact⟨rfl,rfl,rfl⟩
      case round=>
       obtain⟨rfl,rfl,rfl⟩:=hrel
       go_wp2_with fail
       go_roundw
       case rel=>exact .inr ⟨.inr (.inr (.inl rfl)),hOut2,⟨y,hSf2⟩,hjf2⟩
       case measure=>simp[intOf]
     ·obtain⟨U2,hQ2,hU2⟩:=hSff.see 5 rfl
      have hFl:=Q.Flight_at wr p.z.d [] 0 U2 hQ2 0 rfl
      go_wp2_with fail
      refine hFl.mono ?_
      rintro e w2 ⟨A2,q',rfl,_,_,hg2⟩
      have hOut2:=hOut.grow hg2
      have hSf2:=hSf.grows (agL_framed _ _ (BookT.framed _ _ _ _ _ _ _ _) _ _ _ _ _ _ _ _ _ _) hg2
      have hjf2:=hjf.trans (Just.of_grow hg2)
      clear hFl
      go_wp2_with fail
      go_loopw [5,38] (fun u i wr=>u=.slice Ao 1 co∧i=.int .i64 0∧w2=wr) (fun _ _ _=>0)
      case atStart=>exact⟨rfl,rfl,rfl⟩
      case round=>
       obtain⟨rfl,rfl,rfl⟩:=hrel
       go_wp2_with fail
       go_roundw
       case rel=>exact .inr ⟨.inr (.inr (.inr rfl)),hOut2,⟨y,hSf2⟩,hjf2⟩
       case measure=>simp[intOf]
     ·go_wp2_with fail
      go_roundw
      case rel=>exact .inr ⟨rfl,hOut,⟨y,hSf⟩,hjf⟩
      case measure=>simp[intOf]
  ·go_wp2_with fail
   go_ret
   obtain⟨r1,r2⟩:=Solo.done hSf hjf hV
   exact⟨⟨_,rfl,hOut⟩,⟨y,r1⟩,r2⟩
def AnySl (u:Value) (_:World):Prop:=∃ (A:Option Addr) (n c:Nat),u=.slice A n c
theorem anySl_lasting:Lasting AnySl:=fun _ _ _ h _=>h
theorem rpall_one (w:World) (p:RpP) (commit:Int) (v:Value) (leads:Bool) (own:Int) (hB:Blk w p.r 164 (rpC p 0 1 commit v leads own)) (t c:Int) (lg:Value):Calls Tryz.prog 91 #[.pointer (some ⟨p.r,0,none⟩),.agg #[.int .i64 5,.int .i64 0,.int .i64 0,.int .i64 0,.int .i64 0,.int .i64 0,.slice none 0 0,.string ⟨#[]⟩,.int .i64 0,.int .i64 0,.int .i64 0,.int .i64 0,.int .u64 0,.int .i64 t,.int .i64 0,lg,.int .i64 c,.int .i64 0]] w fun e w'=>e=.returned (.slice none 0 0)∧Grow w w':=by
 unfold rpC at hB
 have hga:=grow_alloc w (.cells #[.int .i64 5,.int .i64 0,.int .i64 0,.int .i64 0,.int .i64 0,.int .i64 0,.slice none 0 0,.string ⟨#[]⟩,.int .i64 0,.int .i64 0,.int .i64 0,.int .i64 0,.int .u64 0,.int .i64 t,.int .i64 0,lg,.int .i64 c,.int .i64 0] 73)
 have hB:=hB.grow hga
 have c0:=hB.cell 0
 have c1:=hB.cell 1
 obtain⟨wa,HA_⟩:∃ wa:World,Hid (wa=w.alloc (.cells #[.int .i64 5,.int .i64 0,.int .i64 0,.int .i64 0,.int .i64 0,.int .i64 0,.slice none 0 0,.string ⟨#[]⟩,.int .i64 0,.int .i64 0,.int .i64 0,.int .i64 0,.int .u64 0,.int .i64 t,.int .i64 0,lg,.int .i64 c,.int .i64 0] 73)):=⟨_,rfl⟩
 rw[←HA_.out] at hga
 go_enter Tryz.func91,Tryz.ntmps91
 go_wp2_with fail
 rw[←HA_.out]
 rw[←HA_.out] at c0 c1
 go_loopw [5,11] (fun u i wr=>u=.slice none 0 0∧(i=.int .i64 0∨i=.int .i64 1)∧wa=wr) (fun _ i _=>1-(intOf i).toNat)
 case atStart=>exact⟨rfl,.inl rfl,rfl⟩
 case round=>
  obtain⟨rfl,hi,rfl⟩:=hrel
  rcases hi with rfl|rfl
  ·go_wp2_with fail
   go_roundw
   case rel=>first|exact⟨rfl,.inr rfl,rfl⟩|simp
   case measure=>simp[intOf]
  ·go_wp2_with fail
   go_ret
   exact⟨rfl,hga⟩
theorem acc_built {w:World} {o:Oper} {ρ:Operand→Value} {x1 x2 x3:Operand} {t c:Int} {A:Option Addr} {n m:Nat} (ho:o.op=.build 73 #[(0,.const (.int .i64 5)),(5,x1),(7,x2),(8,x3)]) (hc:∀ v,ρ (.const v)=v) (h1:ρ x1=.int .i64 t) (h2:ρ x2=.slice A n m) (h3:ρ x3=.int .i64 c) :
 (execOp ρ o).run Tryz.prog w=.ok (.value (.agg #[.int .i64 5,.int .i64 0,.int .i64 0,.int .i64 0,.int .i64 0,.int .i64 0,.slice none 0 0,.string ⟨#[]⟩,.int .i64 0,.int .i64 0,.int .i64 0,.int .i64 0,.int .u64 0,.int .i64 t,.int .i64 0,.slice A n m,.int .i64 c,.int .i64 0])) w:=by
 obtain⟨dst,op,ty,pos,after,guard⟩:=o
 simp only at ho
 subst ho
 have h0:=hc (.int .i64 5)
 go_simp
theorem rpaccepts_one (w:World) (p:RpP) (commit:Int) (v:Value) (leads:Bool) (own:Int) (hB:Blk w p.r 164 (rpC p 0 1 commit v leads own)) (t h:Nat) (es:List En) (n:Int) (bs:List UInt8) (V:Nat→Prop) (hS:StateAt p.s p.x p.d t h es n bs w V) (hV:∀ b,V b→b<w.heap.size) (hn:es.length≤1048576):Calls Tryz.prog 172 #[.pointer (some ⟨p.r,0,none⟩)] w fun e w'=>e=.returned (.slice none 0 0)∧Grow w w':=by
 have k83:∀ (vs:Array Value) (w:World),(callFunc 83 vs).run Tryz.prog w=.ok (.enter 83 vs) w:=fun vs w=>by go_simp
 have k89:∀ (vs:Array Value) (w:World),(callFunc 89 vs).run Tryz.prog w=.ok (.enter 89 vs) w:=fun vs w=>by go_simp
 have k91:∀ (vs:Array Value) (w:World),(callFunc 91 vs).run Tryz.prog w=.ok (.enter 91 vs) w:=fun vs w=>by go_simp
 have hSg:=fun w1 (hg:Grow w w1)=>StateAt.framed p.s p.x p.d t h es n bs w w1 V hS fun b hb=>hg.block b (hV b hb)
 have hB':=hB
 unfold rpC at hB
 go_enter Tryz.func172,Tryz.ntmps172
 go_wp2_with fail
 refine wp_region_flow 18 20 [(5,.inl (.int .i64 (t:Int))),(10,.inr (fun _=>AnySl)),(16,.inl (.slice none 0 0))] rfl rfl (by kernel_rfl) (by kernel_rfl) (by kernel_rfl) ?_ ?_
 ·intro x hx φ he
  simp only[List.mem_cons,List.not_mem_nil,or_false] at hx
  rcases hx with rfl|rfl|rfl<;>cases he
  all_goals first|exact lasts_quiet (lasting_bytes _)|exact lasts_quiet anySl_lasting
 intro ops' A' K' T hops hA' hK hT
 refine fl_mvN 3 (.pointer (some ⟨p.r,0,none⟩)) ?_
 refine fl_mvN 4 (.pointer (some ⟨p.r,0,none⟩)) ?_
 refine fl_op1G 5 (.tmp 4) (.pointer (some ⟨p.r,0,none⟩)) (.pointer (some ⟨p.r,0,none⟩)) ?_
 refine fl_op1G 6 (.tmp 5) (.pointer (some ⟨p.r,0,none⟩)) (.pointer (some ⟨p.r,2,none⟩)) ?_
 refine fl_op1N 7 (.tmp 6) (.pointer (some ⟨p.r,2,none⟩)) (.pointer (some ⟨p.s,0,none⟩)) (fun ρ h1 kk w1 (hg:Grow _ w1) hb hf=>by have c:=(hB.grow hg).cell 2;go_simp) ?_
 refine fl_call 8 (by rfl) (by decide) (wanted_none (by rfl)) (.int .i64 (t:Int)) (by rw[hK.out];rfl) 83 _ _ (by rfl) [.pointer (some ⟨p.s,0,none⟩)] (by rfl) k83 (fun kk w1 (hg:Grow _ w1) hb hf=>calls_behind (by rfl) (by exact grew_same (sTerm_any w1 _ _ _ t h es n bs V (hSg w1 hg)))) ?_
 refine fl_mvN 9 (.pointer (some ⟨p.r,0,none⟩)) ?_
 refine fl_op1G 10 (.tmp 9) (.pointer (some ⟨p.r,0,none⟩)) (.pointer (some ⟨p.r,0,none⟩)) ?_
 refine fl_op1G 11 (.tmp 10) (.pointer (some ⟨p.r,0,none⟩)) (.pointer (some ⟨p.r,2,none⟩)) ?_
 refine fl_op1N 12 (.tmp 11) (.pointer (some ⟨p.r,2,none⟩)) (.pointer (some ⟨p.s,0,none⟩)) (fun ρ h1 kk w1 (hg:Grow _ w1) hb hf=>by have c:=(hB.grow hg).cell 2;go_simp) ?_
 refine fl_callAny 13 (by rfl) (by decide) (wanted_none (by rfl)) (fun _=>AnySl) (by rw[hK.out];rfl) 89 _ _ (by rfl) [.pointer (some ⟨p.s,0,none⟩)] (by rfl) k89 (fun kk w1 (hg:Grow _ w1) hb hf=>calls_behindAny (φ:=fun _=>AnySl) (by rfl) (by exact (sLog_any w1 _ _ _ t h es n bs V (hSg w1 hg) hn).mono fun e w2 h9=>by obtain⟨u,h1,_,⟨A9,h3⟩,h2⟩:=h9;exact⟨u,h1,h2,⟨A9,_,_,h3⟩⟩)) (fun v13=>?_)
 refine fl_mvN 14 (.pointer (some ⟨p.r,0,none⟩)) ?_
 refine fl_op1G 15 (.tmp 14) (.pointer (some ⟨p.r,0,none⟩)) (.pointer (some ⟨p.r,0,none⟩)) ?_
 refine fl_op1G 16 (.tmp 15) (.pointer (some ⟨p.r,0,none⟩)) (.pointer (some ⟨p.r,4,none⟩)) ?_
 refine fl_op1N 17 (.tmp 16) (.pointer (some ⟨p.r,4,none⟩)) (.int .i64 commit) (fun ρ h1 kk w1 (hg:Grow _ w1) hb hf=>by have c:=(hB.grow hg).cell 4;go_simp) ?_
 refine fl_det 18 (by rfl) (by decide) (wanted_none (by rfl)) (by rw[hK.out];rfl) (by rfl) (.agg #[.int .i64 5,.int .i64 0,.int .i64 0,.int .i64 0,.int .i64 0,.int .i64 0,.slice none 0 0,.string ⟨#[]⟩,.int .i64 0,.int .i64 0,.int .i64 0,.int .i64 0,.int .u64 0,.int .i64 (t:Int),.int .i64 0,v13,.int .i64 commit,.int .i64 0]) (fun kk w1 (hg:Grow _ w1) hb hf=>by obtain⟨A9,n9,c9,rfl⟩:AnySl v13 w1:=(facts_take hf (by rw[hA'.out];kernel_rfl));exact acc_built rfl (fun v=>rfl) rfl rfl rfl) ?_
 refine fl_call 19 (by rfl) (by decide) (wanted_none (by rfl)) (.slice none 0 0) (by rw[hK.out];rfl) 91 _ _ (by rfl) [.pointer (some ⟨p.r,0,none⟩),.agg #[.int .i64 5,.int .i64 0,.int .i64 0,.int .i64 0,.int .i64 0,.int .i64 0,.slice none 0 0,.string ⟨#[]⟩,.int .i64 0,.int .i64 0,.int .i64 0,.int .i64 0,.int .u64 0,.int .i64 (t:Int),.int .i64 0,v13,.int .i64 commit,.int .i64 0]] (by rfl) k91 (fun kk w1 (hg:Grow _ w1) hb hf=>calls_behind (by rfl) (by exact rpall_one w1 p commit v leads own (hB'.grow hg) t commit v13)) ?_
 refine fl_mvN 2 (.slice none 0 0) ?_
 refine fl_end (fun _ _ w1 (hg:Grow _ w1) _ hfacts=>hT _ _ ?_)
 clear hops hA' hK hT
 simp only[putsL,Act.put,List.setIfInBounds_toArray,List.set_cons_zero,List.set_cons_succ,List.drop_succ_cons,List.drop_zero]
 go_wp2_with fail
 go_ret
 exact⟨rfl,hg⟩
theorem rpapply_0 (w:World) (p:RpP) (v:Value) (leads:Bool) (own:Int) (hB:Blk w p.r 164 (rpC p 0 1 0 v leads own)) (t h:Nat) (es:List En) (n:Int) (bs:List UInt8) (V:Nat→Prop) (hS:StateAt p.s p.x p.d t h es n bs w V) (hes:es=[]):Calls Tryz.prog 176 #[.pointer (some ⟨p.r,0,none⟩),.int .i64 0] w fun e w'=>e=.returned (.slice none 0 0)∧Grow w w':=by
 subst hes
 have hL:=sLog_any w p.s p.x p.d t h [] n bs V hS (by simp)
 have hmn:∀ ts t w,(Builtin.min_ ts t #[.int .i64 0,.int .i64 0]).run Tryz.prog w=.ok (.int .i64 0) w:=fun ts t w=>by rw[run_min_int2];rfl
 unfold rpC at hB
 have c2:=hB.cell 2
 go_enter Tryz.func176,Tryz.ntmps176
 go_wp2_with fail
 refine hL.mono ?_
 rintro e w1 ⟨u,rfl,_,⟨A,rfl⟩,hg⟩
 have c4:=(hB.grow hg).cell 4
 clear c2
 go_wp2_with fail
 go_loopw [5] (fun u wr=>u=.slice none 0 0∧w1=wr) (fun _ _=>0)
 case atStart=>exact⟨rfl,rfl⟩
 case round=>
  obtain⟨rfl,rfl⟩:=hrel
  go_wp2_with fail
  go_ret
  exact⟨rfl,hg⟩
end Go.Proofs.YtmijcbfgfkeodaaGreatDoor
end
