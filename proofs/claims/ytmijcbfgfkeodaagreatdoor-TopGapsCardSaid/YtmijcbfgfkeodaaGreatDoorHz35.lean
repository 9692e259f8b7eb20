/- Ag6, Wd3, Newx. -/
import Derived.Test.YtmijcbfgfkeodaaGreatDoorHz34
import Derived.WalkMore
import Derived.Test.YtmijcbfgfkeodaaGreatDoorHz33
set_option linter.all false
set_option maxRecDepth 100000
section
namespace Go.Proofs.YtmijcbfgfkeodaaGreatDoor
open Go.RowKit Go.Hop Go.Proofs.YtmijcbfgfkeodaaGreatDoor.V
theorem shard_one (s:ByteArray):L.shardI s 1=0:=by
 have h:L.manyI 1=1:=by decide
 unfold L.shardI
 rw[h]
 exact Int.emod_one _
def slen (v:Value):Nat:=match v with | .slice _ n _=>n|_=>0
theorem aSync_any (w:World) (p:AgP) (node reps now tag last:Int) (asks:List (Int×Value)) (tr:List ((Int×Int×Int)×Value)) (n:Int) (bs:List UInt8) (k:Nat) (B:Thing) (hB:Framed B) (V:Nat→Prop) (hM:Many (agL p (B) node reps now tag last asks tr n bs k) w V) (hV:∀ b,V b→b<w.heap.size):Calls Tryz.prog 77 #[.pointer (some ⟨p.a,0,none⟩)] w fun e w'=>e=.returned (.tuple #[])∧Many (agL p (B) node reps now tag last asks tr n bs bs.length) w' (Ext V w w')∧Just V w w':=by
 have hS:=Solo.begin_ hM hV
 have hF:=agL_framed p B hB node reps now tag last asks tr n bs k
 have ha:=hS.blk 1 rfl
 unfold agC at ha
 have k2:=ha.cell 2
 have hC:=hS.at_ 4 rfl hF (lSync_any w p.x p.d n bs k)
 go_enter Tryz.func77,Tryz.ntmps77
 go_wp2_with fail
 clear k2
 refine hC.mono ?_
 rintro e w1 ⟨rfl,hj,hS1⟩
 go_wp2_with fail
 go_end0
 obtain⟨r1,r2⟩:=Solo.done hS1 hj hV
 exact⟨rfl,r1,r2⟩
set_option maxHeartbeats 2000000 in
theorem aCut_1 (w:World) (p:AgP) (node:Nat) (reps now tag last:Int) (asks:List (Int×Value)) (tr:List ((Int×Int×Int)×Value)) (n:Int) (bs:List UInt8) (k:Nat) (ep:Int) (sl:Value) (s:ByteArray) (x:Nat) (hs:Small (s,x)) (hn:0≤n∧n≤1099511627776) (hbs:bs.length≤1000000) (V:Nat→Prop) (hM:Many (agL p (BookT p.st p.z ep sl [(s,x)] [] 0 (.slice none 0 0)) node reps now tag last asks tr n bs k) w V) (hV:∀ b,V b→b<w.heap.size) :
 Calls Tryz.prog 25 #[.pointer (some ⟨p.a,0,none⟩)] w fun e w'=>(∃ A c,e=.returned (.slice A 1 c))∧Many (agL p (BookE p.st p.z ep [(1,[(s,x)])] 1) node reps now tag last asks tr (n+1) (bs++frame (batB s x)) (bs++frame (batB s x)).length) w' (Ext V w w')∧Just V w w':=by
 have k76:∀ (vs:Array Value) (w:World),(callFunc 76 vs).run Tryz.prog w=.ok (.enter 76 vs) w:=fun vs w=>by go_simp
 have k73:∀ (vs:Array Value) (w:World),(callFunc 73 vs).run Tryz.prog w=.ok (.enter 73 vs) w:=fun vs w=>by go_simp
 have hsz:s.size≤1000:=hs.1
 have hS0:=Solo.begin_ hM hV
 have hS0:Solo (Lic V w) (Many (bookL p.st p.z ep sl [(s,x)] [] 0 (.slice none 0 0)++[Cell p.a 143 (agC p node reps now tag last),GMap keI p.bK asks,GMap keD p.bT tr,LogAt p.x p.d n bs k])) w:=Solo.flat hS0
 have hst0:=hS0.blk 0 rfl
 have ha0:=hS0.blk 6 rfl
 unfold bkC at hst0
 unfold agC at ha0
 obtain⟨U0,hR0,hU0⟩:=hS0.see 1 rfl
 obtain⟨A2,c2,rfl,hI0,_,_⟩:=Row.in_ hR0
 have hI0:DIn w U0 A2 1 [(s,x)]:=hI0
 have k3:=ha0.cell 3
 have q1:=hst0.cell 1
 have q2:=hst0.cell 2
 obtain⟨V0,HV0⟩:∃ V0:Nat→Prop,Hid (V0=V):=⟨_,rfl⟩
 have hShard:∀ w1:World,Calls Tryz.prog 73 #[.string s,.int .i64 1] w1 fun e w'=>e=.returned (.int .i64 0)∧Grow w1 w':=fun w1=>by
  have h:=L.Shard_any w1 s 1 (by unfold maxLen;omega) (by decide)
  rw[shard_one] at h
  exact h.mono fun _ _ ⟨h1,h2⟩=>⟨h1,h2▸Grow.refl _⟩
 have hmn:∀ ts t w,(Builtin.min_ ts t #[.int .i64 1,.int .i64 8]).run Tryz.prog w=.ok (.int .i64 1) w:=fun ts t w=>by rw[run_min_int2];rfl
 go_enter Tryz.func25,Tryz.ntmps25
 go_wp2_with fail
 go_step3
 go_wp2_with fail
 go_step3
 go_wp2_with fail
 go_loopw [3,16] (fun u i wr=>(u=(.slice none 0 0)∧i=.int .i64 0∧w=wr)∨(i=.int .i64 1∧(∃ A c,u=.slice A 1 c)∧Many (agL p (BookE p.st p.z ep [(1,[(s,x)])] 1) node reps now tag last asks tr (n+1) (bs++frame (batB s x)) k) wr (Ext V w wr)∧Just V w wr)) (fun _ i _=>1-(intOf i).toNat)
 case atStart=>exact .inl ⟨rfl,rfl,rfl⟩
 case round=>
  rcases hrel with ⟨rfl,rfl,rfl⟩|⟨rfl,⟨A,c,rfl⟩,hMf,hjf⟩
  ·go_wp2_with fail
   clear k3 q1 q2
   go_loopw [5,27] (fun u i wr=>(u=(.slice none 0 0)∧i=.int .i64 0∧w=wr)∨(i=.int .i64 1∧NewRow w.heap.size 29 2 1 [.string s,.int .u64 (x:Int)] u wr∧Grow w wr)) (fun _ i _=>1-(intOf i).toNat)
   case atStart=>exact .inl ⟨rfl,rfl,rfl⟩
   case round=>
    rcases hrel with ⟨rfl,rfl,rfl⟩|⟨rfl,hR,hg⟩
    ·obtain⟨ad,hq,rfl,f0,f1⟩:=del_cells hI0 (k:=0) (by omega)
     have e0:w.cell? ad=some (.string s):=f0 w (Grow.refl _)
     have e1:w.cell? ⟨ad.block,ad.off+1,none⟩=some (.int .u64 (x:Int)):=f1 w (Grow.refl _)
     clear f0 f1
     have hga:=grow_alloc w (.cells #[.string s,.int .u64 (x:Int)] 29)
     have hBy:=Blk.made w 29 #[.string s,.int .u64 (x:Int)]
     obtain⟨y,HY⟩:∃ y:Nat,Hid (y=w.heap.size):=⟨_,rfl⟩
     obtain⟨wa,HA_⟩:∃ wa:World,Hid (wa=w.alloc (.cells #[.string s,.int .u64 (x:Int)] 29)):=⟨_,rfl⟩
     rw[←HA_.out] at hga hBy
     rw[←HY.out] at hBy
     have ha1:=ha0.grow hga
     have hst1:=hst0.grow hga
     go_wp2_with fail
     rw[←HA_.out,←HY.out]
     refine wp_region_flow 12 92 [(9,.inl (.int .i64 0))] rfl rfl (by kernel_rfl) (by kernel_rfl) (by kernel_rfl) ?_ ?_
     ·intro x hx φ he
      simp only[List.mem_cons,List.not_mem_nil,or_false] at hx
      rcases hx with rfl<;>cases he
     intro ops' A' K' T hops hA' hK hT
     refine fl_op1G 31 (.tmp 7) (.pointer (some ⟨y,0,none⟩)) (.pointer (some ⟨y,0,none⟩)) ?_
     refine fl_op1N 32 (.tmp 31) (.pointer (some ⟨y,0,none⟩)) (.string s) (fun ρ h1 kk w1 (hg:Grow _ w1) hb hf=>by have c:=(hBy.grow hg).cell 0;go_simp) ?_
     refine fl_mvN 33 (.pointer (some ⟨p.a,0,none⟩)) ?_
     refine fl_op1G 34 (.tmp 33) (.pointer (some ⟨p.a,0,none⟩)) (.pointer (some ⟨p.a,0,none⟩)) ?_
     refine fl_op1G 35 (.tmp 34) (.pointer (some ⟨p.a,0,none⟩)) (.pointer (some ⟨p.a,3,none⟩)) ?_
     refine fl_op1N 36 (.tmp 35) (.pointer (some ⟨p.a,3,none⟩)) (.pointer (some ⟨p.st,0,none⟩)) (fun ρ h1 kk w1 (hg:Grow _ w1) hb hf=>by have c:=(ha1.grow hg).cell 3;go_simp) ?_
     refine fl_op1G 37 (.tmp 36) (.pointer (some ⟨p.st,0,none⟩)) (.pointer (some ⟨p.st,0,none⟩)) ?_
     refine fl_op1G 38 (.tmp 37) (.pointer (some ⟨p.st,0,none⟩)) (.pointer (some ⟨p.st,2,none⟩)) ?_
     refine fl_op1N 39 (.tmp 38) (.pointer (some ⟨p.st,2,none⟩)) (.int .i64 1) (fun ρ h1 kk w1 (hg:Grow _ w1) hb hf=>by have c:=(hst1.grow hg).cell 2;go_simp) ?_
     refine fl_call 40 (by rfl) (by decide) (wanted_none (by rfl)) (.int .i64 0) (by rw[hK.out];rfl) 73 _ _ (by rfl) [.string s,.int .i64 1] (by rfl) k73 (fun kk w1 (hg:Grow _ w1) hb hf=>calls_behind (by rfl) (by exact hShard w1)) ?_
     refine fl_mvN 41 (.int .i64 0) ?_
     refine fl_op2N 42 (.tmp 40) (.tmp 41) (.int .i64 0) (.int .i64 0) (.bool true) (fun ρ h1 h2 kk w1 (hg:Grow _ w1) hb hf=>by go_simp) ?_
     refine fl_end (fun _ _ w1 (hg:Grow _ w1) _ hfacts=>hT _ _ ?_)
     clear hops hA' hK hT
     simp only[putsL,Act.put,List.setIfInBounds_toArray,List.set_cons_zero,List.set_cons_succ,List.drop_succ_cons,List.drop_zero]
     have hgw:Grow w w1:=hga.trans hg
     have hB1:=hBy.grow hg
     have c0:=hB1.cell 0
     have c1:=hB1.cell 1
     have hgb:=grow_alloc w1 (.cells #[.string s,.int .u64 (x:Int)] 29)
     obtain⟨A4,e4,hI4⟩:=isIn_blk (Blk.made w1 29 #[.string s,.int .u64 (x:Int)]) (size:=2) (n:=1) rfl
     injection e4 with e4
     subst e4
     go_wp2_with (at_builtin;refine stay ?_)
     refine stay_out ?_
     refine wpList_row dltE _ rfl (.tmp 43) (.tmp 45) rfl (.slice none 0 0) 0 [] rfl (Row.nil (V:=fun _=>False)) _ _ 1 1 [.string s,.int .u64 (x:Int)] rfl hI4.reads (dlt_one _ _) (by decide) ?_
     intro v5 w5 hR5 hj5
     have hw1:=hgw.size
     have hg5:=hj5.below (B:=w.heap.size) (fun b hb=>hb.elim) (by simp;omega)
     have hN:NewRow w.heap.size 29 2 1 [.string s,.int .u64 (x:Int)] v5 w5:=by
      simp only[Nat.zero_add,List.nil_append] at hR5
      refine⟨_,hR5,fun b hb=>?_⟩
      rcases hb with hb|hb
      ·exact hb.elim
      ·exact⟨by have:=hb.1;simp at this;omega,hb.2⟩
     have hgw5:Grow w w5:=Below.trans (hgw.trans hgb) hg5
     clear c0 c1
     go_wp2_with fail
     go_roundw
     case rel=>exact .inr ⟨rfl,hN,hgw5⟩
     case measure=>simp[intOf]
    ·obtain⟨A6,c6,e6⟩:=newRow_one hR
     obtain⟨U6,hR6,hU6⟩:=hR
     subst e6
     obtain⟨A7,c7,e7,hI7,hc7,hm7⟩:=Row.in_ hR6
     injection e7 with e7 _ e8
     subst e7 e8
     have hE:=eDeltas_1 wr s x A6 c6 U6 hI7
     go_wp2_with fail
     refine hE.mono ?_
     rintro e w3 ⟨A8,rfl,hI8,hg8⟩
     have hgw3:Grow w w3:=hg.trans hg8
     have hw3:=hgw3.size
     have hwr:=hg.size
     have hD3:∃ D:Nat→Prop,DIn w3 D A8 1 [(s,x)]∧(∀ b,D b→b<w3.heap.size)∧(∀ b,D b→¬ V b):=⟨New wr w3,hI8,fun b hb=>hb.2,fun b hb hv=>by have:=hV b hv;have:=hb.1;omega⟩
     have hM3:=Many.framed _ (agL_framed p (BookT p.st p.z ep (.slice A2 1 c2) [(s,x)] [] 0 (.slice none 0 0)) (BookT.framed _ _ _ _ _ _ _ _) node reps now tag last asks tr n bs k) w w3 V hM fun b hb=>hgw3.block b (hV b hb)
     have hV3:∀ b,V b→b<w3.heap.size:=fun b hb=>by have:=hV b hb;omega
     clear hE hI8 hg8 hI7 hR6 hU6 hwr
     go_wp2_with fail
     go_loopw [3,5] (fun u v wr=>(u=(.slice none 0 0)∧v=.slice A8 1 1∧w3=wr)∨((∃ A c,u=.slice A 1 c)∧(∃ A c,v=.slice A 0 c)∧Many (agL p (BookE p.st p.z ep [(1,[(s,x)])] 1) node reps now tag last asks tr (n+1) (bs++frame (batB s x)) k) wr (Ext V w wr)∧Just V w wr)) (fun _ v _=>slen v)
     case atStart=>exact .inl ⟨rfl,rfl,rfl⟩
     case round=>
      rcases hrel with ⟨rfl,rfl,rfl⟩|⟨⟨A,c,rfl⟩,⟨A',c',rfl⟩,hMf,hjf⟩
      ·obtain⟨D,hd3,hDl,hDV⟩:=hD3
       have hc:=acut_1 w3 p node reps now tag last asks tr n bs k ep _ s x 1 A8 D hs (Nat.le_refl _) (by unfold maxLen;omega) hn hbs V hM3 hV3 hd3 hDl hDV
       go_wp2_with fail
       refine hc.mono ?_
       rintro e w4 ⟨rfl,hM4,hj4⟩
       obtain⟨b2,HB2⟩:∃ b2:List UInt8,Hid (b2=bs++frame (batB s x)):=⟨_,rfl⟩
       rw[←HB2.out] at hM4
       obtain⟨V1,V2,⟨Ab,cb,cub,hBk⟩,hrest,hs1,hs2,hs3⟩:=id hM4
       have hE4:∀ b,Ext V w3 w4 b→b<w4.heap.size:=fun b hb=>hb.elim (fun h=>by have:=hV3 b h;have:=hj4.size;omega) fun h=>h.2
       have hS4:Solo (fun _=>True) (Many (bookL p.st p.z ep (.slice Ab 0 cb) [] [(1,[(s,x)])] 1 cub++[Cell p.a 143 (agC p node reps now tag last),GMap keI p.bK asks,GMap keD p.bT tr,LogAt p.x p.d (n+1) b2 k])) w4:=Solo.of_new (fun _ _=>trivial) (Many.flat _ ⟨V1,V2,hBk,hrest,hs1,hs2,hs3⟩) fun b hb=>⟨trivial,hE4 b hb⟩
       have hst4:=hS4.blk 0 rfl
       have ha4:=hS4.blk 6 rfl
       unfold bkC at hst4
       unfold agC at ha4
       obtain⟨U4,hQ4,hU4⟩:=hS4.see 2 rfl
       have hQg:∀ w1,Grow w4 w1→Q.QueueAt p.z.a [(1,[(s,x)])] 1 w1 U4:=fun w1 hg=>Q.QueueAt.framed _ _ _ w4 w1 U4 hQ4 fun b hb=>hg.block b (hU4 b hb).2
       go_wp2_with fail
       refine wp_region_flow 20 92 [(15,.inl (.int .i64 1)),(17,.inr (fun _=>IsIn 3 1 [.int .i64 (node:Int),.int .i64 0,.int .i64 1])),(18,.inr (fun _=>NewRow w4.heap.size 26 3 1 [.int .i64 (node:Int),.int .i64 0,.int .i64 1]))] rfl rfl (by kernel_rfl) (by kernel_rfl) (by kernel_rfl) ?_ ?_
       ·intro x hx φ he
        simp only[List.mem_cons,List.not_mem_nil,or_false] at hx
        rcases hx with rfl|rfl|rfl<;>cases he
        all_goals first|exact lasts_quiet (lasting_bytes _)|first|exact lasts_quiet (isIn_lasting _ _ _)|exact lasts_quiet (newRow_lasting _ _ _ _ _)
       intro ops' A' K' T hops hA' hK hT
       refine fl_mvN 63 (.slice none 0 0) ?_
       refine fl_mvN 64 (.pointer (some ⟨p.a,0,none⟩)) ?_
       refine fl_op1N 65 (.tmp 64) (.pointer (some ⟨p.a,0,none⟩)) (.pointer (some ⟨p.a,0,none⟩)) (fun ρ h1 kk w5 (hg5:Grow _ w5) hb hf=>by go_simp) ?_
       refine fl_op1N 66 (.tmp 65) (.pointer (some ⟨p.a,0,none⟩)) (.pointer (some ⟨p.a,0,none⟩)) (fun ρ h1 kk w5 (hg5:Grow _ w5) hb hf=>by go_simp) ?_
       refine fl_op1N 67 (.tmp 66) (.pointer (some ⟨p.a,0,none⟩)) (.int .i64 (node:Int)) (fun ρ h1 kk w5 (hg5:Grow _ w5) hb hf=>by have c:=(ha4.grow hg5).cell 0;go_simp) ?_
       refine fl_mvN 68 (.int .i64 0) ?_
       refine fl_mvN 69 (.pointer (some ⟨p.a,0,none⟩)) ?_
       refine fl_op1N 70 (.tmp 69) (.pointer (some ⟨p.a,0,none⟩)) (.pointer (some ⟨p.a,0,none⟩)) (fun ρ h1 kk w5 (hg5:Grow _ w5) hb hf=>by go_simp) ?_
       refine fl_op1N 71 (.tmp 70) (.pointer (some ⟨p.a,0,none⟩)) (.pointer (some ⟨p.a,3,none⟩)) (fun ρ h1 kk w5 (hg5:Grow _ w5) hb hf=>by go_simp) ?_
       refine fl_op1N 72 (.tmp 71) (.pointer (some ⟨p.a,3,none⟩)) (.pointer (some ⟨p.st,0,none⟩)) (fun ρ h1 kk w5 (hg5:Grow _ w5) hb hf=>by have c:=(ha4.grow hg5).cell 3;go_simp) ?_
       refine fl_mvN 73 (.int .i64 0) ?_
       refine fl_op1N 74 (.tmp 72) (.pointer (some ⟨p.st,0,none⟩)) (.pointer (some ⟨p.st,0,none⟩)) (fun ρ h1 kk w5 (hg5:Grow _ w5) hb hf=>by go_simp) ?_
       refine fl_op1N 75 (.tmp 74) (.pointer (some ⟨p.st,0,none⟩)) (.pointer (some ⟨p.st,3,none⟩)) (fun ρ h1 kk w5 (hg5:Grow _ w5) hb hf=>by go_simp) ?_
       refine fl_op2N 76 (.tmp 75) (.tmp 73) (.pointer (some ⟨p.st,3,none⟩)) (.int .i64 0) (.pointer (some ⟨p.st,3,none⟩)) (fun ρ h1 h2 kk w5 (hg5:Grow _ w5) hb hf=>by go_simp) ?_
       refine fl_op1N 77 (.tmp 76) (.pointer (some ⟨p.st,3,none⟩)) (.pointer (some ⟨p.z.a,0,none⟩)) (fun ρ h1 kk w5 (hg5:Grow _ w5) hb hf=>by have c:=(hst4.grow hg5).cell 3;go_simp) ?_
       refine fl_call 78 (by rfl) (by decide) (wanted_none (by rfl)) (.int .i64 1) (by rw[hK.out];rfl) 76 _ _ (by rfl) [.pointer (some ⟨p.z.a,0,none⟩)] (by rfl) k76 (fun kk w5 (hg5:Grow _ w5) hb hf=>calls_behind (by rfl) (by exact qLast_g w5 p.z.a [(1,[(s,x)])] 1 U4 (hQg w5 hg5))) ?_
       refine fl_op3 79 (by rfl) (by decide) (wanted_none (by rfl)) (by rw[hK.out];rfl) (by rfl) (.tmp 67) (.tmp 68) (.tmp 78) (.int .i64 (node:Int)) (.int .i64 0) (.int .i64 1) (by rfl) (by rfl) (by rfl) (.agg #[.int .i64 (node:Int),.int .i64 0,.int .i64 1]) (fun ρ h1 h2 h3 kk w5 (hg5:Grow _ w5) hb hf=>by go_simp) ?_
       refine fl_any1 80 (by rfl) (by decide) (wanted_none (by rfl)) (fun _=>IsIn 3 1 [.int .i64 (node:Int),.int .i64 0,.int .i64 1]) (by rw[hK.out];rfl) (.tmp 79) (.agg #[.int .i64 (node:Int),.int .i64 0,.int .i64 1]) (by rfl) (fun ρ h1 kk w5 (hg5:Grow _ w5) hb hf=>by refine upon_behindAny (φ:=fun _=>IsIn 3 1 [.int .i64 (node:Int),.int .i64 0,.int .i64 1]) (by rfl) ?_;exact ident_made rfl h1) (fun v80=>?_)
       refine fl_any2 81 (by rfl) (by decide) (wanted_none (by rfl)) (fun _=>NewRow w4.heap.size 26 3 1 [.int .i64 (node:Int),.int .i64 0,.int .i64 1]) (by rw[hK.out];rfl) (.tmp 63) (.tmp 80) (.slice none 0 0) (v80) (by rfl) (by rfl) (fun ρ h1 h2 kk w5 (hg5:Grow _ w5) hb hf=>by refine upon_behindAny (φ:=fun _=>NewRow w4.heap.size 26 3 1 [.int .i64 (node:Int),.int .i64 0,.int .i64 1]) (by rfl) ?_;exact app_nil idE hg5.size (facts_take hf (by rw[hA'.out];kernel_rfl)) h1 h2 rfl (ident_one _ _ _) (by decide)) (fun v81=>?_)
       refine fl_mvN 3 (v81) ?_
       refine fl_end (fun _ _ w5 (hg5:Grow _ w5) _ hfacts=>hT _ _ ?_)
       clear hops hA' hK hT
       simp only[putsL,Act.put,List.setIfInBounds_toArray,List.set_cons_zero,List.set_cons_succ,List.drop_succ_cons,List.drop_zero]
       obtain⟨A9,c9,rfl⟩:=newRow_one hfacts.1
       clear hfacts hQg
       have hM5:=Many.framed _ (agL_framed p (BookE p.st p.z ep [(1,[(s,x)])] 1) (BookE.framed _ _ _ _ _) node reps now tag last asks tr (n+1) b2 k) w4 w5 _ hM4 fun b hb=>hg5.block b (hE4 b hb)
       have hM6:Many (agL p (BookE p.st p.z ep [(1,[(s,x)])] 1) node reps now tag last asks tr (n+1) b2 k) w5 (Ext V w w5):=Many.wide _ w5 _ _ (fun b hb=>hb.elim .inl fun h => .inr ⟨by have:=h.1;omega,by have:=h.2;have:=hg5.size;omega⟩) hM5
       have hj6:Just V w w5:=(Just.of_grow hgw3).trans (hj4.trans (Just.of_grow hg5))
       rw[HB2.out] at hM6
       clear hst4 ha4
       go_wp2_with fail
       go_roundw
       case rel=>exact .inr ⟨⟨_,_,rfl⟩,⟨_,_,rfl⟩,hM6,hj6⟩
       case measure=>simp[slen]
      ·go_wp2_with fail
       go_roundw
       case rel=>exact .inr ⟨rfl,⟨_,_,rfl⟩,hMf,hjf⟩
       case measure=>simp[intOf]
  ·have hlt:∀ b,Ext V w wr b→b<wr.heap.size:=fun b hb=>hb.elim (fun h=>by have:=hV b h;have:=hjf.size;omega) fun h=>h.2
   have hSy:=aSync_any wr p node reps now tag last asks tr (n+1) (bs++frame (batB s x)) k (BookE p.st p.z ep [(1,[(s,x)])] 1) (BookE.framed _ _ _ _ _) (Ext V w wr) hMf hlt
   go_wp2_with fail
   refine hSy.mono ?_
   rintro e w2 ⟨rfl,hM2,hj2⟩
   go_wp2_with fail
   try rw[Exit.noGoto_ret]
   go_ret
   refine⟨⟨_,_,rfl⟩,Many.wide _ w2 _ _ (fun b hb=>?_) hM2,Go.RowKit.Just.ext_ hjf hj2⟩
   have h2:=hj2.size
   have h1:=hjf.size
   rcases hb with (hb|hb)|hb
   ·exact .inl hb
   ·exact .inr ⟨hb.1,by have:=hb.2;omega⟩
   ·exact .inr ⟨by have:=hb.1;omega,hb.2⟩
def bsA0:List UInt8:=frame (recB 1 [1])
def A0 (a:Nat):Thing:=fun w V=>∃ p:AgP,p.a=a∧Many (agL p (BookT p.st p.z 1 (.slice none 0 0) [] [] 0 (.slice none 0 0)) ((1:Nat):Int) 1 0 4294967296 0 [] [] 1 bsA0 bsA0.length) w V
def A1 (a:Nat):Thing:=fun w V=>∃ (p:AgP) (sl:Value),p.a=a∧Many (agL p (BookT p.st p.z 1 sl [(tA1,7)] [] 0 (.slice none 0 0)) ((1:Nat):Int) 1 0 4294967296 0 [] [] (1+1) (bsA0++frame (smpB tA1 7)) bsA0.length) w V
def A2 (a:Nat):Thing:=fun w V=>∃ (p:AgP) (bs:List UInt8),p.a=a∧bs.length≤100000∧Many (agL p (BookE p.st p.z 1 [(1,[(tA1,7)])] 1) ((1:Nat):Int) 1 0 4294967296 0 [] [] (1+1+1) bs bs.length) w V
def A3 (a:Nat):Thing:=fun w V=>∃ (p:AgP) (bs:List UInt8) (sl cu:Value) (smp:List Dl) (y:Int),p.a=a∧bs.length≤100000∧Many (agL p (BookT p.st p.z 1 sl smp [(1,[(tA1,7)])] 1 cu) ((1:Nat):Int) 1 (0+1) (4294967296+1) 0 [(4294967296+1,.agg #[.int .i64 ((1:Nat):Int),.int .i64 0,.int .i64 1])] [((((1:Nat):Int),0,1),.agg #[.int .i64 1,.int .i64 y])] (1+1+1) bs bs.length) w V
theorem A0.framed (a:Nat):Framed (A0 a):=fun w w' V ⟨p,h1,h2⟩ hk=>⟨p,h1,Many.framed _ (agL_framed _ _ (BookT.framed _ _ _ _ _ _ _ _) _ _ _ _ _ _ _ _ _ _) w w' V h2 hk⟩
theorem A1.framed (a:Nat):Framed (A1 a):=fun w w' V ⟨p,sl,h1,h2⟩ hk=>⟨p,sl,h1,Many.framed _ (agL_framed _ _ (BookT.framed _ _ _ _ _ _ _ _) _ _ _ _ _ _ _ _ _ _) w w' V h2 hk⟩
theorem A2.framed (a:Nat):Framed (A2 a):=fun w w' V ⟨p,bs,h1,h3,h2⟩ hk=>⟨p,bs,h1,h3,Many.framed _ (agL_framed _ _ (BookE.framed _ _ _ _ _) _ _ _ _ _ _ _ _ _ _) w w' V h2 hk⟩
theorem A3.framed (a:Nat):Framed (A3 a):=fun w w' V ⟨p,bs,sl,cu,smp,y,h1,h3,h2⟩ hk=>⟨p,bs,sl,cu,smp,y,h1,h3,Many.framed _ (agL_framed _ _ (BookT.framed _ _ _ _ _ _ _ _) _ _ _ _ _ _ _ _ _ _) w w' V h2 hk⟩
theorem small_A1:Small (tA1,7):=⟨show 3≤1000 by decide,by decide⟩
theorem bsA0_len:bsA0.length≤1000:=by
 have h1:=recB_len 1 [1] (by decide) (by simp)
 have h2:=frame_le (recB 1 [1]) (by simp only[List.length_cons,List.length_nil] at h1;omega)
 simp only[List.length_cons,List.length_nil] at h1
 unfold bsA0
 omega
theorem bsA1_len:(bsA0++frame (smpB tA1 7)).length≤3000:=by
 have h0:=bsA0_len
 have h1:=smpB_len small_A1
 have h2:=frame_le (smpB tA1 7) (by omega)
 rw[List.length_append]
 omega
theorem aNew_A (w:World) (d:Nat) (V:Nat→Prop) (hD:DiskAt 133 d [] 0 w V) (hV:∀ b,V b→b<w.heap.size) :
 Calls Tryz.prog 23 #[.int .i64 1,.int .i64 1,.pointer (some ⟨d,0,none⟩)] w fun e w'=>∃ a,e=.returned (.pointer (some ⟨a,0,none⟩))∧A0 a w' (Ext V w w')∧Just V w w':=
 (aNew_1 w d 1 1 (by omega) (by omega) (by omega) V hD hV).mono fun e w' ⟨p,_,h1,h2,h3⟩=>⟨p.a,h1,⟨p,rfl,h2⟩,h3⟩
theorem aIngest_A (w:World) (a:Nat):Turns Tryz.prog 24 #[.pointer (some ⟨a,0,none⟩),.string tA1,.int .u64 7] (fun e=>e=.returned (.int .i64 0)) (A0 a) (A1 a) w:=by
 rintro V ⟨p,rfl,hM⟩ hV
 have h0:=bsA0_len
 exact (aIngest_1 w p _ _ _ _ _ _ _ _ _ _ _ _ _ _ tA1 7 parse_A1 small_A1 (by omega) (by omega) (by omega) V hM hV).mono fun e w' ⟨h1,⟨sl,h2⟩,h3⟩=>⟨h1,⟨p,sl,rfl,h2⟩,h3⟩
theorem aCut_A (w:World) (a:Nat):Turns Tryz.prog 25 #[.pointer (some ⟨a,0,none⟩)] (fun e=>∃ A c,e=.returned (.slice A 1 c)) (A1 a) (A2 a) w:=by
 rintro V ⟨p,sl,rfl,hM⟩ hV
 have h0:=bsA1_len
 have h1:=batB_len small_A1
 have h2:=frame_le (batB tA1 7) (by omega)
 refine (aCut_1 w p 1 _ _ _ _ _ _ _ _ _ _ _ tA1 7 small_A1 (by omega) (by omega) V hM hV).mono fun e w' ⟨h1,h2,h3⟩=>⟨h1,⟨p,_,rfl,?_,h2⟩,h3⟩
 rw[List.length_append]
 omega
def eAsk:En:=⟨1,((1:Nat):Int),0,1,1,[(tA1,7)],⟨#[]⟩,((1:Nat):Int),4294967296+1⟩
theorem aTick_A (w:World) (a:Nat) (V:Nat→Prop) (hA:A2 a w V) (hV:∀ b,V b→b<w.heap.size):Calls Tryz.prog 245 #[.pointer (some ⟨a,0,none⟩),.int .i64 1] w fun e w'=>(∃ u,e=.returned u∧OneSent w.heap.size 0 eAsk u w')∧A3 a w' (Ext V w w')∧Just V w w':=by
 obtain⟨p,bs,rfl,hb,V1,V2,⟨A,c,cu,hB⟩,hM⟩:=hA
 exact (aTick_1 w p 1 0 4294967296 _ bs _ 1 (.slice A 0 c) [] 1 cu tA1 7 (by omega) (by omega) V ⟨V1,V2,hB,hM⟩ hV).mono fun e w' ⟨h1,⟨y,h2⟩,h3⟩=>⟨h1,⟨p,bs,_,cu,[],y,rfl,hb,h2⟩,h3⟩
theorem aReceive_A (w:World) (a:Nat):Turns Tryz.prog 247 #[.pointer (some ⟨a,0,none⟩),.int .i64 0,.agg (ansM (4294967296+1) 1 0)] (fun e=>e=.returned (.tuple #[.agg #[.int .i64 ((1:Nat):Int),.int .i64 0,.int .i64 1],.int .i64 1])) (A3 a) Emp w:=by
 rintro V ⟨p,bs,sl,cu,smp,y,rfl,hb,hM⟩ hV
 exact (aReceive_1 w p 1 (0+1) (4294967296+1) 0 _ bs _ 1 sl smp 1 cu tA1 7 _ (4294967296+1) (by omega) (by omega) (by omega) V hM hV).mono fun e w' ⟨h1,_,h3⟩=>⟨h1,trivial,h3⟩
end Go.Proofs.YtmijcbfgfkeodaaGreatDoor
end
section
namespace Go.Hop
open Go.RowKit
section
variable {Pr:Program} {S R:Thing} {l rest:List Thing} {w w':World} {P V:Nat→Prop}
theorem Solo.turnedB (i:Nat) (hi:l[i]?=some S) (hF:AllFramed l) (h:Solo P (Many l) w):∃ U:Nat→Prop,S w U∧(∀ b,U b→P b∧b<w.heap.size)∧∀ (w':World) (S':Thing),Just U w w'→S' w' (Ext U w w')→Solo P (Many (l.set i S')) w'∧Just P w w':=by
 obtain⟨h0,V,h1,h4⟩:=h
 obtain⟨V1,V2,a,b,c,d,e⟩:=Many.pick l i S hi h1
 have hR:=Many.framed (l.eraseIdx i) fun R hR=>hF R (List.mem_of_mem_eraseIdx hR)
 refine⟨V1,a,fun x hx=>h4 x (c x hx),fun w' S' hj hs=>⟨⟨fun b hb=>h0 b (Nat.le_trans hj.size hb),Ext V w w',Many.unpick l i S S' hi ⟨Ext V1 w w',V2,hs,hR w w' V2 b fun x hx=>hj.block x (h4 x (d x hx)).2 (fun h1=>e x h1 hx),fun x hx=>?_,fun x hx => .inl (d x hx),fun x hx h2=>?_⟩,ext_lt h4 h0 hj.size⟩,hj.imp fun x hx=>(h4 x (c x hx)).1⟩⟩
 ·rcases hx with hx|hx
  ·exact .inl (c x hx)
  ·exact .inr hx
 ·rcases hx with hx|hx
  ·exact e x hx h2
  ·have:=(h4 x (d x h2)).2;have:=hx.1;omega
theorem Solo.swapHead (hF:AllFramed rest) (h:Solo P (Many (S :: rest)) w):∃ U:Nat→Prop,S w U∧(∀ b,U b→P b∧b<w.heap.size)∧(∀ (i:Nat) (x:Nat) (t:TypeId) (cs:Array Value),rest[i]?=some (Cell x t cs)→¬ U x)∧
 ∀ (w':World) (l':List Thing) (V':Nat→Prop),Just U w w'→Many l' w' V'→(∀ b,V' b→(U b∨w.heap.size≤b)∧b<w'.heap.size)→Solo P (Many (l'++rest)) w'∧Just P w w':=by
 obtain⟨h0,V,⟨V1,V2,a,b,c,d,e⟩,h4⟩:=h
 refine⟨V1,a,fun x hx=>h4 x (c x hx),fun i x t cs hi hu=>?_,fun w' l' V' hj hl hv=>⟨⟨fun b hb=>h0 b (Nat.le_trans hj.size hb),fun b=>V' b∨V2 b,Many.flat l' ⟨V',V2,hl,Many.framed rest hF w w' V2 b fun x hx=>hj.block x (h4 x (d x hx)).2 (fun h1=>e x h1 hx),fun _ h => .inl h,fun _ h => .inr h,fun x h1 h2=>?_⟩,fun x hx=>?_⟩,hj.imp fun x hx=>(h4 x (c x hx)).1⟩⟩
 ·obtain⟨U,hU,hs⟩:=(Many.pick rest i _ hi b).fst
  exact e x hu (hs x hU.1)
 ·rcases (hv x h1).1 with h|h
  ·exact e x h h2
  ·have:=(h4 x (d x h2)).2;omega
 ·rcases hx with hx|hx
  ·refine⟨?_,(hv x hx).2⟩
   rcases (hv x hx).1 with h|h
   ·exact (h4 x (c x h)).1
   ·exact h0 x h
  ·exact⟨(h4 x (d x hx)).1,Nat.lt_of_lt_of_le (h4 x (d x hx)).2 hj.size⟩
end
def CallSt (U:Nat→Prop) (D0:World→Prop) (m1:Nat) (st:List (Nat×Nat)):Stages where
 G:=Just U
 T:=fun _=>Just U
 I := fun k w=>match k with
   | 0=>D0 w
   | _=>True
 muts:=[m1]
 stage:=fun j=>if j=m1 then some 0 else st.lookup j
theorem callSt_ok {U:Nat→Prop} {D0:World→Prop} {m1:Nat} {st:List (Nat×Nat)} (h0:∀ a b,D0 a→Grow a b→D0 b):(CallSt U D0 m1 st).Ok:=by
 refine⟨fun _ _ _=>Just.trans,fun _ _ h=>Just.of_grow h,fun _ _ _ h=>h,fun k a b h hg=>?_⟩
 rcases k with _|k
 ·exact h0 a b h hg
 ·exact trivial
def Since (φ:Value→World→Prop):Fact:=fun k u w=>match k with
 | 0=>False
 | _=>φ u w
theorem since_take {φ:Value→World→Prop} {k:Nat} {u:Value} {w:World} (h:Since φ k u w):φ u w:=by
 cases k with
 | zero=>exact h.elim
 | succ k=>exact h
theorem since_of {φ ψ:Value→World→Prop} {k:Nat} {u v:Value} {w w':World} (h:Since φ k u w) (hψ:ψ v w'):Since ψ k v w':=by
 cases k with
 | zero=>exact h.elim
 | succ k=>exact hψ
theorem lasts_call_since {U:Nat→Prop} {D0:World→Prop} {m1:Nat} {st:List (Nat×Nat)} {φ:Value→World→Prop} (h:Lasting φ):Lasts (CallSt U D0 m1 st) (Since φ):=fun k u w w' hu=>by
 rcases k with _|k
 ·exact hu.elim
 ·exact⟨fun hg=>h u w w' hu hg,fun hk=>by simp[CallSt] at hk⟩
section
variable {X:Nat→Thing} {Q:Nat→Prop} {u:Value} {w w':World}
def NewX (X:Nat→Thing) (Q:Nat→Prop) (u:Value) (w:World):Prop:=∃ (r:Nat) (V:Nat→Prop),u=.pointer (some ⟨r,0,none⟩)∧X r w V∧∀ b,V b→Q b∧b<w.heap.size
def NewXs (e:TypeId) (X:Nat→Thing) (Q:Nat→Prop) (u:Value) (w:World):Prop:=∃ (r:Nat) (V:Nat→Prop),Many [PtrRow e u [r],X r] w V∧∀ b,V b→Q b∧b<w.heap.size
theorem newX_lasting (hX:∀ r,Framed (X r)):Lasting (NewX X Q):=fun u w w' ⟨r,V,h1,h2,h3⟩ hg=>⟨r,V,h1,hX r w w' V h2 fun b hb=>hg.block b (h3 b hb).2,fun b hb=>⟨(h3 b hb).1,Nat.lt_of_lt_of_le (h3 b hb).2 hg.size⟩⟩
theorem newXs_lasting {e:TypeId} (hX:∀ r,Framed (X r)):Lasting (NewXs e X Q):=fun u w w' ⟨r,V,h2,h3⟩ hg=>⟨r,V,Many.framed _ ((AllFramed.nil.cons (hX r)).cons (PtrRow.framed _ _ _)) w w' V h2 fun b hb=>hg.block b (h3 b hb).2,fun b hb=>⟨(h3 b hb).1,Nat.lt_of_lt_of_le (h3 b hb).2 hg.size⟩⟩
theorem pair_made {e:TypeId} {r:Nat} {V U:Nat→Prop} {v:Value} (hX:∀ r,Framed (X r)) (hx:X r w V) (h3:∀ b,V b→Q b∧b<w.heap.size) (hg:Grow w w') (hR:PtrRow e v [r] w' U) (hU:∀ b,U b→w.heap.size≤b∧b<w'.heap.size) (hQ:∀ b,w.heap.size≤b→Q b):NewXs e X Q v w':=by
 refine⟨r,fun b=>U b∨V b,⟨U,V,hR,⟨V,fun _=>False,hX r w w' V hx fun b hb=>hg.block b (h3 b hb).2,trivial,fun _ h=>h,fun _ h=>h.elim,fun _ _ h=>h⟩,fun _ h => .inl h,fun _ h => .inr h,fun b h1 h2=>?_⟩,fun b hb=>?_⟩
 ·have:=(hU b h1).1;have:=(h3 b h2).2;omega
 ·rcases hb with hb|hb
  ·exact⟨hQ b (hU b hb).1,(hU b hb).2⟩
  ·exact⟨(h3 b hb).1,Nat.lt_of_lt_of_le (h3 b hb).2 hg.size⟩
theorem newXs_built {P:Program} {t e:TypeId} {ρ:Operand→Value} {o:Oper} (hX:∀ r,Framed (X r)) (hQ:∀ b,w.heap.size≤b→Q b) (hu:NewX X Q u w)
 (hrun:∀ r:Nat,u=.pointer (some ⟨r,0,none⟩)→(execOp ρ o).run P w=.ok (.value (.slice (some ⟨w.heap.size,0,none⟩) 1 1)) (w.alloc (.cells #[.pointer (some ⟨r,0,none⟩)] e))):flowUpon P (fun v w'=>Grow w w'∧NewXs e X Q v w') ((execOp ρ o).run P w):=by
 obtain⟨r,V,h1,h2,h3⟩:=hu
 have hg:Grow w (w.alloc (.cells #[.pointer (some ⟨r,0,none⟩)] e)):=(Below.refl _ w).alloc (Nat.le_refl _) _
 refine flowUpon_value (hrun r h1) ⟨hg,pair_made hX h2 h3 hg (U:=fun b=>b=w.heap.size) ⟨by simp,.inr ⟨w.heap.size,1,_,rfl,rfl,heap_alloc_new w _,Nat.le_refl _,by decide,rfl,by simp⟩⟩ (fun b hb=>by obtain rfl:b=w.heap.size:=hb;simp) hQ⟩
theorem newXs_app {P:Program} {t e:TypeId} {bytes:Nat} {z:Value} (E:Elem P t e 1 bytes z) (hbytes:bytes≤1000) {ρ:Operand→Value} {o:Oper} {s x:Operand} (hX:∀ r,Framed (X r)) (hQ:∀ b,w.heap.size≤b→Q b) (hs:ρ s=.slice none 0 0) (hx:ρ x=u) (ho:o.op=.call { callee := .builtin .append,args:=#[s,x],argTypes:=#[t,t] }) (hu:NewXs e X Q u w):flowUpon P (fun v w'=>Grow w w'∧NewXs e X Q v w') ((execOp ρ o).run P w):=by
 obtain⟨r,V,⟨V1,V2,hR,⟨V3,_,hx3,_,hs3,_⟩,h5,h6,h7⟩,h3⟩:=hu
 obtain⟨A,c,e2,hI,_,_⟩:=Row.in_ hR
 rw[e2] at hx
 refine flow_append_row E ho hs (Row.nil (V:=fun _=>False)) hx (In.reads (hI.mono (V':=fun b=>b<w.heap.size) fun b hb=>(h3 b (h5 b hb)).2)) (by simp[Value.oneCell']) (by simp;omega) fun v' w' hR' hj=>?_
 have hg:Grow w w':=hj.below (B:=w.heap.size) (fun b hb=>hb.elim) (Nat.le_refl _)
 rw[List.nil_append] at hR'
 have hR2:PtrRow e v' [r] w' (Ext (fun _=>False) w w'):=by simpa [PtrRow] using hR'
 exact⟨hg,pair_made hX hx3 (fun b hb=>h3 b (h6 b (hs3 b hb))) hg hR2 (fun b hb=>hb.elim (fun h=>h.elim) fun h=>h) hQ⟩
end
end Go.Hop
end
