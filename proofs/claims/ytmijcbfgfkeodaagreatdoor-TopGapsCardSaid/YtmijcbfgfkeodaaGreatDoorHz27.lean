/- Ag7, Ag8, Ag9. -/
import Derived.Test.YtmijcbfgfkeodaaGreatDoorHz26
set_option linter.all false
set_option maxRecDepth 100000
section
namespace Go.Proofs.YtmijcbfgfkeodaaGreatDoor
open Go.RowKit Go.Hop Go.Proofs.YtmijcbfgfkeodaaGreatDoor.V
theorem anext_any (w:World) (p:AgP) (node reps now tag last:Int) (asks:List (Int×Value)) (tr:List ((Int×Int×Int)×Value)) (n:Int) (bs:List UInt8) (k:Nat) (B:Thing) (hB:Framed B) (k0 k1 k2:Int) (htag:0≤tag∧tag≤4611686018427387904) (V:Nat→Prop) (hM:Many (agL p (B) node reps now tag last asks tr n bs k) w V) (hV:∀ b,V b→b<w.heap.size):Calls Tryz.prog 310 #[.pointer (some ⟨p.a,0,none⟩),.agg #[.int .i64 k0,.int .i64 k1,.int .i64 k2]] w fun e w'=>e=.returned (.int .i64 (tag+1))∧Many (agL p (B) node reps now (tag+1) last (gput asks (tag+1) (.agg #[.int .i64 k0,.int .i64 k1,.int .i64 k2])) tr n bs k) w' (Ext V w w')∧Just V w w':=by
 have hS0:=Solo.begin_ hM hV
 have hF0:=agL_framed p B hB node reps now tag last asks tr n bs k
 have hga:=grow_alloc w (.cells #[.int .i64 k0,.int .i64 k1,.int .i64 k2] 26)
 have hBy:=Blk.made w 26 #[.int .i64 k0,.int .i64 k1,.int .i64 k2]
 obtain⟨y,HY⟩:∃ y:Nat,Hid (y=w.heap.size):=⟨_,rfl⟩
 obtain⟨wa,HA_⟩:∃ wa:World,Hid (wa=w.alloc (.cells #[.int .i64 k0,.int .i64 k1,.int .i64 k2] 26)):=⟨_,rfl⟩
 rw[←HA_.out] at hga hBy
 rw[←HY.out] at hBy
 have hSa:=hS0.join hF0 hga (R:=Cell y 26 #[.int .i64 k0,.int .i64 k1,.int .i64 k2]) (U:=fun b=>b=y) ⟨rfl,hBy⟩ (fun b hb=>by have:=HY.out;have:=hBy.lt;omega)
 have hFa:=hF0.cons (Cell.framed y 26 #[.int .i64 k0,.int .i64 k1,.int .i64 k2])
 have Ja:=Just.of_grow (V:=Lic V w) hga
 have hyw:w.heap.size≠0∨True := .inr trivial
 rw[HA_.out] at hSa Ja
 have ha:=hSa.blk 2 rfl
 unfold agC at ha
 have k5:=ha.cell 5
 go_enter Tryz.func310,Tryz.ntmps310
 go_wp2_with (refine wpList_putS rfl _ _ _ rfl hSa hFa Ja 2 rfl rfl (.int .i64 (tag+1)) rfl (Nat.le_of_ble_eq_true rfl) rfl (by kernel_rfl) ?_;intro w2 hS2 J2;refine stay ?_)
 refine stay_out ?_
 rw[←HY.out]
 clear k5 ha
 have hS2:Solo (Lic V w) (Many (Cell y 26 #[.int .i64 k0,.int .i64 k1,.int .i64 k2] :: agL p (B) node reps now (tag+1) last asks tr n bs k)) w2:=hS2
 have hF2:=(agL_framed p B hB node reps now (tag+1) last asks tr n bs k).cons (Cell.framed y 26 #[.int .i64 k0,.int .i64 k1,.int .i64 k2])
 have ha2:=hS2.blk 2 rfl
 have hY2:=hS2.blk 0 rfl
 unfold agC at ha2
 go_wp2_with fail
 refine wp_region_flow 9 25 [] rfl rfl (by kernel_rfl) (by kernel_rfl) (by kernel_rfl) ?_ ?_
 ·intro x hx φ he
  cases hx
 intro ops' A' K' T hops hA' hK hT
 refine fl_mvN 12 (.pointer (some ⟨p.a,0,none⟩)) ?_
 refine fl_op1N 13 (.tmp 12) (.pointer (some ⟨p.a,0,none⟩)) (.pointer (some ⟨p.a,0,none⟩)) (fun ρ h1 kk w3 (hg3:Grow _ w3) hb hf=>by go_simp) ?_
 refine fl_op1N 14 (.tmp 13) (.pointer (some ⟨p.a,0,none⟩)) (.pointer (some ⟨p.a,8,none⟩)) (fun ρ h1 kk w3 (hg3:Grow _ w3) hb hf=>by go_simp) ?_
 refine fl_op1N 15 (.tmp 14) (.pointer (some ⟨p.a,8,none⟩)) (.map (some p.bK)) (fun ρ h1 kk w3 (hg3:Grow _ w3) hb hf=>by have c:=(ha2.grow hg3).cell 8;go_simp) ?_
 refine fl_mvN 16 (.pointer (some ⟨p.a,0,none⟩)) ?_
 refine fl_op1N 17 (.tmp 16) (.pointer (some ⟨p.a,0,none⟩)) (.pointer (some ⟨p.a,0,none⟩)) (fun ρ h1 kk w3 (hg3:Grow _ w3) hb hf=>by go_simp) ?_
 refine fl_op1N 18 (.tmp 17) (.pointer (some ⟨p.a,0,none⟩)) (.pointer (some ⟨p.a,5,none⟩)) (fun ρ h1 kk w3 (hg3:Grow _ w3) hb hf=>by go_simp) ?_
 refine fl_op1N 19 (.tmp 18) (.pointer (some ⟨p.a,5,none⟩)) (.int .i64 (tag+1)) (fun ρ h1 kk w3 (hg3:Grow _ w3) hb hf=>by have c:=(ha2.grow hg3).cell 5;go_simp) ?_
 refine fl_op1N 20 (.tmp 3) (.pointer (some ⟨y,0,none⟩)) (.agg #[.int .i64 k0,.int .i64 k1,.int .i64 k2]) (fun ρ h1 kk w3 (hg3:Grow _ w3) hb hf=>by have c0:=(hY2.grow hg3).cell 0;have c1:=(hY2.grow hg3).cell 1;have c2:=(hY2.grow hg3).cell 2;go_simp) ?_
 refine fl_end (fun _ _ w3 (hg3:Grow _ w3) _ hfacts=>hT _ _ ?_)
 clear hops hA' hK hT
 simp only[putsL,Act.put,List.setIfInBounds_toArray,List.set_cons_zero,List.set_cons_succ,List.drop_succ_cons,List.drop_zero]
 have hS3:=hS2.grows hF2 hg3
 have J3:=J2.trans (Just.of_grow hg3)
 obtain⟨w4,hrun,hS4,hj4⟩:=hS3.put_ (φ:=fun w'=>(Instr.mapUpdate 141 (.map (some p.bK)) (.int .i64 (tag+1)) (.agg #[.int .i64 k0,.int .i64 k1,.int .i64 k2])).run Tryz.prog w3=.ok () w') 3 rfl hF2 (fun U hU hUl=>by
  obtain⟨w',h1,h2,h3⟩:=GMap.put keyL (t:=141) (et:=26) (by kernel_rfl) hU (tag+1) (.agg #[.int .i64 k0,.int .i64 k1,.int .i64 k2])
  exact⟨w',h1,h2,h3.imp fun b hb=>hb▸hU.1⟩)
 have hS4:Solo (Lic V w) (Many (Cell y 26 #[.int .i64 k0,.int .i64 k1,.int .i64 k2] :: agL p (B) node reps now (tag+1) last (gput asks (tag+1) (.agg #[.int .i64 k0,.int .i64 k1,.int .i64 k2])) tr n bs k)) w4:=hS4
 have ha4:=hS4.blk 2 rfl
 unfold agC at ha4
 have k5:=ha4.cell 5
 go_wp2_with fail
 go_ret
 obtain⟨r1,r2⟩:=Solo.done hS4.drop1 (J3.trans hj4) hV
 exact⟨rfl,r1,r2⟩
def sentA (to:Int) (e:En) (A:Option Addr) (c:Nat):Array Value:=#[.int .i64 to,.int .i64 1,.int .i64 e.k,.int .i64 e.ag,.int .i64 e.sh,.int .i64 e.sq,.int .i64 e.ep,.slice A e.ds.length c,.string e.se,.int .i64 e.fr,.int .i64 e.tg,.int .i64 0,.int .i64 0,.int .u64 0,.int .i64 0,.int .i64 0,.slice none 0 0,.int .i64 0,.int .i64 0]
def EntNew (B:Nat) (e:En) (u:Value) (w:World):Prop:=∃ A c,u=.agg (e.agg A c)∧ElIn w (fun b=>B≤b∧b<w.heap.size) ⟨e,A,c⟩
def AskNew (B:Nat) (e:En) (u:Value) (w:World):Prop:=∃ A c,u=.agg (askM e A c)∧ElIn w (fun b=>B≤b∧b<w.heap.size) ⟨e,A,c⟩
def SentNew (B:Nat) (to:Int) (e:En) (u:Value) (w:World):Prop:=∃ A c,u=.agg (sentA to e A c)∧ElIn w (fun b=>B≤b∧b<w.heap.size) ⟨e,A,c⟩
theorem elIn_grow {B:Nat} {x:El} {w w':World} (h:ElIn w (fun b=>B≤b∧b<w.heap.size) x) (hg:Grow w w'):ElIn w' (fun b=>B≤b∧b<w'.heap.size) x:=⟨In.mono (In.grow h.1 hg) fun b hb=>⟨hb.1,Nat.lt_of_lt_of_le hb.2 hg.size⟩,h.2⟩
theorem entNew_lasting (B:Nat) (e:En):Lasting (EntNew B e):=fun u w w' ⟨A,c,h1,h2⟩ hg=>⟨A,c,h1,elIn_grow h2 hg⟩
theorem askNew_lasting (B:Nat) (e:En):Lasting (AskNew B e):=fun u w w' ⟨A,c,h1,h2⟩ hg=>⟨A,c,h1,elIn_grow h2 hg⟩
theorem sentNew_lasting (B:Nat) (to:Int) (e:En):Lasting (SentNew B to e):=fun u w w' ⟨A,c,h1,h2⟩ hg=>⟨A,c,h1,elIn_grow h2 hg⟩
theorem copy_new (B:Nat) (w:World) (V:Nat→Prop) (x:El) (h:ElIn w V x) (hB:B≤w.heap.size):Calls Tryz.prog 175 #[.agg (x.e.agg x.A x.c)] w fun en w'=>∃ v,en=.returned v∧Grow w w'∧EntNew B x.e v w':=
 (Copy_any w V x h).mono fun en w' ⟨A',h1,h2,h3⟩=>⟨_,h1,h3,A',_,rfl,In.mono h2.1 fun b hb=>⟨Nat.le_trans hB hb.1,hb.2⟩,h2.2⟩
theorem ask_built {w:World} {B:Nat} {e:En} {u:Value} {o:Oper} {ρ:Operand→Value} {y:Operand} (ho:o.op=.build 73 #[(0,.const (.int .i64 1)),(1,y)]) (hc:∀ v,ρ (.const v)=v) (hy:ρ y=u) (hu:EntNew B e u w):flowUpon Tryz.prog (fun v w'=>Grow w w'∧AskNew B e v w') ((execOp ρ o).run Tryz.prog w):=by
 obtain⟨A,c,rfl,h⟩:=hu
 obtain⟨dst,op,ty,pos,after,guard⟩:=o
 simp only at ho
 subst ho
 unfold En.agg at hy
 have h0:=hc (.int .i64 1)
 refine flowUpon_value (u := .agg (askM e A c)) (w:=w) ?_ ⟨Grow.refl _,A,c,rfl,h⟩
 unfold askM
 go_simp
theorem sent_built {w:World} {B:Nat} {to:Int} {e:En} {u:Value} {o:Oper} {ρ:Operand→Value} {x y:Operand} (ho:o.op=.build 270 #[(0,x),(1,y)]) (hx:ρ x=.int .i64 to) (hy:ρ y=u) (hu:AskNew B e u w):flowUpon Tryz.prog (fun v w'=>Grow w w'∧SentNew B to e v w') ((execOp ρ o).run Tryz.prog w):=by
 obtain⟨A,c,rfl,h⟩:=hu
 obtain⟨dst,op,ty,pos,after,guard⟩:=o
 simp only at ho
 subst ho
 unfold askM at hy
 refine flowUpon_value (u := .agg (sentA to e A c)) (w:=w) ?_ ⟨Grow.refl _,A,c,rfl,h⟩
 unfold sentA
 go_simp
def IsI64 (u:Value) (w:World):Prop:=∃ y:Int,u=.int .i64 y
def IsTry (u:Value) (w:World):Prop:=∃ y:Int,u=.agg #[.int .i64 1,.int .i64 y]
theorem isI64_lasting:Lasting IsI64:=fun u w w' h _=>h
theorem isTry_lasting:Lasting IsTry:=fun u w w' h _=>h
theorem wait_is (w:World) (x:Int):Calls Tryz.prog 346 #[.int .u64 x,.int .i64 0,.int .i64 4,.int .i64 32] w fun e w'=>∃ v,e=.returned v∧Grow w w'∧IsI64 v w':=(Wait_0 w x).mono fun e w' ⟨y,h1,h2⟩=>⟨_,h1,h2▸Grow.refl _,y,rfl⟩
theorem add_made {w:World} {a:Int} {u:Value} {o:Oper} {ρ:Operand→Value} {x y:Operand} (ho:o.op=.binOp .add 2 x y 2) (hx:ρ x=.int .i64 a) (hy:ρ y=u) (hu:IsI64 u w):flowUpon Tryz.prog (fun v w'=>Grow w w'∧IsI64 v w') ((execOp ρ o).run Tryz.prog w):=by
 obtain⟨b,rfl⟩:=hu
 obtain⟨dst,op,ty,pos,after,guard⟩:=o
 simp only at ho
 subst ho
 exact flowUpon_value (u := .int .i64 (IntKind.i64.wrap (a+b))) (w:=w) (by go_simp) ⟨Grow.refl _,_,rfl⟩
theorem try_built {w:World} {u:Value} {o:Oper} {ρ:Operand→Value} {x y:Operand} (ho:o.op=.build 378 #[(0,x),(1,y)]) (hx:ρ x=.int .i64 1) (hy:ρ y=u) (hu:IsI64 u w):flowUpon Tryz.prog (fun v w'=>Grow w w'∧IsTry v w') ((execOp ρ o).run Tryz.prog w):=by
 obtain⟨b,rfl⟩:=hu
 obtain⟨dst,op,ty,pos,after,guard⟩:=o
 simp only at ho
 subst ho
 exact flowUpon_value (u := .agg #[.int .i64 1,.int .i64 b]) (w:=w) (by go_simp) ⟨Grow.refl _,_,rfl⟩
theorem run_alcE (w:World) (ρ:Operand→Value) (o:Oper) (ho:o.op=.alloc 32):(execOp ρ o).run Tryz.prog w=.ok (.value (.pointer (some ⟨w.heap.size,0,none⟩))) (w.alloc (.cells #[.int .i64 0,.int .i64 0,.int .i64 0,.int .i64 0,.int .i64 0,.slice none 0 0,.string ⟨#[]⟩,.int .i64 0,.int .i64 0] 32)):=by
 obtain⟨dst,op,ty,pos,after,guard⟩:=o
 simp only at ho
 subst ho
 go_simp
theorem run_alcS (w:World) (ρ:Operand→Value) (o:Oper) (ho:o.op=.alloc 270):(execOp ρ o).run Tryz.prog w=.ok (.value (.pointer (some ⟨w.heap.size,0,none⟩))) (w.alloc (.cells #[.int .i64 0,.int .i64 0,.int .i64 0,.int .i64 0,.int .i64 0,.int .i64 0,.int .i64 0,.slice none 0 0,.string ⟨#[]⟩,.int .i64 0,.int .i64 0,.int .i64 0,.int .i64 0,.int .u64 0,.int .i64 0,.int .i64 0,.slice none 0 0,.int .i64 0,.int .i64 0] 270)):=by
 obtain⟨dst,op,ty,pos,after,guard⟩:=o
 simp only at ho
 subst ho
 go_simp
theorem ent_built {w:World} {o:Oper} {ρ:Operand→Value} {x1 x2 x3 x5 x6:Operand} {k0 k1 k2 ep fr tg:Int} (ho:o.op=.build 32 #[(0,.const (.int .i64 1)),(1,x1),(2,x2),(3,x3),(5,x5),(6,x6)]) (hc:∀ v,ρ (.const v)=v) (h1:ρ x1=.agg #[.int .i64 k0,.int .i64 k1,.int .i64 k2]) (h2:ρ x2=.int .i64 ep) {A:Option Addr} {n c:Nat} (h3:ρ x3=.slice A n c) (h5:ρ x5=.int .i64 fr) (h6:ρ x6=.int .i64 tg) :
 (execOp ρ o).run Tryz.prog w=.ok (.value (.agg #[.int .i64 1,.int .i64 k0,.int .i64 k1,.int .i64 k2,.int .i64 ep,.slice A n c,.string ⟨#[]⟩,.int .i64 fr,.int .i64 tg])) w:=by
 obtain⟨dst,op,ty,pos,after,guard⟩:=o
 simp only at ho
 subst ho
 have h0:=hc (.int .i64 1)
 go_simp
set_option maxHeartbeats 2000000 in
theorem asend_1 (w:World) (p:AgP) (node:Nat) (now tag:Int) (asks:List (Int×Value)) (tr:List ((Int×Int×Int)×Value)) (n:Int) (bs:List UInt8) (k:Nat) (ep:Int) (sl:Value) (smp:List Dl) (l0:List Q.Ab) (k0:Int) (cu:Value) (s:ByteArray) (x c:Nat) (A:Option Addr) (D:Nat→Prop) (htag:0≤tag∧tag≤4611686018427387904) (tg:Int) (htg:tg=tag+1) (hc1:1≤c) (hc:c≤maxLen) (V:Nat→Prop) (hM:Many (agL p (BookT p.st p.z ep sl smp l0 k0 cu) node 1 now tag 0 asks tr n bs k) w V) (hV:∀ b,V b→b<w.heap.size) (hd:DIn w D A 1 [(s,x)]) (hDl:∀ b,D b→b<w.heap.size) (hDV:∀ b,D b→¬ V b) :
 Calls Tryz.prog 305 #[.pointer (some ⟨p.a,0,none⟩),.agg #[.int .i64 (node:Int),.int .i64 0,.int .i64 1],.agg #[.int .i64 0,.int .i64 0],.agg #[.int .i64 1,.slice A 1 c]] w fun e w'=>(∃ A2 c2,e=.returned (.agg (sentA 0 ⟨1,node,0,1,ep,[(s,x)],⟨#[]⟩,node,tg⟩ A2 c2))∧ElIn w' (fun b=>w.heap.size≤b∧b<w'.heap.size∧¬ V b) ⟨⟨1,node,0,1,ep,[(s,x)],⟨#[]⟩,node,tg⟩,A2,c2⟩)∧(∃ y,Many (agL p (BookT p.st p.z ep sl smp l0 k0 cu) node 1 now tg 0 (gput asks tg (.agg #[.int .i64 (node:Int),.int .i64 0,.int .i64 1])) (gput tr (node,0,1) (.agg #[.int .i64 1,.int .i64 y])) n bs k) w' (Ext V w w'))∧Just V w w':=by
 have k346:∀ (vs:Array Value) (w:World),(callFunc 346 vs).run Tryz.prog w=.ok (.enter 346 vs) w:=fun vs w=>by go_simp
 have k175:∀ (vs:Array Value) (w:World),(callFunc 175 vs).run Tryz.prog w=.ok (.enter 175 vs) w:=fun vs w=>by go_simp
 have HTG:=Lib.hid htg
 have htg2:0≤tg∧tg≤9223372036854775807:=by omega
 clear htg
 have hS0:=Solo.begin_ hM hV
 have hF0:=agL_framed p (BookT p.st p.z ep sl smp l0 k0 cu) (BookT.framed _ _ _ _ _ _ _ _) node 1 now tag 0 asks tr n bs k
 have g1:=grow_alloc w (.cells #[.int .i64 (node:Int),.int .i64 0,.int .i64 1] 26)
 have b1:=Blk.made w 26 #[.int .i64 (node:Int),.int .i64 0,.int .i64 1]
 obtain⟨y1,HY1⟩:∃ y:Nat,Hid (y=w.heap.size):=⟨_,rfl⟩
 have z1:(w.alloc (.cells #[.int .i64 (node:Int),.int .i64 0,.int .i64 1] 26)).heap.size=w.heap.size+1:=by simp
 obtain⟨wA,HA⟩:∃ w':World,Hid (w'=w.alloc (.cells #[.int .i64 (node:Int),.int .i64 0,.int .i64 1] 26)):=⟨_,rfl⟩
 rw[←HA.out] at g1 b1 z1
 rw[←HY1.out] at b1 z1
 have g2:=grow_alloc wA (.cells #[.int .i64 0,.int .i64 0] 378)
 have b2:=Blk.made wA 378 #[.int .i64 0,.int .i64 0]
 have z2:(wA.alloc (.cells #[.int .i64 0,.int .i64 0] 378)).heap.size=wA.heap.size+1:=by simp
 obtain⟨y2,HY2⟩:∃ y:Nat,Hid (y=wA.heap.size):=⟨_,rfl⟩
 obtain⟨wB,HB⟩:∃ w':World,Hid (w'=wA.alloc (.cells #[.int .i64 0,.int .i64 0] 378)):=⟨_,rfl⟩
 rw[←HB.out] at g2 b2 z2
 rw[←HY2.out] at b2 z2
 have g3:=grow_alloc wB (.cells #[.int .i64 1,.slice A 1 c] 159)
 have b3:=Blk.made wB 159 #[.int .i64 1,.slice A 1 c]
 obtain⟨y3,HY3⟩:∃ y:Nat,Hid (y=wB.heap.size):=⟨_,rfl⟩
 obtain⟨wC,HC⟩:∃ w':World,Hid (w'=wB.alloc (.cells #[.int .i64 1,.slice A 1 c] 159)):=⟨_,rfl⟩
 rw[←HC.out] at g3 b3
 rw[←HY3.out] at b3
 have e2:y2=y1+1:=by rw[HY2.out,z1]
 have e3:y3=y1+1+1:=by rw[HY3.out,z2,e2]
 have hS1:=hS0.join hF0 g1 (R:=Cell y1 26 #[.int .i64 (node:Int),.int .i64 0,.int .i64 1]) (U:=fun b=>b=y1) ⟨rfl,b1⟩ (fun b hb=>by have:=HY1.out;have:=b1.lt;omega)
 have hS2:=hS1.join (hF0.cons (Cell.framed _ _ _)) g2 (R:=Cell y2 378 #[.int .i64 0,.int .i64 0]) (U:=fun b=>b=y2) ⟨rfl,b2⟩ (fun b hb=>by have:=HY2.out;have:=b2.lt;omega)
 have hS3:=hS2.join ((hF0.cons (Cell.framed _ _ _)).cons (Cell.framed _ _ _)) g3 (R:=Cell y3 159 #[.int .i64 1,.slice A 1 c]) (U:=fun b=>b=y3) ⟨rfl,b3⟩ (fun b hb=>by have:=HY3.out;have:=b3.lt;omega)
 go_enter Tryz.func305,Tryz.ntmps305
 go_wp2_with (refine wpList_new rfl (run_alcS _ _ _ rfl) ?_;intro y4 wD b4 g4 hy4 hz4;refine stay ?_)
 refine stay_out ?_
 rw[←HA.out,←HB.out,←HC.out] at g4 hy4
 rw[←HY1.out,←e3,←e2]
 have hS4:=hS3.join (((hF0.cons (Cell.framed _ _ _)).cons (Cell.framed _ _ _)).cons (Cell.framed _ _ _)) g4 (R:=Cell y4 270 #[.int .i64 0,.int .i64 0,.int .i64 0,.int .i64 0,.int .i64 0,.int .i64 0,.int .i64 0,.slice none 0 0,.string ⟨#[]⟩,.int .i64 0,.int .i64 0,.int .i64 0,.int .i64 0,.int .u64 0,.int .i64 0,.int .i64 0,.slice none 0 0,.int .i64 0,.int .i64 0]) (U:=fun b=>b=y4) ⟨rfl,b4⟩ (fun b hb=>by omega)
 have gD:Grow w wD:=((g1.trans g2).trans g3).trans g4
 have J4:=Just.of_grow (V:=Lic V w) gD
 clear e2 e3 hS1 hS2 hS3 g1 g2 g3 g4 b1 b2 b3 b4 z1 z2 hy4 hz4 HA HB HC HY1 HY2 HY3
 have hS5:Solo (Lic V w) (Many (Many (agL p (BookT p.st p.z ep sl smp l0 k0 cu) node 1 now tag 0 asks tr n bs k) :: [Cell y4 270 #[.int .i64 0,.int .i64 0,.int .i64 0,.int .i64 0,.int .i64 0,.int .i64 0,.int .i64 0,.slice none 0 0,.string ⟨#[]⟩,.int .i64 0,.int .i64 0,.int .i64 0,.int .i64 0,.int .u64 0,.int .i64 0,.int .i64 0,.slice none 0 0,.int .i64 0,.int .i64 0],Cell y3 159 #[.int .i64 1,.slice A 1 c],Cell y2 378 #[.int .i64 0,.int .i64 0],Cell y1 26 #[.int .i64 (node:Int),.int .i64 0,.int .i64 1]])) wD:=Solo.unflat (hS4.perm (List.perm_append_comm (l₁:=[Cell y4 270 #[.int .i64 0,.int .i64 0,.int .i64 0,.int .i64 0,.int .i64 0,.int .i64 0,.int .i64 0,.slice none 0 0,.string ⟨#[]⟩,.int .i64 0,.int .i64 0,.int .i64 0,.int .i64 0,.int .u64 0,.int .i64 0,.int .i64 0,.slice none 0 0,.int .i64 0,.int .i64 0],Cell y3 159 #[.int .i64 1,.slice A 1 c],Cell y2 378 #[.int .i64 0,.int .i64 0],Cell y1 26 #[.int .i64 (node:Int),.int .i64 0,.int .i64 1]])))
 have hFy:=(((AllFramed.nil.cons (Cell.framed y1 26 #[.int .i64 (node:Int),.int .i64 0,.int .i64 1])).cons (Cell.framed y2 378 #[.int .i64 0,.int .i64 0])).cons (Cell.framed y3 159 #[.int .i64 1,.slice A 1 c])).cons (Cell.framed y4 270 #[.int .i64 0,.int .i64 0,.int .i64 0,.int .i64 0,.int .i64 0,.int .i64 0,.int .i64 0,.slice none 0 0,.string ⟨#[]⟩,.int .i64 0,.int .i64 0,.int .i64 0,.int .i64 0,.int .u64 0,.int .i64 0,.int .i64 0,.slice none 0 0,.int .i64 0,.int .i64 0])
 have hI4:=(hS5.blk 4 rfl)
 have c0:=hI4.cell 0
 have c1:=hI4.cell 1
 have c2:=hI4.cell 2
 have hN:=hS5.at_ 0 rfl (hFy.cons (Many.framed _ hF0)) fun U hU hUl=>anext_any wD p node 1 now tag 0 asks tr n bs k (BookT p.st p.z ep sl smp l0 k0 cu) (BookT.framed _ _ _ _ _ _ _ _) node 0 1 htag U hU hUl
 go_wp2_with fail
 clear c0 c1 c2 hI4
 refine hN.mono ?_
 rintro en w1 ⟨rfl,hj1,hS6⟩
 rw[←HTG.out] at hS6 ⊢
 have hS6:Solo (Lic V w) (Many ((bookL p.st p.z ep sl smp l0 k0 cu++[Cell p.a 143 (agC p node 1 now tg 0),GMap keI p.bK (gput asks tg (.agg #[.int .i64 (node:Int),.int .i64 0,.int .i64 1])),GMap keD p.bT tr,LogAt p.x p.d n bs k])++[Cell y4 270 #[.int .i64 0,.int .i64 0,.int .i64 0,.int .i64 0,.int .i64 0,.int .i64 0,.int .i64 0,.slice none 0 0,.string ⟨#[]⟩,.int .i64 0,.int .i64 0,.int .i64 0,.int .i64 0,.int .u64 0,.int .i64 0,.int .i64 0,.slice none 0 0,.int .i64 0,.int .i64 0],Cell y3 159 #[.int .i64 1,.slice A 1 c],Cell y2 378 #[.int .i64 0,.int .i64 0],Cell y1 26 #[.int .i64 (node:Int),.int .i64 0,.int .i64 1]])) w1:=Solo.flat (l:=bookL p.st p.z ep sl smp l0 k0 cu) (Solo.flat hS6)
 have hF6:=allFramed_app (allFramed_app (bookL_framed p.st p.z ep sl smp l0 k0 cu) (agL_framed p Emp Emp.framed node 1 now tg 0 (gput asks tg (.agg #[.int .i64 (node:Int),.int .i64 0,.int .i64 1])) tr n bs k).tail) hFy
 have J6:=J4.trans hj1
 have ha6:=hS6.blk 6 rfl
 have hst6:=hS6.blk 0 rfl
 have hy6:=hS6.blk 13 rfl
 have hb6:=hS6.blk 11 rfl
 unfold agC at ha6
 unfold bkC at hst6
 go_wp2_with fail
 refine wp_region_flow 17 65 [(16,.inr (fun _=>IsBlk w1.heap.size 32 #[.int .i64 0,.int .i64 0,.int .i64 0,.int .i64 0,.int .i64 0,.slice none 0 0,.string ⟨#[]⟩,.int .i64 0,.int .i64 0]))] rfl rfl (by kernel_rfl) (by kernel_rfl) (by kernel_rfl) ?_ ?_
 ·intro x hx φ he
  simp only[List.mem_cons,List.not_mem_nil,or_false] at hx
  rcases hx with rfl<;>cases he
  all_goals first|exact lasts_quiet (lasting_bytes _)|exact lasts_quiet (isBlk_lasting _ _ _)
 intro ops' A' K' T hops hA' hK hT
 refine fl_op1N 14 (.tmp 5) (.pointer (some ⟨y1,0,none⟩)) (.agg #[.int .i64 (node:Int),.int .i64 0,.int .i64 1]) (fun ρ h1 kk w2 (hg2:Grow _ w2) hb hf=>by have c0:=(hy6.grow hg2).cell 0;have c1:=(hy6.grow hg2).cell 1;have c2:=(hy6.grow hg2).cell 2;go_simp) ?_
 refine fl_mvN 15 (.pointer (some ⟨p.a,0,none⟩)) ?_
 refine fl_op1N 16 (.tmp 15) (.pointer (some ⟨p.a,0,none⟩)) (.pointer (some ⟨p.a,0,none⟩)) (fun ρ h1 kk w2 (hg2:Grow _ w2) hb hf=>by go_simp) ?_
 refine fl_op1N 17 (.tmp 16) (.pointer (some ⟨p.a,0,none⟩)) (.pointer (some ⟨p.a,3,none⟩)) (fun ρ h1 kk w2 (hg2:Grow _ w2) hb hf=>by go_simp) ?_
 refine fl_op1N 18 (.tmp 17) (.pointer (some ⟨p.a,3,none⟩)) (.pointer (some ⟨p.st,0,none⟩)) (fun ρ h1 kk w2 (hg2:Grow _ w2) hb hf=>by have c:=(ha6.grow hg2).cell 3;go_simp) ?_
 refine fl_op1N 19 (.tmp 18) (.pointer (some ⟨p.st,0,none⟩)) (.pointer (some ⟨p.st,0,none⟩)) (fun ρ h1 kk w2 (hg2:Grow _ w2) hb hf=>by go_simp) ?_
 refine fl_op1N 20 (.tmp 19) (.pointer (some ⟨p.st,0,none⟩)) (.pointer (some ⟨p.st,0,none⟩)) (fun ρ h1 kk w2 (hg2:Grow _ w2) hb hf=>by go_simp) ?_
 refine fl_op1N 21 (.tmp 20) (.pointer (some ⟨p.st,0,none⟩)) (.int .i64 ep) (fun ρ h1 kk w2 (hg2:Grow _ w2) hb hf=>by have c:=(hst6.grow hg2).cell 0;go_simp) ?_
 refine fl_op1N 22 (.tmp 7) (.pointer (some ⟨y3,0,none⟩)) (.pointer (some ⟨y3,1,none⟩)) (fun ρ h1 kk w2 (hg2:Grow _ w2) hb hf=>by go_simp) ?_
 refine fl_op1N 23 (.tmp 22) (.pointer (some ⟨y3,1,none⟩)) (.slice A 1 c) (fun ρ h1 kk w2 (hg2:Grow _ w2) hb hf=>by have c:=(hb6.grow hg2).cell 1;go_simp) ?_
 refine fl_mvN 24 (.pointer (some ⟨p.a,0,none⟩)) ?_
 refine fl_op1N 25 (.tmp 24) (.pointer (some ⟨p.a,0,none⟩)) (.pointer (some ⟨p.a,0,none⟩)) (fun ρ h1 kk w2 (hg2:Grow _ w2) hb hf=>by go_simp) ?_
 refine fl_op1N 26 (.tmp 25) (.pointer (some ⟨p.a,0,none⟩)) (.pointer (some ⟨p.a,0,none⟩)) (fun ρ h1 kk w2 (hg2:Grow _ w2) hb hf=>by go_simp) ?_
 refine fl_op1N 27 (.tmp 26) (.pointer (some ⟨p.a,0,none⟩)) (.int .i64 (node:Int)) (fun ρ h1 kk w2 (hg2:Grow _ w2) hb hf=>by have c:=(ha6.grow hg2).cell 0;go_simp) ?_
 refine fl_mvN 28 (.int .i64 tg) ?_
 refine fl_det 29 (by rfl) (by decide) (wanted_none (by rfl)) (by rw[hK.out];rfl) (by rfl) (.agg #[.int .i64 1,.int .i64 (node:Int),.int .i64 0,.int .i64 1,.int .i64 ep,.slice A 1 c,.string ⟨#[]⟩,.int .i64 (node:Int),.int .i64 tg]) (fun kk w2 (hg2:Grow _ w2) hb hf=>by exact ent_built rfl (fun v=>rfl) rfl rfl rfl rfl rfl) ?_
 refine fl_any 10 (by rfl) (by decide) (wanted_none (by rfl)) (fun _=>IsBlk w1.heap.size 32 #[.int .i64 0,.int .i64 0,.int .i64 0,.int .i64 0,.int .i64 0,.slice none 0 0,.string ⟨#[]⟩,.int .i64 0,.int .i64 0]) (by rw[hK.out];rfl) (fun kk w2 (hg2:Grow _ w2) hb hf=>by refine upon_behindAny (φ:=fun _=>IsBlk w1.heap.size 32 #[.int .i64 0,.int .i64 0,.int .i64 0,.int .i64 0,.int .i64 0,.slice none 0 0,.string ⟨#[]⟩,.int .i64 0,.int .i64 0]) (by rfl) ?_;exact flowUpon_value (run_alcE w2 _ _ rfl) ⟨grow_alloc w2 _,_,rfl,Blk.made w2 _ _,hg2.size⟩) (fun v10=>?_)
 refine fl_end (fun _ _ w2 (hg2:Grow _ w2) _ hfacts=>hT _ _ ?_)
 clear hops hA' hK hT
 simp only[putsL,Act.put,List.setIfInBounds_toArray,List.set_cons_zero,List.set_cons_succ,List.drop_succ_cons,List.drop_zero]
 obtain⟨y5,rfl,hY0,hy0⟩:IsBlk w1.heap.size 32 #[.int .i64 0,.int .i64 0,.int .i64 0,.int .i64 0,.int .i64 0,.slice none 0 0,.string ⟨#[]⟩,.int .i64 0,.int .i64 0] v10 w2:=hfacts.1
 clear hfacts
 go_wp2_with (refine wpList_fill rfl 32 _ _ rfl _ rfl [.int .i64 1,.int .i64 (node:Int),.int .i64 0,.int .i64 1,.int .i64 ep,.slice A 1 c,.string ⟨#[]⟩,.int .i64 (node:Int),.int .i64 tg] rfl hY0 rfl rfl (by kernel_rfl) ?_;intro w3 hY3 hjb hsb;refine stay ?_)
 refine stay_out ?_
 have hg3:Grow w1 w3:=Below.trans hg2 (hjb.below (B:=w1.heap.size) (fun b hb=>by rw[hb];exact hy0) hg2.size)
 have hS7:=hS6.join hF6 hg3 (R:=Cell y5 32 #[.int .i64 1,.int .i64 (node:Int),.int .i64 0,.int .i64 1,.int .i64 ep,.slice A 1 c,.string ⟨#[]⟩,.int .i64 (node:Int),.int .i64 tg]) (U:=fun b=>b=y5) ⟨rfl,hY3⟩ (fun b hb=>by rw[hb];exact⟨hy0,hY3.lt⟩)
 have hF7:=hF6.cons (Cell.framed y5 32 #[.int .i64 1,.int .i64 (node:Int),.int .i64 0,.int .i64 1,.int .i64 ep,.slice A 1 c,.string ⟨#[]⟩,.int .i64 (node:Int),.int .i64 tg])
 have J7:=J6.trans (Just.of_grow hg3)
 clear ha6 hst6 hy6 hb6 hY0
 have ha7:=hS7.blk 7 rfl
 have hy7:=hS7.blk 14 rfl
 have ht7:=hS7.blk 13 rfl
 unfold agC at ha7
 have hwu:IntKind.u64.wrap tg=tg:=by rw[wrap_u64];omega
 go_wp2_with fail
 refine wp_region_flow 19 65 [(16,.inr (fun _=>IsI64)),(17,.inr (fun _=>IsI64)),(18,.inr (fun _=>IsTry))] rfl rfl (by kernel_rfl) (by kernel_rfl) (by kernel_rfl) ?_ ?_
 ·intro x hx φ he
  simp only[List.mem_cons,List.not_mem_nil,or_false] at hx
  rcases hx with rfl|rfl|rfl<;>cases he
  all_goals first|exact lasts_quiet (lasting_bytes _)|first|exact lasts_quiet isI64_lasting|exact lasts_quiet isTry_lasting
 intro ops' A' K' T hops hA' hK hT
 refine fl_mvN 30 (.pointer (some ⟨p.a,0,none⟩)) ?_
 refine fl_op1N 31 (.tmp 30) (.pointer (some ⟨p.a,0,none⟩)) (.pointer (some ⟨p.a,0,none⟩)) (fun ρ h1 kk w4 (hg4:Grow _ w4) hb hf=>by go_simp) ?_
 refine fl_op1N 32 (.tmp 31) (.pointer (some ⟨p.a,0,none⟩)) (.pointer (some ⟨p.a,7,none⟩)) (fun ρ h1 kk w4 (hg4:Grow _ w4) hb hf=>by go_simp) ?_
 refine fl_op1N 33 (.tmp 32) (.pointer (some ⟨p.a,7,none⟩)) (.map (some p.bT)) (fun ρ h1 kk w4 (hg4:Grow _ w4) hb hf=>by have c:=(ha7.grow hg4).cell 7;go_simp) ?_
 refine fl_op1N 34 (.tmp 5) (.pointer (some ⟨y1,0,none⟩)) (.agg #[.int .i64 (node:Int),.int .i64 0,.int .i64 1]) (fun ρ h1 kk w4 (hg4:Grow _ w4) hb hf=>by have c0:=(hy7.grow hg4).cell 0;have c1:=(hy7.grow hg4).cell 1;have c2:=(hy7.grow hg4).cell 2;go_simp) ?_
 refine fl_op1N 35 (.tmp 6) (.pointer (some ⟨y2,0,none⟩)) (.pointer (some ⟨y2,0,none⟩)) (fun ρ h1 kk w4 (hg4:Grow _ w4) hb hf=>by go_simp) ?_
 refine fl_op1N 36 (.tmp 35) (.pointer (some ⟨y2,0,none⟩)) (.int .i64 0) (fun ρ h1 kk w4 (hg4:Grow _ w4) hb hf=>by have c:=(ht7.grow hg4).cell 0;go_simp) ?_
 refine fl_op2N 37 (.tmp 36) (.const (.int .i64 1)) (.int .i64 0) (.int .i64 1) (.int .i64 1) (fun ρ h1 h2 kk w4 (hg4:Grow _ w4) hb hf=>by go_simp;try rfl) ?_
 refine fl_mvN 38 (.pointer (some ⟨p.a,0,none⟩)) ?_
 refine fl_op1N 39 (.tmp 38) (.pointer (some ⟨p.a,0,none⟩)) (.pointer (some ⟨p.a,0,none⟩)) (fun ρ h1 kk w4 (hg4:Grow _ w4) hb hf=>by go_simp) ?_
 refine fl_op1N 40 (.tmp 39) (.pointer (some ⟨p.a,0,none⟩)) (.pointer (some ⟨p.a,4,none⟩)) (fun ρ h1 kk w4 (hg4:Grow _ w4) hb hf=>by go_simp) ?_
 refine fl_op1N 41 (.tmp 40) (.pointer (some ⟨p.a,4,none⟩)) (.int .i64 now) (fun ρ h1 kk w4 (hg4:Grow _ w4) hb hf=>by have c:=(ha7.grow hg4).cell 4;go_simp) ?_
 refine fl_mvN 42 (.int .i64 tg) ?_
 refine fl_op1N 43 (.tmp 42) (.int .i64 tg) (.int .u64 tg) (fun ρ h1 kk w4 (hg4:Grow _ w4) hb hf=>by go_simp;try rfl) ?_
 refine fl_op1N 44 (.tmp 6) (.pointer (some ⟨y2,0,none⟩)) (.pointer (some ⟨y2,0,none⟩)) (fun ρ h1 kk w4 (hg4:Grow _ w4) hb hf=>by go_simp) ?_
 refine fl_op1N 45 (.tmp 44) (.pointer (some ⟨y2,0,none⟩)) (.int .i64 0) (fun ρ h1 kk w4 (hg4:Grow _ w4) hb hf=>by have c:=(ht7.grow hg4).cell 0;go_simp) ?_
 refine fl_callAny 46 (by rfl) (by decide) (wanted_none (by rfl)) (fun _=>IsI64) (by rw[hK.out];rfl) 346 _ _ (by rfl) [.int .u64 tg,.int .i64 0,.int .i64 4,.int .i64 32] (by rfl) k346 (fun kk w4 (hg4:Grow _ w4) hb hf=>calls_behindAny (φ:=fun _=>IsI64) (by rfl) (by exact wait_is w4 tg)) (fun v46=>?_)
 refine fl_any2 47 (by rfl) (by decide) (wanted_none (by rfl)) (fun _=>IsI64) (by rw[hK.out];rfl) (.tmp 41) (.tmp 46) (.int .i64 now) (v46) (by rfl) (by rfl) (fun ρ h1 h2 kk w4 (hg4:Grow _ w4) hb hf=>by refine upon_behindAny (φ:=fun _=>IsI64) (by rfl) ?_;exact add_made rfl h1 h2 (facts_take hf (by rw[hA'.out];kernel_rfl))) (fun v47=>?_)
 refine fl_any 48 (by rfl) (by decide) (wanted_none (by rfl)) (fun _=>IsTry) (by rw[hK.out];rfl) (fun kk w4 (hg4:Grow _ w4) hb hf=>by refine upon_behindAny (φ:=fun _=>IsTry) (by rfl) ?_;exact try_built rfl rfl rfl (facts_take hf (by rw[hA'.out];kernel_rfl))) (fun v48=>?_)
 refine fl_end (fun _ _ w4 (hg4:Grow _ w4) _ hfacts=>hT _ _ ?_)
 clear hops hA' hK hT
 simp only[putsL,Act.put,List.setIfInBounds_toArray,List.set_cons_zero,List.set_cons_succ,List.drop_succ_cons,List.drop_zero]
 obtain⟨yw,rfl⟩:IsTry v48 w4:=hfacts.1
 clear hfacts
 have hS8:=hS7.grows hF7 hg4
 obtain⟨w5,hrun,hS9,hj5⟩:=hS8.put_ (φ:=fun w'=>(Instr.mapUpdate 140 (.map (some p.bT)) (.agg #[.int .i64 (node:Int),.int .i64 0,.int .i64 1]) (.agg #[.int .i64 1,.int .i64 yw])).run Tryz.prog w4=.ok () w') 9 rfl hF7 (fun U hU hUl=>by
  obtain⟨w',h1,h2,h3⟩:=GMap.put keyD (t:=140) (et:=378) (by kernel_rfl) hU ((node:Int),0,1) (.agg #[.int .i64 1,.int .i64 yw])
  exact⟨w',h1,h2,h3.imp fun b hb=>hb▸hU.1⟩)
 have hS9:Solo (Lic V w) (Many (Cell y5 32 #[.int .i64 1,.int .i64 (node:Int),.int .i64 0,.int .i64 1,.int .i64 ep,.slice A 1 c,.string ⟨#[]⟩,.int .i64 (node:Int),.int .i64 tg] :: ((bookL p.st p.z ep sl smp l0 k0 cu++[Cell p.a 143 (agC p node 1 now tg 0),GMap keI p.bK (gput asks tg (.agg #[.int .i64 (node:Int),.int .i64 0,.int .i64 1])),GMap keD p.bT (gput tr ((node:Int),0,1) (.agg #[.int .i64 1,.int .i64 yw])),LogAt p.x p.d n bs k])++[Cell y4 270 #[.int .i64 0,.int .i64 0,.int .i64 0,.int .i64 0,.int .i64 0,.int .i64 0,.int .i64 0,.slice none 0 0,.string ⟨#[]⟩,.int .i64 0,.int .i64 0,.int .i64 0,.int .i64 0,.int .u64 0,.int .i64 0,.int .i64 0,.slice none 0 0,.int .i64 0,.int .i64 0],Cell y3 159 #[.int .i64 1,.slice A 1 c],Cell y2 378 #[.int .i64 0,.int .i64 0],Cell y1 26 #[.int .i64 (node:Int),.int .i64 0,.int .i64 1]]))) w5:=hS9
 have hF9:=(allFramed_app (allFramed_app (bookL_framed p.st p.z ep sl smp l0 k0 cu) (agL_framed p Emp Emp.framed node 1 now tg 0 (gput asks tg (.agg #[.int .i64 (node:Int),.int .i64 0,.int .i64 1])) (gput tr ((node:Int),0,1) (.agg #[.int .i64 1,.int .i64 yw])) n bs k).tail) hFy).cons (Cell.framed y5 32 #[.int .i64 1,.int .i64 (node:Int),.int .i64 0,.int .i64 1,.int .i64 ep,.slice A 1 c,.string ⟨#[]⟩,.int .i64 (node:Int),.int .i64 tg])
 have J9:Just (Lic V w) w w5:=(J7.trans (Just.of_grow hg4)).trans hj5
 clear ha7 hy7 ht7
 have ha9:=hS9.blk 7 rfl
 have ht9:=hS9.blk 13 rfl
 have he9:=hS9.blk 0 rfl
 unfold agC at ha9
 have hww:=J9.size
 have hd9:DIn w5 D A 1 [(s,x)]:=In.just hd J9 fun b hb hl=>hl.elim (hDV b hb) (fun h=>by have:=hDl b hb;omega)
 have hEl:∀ w1,Grow w5 w1→ElIn w1 D ⟨⟨1,node,0,1,ep,[(s,x)],⟨#[]⟩,node,tg⟩,A,c⟩:=fun w1 hg=>⟨In.grow hd9 hg,hc1,hc,by show 1≤1048576;decide⟩
 go_wp2_with fail
 clear hrun
 refine wp_region_flow 16 65 [(13,.inr (fun _=>EntNew w5.heap.size ⟨1,node,0,1,ep,[(s,x)],⟨#[]⟩,node,tg⟩)),(14,.inr (fun _=>AskNew w5.heap.size ⟨1,node,0,1,ep,[(s,x)],⟨#[]⟩,node,tg⟩)),(15,.inr (fun _=>SentNew w5.heap.size 0 ⟨1,node,0,1,ep,[(s,x)],⟨#[]⟩,node,tg⟩))] rfl rfl (by kernel_rfl) (by kernel_rfl) (by kernel_rfl) ?_ ?_
 ·intro x hx φ he
  simp only[List.mem_cons,List.not_mem_nil,or_false] at hx
  rcases hx with rfl|rfl|rfl<;>cases he
  all_goals first|exact lasts_quiet (lasting_bytes _)|first|exact lasts_quiet (entNew_lasting _ _)|exact lasts_quiet (askNew_lasting _ _)|exact lasts_quiet (sentNew_lasting _ _ _)
 intro ops' A' K' T hops hA' hK hT
 refine fl_mvN 49 (.pointer (some ⟨p.a,0,none⟩)) ?_
 refine fl_op1N 50 (.tmp 49) (.pointer (some ⟨p.a,0,none⟩)) (.pointer (some ⟨p.a,0,none⟩)) (fun ρ h1 kk w6 (hg6:Grow _ w6) hb hf=>by go_simp) ?_
 refine fl_op1N 51 (.tmp 50) (.pointer (some ⟨p.a,0,none⟩)) (.pointer (some ⟨p.a,6,none⟩)) (fun ρ h1 kk w6 (hg6:Grow _ w6) hb hf=>by go_simp) ?_
 refine fl_op1N 52 (.tmp 51) (.pointer (some ⟨p.a,6,none⟩)) (.int .i64 0) (fun ρ h1 kk w6 (hg6:Grow _ w6) hb hf=>by have c:=(ha9.grow hg6).cell 6;go_simp) ?_
 refine fl_op1N 53 (.tmp 6) (.pointer (some ⟨y2,0,none⟩)) (.pointer (some ⟨y2,0,none⟩)) (fun ρ h1 kk w6 (hg6:Grow _ w6) hb hf=>by go_simp) ?_
 refine fl_op1N 54 (.tmp 53) (.pointer (some ⟨y2,0,none⟩)) (.int .i64 0) (fun ρ h1 kk w6 (hg6:Grow _ w6) hb hf=>by have c:=(ht9.grow hg6).cell 0;go_simp) ?_
 refine fl_op2N 55 (.tmp 52) (.tmp 54) (.int .i64 0) (.int .i64 0) (.int .i64 0) (fun ρ h1 h2 kk w6 (hg6:Grow _ w6) hb hf=>by go_simp;try rfl) ?_
 refine fl_mvN 56 (.pointer (some ⟨p.a,0,none⟩)) ?_
 refine fl_op1N 57 (.tmp 56) (.pointer (some ⟨p.a,0,none⟩)) (.pointer (some ⟨p.a,0,none⟩)) (fun ρ h1 kk w6 (hg6:Grow _ w6) hb hf=>by go_simp) ?_
 refine fl_op1N 58 (.tmp 57) (.pointer (some ⟨p.a,0,none⟩)) (.pointer (some ⟨p.a,1,none⟩)) (fun ρ h1 kk w6 (hg6:Grow _ w6) hb hf=>by go_simp) ?_
 refine fl_op1N 59 (.tmp 58) (.pointer (some ⟨p.a,1,none⟩)) (.int .i64 1) (fun ρ h1 kk w6 (hg6:Grow _ w6) hb hf=>by have c:=(ha9.grow hg6).cell 1;go_simp) ?_
 refine fl_op2N 60 (.tmp 55) (.tmp 59) (.int .i64 0) (.int .i64 1) (.int .i64 0) (fun ρ h1 h2 kk w6 (hg6:Grow _ w6) hb hf=>by go_simp) ?_
 refine fl_op1N 61 (.tmp 10) (.pointer (some ⟨y5,0,none⟩)) (.agg #[.int .i64 1,.int .i64 (node:Int),.int .i64 0,.int .i64 1,.int .i64 ep,.slice A 1 c,.string ⟨#[]⟩,.int .i64 (node:Int),.int .i64 tg]) (fun ρ h1 kk w6 (hg6:Grow _ w6) hb hf=>by have c0:=(he9.grow hg6).cell 0;have c1:=(he9.grow hg6).cell 1;have c2:=(he9.grow hg6).cell 2;have c3:=(he9.grow hg6).cell 3;have c4:=(he9.grow hg6).cell 4;have c5:=(he9.grow hg6).cell 5;have c6:=(he9.grow hg6).cell 6;have c7:=(he9.grow hg6).cell 7;have c8:=(he9.grow hg6).cell 8;go_simp) ?_
 refine fl_callAny 62 (by rfl) (by decide) (wanted_none (by rfl)) (fun _=>EntNew w5.heap.size ⟨1,node,0,1,ep,[(s,x)],⟨#[]⟩,node,tg⟩) (by rw[hK.out];rfl) 175 _ _ (by rfl) [.agg #[.int .i64 1,.int .i64 (node:Int),.int .i64 0,.int .i64 1,.int .i64 ep,.slice A 1 c,.string ⟨#[]⟩,.int .i64 (node:Int),.int .i64 tg]] (by rfl) k175 (fun kk w6 (hg6:Grow _ w6) hb hf=>calls_behindAny (φ:=fun _=>EntNew w5.heap.size ⟨1,node,0,1,ep,[(s,x)],⟨#[]⟩,node,tg⟩) (by rfl) (by exact copy_new w5.heap.size w6 D ⟨⟨1,node,0,1,ep,[(s,x)],⟨#[]⟩,node,tg⟩,A,c⟩ (hEl w6 hg6) hg6.size)) (fun v62=>?_)
 refine fl_any 63 (by rfl) (by decide) (wanted_none (by rfl)) (fun _=>AskNew w5.heap.size ⟨1,node,0,1,ep,[(s,x)],⟨#[]⟩,node,tg⟩) (by rw[hK.out];rfl) (fun kk w6 (hg6:Grow _ w6) hb hf=>by refine upon_behindAny (φ:=fun _=>AskNew w5.heap.size ⟨1,node,0,1,ep,[(s,x)],⟨#[]⟩,node,tg⟩) (by rfl) ?_;exact ask_built rfl (fun v=>rfl) rfl (facts_take hf (by rw[hA'.out];kernel_rfl))) (fun v63=>?_)
 refine fl_any 64 (by rfl) (by decide) (wanted_none (by rfl)) (fun _=>SentNew w5.heap.size 0 ⟨1,node,0,1,ep,[(s,x)],⟨#[]⟩,node,tg⟩) (by rw[hK.out];rfl) (fun kk w6 (hg6:Grow _ w6) hb hf=>by refine upon_behindAny (φ:=fun _=>SentNew w5.heap.size 0 ⟨1,node,0,1,ep,[(s,x)],⟨#[]⟩,node,tg⟩) (by rfl) ?_;exact sent_built rfl rfl rfl (facts_take hf (by rw[hA'.out];kernel_rfl))) (fun v64=>?_)
 refine fl_end (fun _ _ w6 (hg6:Grow _ w6) _ hfacts=>hT _ _ ?_)
 clear hops hA' hK hT
 simp only[putsL,Act.put,List.setIfInBounds_toArray,List.set_cons_zero,List.set_cons_succ,List.drop_succ_cons,List.drop_zero]
 obtain⟨A6,c6,rfl,hEl6⟩:SentNew w5.heap.size 0 ⟨1,node,0,1,ep,[(s,x)],⟨#[]⟩,node,tg⟩ v64 w6:=hfacts.1
 clear hfacts hEl
 have hSx:=hS9.grows hF9 hg6
 have Jx:=J9.trans (Just.of_grow hg6)
 have hy4:=hSx.blk 11 rfl
 have hP4:=hSx.lics 11 rfl
 unfold sentA
 go_wp2_with (refine wpList_fill rfl 270 _ _ rfl _ rfl [.int .i64 0,.int .i64 1,.int .i64 1,.int .i64 (node:Int),.int .i64 0,.int .i64 1,.int .i64 ep,.slice A6 1 c6,.string ⟨#[]⟩,.int .i64 (node:Int),.int .i64 tg,.int .i64 0,.int .i64 0,.int .u64 0,.int .i64 0,.int .i64 0,.slice none 0 0,.int .i64 0,.int .i64 0] rfl hy4 rfl rfl (by kernel_rfl) ?_;intro w7 hY7 hj7 hs7;refine stay ?_)
 refine stay_out ?_
 have hSy:=hSx.turned 11 rfl hF9 hj7 hY7
 have Jy:=Jx.trans (hj7.imp fun b hb=>by rw[hb];exact hP4.1)
 go_wp2_with fail
 refine bodyPost_ret (results_blk rfl _ y4 rfl hY7 Tryz.underlying270 (by kernel_rfl)) rfl ?_
 have hSz:Solo (Lic V w) (Many (((bookL p.st p.z ep sl smp l0 k0 cu++[Cell p.a 143 (agC p node 1 now tg 0),GMap keI p.bK (gput asks tg (.agg #[.int .i64 (node:Int),.int .i64 0,.int .i64 1])),GMap keD p.bT (gput tr ((node:Int),0,1) (.agg #[.int .i64 1,.int .i64 yw])),LogAt p.x p.d n bs k])++[Cell y4 270 #[.int .i64 0,.int .i64 1,.int .i64 1,.int .i64 (node:Int),.int .i64 0,.int .i64 1,.int .i64 ep,.slice A6 1 c6,.string ⟨#[]⟩,.int .i64 (node:Int),.int .i64 tg,.int .i64 0,.int .i64 0,.int .u64 0,.int .i64 0,.int .i64 0,.slice none 0 0,.int .i64 0,.int .i64 0],Cell y3 159 #[.int .i64 1,.slice A 1 c],Cell y2 378 #[.int .i64 0,.int .i64 0],Cell y1 26 #[.int .i64 (node:Int),.int .i64 0,.int .i64 1]]))) w7:=hSy.drop1
 have hSf:Solo (Lic V w) (Many (agL p (BookT p.st p.z ep sl smp l0 k0 cu) node 1 now tg 0 (gput asks tg (.agg #[.int .i64 (node:Int),.int .i64 0,.int .i64 1])) (gput tr ((node:Int),0,1) (.agg #[.int .i64 1,.int .i64 yw])) n bs k)) w7:=Solo.unflat (l:=bookL p.st p.z ep sl smp l0 k0 cu) (((Solo.perm (List.perm_append_comm) hSz).drop1.drop1.drop1.drop1))
 obtain⟨r1,r2⟩:=Solo.done hSf Jy hV
 have hsx:=Jx.size
 have hs7':=hj7.size
 refine⟨⟨A6,c6,rfl,?_⟩,⟨yw,r1⟩,r2⟩
 exact⟨In.mono (In.just hEl6.1 hj7 fun b hb e=>by rw[e] at hb;have:=hb.1;have:=(hS9.lics 11 rfl).2;omega) fun b hb=>⟨by have:=hb.1;omega,by have:=hb.2;omega,fun h=>by have:=hV b h;have:=hb.1;omega⟩,hEl6.2⟩
end Go.Proofs.YtmijcbfgfkeodaaGreatDoor
end
