/- Wd5, Wd6. -/
import Derived.Test.YtmijcbfgfkeodaaGreatDoorGz29
set_option linter.all false
set_option maxRecDepth 100000
section
namespace Go.Proofs.YtmijcbfgfkeodaaGreatDoor
open Go.RowKit Go.Hop Go.Proofs.YtmijcbfgfkeodaaGreatDoor.V
theorem neLen_any (w:World) (g:Nat) (nodes:Int) (l:List Ne.Lb) (P:Nat→Bool) (V:Nat→Prop) (h:Ne.NetAt g nodes l P w V):Calls Tryz.prog 117 #[.pointer (some ⟨g,0,none⟩)] w fun e w'=>e=.returned (.int .i64 (l.length:Int))∧w=w':=by
 obtain⟨_,v,q,R,D,hql,_,_,_,hB,hRow,_⟩:=h
 have hl:l.length=q.length:=by rw[←hql,List.length_map]
 rw[hl]
 clear hl hql
 obtain⟨A0,c0,rfl,_⟩:=hRow.in_
 have c1:w.cell? ⟨g,1,none⟩=some (.slice A0 q.length c0):=hB.cell 1
 go_enter Tryz.func117,Tryz.ntmps117
 go_wp2_with fail
 go_ret
 exact⟨rfl,rfl⟩
theorem soloSt_or {P:Nat→Prop} {S0 S1:Thing} {m1:Nat} {st:List (Nat×Nat)} {j k:Nat} {w:World} (h:(SoloSt P S0 S1 m1 st).before j k w):Solo P S0 w∨Solo P S1 w:=by
 have h1:=h.1
 cases k with
 | zero=>exact .inl h1
 | succ k=>exact .inr h1
theorem run_load_blk {ρ:Operand→Value} {o:Oper} {x:Operand} {ty:TypeId} {w:World} {g:Nat} {t:TypeId} {cs:Array Value} {fs:Array Field} (hx:ρ x=.pointer (some ⟨g,0,none⟩)) (ho:o.op=.load ty x) (hB:Blk w g t cs) (hu:Tryz.prog.underlying ty=some (.struct fs)) (hi:(Tryz.prog.info? ty).map (·.size)=some cs.size):(execOp ρ o).run Tryz.prog w=.ok (.value (.agg cs)) w:=by
 obtain⟨dst,op,ty',pos,after,guard⟩:=o
 simp only at ho
 subst ho
 have h:=run_loadAt_mid (P:=Tryz.prog) w g 0 ty cs.toList _ (fun j u hu=>by rw[Nat.zero_add,hB.cell,←Array.getElem?_toList];exact hu) hu rfl (by simpa using hi)
 simp[execOp,hx,h,Result.andThen]
theorem call_ingest (w:World) (W:Nat) (q:WoP) (RT:Thing) (hRT:Framed RT) (V:Nat→Prop) (hM:Many (woL W q [] RT (A0 q.a)) w V) (hV:∀ b,V b→b<w.heap.size) :
 Calls Tryz.prog 203 #[.pointer (some ⟨W,0,none⟩),.agg #[.int .i64 9,.int .i64 1,.int .i64 0,.int .i64 7,.string tA1]] w fun e w'=>e=.returned (.agg #[.int .i64 0,.int .i64 0,.int .i64 0,.int .i64 0,.int .i64 0,.int .i64 0,.int .u64 0,.int .i64 0])∧Many (woL W q [] RT (A1 q.a)) w' (Ext V w w')∧Just V w w':=by
 have hAT:=A0.framed q.a
 have hS0:=Solo.begin_ hM hV
 have hF0:=woL_framed W q [] (RT) (A0 q.a) hRT hAT
 have g1:=grow_alloc w (.cells #[.int .i64 9,.int .i64 1,.int .i64 0,.int .i64 7,.string tA1] 98)
 have b1:=Blk.made w 98 #[.int .i64 9,.int .i64 1,.int .i64 0,.int .i64 7,.string tA1]
 have g2r:=grow_alloc (w.alloc (.cells #[.int .i64 9,.int .i64 1,.int .i64 0,.int .i64 7,.string tA1] 98)) (.cells #[.int .i64 0,.int .i64 0,.int .i64 0,.int .i64 0,.int .i64 0,.int .i64 0,.int .u64 0,.int .i64 0] 100)
 have rY:=b1.grow g2r
 have rW:=(hS0.blk 0 rfl).grow (g1.trans g2r)
 unfold wdC at rW
 have c1:=rY.cell 1
 obtain⟨y,HY⟩:∃ y:Nat,Hid (y=w.heap.size):=⟨_,rfl⟩
 obtain⟨wa,HA_⟩:∃ wa:World,Hid (wa=w.alloc (.cells #[.int .i64 9,.int .i64 1,.int .i64 0,.int .i64 7,.string tA1] 98)):=⟨_,rfl⟩
 have hz0:wa.heap.size=y+1:=by rw[HA_.out,HY.out];simp
 rw[←HA_.out] at g1 b1
 rw[←HY.out] at b1
 have g2:=grow_alloc wa (.cells #[.int .i64 0,.int .i64 0,.int .i64 0,.int .i64 0,.int .i64 0,.int .i64 0,.int .u64 0,.int .i64 0] 100)
 have b2:=Blk.made wa 100 #[.int .i64 0,.int .i64 0,.int .i64 0,.int .i64 0,.int .i64 0,.int .i64 0,.int .u64 0,.int .i64 0]
 obtain⟨z,HZ⟩:∃ z:Nat,Hid (z=y+1):=⟨_,rfl⟩
 obtain⟨wb,HB_⟩:∃ wb:World,Hid (wb=wa.alloc (.cells #[.int .i64 0,.int .i64 0,.int .i64 0,.int .i64 0,.int .i64 0,.int .i64 0,.int .u64 0,.int .i64 0] 100)):=⟨_,rfl⟩
 rw[←HB_.out] at g2 b2
 rw[hz0,←HZ.out] at b2
 have hSa:=hS0.join hF0 g1 (R:=Cell y 98 #[.int .i64 9,.int .i64 1,.int .i64 0,.int .i64 7,.string tA1]) (U:=fun b=>b=y) ⟨rfl,b1⟩ (fun b hb=>by have h8:b=y:=hb;have:=HY.out;have:=b1.lt;omega)
 have hFa:=hF0.cons (Cell.framed y 98 #[.int .i64 9,.int .i64 1,.int .i64 0,.int .i64 7,.string tA1])
 have hSb:=hSa.join hFa g2 (R:=Cell z 100 #[.int .i64 0,.int .i64 0,.int .i64 0,.int .i64 0,.int .i64 0,.int .i64 0,.int .u64 0,.int .i64 0]) (U:=fun b=>b=z) ⟨rfl,b2⟩ (fun b hb=>by have h8:b=z:=hb;have:=HZ.out;have:=b2.lt;omega)
 have hSb:Solo (Lic V w) (Many (woL W q [] (RT) (A0 q.a)++[Cell z 100 #[.int .i64 0,.int .i64 0,.int .i64 0,.int .i64 0,.int .i64 0,.int .i64 0,.int .u64 0,.int .i64 0],Cell y 98 #[.int .i64 9,.int .i64 1,.int .i64 0,.int .i64 7,.string tA1]])) wb:=hSb.perm (List.perm_append_comm (l₁:=[Cell z 100 #[.int .i64 0,.int .i64 0,.int .i64 0,.int .i64 0,.int .i64 0,.int .i64 0,.int .u64 0,.int .i64 0],Cell y 98 #[.int .i64 9,.int .i64 1,.int .i64 0,.int .i64 7,.string tA1]]))
 have hFb:=allFramed_app hF0 ((AllFramed.nil.cons (Cell.framed y 98 #[.int .i64 9,.int .i64 1,.int .i64 0,.int .i64 7,.string tA1])).cons (Cell.framed z 100 #[.int .i64 0,.int .i64 0,.int .i64 0,.int .i64 0,.int .i64 0,.int .i64 0,.int .u64 0,.int .i64 0]))
 have Jb:Just (Lic V w) w wb:=(Just.of_grow g1).trans (Just.of_grow g2)
 have hyz:¬ (fun b=>b=z) y:=fun e=>by have e2:y=z:=e;have:=HZ.out;omega
 clear b1 b2 g1 g2 hz0 hSa g2r
 obtain⟨U1,hU1,_⟩:=hSb.see 1 rfl
 obtain⟨U2,hU2,_⟩:=hSb.see 2 rfl
 have hat:=woat_1 wb W q.g q.rs q.ags q.ds q.r q.a q.d0 q.d1 U1 U2 (hSb.blk 0 rfl) hU1 hU2
 go_enter Tryz.func203,Tryz.ntmps203
 go_wp2_with fail
 rw[←HA_.out,←HY.out,←HB_.out,←HZ.out]
 refine hat.mono ?_
 rintro e w1 ⟨rfl,rfl⟩
 clear c1
 have hyb:=hSb.blk 8 rfl
 have c0:=hyb.cell 0
 have c3:=hyb.cell 3
 have c4:=hyb.cell 4
 have hIn:=hSb.at_ 6 rfl hFb (aIngest_A wb q.a)
 go_wp2_with fail
 clear c0 c3 c4
 refine hIn.mono ?_
 rintro e w2 ⟨rfl,hj2,hS2⟩
 have hS2:Solo (Lic V w) (Many (woL W q [] RT (A1 q.a)++[Cell z 100 #[.int .i64 0,.int .i64 0,.int .i64 0,.int .i64 0,.int .i64 0,.int .i64 0,.int .u64 0,.int .i64 0],Cell y 98 #[.int .i64 9,.int .i64 1,.int .i64 0,.int .i64 7,.string tA1]])) w2:=hS2
 have hF2:=allFramed_app (woL_framed W q [] RT (A1 q.a) hRT (A1.framed q.a)) ((AllFramed.nil.cons (Cell.framed y 98 #[.int .i64 9,.int .i64 1,.int .i64 0,.int .i64 7,.string tA1])).cons (Cell.framed z 100 #[.int .i64 0,.int .i64 0,.int .i64 0,.int .i64 0,.int .i64 0,.int .i64 0,.int .u64 0,.int .i64 0]))
 have J2:=Jb.trans hj2
 have hz_:=hS2.blk 7 rfl
 go_wp2_with (refine wpList_fill rfl 100 _ _ rfl _ rfl [.int .i64 0,.int .i64 0,.int .i64 0,.int .i64 0,.int .i64 0,.int .i64 0,.int .u64 0,.int .i64 0] rfl hz_ rfl rfl (by kernel_rfl) ?_;intro w9 hZ9 hj9 hs9;refine stay ?_)
 refine stay_out ?_
 have hS9:=hS2.turned 7 rfl hF2 hj9 hZ9
 have J9:=J2.trans (hj9.imp fun b hb=>hb▸(hS2.lics 7 rfl).1)
 go_wp2_with fail
 refine bodyPost_ret (results_blk rfl _ z rfl hZ9 Tryz.underlying100 (by kernel_rfl)) rfl ?_
 have hS10:Solo (Lic V w) (Many (woL W q [] (RT) (A1 q.a))) w9:=(Solo.perm (List.perm_append_comm (l₁:=woL W q [] (RT) (A1 q.a)) (l₂:=[Cell z 100 #[.int .i64 0,.int .i64 0,.int .i64 0,.int .i64 0,.int .i64 0,.int .i64 0,.int .u64 0,.int .i64 0],Cell y 98 #[.int .i64 9,.int .i64 1,.int .i64 0,.int .i64 7,.string tA1]])) hS9).drop1.drop1
 obtain⟨r1,r2⟩:=Solo.done hS10 J9 hV
 exact⟨rfl,r1,r2⟩
theorem call_batch (w:World) (W:Nat) (q:WoP) (RT:Thing) (hRT:Framed RT) (V:Nat→Prop) (hM:Many (woL W q [] RT (A1 q.a)) w V) (hV:∀ b,V b→b<w.heap.size) :
 Calls Tryz.prog 203 #[.pointer (some ⟨W,0,none⟩),.agg #[.int .i64 10,.int .i64 1,.int .i64 0,.int .i64 0,.string ⟨#[]⟩]] w fun e w'=>e=.returned (.agg #[.int .i64 0,.int .i64 0,.int .i64 1,.int .i64 0,.int .i64 0,.int .i64 0,.int .u64 0,.int .i64 0])∧Many (woL W q [] RT (A2 q.a)) w' (Ext V w w')∧Just V w w':=by
 have hAT:=A1.framed q.a
 have hS0:=Solo.begin_ hM hV
 have hF0:=woL_framed W q [] (RT) (A1 q.a) hRT hAT
 have g1:=grow_alloc w (.cells #[.int .i64 10,.int .i64 1,.int .i64 0,.int .i64 0,.string ⟨#[]⟩] 98)
 have b1:=Blk.made w 98 #[.int .i64 10,.int .i64 1,.int .i64 0,.int .i64 0,.string ⟨#[]⟩]
 have g2r:=grow_alloc (w.alloc (.cells #[.int .i64 10,.int .i64 1,.int .i64 0,.int .i64 0,.string ⟨#[]⟩] 98)) (.cells #[.int .i64 0,.int .i64 0,.int .i64 0,.int .i64 0,.int .i64 0,.int .i64 0,.int .u64 0,.int .i64 0] 100)
 have rY:=b1.grow g2r
 have rW:=(hS0.blk 0 rfl).grow (g1.trans g2r)
 unfold wdC at rW
 have c1:=rY.cell 1
 obtain⟨y,HY⟩:∃ y:Nat,Hid (y=w.heap.size):=⟨_,rfl⟩
 obtain⟨wa,HA_⟩:∃ wa:World,Hid (wa=w.alloc (.cells #[.int .i64 10,.int .i64 1,.int .i64 0,.int .i64 0,.string ⟨#[]⟩] 98)):=⟨_,rfl⟩
 have hz0:wa.heap.size=y+1:=by rw[HA_.out,HY.out];simp
 rw[←HA_.out] at g1 b1
 rw[←HY.out] at b1
 have g2:=grow_alloc wa (.cells #[.int .i64 0,.int .i64 0,.int .i64 0,.int .i64 0,.int .i64 0,.int .i64 0,.int .u64 0,.int .i64 0] 100)
 have b2:=Blk.made wa 100 #[.int .i64 0,.int .i64 0,.int .i64 0,.int .i64 0,.int .i64 0,.int .i64 0,.int .u64 0,.int .i64 0]
 obtain⟨z,HZ⟩:∃ z:Nat,Hid (z=y+1):=⟨_,rfl⟩
 obtain⟨wb,HB_⟩:∃ wb:World,Hid (wb=wa.alloc (.cells #[.int .i64 0,.int .i64 0,.int .i64 0,.int .i64 0,.int .i64 0,.int .i64 0,.int .u64 0,.int .i64 0] 100)):=⟨_,rfl⟩
 rw[←HB_.out] at g2 b2
 rw[hz0,←HZ.out] at b2
 have hSa:=hS0.join hF0 g1 (R:=Cell y 98 #[.int .i64 10,.int .i64 1,.int .i64 0,.int .i64 0,.string ⟨#[]⟩]) (U:=fun b=>b=y) ⟨rfl,b1⟩ (fun b hb=>by have h8:b=y:=hb;have:=HY.out;have:=b1.lt;omega)
 have hFa:=hF0.cons (Cell.framed y 98 #[.int .i64 10,.int .i64 1,.int .i64 0,.int .i64 0,.string ⟨#[]⟩])
 have hSb:=hSa.join hFa g2 (R:=Cell z 100 #[.int .i64 0,.int .i64 0,.int .i64 0,.int .i64 0,.int .i64 0,.int .i64 0,.int .u64 0,.int .i64 0]) (U:=fun b=>b=z) ⟨rfl,b2⟩ (fun b hb=>by have h8:b=z:=hb;have:=HZ.out;have:=b2.lt;omega)
 have hSb:Solo (Lic V w) (Many (woL W q [] (RT) (A1 q.a)++[Cell z 100 #[.int .i64 0,.int .i64 0,.int .i64 0,.int .i64 0,.int .i64 0,.int .i64 0,.int .u64 0,.int .i64 0],Cell y 98 #[.int .i64 10,.int .i64 1,.int .i64 0,.int .i64 0,.string ⟨#[]⟩]])) wb:=hSb.perm (List.perm_append_comm (l₁:=[Cell z 100 #[.int .i64 0,.int .i64 0,.int .i64 0,.int .i64 0,.int .i64 0,.int .i64 0,.int .u64 0,.int .i64 0],Cell y 98 #[.int .i64 10,.int .i64 1,.int .i64 0,.int .i64 0,.string ⟨#[]⟩]]))
 have hFb:=allFramed_app hF0 ((AllFramed.nil.cons (Cell.framed y 98 #[.int .i64 10,.int .i64 1,.int .i64 0,.int .i64 0,.string ⟨#[]⟩])).cons (Cell.framed z 100 #[.int .i64 0,.int .i64 0,.int .i64 0,.int .i64 0,.int .i64 0,.int .i64 0,.int .u64 0,.int .i64 0]))
 have Jb:Just (Lic V w) w wb:=(Just.of_grow g1).trans (Just.of_grow g2)
 have hyz:¬ (fun b=>b=z) y:=fun e=>by have e2:y=z:=e;have:=HZ.out;omega
 clear b1 b2 g1 g2 hz0 hSa g2r
 obtain⟨U1,hU1,_⟩:=hSb.see 1 rfl
 obtain⟨U2,hU2,_⟩:=hSb.see 2 rfl
 have hat:=woat_1 wb W q.g q.rs q.ags q.ds q.r q.a q.d0 q.d1 U1 U2 (hSb.blk 0 rfl) hU1 hU2
 go_enter Tryz.func203,Tryz.ntmps203
 go_wp2_with fail
 rw[←HA_.out,←HY.out,←HB_.out,←HZ.out]
 refine hat.mono ?_
 rintro e w1 ⟨rfl,rfl⟩
 clear c1
 have hyb:=hSb.blk 8 rfl
 have c0:=hyb.cell 0
 have hIn:=hSb.at_ 6 rfl hFb (aCut_A wb q.a)
 go_wp2_with fail
 clear c0
 refine hIn.mono ?_
 rintro e w2 ⟨⟨A,c,rfl⟩,hj2,hS2⟩
 have hS2:Solo (Lic V w) (Many (woL W q [] RT (A2 q.a)++[Cell z 100 #[.int .i64 0,.int .i64 0,.int .i64 0,.int .i64 0,.int .i64 0,.int .i64 0,.int .u64 0,.int .i64 0],Cell y 98 #[.int .i64 10,.int .i64 1,.int .i64 0,.int .i64 0,.string ⟨#[]⟩]])) w2:=hS2
 have hF2:=allFramed_app (woL_framed W q [] RT (A2 q.a) hRT (A2.framed q.a)) ((AllFramed.nil.cons (Cell.framed y 98 #[.int .i64 10,.int .i64 1,.int .i64 0,.int .i64 0,.string ⟨#[]⟩])).cons (Cell.framed z 100 #[.int .i64 0,.int .i64 0,.int .i64 0,.int .i64 0,.int .i64 0,.int .i64 0,.int .u64 0,.int .i64 0]))
 have J2:=Jb.trans hj2
 have hz_:=hS2.blk 7 rfl
 go_wp2_with (refine wpList_fill rfl 100 _ _ rfl _ rfl [.int .i64 0,.int .i64 0,.int .i64 1,.int .i64 0,.int .i64 0,.int .i64 0,.int .u64 0,.int .i64 0] rfl hz_ rfl rfl (by kernel_rfl) ?_;intro w9 hZ9 hj9 hs9;refine stay ?_)
 refine stay_out ?_
 have hS9:=hS2.turned 7 rfl hF2 hj9 hZ9
 have J9:=J2.trans (hj9.imp fun b hb=>hb▸(hS2.lics 7 rfl).1)
 go_wp2_with fail
 refine bodyPost_ret (results_blk rfl _ z rfl hZ9 Tryz.underlying100 (by kernel_rfl)) rfl ?_
 have hS10:Solo (Lic V w) (Many (woL W q [] (RT) (A2 q.a))) w9:=(Solo.perm (List.perm_append_comm (l₁:=woL W q [] (RT) (A2 q.a)) (l₂:=[Cell z 100 #[.int .i64 0,.int .i64 0,.int .i64 1,.int .i64 0,.int .i64 0,.int .i64 0,.int .u64 0,.int .i64 0],Cell y 98 #[.int .i64 10,.int .i64 1,.int .i64 0,.int .i64 0,.string ⟨#[]⟩]])) hS9).drop1.drop1
 obtain⟨r1,r2⟩:=Solo.done hS10 J9 hV
 exact⟨rfl,r1,r2⟩
theorem eAsk_ok:eAsk.Ok:=enA_ok (ag:=((1:Nat):Int)) (sq:=1) (ep:=1) (v:=7) (fr:=((1:Nat):Int)) (tg:=4294967296+1) (by omega) (by omega) (by omega) (by omega) (by omega) (by omega)
theorem OneSent.mono {B B':Nat} {to:Int} {e:En} {u:Value} {w:World} (h:OneSent B to e u w) (hb:B'≤B):OneSent B' to e u w:=by
 obtain⟨A,c,U,h1,h2,h3⟩:=h
 exact⟨A,c,U,h1,fun b h=>⟨Nat.le_trans hb (h2 b h).1,(h2 b h).2⟩,In.mono h3.1 fun b h=>⟨Nat.le_trans hb h.1,h.2⟩,h3.2⟩
theorem oneSent_lasting (B:Nat) (to:Int) (e:En):Lasting (OneSent B to e):=fun _ _ _ h hg=>h.grow hg
theorem ask_len:(frame (askB eAsk)).length≤1048576:=by
 have h1:=askB_len eAsk_ok
 have h2:=frame_le (askB eAsk) (by omega)
 omega
theorem wotick_1 (w:World) (W:Nat) (q:WoP) (RT:Thing) (hRT:Framed RT) (V:Nat→Prop) (hM:Many (woL W q [] RT (A2 q.a)) w V) (hV:∀ b,V b→b<w.heap.size) :
 Calls Tryz.prog 195 #[.pointer (some ⟨W,0,none⟩),.agg #[.int .i64 1,.int .i64 1,.int .i64 0,.int .i64 1,.string ⟨#[]⟩]] w fun e w'=>e=.returned (.agg #[.int .i64 0,.int .i64 1,.int .i64 0,.int .i64 0,.int .i64 0,.int .i64 0,.int .u64 0,.int .i64 0])∧Many (woL W q [(1,0,frame (askB eAsk))] RT (A3 q.a)) w' (Ext V w w')∧Just V w w':=by
 have k244:∀ (vs:Array Value) (w:World),(callFunc 244 vs).run Tryz.prog w=.ok (.enter 244 vs) w:=fun vs w=>by go_simp
 have k245:∀ (vs:Array Value) (w:World),(callFunc 245 vs).run Tryz.prog w=.ok (.enter 245 vs) w:=fun vs w=>by go_simp
 have hAT:=A2.framed q.a
 have hS0:=Solo.begin_ hM hV
 have hF0:=woL_framed W q [] (RT) (A2 q.a) hRT hAT
 have g1:=grow_alloc w (.cells #[.int .i64 1,.int .i64 1,.int .i64 0,.int .i64 1,.string ⟨#[]⟩] 98)
 have b1:=Blk.made w 98 #[.int .i64 1,.int .i64 1,.int .i64 0,.int .i64 1,.string ⟨#[]⟩]
 have g2r:=grow_alloc (w.alloc (.cells #[.int .i64 1,.int .i64 1,.int .i64 0,.int .i64 1,.string ⟨#[]⟩] 98)) (.cells #[.int .i64 0,.int .i64 0,.int .i64 0,.int .i64 0,.int .i64 0,.int .i64 0,.int .u64 0,.int .i64 0] 100)
 have rY:=b1.grow g2r
 have rW:=(hS0.blk 0 rfl).grow (g1.trans g2r)
 unfold wdC at rW
 have c1:=rY.cell 1
 obtain⟨y,HY⟩:∃ y:Nat,Hid (y=w.heap.size):=⟨_,rfl⟩
 obtain⟨wa,HA_⟩:∃ wa:World,Hid (wa=w.alloc (.cells #[.int .i64 1,.int .i64 1,.int .i64 0,.int .i64 1,.string ⟨#[]⟩] 98)):=⟨_,rfl⟩
 have hz0:wa.heap.size=y+1:=by rw[HA_.out,HY.out];simp
 rw[←HA_.out] at g1 b1
 rw[←HY.out] at b1
 have g2:=grow_alloc wa (.cells #[.int .i64 0,.int .i64 0,.int .i64 0,.int .i64 0,.int .i64 0,.int .i64 0,.int .u64 0,.int .i64 0] 100)
 have b2:=Blk.made wa 100 #[.int .i64 0,.int .i64 0,.int .i64 0,.int .i64 0,.int .i64 0,.int .i64 0,.int .u64 0,.int .i64 0]
 obtain⟨z,HZ⟩:∃ z:Nat,Hid (z=y+1):=⟨_,rfl⟩
 obtain⟨wb,HB_⟩:∃ wb:World,Hid (wb=wa.alloc (.cells #[.int .i64 0,.int .i64 0,.int .i64 0,.int .i64 0,.int .i64 0,.int .i64 0,.int .u64 0,.int .i64 0] 100)):=⟨_,rfl⟩
 rw[←HB_.out] at g2 b2
 rw[hz0,←HZ.out] at b2
 have hSa:=hS0.join hF0 g1 (R:=Cell y 98 #[.int .i64 1,.int .i64 1,.int .i64 0,.int .i64 1,.string ⟨#[]⟩]) (U:=fun b=>b=y) ⟨rfl,b1⟩ (fun b hb=>by have h8:b=y:=hb;have:=HY.out;have:=b1.lt;omega)
 have hFa:=hF0.cons (Cell.framed y 98 #[.int .i64 1,.int .i64 1,.int .i64 0,.int .i64 1,.string ⟨#[]⟩])
 have hSb:=hSa.join hFa g2 (R:=Cell z 100 #[.int .i64 0,.int .i64 0,.int .i64 0,.int .i64 0,.int .i64 0,.int .i64 0,.int .u64 0,.int .i64 0]) (U:=fun b=>b=z) ⟨rfl,b2⟩ (fun b hb=>by have h8:b=z:=hb;have:=HZ.out;have:=b2.lt;omega)
 have hSb:Solo (Lic V w) (Many (woL W q [] (RT) (A2 q.a)++[Cell z 100 #[.int .i64 0,.int .i64 0,.int .i64 0,.int .i64 0,.int .i64 0,.int .i64 0,.int .u64 0,.int .i64 0],Cell y 98 #[.int .i64 1,.int .i64 1,.int .i64 0,.int .i64 1,.string ⟨#[]⟩]])) wb:=hSb.perm (List.perm_append_comm (l₁:=[Cell z 100 #[.int .i64 0,.int .i64 0,.int .i64 0,.int .i64 0,.int .i64 0,.int .i64 0,.int .u64 0,.int .i64 0],Cell y 98 #[.int .i64 1,.int .i64 1,.int .i64 0,.int .i64 1,.string ⟨#[]⟩]]))
 have hFb:=allFramed_app hF0 ((AllFramed.nil.cons (Cell.framed y 98 #[.int .i64 1,.int .i64 1,.int .i64 0,.int .i64 1,.string ⟨#[]⟩])).cons (Cell.framed z 100 #[.int .i64 0,.int .i64 0,.int .i64 0,.int .i64 0,.int .i64 0,.int .i64 0,.int .u64 0,.int .i64 0]))
 have Jb:Just (Lic V w) w wb:=(Just.of_grow g1).trans (Just.of_grow g2)
 have hyz:¬ (fun b=>b=z) y:=fun e=>by have e2:y=z:=e;have:=HZ.out;omega
 clear b1 b2 g1 g2 hz0 hSa g2r
 obtain⟨U1,hU1,_⟩:=hSb.see 1 rfl
 obtain⟨U3,hU3,_⟩:=hSb.see 3 rfl
 have hDk:=woDisk_1 wb W q.g q.rs q.ags q.ds q.r q.a q.d0 q.d1 U3 (hSb.blk 0 rfl) hU3
 have hRp:=woReplica_1 wb W q.g q.rs q.ags q.ds q.r q.a q.d0 q.d1 U1 (hSb.blk 0 rfl) hU1
 go_enter Tryz.func195,Tryz.ntmps195
 go_wp2_with fail
 rw[←HA_.out,←HY.out,←HB_.out,←HZ.out]
 refine hDk.mono ?_
 rintro e w1 ⟨rfl,rfl⟩
 clear c1
 have hyb:=hSb.blk 8 rfl
 have c1:=hyb.cell 1
 have c3:=hyb.cell 3
 go_wp2_with fail
 refine hRp.mono ?_
 rintro e w1 ⟨rfl,rfl⟩
 clear c1 c3
 have hF3:AllFramed (woL W q [] RT (A3 q.a)++[Cell z 100 #[.int .i64 0,.int .i64 0,.int .i64 0,.int .i64 0,.int .i64 0,.int .i64 0,.int .u64 0,.int .i64 0],Cell y 98 #[.int .i64 1,.int .i64 1,.int .i64 0,.int .i64 1,.string ⟨#[]⟩]]):=allFramed_app (woL_framed W q [] RT (A3 q.a) hRT (A3.framed q.a)) ((AllFramed.nil.cons (Cell.framed y 98 #[.int .i64 1,.int .i64 1,.int .i64 0,.int .i64 1,.string ⟨#[]⟩])).cons (Cell.framed z 100 #[.int .i64 0,.int .i64 0,.int .i64 0,.int .i64 0,.int .i64 0,.int .i64 0,.int .u64 0,.int .i64 0]))
 go_wp2_with fail
 refine wp_region_reg rfl ?_
 refine reg_flow (SoloSt (Lic V w) (Many (woL W q [] RT (A2 q.a)++[Cell z 100 #[.int .i64 0,.int .i64 0,.int .i64 0,.int .i64 0,.int .i64 0,.int .i64 0,.int .u64 0,.int .i64 0],Cell y 98 #[.int .i64 1,.int .i64 1,.int .i64 0,.int .i64 1,.string ⟨#[]⟩]])) (Many (woL W q [] RT (A3 q.a)++[Cell z 100 #[.int .i64 0,.int .i64 0,.int .i64 0,.int .i64 0,.int .i64 0,.int .i64 0,.int .u64 0,.int .i64 0],Cell y 98 #[.int .i64 1,.int .i64 1,.int .i64 0,.int .i64 1,.string ⟨#[]⟩]])) 9 [(5,0),(6,0),(8,0)]) (soloSt_ok (Many.framed _ hFb) (Many.framed _ hF3)) 0 10 54 [(6,.inl (.pointer (some ⟨q.a,0,none⟩))),(9,.inr (Behind (OneSent wb.heap.size 0 eAsk)))] rfl (by kernel_rfl) (by kernel_rfl) (by kernel_rfl) ?_ (Just.of_grow (Grow.refl _).drew) (hSb.grows hFb (Grow.refl _).drew) ?_
 ·intro x hx φ he
  simp only[List.mem_cons,List.not_mem_nil,or_false] at hx
  rcases hx with rfl|rfl<;>cases he
  all_goals first|exact lasts_quiet (lasting_bytes _)|exact lasts_solo_behind (oneSent_lasting _ _ _)
 intro ops' A' K' T hops hA' hK hT
 refine fl_mvN 40 (.pointer (some ⟨W,0,none⟩)) ?_
 refine fl_op1N 41 (.tmp 3) (.pointer (some ⟨y,0,none⟩)) (.pointer (some ⟨y,1,none⟩)) (fun ρ h1 kk w5 (hj5:Just (Lic V w) _ w5) hb hf=>by go_simp) ?_
 refine fl_op1N 42 (.tmp 41) (.pointer (some ⟨y,1,none⟩)) (.int .i64 1) (fun ρ h1 kk w5 (hj5:Just (Lic V w) _ w5) hb hf=>by rcases soloSt_or hb with hI|hI<;>(have c:=(hI.blk 8 rfl).cell 1;go_simp)) ?_
 refine fl_mvN 43 (.pointer (some ⟨W,0,none⟩)) ?_
 refine fl_op1N 44 (.tmp 3) (.pointer (some ⟨y,0,none⟩)) (.pointer (some ⟨y,1,none⟩)) (fun ρ h1 kk w5 (hj5:Just (Lic V w) _ w5) hb hf=>by go_simp) ?_
 refine fl_op1N 45 (.tmp 44) (.pointer (some ⟨y,1,none⟩)) (.int .i64 1) (fun ρ h1 kk w5 (hj5:Just (Lic V w) _ w5) hb hf=>by obtain rfl:=before_some 0 (by rfl) hb;have hI:=hb.1;have c:=(hI.blk 8 rfl).cell 1;go_simp) ?_
 refine fl_call 46 (by rfl) (by decide) (wanted_none (by rfl)) (.pointer (some ⟨q.a,0,none⟩)) (by rw[hK.out];rfl) 244 _ _ (by rfl) [.pointer (some ⟨W,0,none⟩),.int .i64 1] (by rfl) k244 (fun kk w5 (hj5:Just (Lic V w) _ w5) hb hf=>calls_behind (by rfl) (by obtain rfl:=before_some 0 (by rfl) hb;have hI:=hb.1;exact (by obtain⟨U1,hU1,_⟩:=hI.see 1 rfl;obtain⟨U2,hU2,_⟩:=hI.see 2 rfl;exact grew_same (woat_1 w5 W q.g q.rs q.ags q.ds q.r q.a q.d0 q.d1 U1 U2 (hI.blk 0 rfl) hU1 hU2)))) ?_
 refine fl_op1N 47 (.tmp 3) (.pointer (some ⟨y,0,none⟩)) (.pointer (some ⟨y,3,none⟩)) (fun ρ h1 kk w5 (hj5:Just (Lic V w) _ w5) hb hf=>by go_simp) ?_
 refine fl_op1N 48 (.tmp 47) (.pointer (some ⟨y,3,none⟩)) (.int .i64 1) (fun ρ h1 kk w5 (hj5:Just (Lic V w) _ w5) hb hf=>by obtain rfl:=before_some 0 (by rfl) hb;have hI:=hb.1;have c:=(hI.blk 8 rfl).cell 3;go_simp) ?_
 refine fl_callAny 49 (by rfl) (by decide) (wanted_none (by rfl)) (Behind (OneSent wb.heap.size 0 eAsk)) (by rw[hK.out];rfl) 245 _ _ (by rfl) [.pointer (some ⟨q.a,0,none⟩),.int .i64 1] (by rfl) k245 (fun kk w5 (hj5:Just (Lic V w) _ w5) hb hf=>calls_turnAny (φ:=Behind (OneSent wb.heap.size 0 eAsk)) 0 (by rfl) (by obtain rfl:=before_some 0 (by rfl) hb;have hI:=hb.1;exact ((Solo.atW (ι:=Unit) (C:=fun _ e w9=>∃ u,e=.returned u∧OneSent w5.heap.size 0 eAsk u w9) (S':=fun _=>A3 q.a) 6 rfl hFb hI (fun U hU hUl hUP=>(aTick_A w5 q.a U hU hUl).mono fun e w9 h=>⟨(),h⟩)).mono fun e w9 h9=>by obtain⟨_,⟨u,h1,h2⟩,h3,h4⟩:=h9;exact⟨u,h1,h3,h4,h2.mono hj5.size⟩))) (fun v49=>?_)
 refine fl_end (fun _ _ w5 (hj5:Just (Lic V w) _ w5) hend hfacts=>hT _ _ ?_)
 clear hops hA' hK hT
 simp only[putsL,Act.put,List.setIfInBounds_toArray,List.set_cons_zero,List.set_cons_succ]
 have hO:OneSent wb.heap.size 0 eAsk v49 w5:=behind_take hfacts.1
 have hS5:Solo (Lic V w) (Many (woL W q [] RT (A3 q.a)++[Cell z 100 #[.int .i64 0,.int .i64 0,.int .i64 0,.int .i64 0,.int .i64 0,.int .i64 0,.int .u64 0,.int .i64 0],Cell y 98 #[.int .i64 1,.int .i64 1,.int .i64 0,.int .i64 1,.string ⟨#[]⟩]])) w5:=hend
 clear hfacts
 have J5:=Jb.trans hj5
 obtain⟨A,c,Uo,hRo,hUo,hEl⟩:=hO
 have hMsg:OneMsg wb.heap.size (.int .i64 0 :: (askM eAsk A c).toList) v49 w5:=⟨Uo,hRo,hUo⟩
 have hBy:∀ w1,Grow w5 w1→Calls Tryz.prog 252 #[.agg (askM eAsk A c).toList.toArray] w1 fun en w'=>∃ v,en=.returned (.tuple #[v,.int .i64 0])∧Grow w1 w'∧IsBytes (frame (askB eAsk)) v w':=fun w1 hg=>mBytes_ask w1 eAsk _ A c eAsk_ok (In.grow hEl.1 hg)
 have hFw:=woL_framed W q [] RT (A3 q.a) hRT (A3.framed q.a)
 have hSd:=Solo.at_ 0 rfl (((AllFramed.nil.cons (Cell.framed y 98 #[.int .i64 1,.int .i64 1,.int .i64 0,.int .i64 1,.string ⟨#[]⟩])).cons (Cell.framed z 100 #[.int .i64 0,.int .i64 0,.int .i64 0,.int .i64 0,.int .i64 0,.int .i64 0,.int .u64 0,.int .i64 0])).cons (Many.framed _ hFw)) (Solo.unflat (l:=woL W q [] RT (A3 q.a)) hS5) (fun U hU hUl=>wosend_1 w5 W q [] RT (A3 q.a) hRT (A3.framed q.a) 1 0 (askM eAsk A c).toList rfl rfl v49 _ hMsg (frame (askB eAsk)) ask_len hBy rfl rfl (by simp) U hU hUl)
 refine reg_line 10 11 (by kernel_rfl) (by kernel_rfl) ?_
 simp only[List.take_succ_cons,List.take_zero,List.drop_succ_cons,List.drop_zero]
 go_wp2_with fail
 refine hSd.mono ?_
 rintro e w6 ⟨rfl,hj6,hS6⟩
 have hS6:Solo (Lic V w) (Many (woL W q [(1,0,frame (askB eAsk))] RT (A3 q.a)++[Cell z 100 #[.int .i64 0,.int .i64 0,.int .i64 0,.int .i64 0,.int .i64 0,.int .i64 0,.int .u64 0,.int .i64 0],Cell y 98 #[.int .i64 1,.int .i64 1,.int .i64 0,.int .i64 1,.string ⟨#[]⟩]])) w6:=Solo.flat (l:=woL W q [(1,0,frame (askB eAsk))] RT (A3 q.a)) hS6
 have hF6:=allFramed_app (woL_framed W q [(1,0,frame (askB eAsk))] RT (A3 q.a) hRT (A3.framed q.a)) ((AllFramed.nil.cons (Cell.framed y 98 #[.int .i64 1,.int .i64 1,.int .i64 0,.int .i64 1,.string ⟨#[]⟩])).cons (Cell.framed z 100 #[.int .i64 0,.int .i64 0,.int .i64 0,.int .i64 0,.int .i64 0,.int .i64 0,.int .u64 0,.int .i64 0]))
 have J6:=J5.trans hj6
 go_wp2_with fail
 refine reg_end ?_
 have c1:=(hS6.blk 8 rfl).cell 1
 have hz_:=hS6.blk 7 rfl
 go_wp2_with (refine wpList_fill rfl 100 _ _ rfl _ rfl [.int .i64 0,.int .i64 1,.int .i64 0,.int .i64 0,.int .i64 0,.int .i64 0,.int .u64 0,.int .i64 0] rfl hz_ rfl rfl (by kernel_rfl) ?_;intro w9 hZ9 hj9 hs9;refine stay ?_)
 refine stay_out ?_
 have hS9:=hS6.turned 7 rfl hF6 hj9 hZ9
 have J9:=J6.trans (hj9.imp fun b hb=>hb▸(hS6.lics 7 rfl).1)
 go_wp2_with fail
 refine bodyPost_ret (results_blk rfl _ z rfl hZ9 Tryz.underlying100 (by kernel_rfl)) rfl ?_
 have hS10:Solo (Lic V w) (Many (woL W q [(1,0,frame (askB eAsk))] (RT) (A3 q.a))) w9:=(Solo.perm (List.perm_append_comm (l₁:=woL W q [(1,0,frame (askB eAsk))] (RT) (A3 q.a)) (l₂:=[Cell z 100 #[.int .i64 0,.int .i64 1,.int .i64 0,.int .i64 0,.int .i64 0,.int .i64 0,.int .u64 0,.int .i64 0],Cell y 98 #[.int .i64 1,.int .i64 1,.int .i64 0,.int .i64 1,.string ⟨#[]⟩]])) hS9).drop1.drop1
 obtain⟨r1,r2⟩:=Solo.done hS10 J9 hV
 exact⟨rfl,r1,r2⟩
end Go.Proofs.YtmijcbfgfkeodaaGreatDoor
end
