/- Wd6, Wd7. -/
import Derived.Test.YtmijcbfgfkeodaaGreatDoorHz36
set_option linter.all false
set_option maxRecDepth 100000
section
namespace Go.Proofs.YtmijcbfgfkeodaaGreatDoor
open Go.RowKit Go.Hop Go.Proofs.YtmijcbfgfkeodaaGreatDoor.V
theorem eAsk_ok:eAsk.Ok:=enA_ok (ag:=((1:Nat):Int)) (sq:=1) (ep:=1) (v:=7) (fr:=((1:Nat):Int)) (tg:=4294967296+1) (by omega) (by omega) (by omega) (by omega) (by omega) (by omega)
theorem OneSent.mono {B B':Nat} {to:Int} {e:En} {u:Value} {w:World} (h:OneSent B to e u w) (hb:B'≤B):OneSent B' to e u w:=by
 obtain⟨A,c,U,h1,h2,h3⟩:=h
 exact⟨A,c,U,h1,fun b h=>⟨Nat.le_trans hb (h2 b h).1,(h2 b h).2⟩,In.mono h3.1 fun b h=>⟨Nat.le_trans hb h.1,h.2⟩,h3.2⟩
theorem oneSent_lasting (B:Nat) (to:Int) (e:En):Lasting (OneSent B to e):=fun _ _ _ h hg=>h.grow hg
theorem ask_len:(frame (askB eAsk)).length≤1048576:=by
 have h1:=askB_len eAsk_ok
 have h2:=frame_le (askB eAsk) (by omega)
 omega
theorem wotick_1 (w:World) (W:Nat) (q:WoP) (RT:Thing) (hRT:Framed RT) (V:Nat→Prop) (hM:Many (woL W q [] RT (A2 q.a)) w V) (hV:∀ b,V b→b<w.heap.size) :
 Calls Tryz.prog 195 #[.pointer (some ⟨W,0,none⟩),.agg #[.int .i64 1,.int .i64 1,.int .i64 0,.int .i64 1,.string ⟨#[]⟩]] w fun e w'=>e=.returned (.agg #[.int .i64 0,.int .i64 1,.int .i64 0,.int .i64 0,.int .i64 0,.int .i64 0,.int .u64 0,.int .i64 0])∧Many (woL W q [(1,0,frame (askB eAsk))] RT (A3 q.a)) w' (Ext V w w')∧Just V w w':=by
 have k244:∀ (vs:Array Value) (w:World),(callFunc 244 vs).run Tryz.prog w=.ok (.enter 244 vs) w:=fun vs w=>by go_simp
 have k245:∀ (vs:Array Value) (w:World),(callFunc 245 vs).run Tryz.prog w=.ok (.enter 245 vs) w:=fun vs w=>by go_simp
 have hAT:=A2.framed q.a
 have hS0:=Solo.begin_ hM hV
 have hF0:=woL_framed W q [] (RT) (A2 q.a) hRT hAT
 have g1:=grow_alloc w (.cells #[.int .i64 1,.int .i64 1,.int .i64 0,.int .i64 1,.string ⟨#[]⟩] 98)
 have b1:=Blk.made w 98 #[.int .i64 1,.int .i64 1,.int .i64 0,.int .i64 1,.string ⟨#[]⟩]
 have g2r:=grow_alloc (w.alloc (.cells #[.int .i64 1,.int .i64 1,.int .i64 0,.int .i64 1,.string ⟨#[]⟩] 98)) (.cells #[.int .i64 0,.int .i64 0,.int .i64 0,.int .i64 0,.int .i64 0,.int .i64 0,.int .u64 0,.int .i64 0] 100)
 have rY:=b1.grow g2r
 have rW:=(hS0.blk 0 rfl).grow (g1.trans g2r)
 unfold wdC at rW
 have c1:=rY.cell 1
 obtain⟨y,HY⟩:∃ y:Nat,Hid (y=w.heap.size):=⟨_,rfl⟩
 obtain⟨wa,HA_⟩:∃ wa:World,Hid (wa=w.alloc (.cells #[.int .i64 1,.int .i64 1,.int .i64 0,.int .i64 1,.string ⟨#[]⟩] 98)):=⟨_,rfl⟩
 have hz0:wa.heap.size=y+1:=by rw[HA_.out,HY.out];simp
 rw[←HA_.out] at g1 b1
 rw[←HY.out] at b1
 have g2:=grow_alloc wa (.cells #[.int .i64 0,.int .i64 0,.int .i64 0,.int .i64 0,.int .i64 0,.int .i64 0,.int .u64 0,.int .i64 0] 100)
 have b2:=Blk.made wa 100 #[.int .i64 0,.int .i64 0,.int .i64 0,.int .i64 0,.int .i64 0,.int .i64 0,.int .u64 0,.int .i64 0]
 obtain⟨z,HZ⟩:∃ z:Nat,Hid (z=y+1):=⟨_,rfl⟩
 obtain⟨wb,HB_⟩:∃ wb:World,Hid (wb=wa.alloc (.cells #[.int .i64 0,.int .i64 0,.int .i64 0,.int .i64 0,.int .i64 0,.int .i64 0,.int .u64 0,.int .i64 0] 100)):=⟨_,rfl⟩
 rw[←HB_.out] at g2 b2
 rw[hz0,←HZ.out] at b2
 have hSa:=hS0.join hF0 g1 (R:=Cell y 98 #[.int .i64 1,.int .i64 1,.int .i64 0,.int .i64 1,.string ⟨#[]⟩]) (U:=fun b=>b=y) ⟨rfl,b1⟩ (fun b hb=>by have h8:b=y:=hb;have:=HY.out;have:=b1.lt;omega)
 have hFa:=hF0.cons (Cell.framed y 98 #[.int .i64 1,.int .i64 1,.int .i64 0,.int .i64 1,.string ⟨#[]⟩])
 have hSb:=hSa.join hFa g2 (R:=Cell z 100 #[.int .i64 0,.int .i64 0,.int .i64 0,.int .i64 0,.int .i64 0,.int .i64 0,.int .u64 0,.int .i64 0]) (U:=fun b=>b=z) ⟨rfl,b2⟩ (fun b hb=>by have h8:b=z:=hb;have:=HZ.out;have:=b2.lt;omega)
 have hSb:Solo (Lic V w) (Many (woL W q [] (RT) (A2 q.a)++[Cell z 100 #[.int .i64 0,.int .i64 0,.int .i64 0,.int .i64 0,.int .i64 0,.int .i64 0,.int .u64 0,.int .i64 0],Cell y 98 #[.int .i64 1,.int .i64 1,.int .i64 0,.int .i64 1,.string ⟨#[]⟩]])) wb:=hSb.perm (List.perm_append_comm (l₁:=[Cell z 100 #[.int .i64 0,.int .i64 0,.int .i64 0,.int .i64 0,.int .i64 0,.int .i64 0,.int .u64 0,.int .i64 0],Cell y 98 #[.int .i64 1,.int .i64 1,.int .i64 0,.int .i64 1,.string ⟨#[]⟩]]))
 have hFb:=allFramed_app hF0 ((AllFramed.nil.cons (Cell.framed y 98 #[.int .i64 1,.int .i64 1,.int .i64 0,.int .i64 1,.string ⟨#[]⟩])).cons (Cell.framed z 100 #[.int .i64 0,.int .i64 0,.int .i64 0,.int .i64 0,.int .i64 0,.int .i64 0,.int .u64 0,.int .i64 0]))
 have Jb:Just (Lic V w) w wb:=(Just.of_grow g1).trans (Just.of_grow g2)
 have hyz:¬ (fun b=>b=z) y:=fun e=>by have e2:y=z:=e;have:=HZ.out;omega
 clear b1 b2 g1 g2 hz0 hSa g2r
 obtain⟨U1,hU1,_⟩:=hSb.see 1 rfl
 obtain⟨U3,hU3,_⟩:=hSb.see 3 rfl
 have hDk:=woDisk_1 wb W q.g q.rs q.ags q.ds q.r q.a q.d0 q.d1 U3 (hSb.blk 0 rfl) hU3
 have hRp:=woReplica_1 wb W q.g q.rs q.ags q.ds q.r q.a q.d0 q.d1 U1 (hSb.blk 0 rfl) hU1
 go_enter Tryz.func195,Tryz.ntmps195
 go_wp2_with fail
 rw[←HA_.out,←HY.out,←HB_.out,←HZ.out]
 refine hDk.mono ?_
 rintro e w1 ⟨rfl,rfl⟩
 clear c1
 have hyb:=hSb.blk 8 rfl
 have c1:=hyb.cell 1
 have c3:=hyb.cell 3
 go_wp2_with fail
 refine hRp.mono ?_
 rintro e w1 ⟨rfl,rfl⟩
 clear c1 c3
 have hF3:AllFramed (woL W q [] RT (A3 q.a)++[Cell z 100 #[.int .i64 0,.int .i64 0,.int .i64 0,.int .i64 0,.int .i64 0,.int .i64 0,.int .u64 0,.int .i64 0],Cell y 98 #[.int .i64 1,.int .i64 1,.int .i64 0,.int .i64 1,.string ⟨#[]⟩]]):=allFramed_app (woL_framed W q [] RT (A3 q.a) hRT (A3.framed q.a)) ((AllFramed.nil.cons (Cell.framed y 98 #[.int .i64 1,.int .i64 1,.int .i64 0,.int .i64 1,.string ⟨#[]⟩])).cons (Cell.framed z 100 #[.int .i64 0,.int .i64 0,.int .i64 0,.int .i64 0,.int .i64 0,.int .i64 0,.int .u64 0,.int .i64 0]))
 go_wp2_with fail
 refine wp_region_reg rfl ?_
 refine reg_flow (SoloSt (Lic V w) (Many (woL W q [] RT (A2 q.a)++[Cell z 100 #[.int .i64 0,.int .i64 0,.int .i64 0,.int .i64 0,.int .i64 0,.int .i64 0,.int .u64 0,.int .i64 0],Cell y 98 #[.int .i64 1,.int .i64 1,.int .i64 0,.int .i64 1,.string ⟨#[]⟩]])) (Many (woL W q [] RT (A3 q.a)++[Cell z 100 #[.int .i64 0,.int .i64 0,.int .i64 0,.int .i64 0,.int .i64 0,.int .i64 0,.int .u64 0,.int .i64 0],Cell y 98 #[.int .i64 1,.int .i64 1,.int .i64 0,.int .i64 1,.string ⟨#[]⟩]])) 9 [(5,0),(6,0),(8,0)]) (soloSt_ok (Many.framed _ hFb) (Many.framed _ hF3)) 0 10 54 [(6,.inl (.pointer (some ⟨q.a,0,none⟩))),(9,.inr (Behind (OneSent wb.heap.size 0 eAsk)))] rfl (by kernel_rfl) (by kernel_rfl) (by kernel_rfl) ?_ (Just.of_grow (Grow.refl _).drew) (hSb.grows hFb (Grow.refl _).drew) ?_
 ·intro x hx φ he
  simp only[List.mem_cons,List.not_mem_nil,or_false] at hx
  rcases hx with rfl|rfl<;>cases he
  all_goals first|exact lasts_quiet (lasting_bytes _)|exact lasts_solo_behind (oneSent_lasting _ _ _)
 intro ops' A' K' T hops hA' hK hT
 refine fl_mvN 40 (.pointer (some ⟨W,0,none⟩)) ?_
 refine fl_op1N 41 (.tmp 3) (.pointer (some ⟨y,0,none⟩)) (.pointer (some ⟨y,1,none⟩)) (fun ρ h1 kk w5 (hj5:Just (Lic V w) _ w5) hb hf=>by go_simp) ?_
 refine fl_op1N 42 (.tmp 41) (.pointer (some ⟨y,1,none⟩)) (.int .i64 1) (fun ρ h1 kk w5 (hj5:Just (Lic V w) _ w5) hb hf=>by rcases soloSt_or hb with hI|hI<;>(have c:=(hI.blk 8 rfl).cell 1;go_simp)) ?_
 refine fl_mvN 43 (.pointer (some ⟨W,0,none⟩)) ?_
 refine fl_op1N 44 (.tmp 3) (.pointer (some ⟨y,0,none⟩)) (.pointer (some ⟨y,1,none⟩)) (fun ρ h1 kk w5 (hj5:Just (Lic V w) _ w5) hb hf=>by go_simp) ?_
 refine fl_op1N 45 (.tmp 44) (.pointer (some ⟨y,1,none⟩)) (.int .i64 1) (fun ρ h1 kk w5 (hj5:Just (Lic V w) _ w5) hb hf=>by obtain rfl:=before_some 0 (by rfl) hb;have hI:=hb.1;have c:=(hI.blk 8 rfl).cell 1;go_simp) ?_
 refine fl_call 46 (by rfl) (by decide) (wanted_none (by rfl)) (.pointer (some ⟨q.a,0,none⟩)) (by rw[hK.out];rfl) 244 _ _ (by rfl) [.pointer (some ⟨W,0,none⟩),.int .i64 1] (by rfl) k244 (fun kk w5 (hj5:Just (Lic V w) _ w5) hb hf=>calls_behind (by rfl) (by obtain rfl:=before_some 0 (by rfl) hb;have hI:=hb.1;exact (by obtain⟨U1,hU1,_⟩:=hI.see 1 rfl;obtain⟨U2,hU2,_⟩:=hI.see 2 rfl;exact grew_same (woat_1 w5 W q.g q.rs q.ags q.ds q.r q.a q.d0 q.d1 U1 U2 (hI.blk 0 rfl) hU1 hU2)))) ?_
 refine fl_op1N 47 (.tmp 3) (.pointer (some ⟨y,0,none⟩)) (.pointer (some ⟨y,3,none⟩)) (fun ρ h1 kk w5 (hj5:Just (Lic V w) _ w5) hb hf=>by go_simp) ?_
 refine fl_op1N 48 (.tmp 47) (.pointer (some ⟨y,3,none⟩)) (.int .i64 1) (fun ρ h1 kk w5 (hj5:Just (Lic V w) _ w5) hb hf=>by obtain rfl:=before_some 0 (by rfl) hb;have hI:=hb.1;have c:=(hI.blk 8 rfl).cell 3;go_simp) ?_
 refine fl_callAny 49 (by rfl) (by decide) (wanted_none (by rfl)) (Behind (OneSent wb.heap.size 0 eAsk)) (by rw[hK.out];rfl) 245 _ _ (by rfl) [.pointer (some ⟨q.a,0,none⟩),.int .i64 1] (by rfl) k245 (fun kk w5 (hj5:Just (Lic V w) _ w5) hb hf=>calls_turnAny (φ:=Behind (OneSent wb.heap.size 0 eAsk)) 0 (by rfl) (by obtain rfl:=before_some 0 (by rfl) hb;have hI:=hb.1;exact ((Solo.atW (ι:=Unit) (C:=fun _ e w9=>∃ u,e=.returned u∧OneSent w5.heap.size 0 eAsk u w9) (S':=fun _=>A3 q.a) 6 rfl hFb hI (fun U hU hUl hUP=>(aTick_A w5 q.a U hU hUl).mono fun e w9 h=>⟨(),h⟩)).mono fun e w9 h9=>by obtain⟨_,⟨u,h1,h2⟩,h3,h4⟩:=h9;exact⟨u,h1,h3,h4,h2.mono hj5.size⟩))) (fun v49=>?_)
 refine fl_end (fun _ _ w5 (hj5:Just (Lic V w) _ w5) hend hfacts=>hT _ _ ?_)
 clear hops hA' hK hT
 simp only[putsL,Act.put,List.setIfInBounds_toArray,List.set_cons_zero,List.set_cons_succ]
 have hO:OneSent wb.heap.size 0 eAsk v49 w5:=behind_take hfacts.1
 have hS5:Solo (Lic V w) (Many (woL W q [] RT (A3 q.a)++[Cell z 100 #[.int .i64 0,.int .i64 0,.int .i64 0,.int .i64 0,.int .i64 0,.int .i64 0,.int .u64 0,.int .i64 0],Cell y 98 #[.int .i64 1,.int .i64 1,.int .i64 0,.int .i64 1,.string ⟨#[]⟩]])) w5:=hend
 clear hfacts
 have J5:=Jb.trans hj5
 obtain⟨A,c,Uo,hRo,hUo,hEl⟩:=hO
 have hMsg:OneMsg wb.heap.size (.int .i64 0 :: (askM eAsk A c).toList) v49 w5:=⟨Uo,hRo,hUo⟩
 have hBy:∀ w1,Grow w5 w1→Calls Tryz.prog 252 #[.agg (askM eAsk A c).toList.toArray] w1 fun en w'=>∃ v,en=.returned (.tuple #[v,.int .i64 0])∧Grow w1 w'∧IsBytes (frame (askB eAsk)) v w':=fun w1 hg=>mBytes_ask w1 eAsk _ A c eAsk_ok (In.grow hEl.1 hg)
 have hFw:=woL_framed W q [] RT (A3 q.a) hRT (A3.framed q.a)
 have hSd:=Solo.at_ 0 rfl (((AllFramed.nil.cons (Cell.framed y 98 #[.int .i64 1,.int .i64 1,.int .i64 0,.int .i64 1,.string ⟨#[]⟩])).cons (Cell.framed z 100 #[.int .i64 0,.int .i64 0,.int .i64 0,.int .i64 0,.int .i64 0,.int .i64 0,.int .u64 0,.int .i64 0])).cons (Many.framed _ hFw)) (Solo.unflat (l:=woL W q [] RT (A3 q.a)) hS5) (fun U hU hUl=>wosend_1 w5 W q [] RT (A3 q.a) hRT (A3.framed q.a) 1 0 (askM eAsk A c).toList rfl rfl v49 _ hMsg (frame (askB eAsk)) ask_len hBy rfl rfl (by simp) U hU hUl)
 refine reg_line 10 11 (by kernel_rfl) (by kernel_rfl) ?_
 simp only[List.take_succ_cons,List.take_zero,List.drop_succ_cons,List.drop_zero]
 go_wp2_with fail
 refine hSd.mono ?_
 rintro e w6 ⟨rfl,hj6,hS6⟩
 have hS6:Solo (Lic V w) (Many (woL W q [(1,0,frame (askB eAsk))] RT (A3 q.a)++[Cell z 100 #[.int .i64 0,.int .i64 0,.int .i64 0,.int .i64 0,.int .i64 0,.int .i64 0,.int .u64 0,.int .i64 0],Cell y 98 #[.int .i64 1,.int .i64 1,.int .i64 0,.int .i64 1,.string ⟨#[]⟩]])) w6:=Solo.flat (l:=woL W q [(1,0,frame (askB eAsk))] RT (A3 q.a)) hS6
 have hF6:=allFramed_app (woL_framed W q [(1,0,frame (askB eAsk))] RT (A3 q.a) hRT (A3.framed q.a)) ((AllFramed.nil.cons (Cell.framed y 98 #[.int .i64 1,.int .i64 1,.int .i64 0,.int .i64 1,.string ⟨#[]⟩])).cons (Cell.framed z 100 #[.int .i64 0,.int .i64 0,.int .i64 0,.int .i64 0,.int .i64 0,.int .i64 0,.int .u64 0,.int .i64 0]))
 have J6:=J5.trans hj6
 go_wp2_with fail
 refine reg_end ?_
 have c1:=(hS6.blk 8 rfl).cell 1
 have hz_:=hS6.blk 7 rfl
 go_wp2_with (refine wpList_fill rfl 100 _ _ rfl _ rfl [.int .i64 0,.int .i64 1,.int .i64 0,.int .i64 0,.int .i64 0,.int .i64 0,.int .u64 0,.int .i64 0] rfl hz_ rfl rfl (by kernel_rfl) ?_;intro w9 hZ9 hj9 hs9;refine stay ?_)
 refine stay_out ?_
 have hS9:=hS6.turned 7 rfl hF6 hj9 hZ9
 have J9:=J6.trans (hj9.imp fun b hb=>hb▸(hS6.lics 7 rfl).1)
 go_wp2_with fail
 refine bodyPost_ret (results_blk rfl _ z rfl hZ9 Tryz.underlying100 (by kernel_rfl)) rfl ?_
 have hS10:Solo (Lic V w) (Many (woL W q [(1,0,frame (askB eAsk))] (RT) (A3 q.a))) w9:=(Solo.perm (List.perm_append_comm (l₁:=woL W q [(1,0,frame (askB eAsk))] (RT) (A3 q.a)) (l₂:=[Cell z 100 #[.int .i64 0,.int .i64 1,.int .i64 0,.int .i64 0,.int .i64 0,.int .i64 0,.int .u64 0,.int .i64 0],Cell y 98 #[.int .i64 1,.int .i64 1,.int .i64 0,.int .i64 1,.string ⟨#[]⟩]])) hS9).drop1.drop1
 obtain⟨r1,r2⟩:=Solo.done hS10 J9 hV
 exact⟨rfl,r1,r2⟩
theorem run_alcL (w:World) (ρ:Operand→Value) (o:Oper) (ho:o.op=.alloc 211):(execOp ρ o).run Tryz.prog w=.ok (.value (.pointer (some ⟨w.heap.size,0,none⟩))) (w.alloc (.cells #[.int .i64 0,.int .i64 0,.slice none 0 0] 211)):=by
 obtain⟨dst,op,ty,pos,after,guard⟩:=o
 simp only at ho
 subst ho
 go_simp
theorem run_alcV (w:World) (ρ:Operand→Value) (o:Oper) (ho:o.op=.alloc 100):(execOp ρ o).run Tryz.prog w=.ok (.value (.pointer (some ⟨w.heap.size,0,none⟩))) (w.alloc (.cells #[.int .i64 0,.int .i64 0,.int .i64 0,.int .i64 0,.int .i64 0,.int .i64 0,.int .u64 0,.int .i64 0] 100)):=by
 obtain⟨dst,op,ty,pos,after,guard⟩:=o
 simp only at ho
 subst ho
 go_simp
theorem eAsk_W:eAsk.W:=by
 rcases eAsk_ok.2 with h|h
 ·exact h
 ·exact absurd h.1 (by decide)
theorem ans_len:(frame (ansB (4294967296+1) 1 0)).length≤1048576:=by
 have h1:=ansB_len (tag:=4294967296+1) (code:=1) (n:=0) (by omega) (by omega) (by omega)
 have h2:=frame_le (ansB (4294967296+1) 1 0) (by omega)
 omega
theorem rpReceive_A (w:World) (r:Nat) (A:Option Addr) (c:Nat) (D V:Nat→Prop) (hD:ElIn w D ⟨eAsk,A,c⟩) (hDl:∀ b,D b→b<w.heap.size) (hDV:∀ b,D b→¬ V b) (hR:R1 r w V) (hV:∀ b,V b→b<w.heap.size) :
 Calls Tryz.prog 33 #[.pointer (some ⟨r,0,none⟩),.int .i64 1,.agg (askM eAsk A c)] w fun e w'=>(∃ u,e=.returned u∧OneMsg w.heap.size #[.int .i64 1,.int .i64 2,.int .i64 0,.int .i64 0,.int .i64 0,.int .i64 0,.int .i64 0,.slice none 0 0,.string ⟨#[]⟩,.int .i64 0,.int .i64 0,.int .i64 (4294967296+1),.int .i64 1,.int .u64 0,.int .i64 0,.int .i64 0,.slice none 0 0,.int .i64 0,.int .i64 0].toList u w')∧Just V w w':=
 rpReceive_R w r 1 ((1:Nat):Int) 0 1 1 [(tA1,7)] ⟨#[]⟩ 1 (4294967296+1) eAsk_ok (Lib.hid rfl) (seen_next 0) (far_next 0) (by omega) (mayE_smA 0 7 (by omega)) ((1:Nat):Int) eAsk_ok A c D V hD hDl hDV hR hV
set_option maxHeartbeats 1000000 in
theorem wodeliver_1 (w:World) (W:Nat) (q:WoP) (V:Nat→Prop) (hM:Many (woL W q [(1,0,frame (askB eAsk))] (R1 q.r) (A3 q.a)) w V) (hV:∀ b,V b→b<w.heap.size) :
 Calls Tryz.prog 196 #[.pointer (some ⟨W,0,none⟩),.int .i64 0] w fun e w'=>e=.returned (.agg #[.int .i64 0,.int .i64 0,.int .i64 0,.int .i64 0,.int .i64 0,.int .i64 0,.int .u64 0,.int .i64 0])∧Many (woL W q [(0,1,frame (ansB (4294967296+1) 1 0))] Emp (A3 q.a)) w' (Ext V w w')∧Just V w w':=by
 have k33:∀ (vs:Array Value) (w:World),(callFunc 33 vs).run Tryz.prog w=.ok (.enter 33 vs) w:=fun vs w=>by go_simp
 have hRT:=R1.framed q.r
 have hAT:=A3.framed q.a
 have hS0:=Solo.begin_ hM hV
 have hF0:=woL_framed W q [(1,0,frame (askB eAsk))] (R1 q.r) (A3 q.a) hRT hAT
 have g1:=grow_alloc w (.cells #[.int .i64 0,.int .i64 0,.int .i64 0,.int .i64 0,.int .i64 0,.int .i64 0,.int .u64 0,.int .i64 0] 100)
 have b1:=Blk.made w 100 #[.int .i64 0,.int .i64 0,.int .i64 0,.int .i64 0,.int .i64 0,.int .i64 0,.int .u64 0,.int .i64 0]
 have rW:=(hS0.blk 0 rfl).grow g1
 unfold wdC at rW
 have c3:=rW.cell 3
 obtain⟨z,HZ⟩:∃ z:Nat,Hid (z=w.heap.size):=⟨_,rfl⟩
 obtain⟨wb,HB_⟩:∃ wb:World,Hid (wb=w.alloc (.cells #[.int .i64 0,.int .i64 0,.int .i64 0,.int .i64 0,.int .i64 0,.int .i64 0,.int .u64 0,.int .i64 0] 100)):=⟨_,rfl⟩
 rw[←HB_.out] at g1 b1
 rw[←HZ.out] at b1
 have hSb:=hS0.join hF0 g1 (R:=Cell z 100 #[.int .i64 0,.int .i64 0,.int .i64 0,.int .i64 0,.int .i64 0,.int .i64 0,.int .u64 0,.int .i64 0]) (U:=fun b=>b=z) ⟨rfl,b1⟩ (fun b hb=>by have h8:b=z:=hb;have:=HZ.out;have:=b1.lt;omega)
 have hFb:=hF0.cons (Cell.framed z 100 #[.int .i64 0,.int .i64 0,.int .i64 0,.int .i64 0,.int .i64 0,.int .i64 0,.int .u64 0,.int .i64 0])
 have hDl:=hSb.atW (ι:=Option Addr×Nat×Nat) (C:=fun j e _=>e=.returned (.tuple #[.agg #[.int .i64 1,.int .i64 0,.slice j.1 j.2.1 j.2.2],.int .i64 0])) (S':=fun j=>Ne.Taken q.g 2 [] (fun _=>false) (frame (askB eAsk)) j) 5 rfl hFb (fun U hU hUl hUP=>Ne.Deliver_yes wb q.g 2 [(1,0,frame (askB eAsk))] (fun _=>false) 0 (by simp) rfl U hU hUl)
 go_enter Tryz.func196,Tryz.ntmps196
 go_wp2_with fail
 rw[←HB_.out,←HZ.out]
 refine hDl.mono ?_
 rintro e w1 ⟨⟨A,m,c⟩,he,hj1,hS1⟩
 dsimp only at he hS1
 subst he
 clear c3
 have hS1:Solo (Lic V w) (Many [Cell z 100 #[.int .i64 0,.int .i64 0,.int .i64 0,.int .i64 0,.int .i64 0,.int .i64 0,.int .u64 0,.int .i64 0],Cell W 196 (wdC q.rs q.ags q.ds q.g),PtrRow 66 q.rs [q.r],PtrRow 55 q.ags [q.a],PtrRow 53 q.ds [q.d0,q.d1],Ne.Taken q.g 2 [] (fun _=>false) (frame (askB eAsk)) (A,m,c),R1 q.r,A3 q.a]) w1:=hS1
 have hF1:AllFramed [Cell z 100 #[.int .i64 0,.int .i64 0,.int .i64 0,.int .i64 0,.int .i64 0,.int .i64 0,.int .u64 0,.int .i64 0],Cell W 196 (wdC q.rs q.ags q.ds q.g),PtrRow 66 q.rs [q.r],PtrRow 55 q.ags [q.a],PtrRow 53 q.ds [q.d0,q.d1],Ne.Taken q.g 2 [] (fun _=>false) (frame (askB eAsk)) (A,m,c),R1 q.r,A3 q.a]:=(((((((AllFramed.nil.cons hAT).cons hRT).cons (Ne.Taken.framed _ _ _ _ _ _)).cons (PtrRow.framed _ _ _)).cons (PtrRow.framed _ _ _)).cons (PtrRow.framed _ _ _)).cons (Cell.framed _ _ _)).cons (Cell.framed _ _ _)
 have J1:Just (Lic V w) w w1:=(Just.of_grow g1).trans hj1
 go_wp2_with (refine wpList_new rfl (run_alcL _ _ _ rfl) ?_;intro x w2 hB2 hg2 hz2 hs2;refine stay ?_)
 refine stay_out ?_
 go_wp2_with (refine wpList_fill rfl 211 _ _ rfl _ rfl [.int .i64 1,.int .i64 0,.slice A m c] rfl hB2 rfl rfl (by kernel_rfl) ?_;intro w3 hX3 hj3 hs3;refine stay ?_)
 refine stay_out ?_
 have hg3:Grow w1 w3:=Below.trans hg2 (hj3.below (B:=w1.heap.size) (fun b hb=>by have e2:b=x:=hb;omega) (by omega))
 have x1:=hX3.cell 1
 go_wp2_with (refine wpList_new rfl (run_alcV _ _ _ rfl) ?_;intro ze w4 hB4 hg4 hz4 hs4;refine stay ?_)
 refine stay_out ?_
 go_wp2_with (refine wpList_fill rfl 100 _ _ rfl _ rfl [.int .i64 0,.int .i64 0,.int .i64 0,.int .i64 0,.int .i64 0,.int .i64 0,.int .u64 0,.int .i64 0] rfl hB4 rfl rfl (by kernel_rfl) ?_;intro w5 hE5 hj5 hs5;refine stay ?_)
 refine stay_out ?_
 clear x1
 have hg5:Grow w3 w5:=Below.trans hg4 (hj5.below (B:=w3.heap.size) (fun b hb=>by have e2:b=ze:=hb;omega) (by omega))
 have hX5:=hX3.grow hg5
 have hS3:=hS1.join hF1 hg3 (R:=Cell x 211 #[.int .i64 1,.int .i64 0,.slice A m c]) (U:=fun b=>b=x) ⟨rfl,hX3⟩ (fun b hb=>by have e2:b=x:=hb;omega)
 have hF3:=hF1.cons (Cell.framed x 211 #[.int .i64 1,.int .i64 0,.slice A m c])
 have hS5:=hS3.join hF3 hg5 (R:=Cell ze 100 #[.int .i64 0,.int .i64 0,.int .i64 0,.int .i64 0,.int .i64 0,.int .i64 0,.int .u64 0,.int .i64 0]) (U:=fun b=>b=ze) ⟨rfl,hE5⟩ (fun b hb=>by have e2:b=ze:=hb;omega)
 have hF5:=hF3.cons (Cell.framed ze 100 #[.int .i64 0,.int .i64 0,.int .i64 0,.int .i64 0,.int .i64 0,.int .i64 0,.int .u64 0,.int .i64 0])
 have J5:=(J1.trans (Just.of_grow hg3)).trans (Just.of_grow hg5)
 obtain⟨U7,⟨hN7,hBi,hmc,hcm⟩,hU7⟩:=hS5.see 7 rfl
 have hBy:Bytes w5 w5.heap.size A m (frame (askB eAsk)):=In.reads (hBi.mono (V':=fun b=>b<w5.heap.size) fun b hb=>(hU7 b hb).2)
 have hS5:=hS5.map 7 rfl (S':=Ne.NetAt q.g 2 [] (fun _=>false)) (fun U h=>h.1)
 have hS5:Solo (Lic V w) (Many (woL W q [] (R1 q.r) (A3 q.a)++[Cell ze 100 #[.int .i64 0,.int .i64 0,.int .i64 0,.int .i64 0,.int .i64 0,.int .i64 0,.int .u64 0,.int .i64 0],Cell x 211 #[.int .i64 1,.int .i64 0,.slice A m c],Cell z 100 #[.int .i64 0,.int .i64 0,.int .i64 0,.int .i64 0,.int .i64 0,.int .i64 0,.int .u64 0,.int .i64 0]])) w5:=hS5.perm (List.perm_append_comm (l₁:=[Cell ze 100 #[.int .i64 0,.int .i64 0,.int .i64 0,.int .i64 0,.int .i64 0,.int .i64 0,.int .u64 0,.int .i64 0],Cell x 211 #[.int .i64 1,.int .i64 0,.slice A m c],Cell z 100 #[.int .i64 0,.int .i64 0,.int .i64 0,.int .i64 0,.int .i64 0,.int .i64 0,.int .u64 0,.int .i64 0]]))
 have x2:=hX5.cell 2
 clear hB2 hB4 hX3 hE5 hS3 hF3 hS1 hF5
 have hRd:=mRead_ask w5 eAsk A m c eAsk_ok eAsk_W hBy hmc hcm
 go_wp2_with fail
 clear x2
 refine hRd.mono ?_
 rintro e w6 ⟨A6,c6,rfl,hEl,hg6⟩
 go_wp2_with (refine wpList_new rfl (run_alcM _ _ _ rfl) ?_;intro y8 w6b hB6 hg6b hz6 hs6;refine stay ?_)
 refine stay_out ?_
 go_wp2_with (refine wpList_fill rfl 73 _ _ rfl _ rfl (askM eAsk A6 c6).toList rfl hB6 rfl rfl (by kernel_rfl) ?_;intro w7 hM8 hj7 hs7;refine stay ?_)
 refine stay_out ?_
 have hg67:Grow w6 w7:=Below.trans hg6b (hj7.below (B:=w6.heap.size) (fun b hb=>by have e2:b=y8:=hb;omega) (by omega))
 have hg57:=hg6.trans hg67
 obtain⟨h05,V5,hM5,hV5⟩:=hS5
 have hF5:=allFramed_app (woL_framed W q [] (R1 q.r) (A3 q.a) hRT hAT) (((AllFramed.nil.cons (Cell.framed z 100 #[.int .i64 0,.int .i64 0,.int .i64 0,.int .i64 0,.int .i64 0,.int .i64 0,.int .u64 0,.int .i64 0])).cons (Cell.framed x 211 #[.int .i64 1,.int .i64 0,.slice A m c])).cons (Cell.framed ze 100 #[.int .i64 0,.int .i64 0,.int .i64 0,.int .i64 0,.int .i64 0,.int .i64 0,.int .u64 0,.int .i64 0]))
 have hl5:∀ b,V5 b→b<w7.heap.size:=fun b hb=>Nat.lt_of_lt_of_le (hV5 b hb).2 hg57.size
 have hS7:Solo (Lic V5 w7) (Many (woL W q [] (R1 q.r) (A3 q.a)++[Cell ze 100 #[.int .i64 0,.int .i64 0,.int .i64 0,.int .i64 0,.int .i64 0,.int .i64 0,.int .u64 0,.int .i64 0],Cell x 211 #[.int .i64 1,.int .i64 0,.slice A m c],Cell z 100 #[.int .i64 0,.int .i64 0,.int .i64 0,.int .i64 0,.int .i64 0,.int .i64 0,.int .u64 0,.int .i64 0]])) w7:=Solo.begin_ (Many.framed _ hF5 w5 w7 V5 hM5 fun b hb=>hg57.block b (hV5 b hb).2) hl5
 have hF7:=hF5
 have hs56:=hg6.size
 have hs67:=hg67.size
 have hm8n:¬ (Lic V5 w7) y8:=fun h=>h.elim (fun h=>by have:=(hV5 _ h).2;omega) fun h=>by have:=hM8.lt;omega
 have hDn:∀ b,New w5 w6 b→¬ (Lic V5 w7) b:=fun b hb h=>h.elim (fun h=>by have:=(hV5 _ h).2;have:=hb.1;omega) fun h=>by have:=hb.2;omega
 have hEl7:ElIn w7 (New w5 w6) ⟨eAsk,A6,c6⟩:=⟨In.grow hEl.1 hg67,hEl.2⟩
 have hx7:=hS7.blk 8 rfl
 have x1:=hx7.cell 1
 obtain⟨U1,hU1,_⟩:=hS7.see 1 rfl
 have hRp:=woReplica_0 w7 W q.g q.rs q.ags q.ds q.r q.a q.d0 q.d1 U1 (hS7.blk 0 rfl) hU1
 go_wp2_with fail
 refine hRp.mono ?_
 rintro e w8 ⟨rfl,rfl⟩
 clear x1
 have hF8:AllFramed (woL W q [] Emp (A3 q.a)++[Cell ze 100 #[.int .i64 0,.int .i64 0,.int .i64 0,.int .i64 0,.int .i64 0,.int .i64 0,.int .u64 0,.int .i64 0],Cell x 211 #[.int .i64 1,.int .i64 0,.slice A m c],Cell z 100 #[.int .i64 0,.int .i64 0,.int .i64 0,.int .i64 0,.int .i64 0,.int .i64 0,.int .u64 0,.int .i64 0]]):=allFramed_app (woL_framed W q [] Emp (A3 q.a) Emp.framed hAT) (((AllFramed.nil.cons (Cell.framed z 100 #[.int .i64 0,.int .i64 0,.int .i64 0,.int .i64 0,.int .i64 0,.int .i64 0,.int .u64 0,.int .i64 0])).cons (Cell.framed x 211 #[.int .i64 1,.int .i64 0,.slice A m c])).cons (Cell.framed ze 100 #[.int .i64 0,.int .i64 0,.int .i64 0,.int .i64 0,.int .i64 0,.int .i64 0,.int .u64 0,.int .i64 0]))
 go_wp2_with fail
 refine wp_region_reg rfl ?_
 refine reg_flow (SoloSt (Lic V5 w7) (Many (woL W q [] (R1 q.r) (A3 q.a)++[Cell ze 100 #[.int .i64 0,.int .i64 0,.int .i64 0,.int .i64 0,.int .i64 0,.int .i64 0,.int .u64 0,.int .i64 0],Cell x 211 #[.int .i64 1,.int .i64 0,.slice A m c],Cell z 100 #[.int .i64 0,.int .i64 0,.int .i64 0,.int .i64 0,.int .i64 0,.int .i64 0,.int .u64 0,.int .i64 0]])) (Many (woL W q [] Emp (A3 q.a)++[Cell ze 100 #[.int .i64 0,.int .i64 0,.int .i64 0,.int .i64 0,.int .i64 0,.int .i64 0,.int .u64 0,.int .i64 0],Cell x 211 #[.int .i64 1,.int .i64 0,.slice A m c],Cell z 100 #[.int .i64 0,.int .i64 0,.int .i64 0,.int .i64 0,.int .i64 0,.int .i64 0,.int .u64 0,.int .i64 0]])) 7 [(5,0),(6,0)]) (soloSt_ok (Many.framed _ hF7) (Many.framed _ hF8)) 0 8 72 [(7,.inr (Behind (OneMsg w7.heap.size #[.int .i64 1,.int .i64 2,.int .i64 0,.int .i64 0,.int .i64 0,.int .i64 0,.int .i64 0,.slice none 0 0,.string ⟨#[]⟩,.int .i64 0,.int .i64 0,.int .i64 (4294967296+1),.int .i64 1,.int .u64 0,.int .i64 0,.int .i64 0,.slice none 0 0,.int .i64 0,.int .i64 0].toList)))] rfl (by kernel_rfl) (by kernel_rfl) (by kernel_rfl) ?_ (Just.of_grow (Grow.refl _).drew) (hS7.grows hF7 (Grow.refl _).drew) ?_
 ·intro x hx φ he
  simp only[List.mem_cons,List.not_mem_nil,or_false] at hx
  rcases hx with rfl<;>cases he
  all_goals first|exact lasts_quiet (lasting_bytes _)|exact lasts_solo_behind (oneMsg_lasting _ _)
 intro ops' A' K' T hops hA' hK hT
 refine fl_mvN 42 (.pointer (some ⟨W,0,none⟩)) ?_
 refine fl_op1N 43 (.tmp 5) (.pointer (some ⟨x,0,none⟩)) (.pointer (some ⟨x,1,none⟩)) (fun ρ h1 kk w9 (hj9:Just (Lic V5 w7) _ w9) hb hf=>by go_simp) ?_
 refine fl_op1N 44 (.tmp 43) (.pointer (some ⟨x,1,none⟩)) (.int .i64 0) (fun ρ h1 kk w9 (hj9:Just (Lic V5 w7) _ w9) hb hf=>by rcases soloSt_or hb with hI|hI<;>(have c:=(hI.blk 8 rfl).cell 1;go_simp)) ?_
 refine fl_mvN 45 (.pointer (some ⟨q.r,0,none⟩)) ?_
 refine fl_op1N 46 (.tmp 5) (.pointer (some ⟨x,0,none⟩)) (.pointer (some ⟨x,0,none⟩)) (fun ρ h1 kk w9 (hj9:Just (Lic V5 w7) _ w9) hb hf=>by go_simp) ?_
 refine fl_op1N 47 (.tmp 46) (.pointer (some ⟨x,0,none⟩)) (.int .i64 1) (fun ρ h1 kk w9 (hj9:Just (Lic V5 w7) _ w9) hb hf=>by obtain rfl:=before_some 0 (by rfl) hb;have hI:=hb.1;have c:=(hI.blk 8 rfl).cell 0;go_simp) ?_
 refine fl_op1N 48 (.tmp 8) (.pointer (some ⟨y8,0,none⟩)) (.agg (askM eAsk A6 c6)) (fun ρ h1 kk w9 (hj9:Just (Lic V5 w7) _ w9) hb hf=>by obtain rfl:=before_some 0 (by rfl) hb;have hI:=hb.1;exact run_load_blk h1 rfl (hj9.blk hM8 hm8n) Tryz.underlying73 (by kernel_rfl)) ?_
 refine fl_callAny 49 (by rfl) (by decide) (wanted_none (by rfl)) (Behind (OneMsg w7.heap.size #[.int .i64 1,.int .i64 2,.int .i64 0,.int .i64 0,.int .i64 0,.int .i64 0,.int .i64 0,.slice none 0 0,.string ⟨#[]⟩,.int .i64 0,.int .i64 0,.int .i64 (4294967296+1),.int .i64 1,.int .u64 0,.int .i64 0,.int .i64 0,.slice none 0 0,.int .i64 0,.int .i64 0].toList)) (by rw[hK.out];rfl) 33 _ _ (by rfl) [.pointer (some ⟨q.r,0,none⟩),.int .i64 1,.agg (askM eAsk A6 c6)] (by rfl) k33 (fun kk w9 (hj9:Just (Lic V5 w7) _ w9) hb hf=>calls_turnAny (φ:=Behind (OneMsg w7.heap.size #[.int .i64 1,.int .i64 2,.int .i64 0,.int .i64 0,.int .i64 0,.int .i64 0,.int .i64 0,.slice none 0 0,.string ⟨#[]⟩,.int .i64 0,.int .i64 0,.int .i64 (4294967296+1),.int .i64 1,.int .u64 0,.int .i64 0,.int .i64 0,.slice none 0 0,.int .i64 0,.int .i64 0].toList)) 0 (by rfl) (by obtain rfl:=before_some 0 (by rfl) hb;have hI:=hb.1;exact ((Solo.atW (ι:=Unit) (C:=fun _ e wq=>∃ u,e=.returned u∧OneMsg w9.heap.size #[.int .i64 1,.int .i64 2,.int .i64 0,.int .i64 0,.int .i64 0,.int .i64 0,.int .i64 0,.slice none 0 0,.string ⟨#[]⟩,.int .i64 0,.int .i64 0,.int .i64 (4294967296+1),.int .i64 1,.int .u64 0,.int .i64 0,.int .i64 0,.slice none 0 0,.int .i64 0,.int .i64 0].toList u wq) (S':=fun _=>Emp) 5 rfl hF7 hI (fun U hU hUl hUP=>(rpReceive_A w9 q.r A6 c6 (New w5 w6) U ⟨In.just hEl7.1 hj9 hDn,hEl7.2⟩ (fun b hb=>by have:=hb.2;have:=hj9.size;omega) (fun b hb hu=>hDn b hb (hUP b hu)) hU hUl).mono fun e wq h=>⟨(),h.1,trivial,h.2⟩)).mono fun e wq hq=>by obtain⟨_,⟨u,h1,h2⟩,h3,h4⟩:=hq;exact⟨u,h1,h3,h4,h2.mono hj9.size⟩))) (fun v49=>?_)
 refine fl_end (fun _ _ w9 (hj9:Just (Lic V5 w7) _ w9) hend hfacts=>hT _ _ ?_)
 clear hops hA' hK hT
 simp only[putsL,Act.put,List.setIfInBounds_toArray,List.set_cons_zero,List.set_cons_succ]
 have hO:OneMsg w7.heap.size #[.int .i64 1,.int .i64 2,.int .i64 0,.int .i64 0,.int .i64 0,.int .i64 0,.int .i64 0,.slice none 0 0,.string ⟨#[]⟩,.int .i64 0,.int .i64 0,.int .i64 (4294967296+1),.int .i64 1,.int .u64 0,.int .i64 0,.int .i64 0,.slice none 0 0,.int .i64 0,.int .i64 0].toList v49 w9:=behind_take hfacts.1
 have hS9:Solo (Lic V5 w7) (Many (woL W q [] Emp (A3 q.a)++[Cell ze 100 #[.int .i64 0,.int .i64 0,.int .i64 0,.int .i64 0,.int .i64 0,.int .i64 0,.int .u64 0,.int .i64 0],Cell x 211 #[.int .i64 1,.int .i64 0,.slice A m c],Cell z 100 #[.int .i64 0,.int .i64 0,.int .i64 0,.int .i64 0,.int .i64 0,.int .i64 0,.int .u64 0,.int .i64 0]])) w9:=hend
 clear hfacts
 have hBa:∀ w1,Grow w9 w1→Calls Tryz.prog 252 #[.agg (ansM (4294967296+1) 1 0).toList.toArray] w1 fun en w'=>∃ v,en=.returned (.tuple #[v,.int .i64 0])∧Grow w1 w'∧IsBytes (frame (ansB (4294967296+1) 1 0)) v w':=fun w1 hg=>mBytes_ans w1 (4294967296+1) 1 0 (by omega) (by omega) (by omega)
 have hFw:=woL_framed W q [] Emp (A3 q.a) Emp.framed hAT
 have hSd:=Solo.at_ 0 rfl ((((AllFramed.nil.cons (Cell.framed z 100 #[.int .i64 0,.int .i64 0,.int .i64 0,.int .i64 0,.int .i64 0,.int .i64 0,.int .u64 0,.int .i64 0])).cons (Cell.framed x 211 #[.int .i64 1,.int .i64 0,.slice A m c])).cons (Cell.framed ze 100 #[.int .i64 0,.int .i64 0,.int .i64 0,.int .i64 0,.int .i64 0,.int .i64 0,.int .u64 0,.int .i64 0])).cons (Many.framed _ hFw)) (Solo.unflat (l:=woL W q [] Emp (A3 q.a)) hS9) (fun U hU hUl=>wosend_1 w9 W q [] Emp (A3 q.a) Emp.framed hAT 0 1 (ansM (4294967296+1) 1 0).toList rfl rfl v49 _ hO (frame (ansB (4294967296+1) 1 0)) ans_len hBa rfl rfl (by simp) U hU hUl)
 refine reg_line 8 9 (by kernel_rfl) (by kernel_rfl) ?_
 simp only[List.take_succ_cons,List.take_zero,List.drop_succ_cons,List.drop_zero]
 go_wp2_with fail
 refine hSd.mono ?_
 rintro e wA ⟨rfl,hjA,hSA⟩
 have hSA:Solo (Lic V5 w7) (Many (woL W q [(0,1,frame (ansB (4294967296+1) 1 0))] Emp (A3 q.a)++[Cell ze 100 #[.int .i64 0,.int .i64 0,.int .i64 0,.int .i64 0,.int .i64 0,.int .i64 0,.int .u64 0,.int .i64 0],Cell x 211 #[.int .i64 1,.int .i64 0,.slice A m c],Cell z 100 #[.int .i64 0,.int .i64 0,.int .i64 0,.int .i64 0,.int .i64 0,.int .i64 0,.int .u64 0,.int .i64 0]])) wA:=Solo.flat (l:=woL W q [(0,1,frame (ansB (4294967296+1) 1 0))] Emp (A3 q.a)) hSA
 have hFA:=allFramed_app (woL_framed W q [(0,1,frame (ansB (4294967296+1) 1 0))] Emp (A3 q.a) Emp.framed hAT) (((AllFramed.nil.cons (Cell.framed z 100 #[.int .i64 0,.int .i64 0,.int .i64 0,.int .i64 0,.int .i64 0,.int .i64 0,.int .u64 0,.int .i64 0])).cons (Cell.framed x 211 #[.int .i64 1,.int .i64 0,.slice A m c])).cons (Cell.framed ze 100 #[.int .i64 0,.int .i64 0,.int .i64 0,.int .i64 0,.int .i64 0,.int .i64 0,.int .u64 0,.int .i64 0]))
 have JA:=hj9.trans hjA
 go_wp2_with fail
 refine reg_end ?_
 have hze:=hSA.blk 7 rfl
 have hzA:=hSA.blk 9 rfl
 go_wp2_with (first|(refine wpList_load_blk rfl 100 _ rfl _ rfl (hze) Tryz.underlying100 (by kernel_rfl) ?_)|(refine wpList_fill rfl 100 _ _ rfl _ rfl [.int .i64 0,.int .i64 0,.int .i64 0,.int .i64 0,.int .i64 0,.int .i64 0,.int .u64 0,.int .i64 0] rfl hzA rfl rfl (by kernel_rfl) ?_;intro wB hZB hjB hsB;refine stay ?_))
 refine stay_out ?_
 have hSB:=hSA.turned 9 rfl hFA hjB hZB
 have JB:=JA.trans (hjB.imp fun b hb=>hb▸(hSA.lics 9 rfl).1)
 go_wp2_with fail
 refine bodyPost_ret (results_blk rfl _ z rfl hZB Tryz.underlying100 (by kernel_rfl)) rfl ?_
 have hSC:Solo (Lic V5 w7) (Many (woL W q [(0,1,frame (ansB (4294967296+1) 1 0))] Emp (A3 q.a))) wB:=(Solo.perm (List.perm_append_comm (l₁:=woL W q [(0,1,frame (ansB (4294967296+1) 1 0))] Emp (A3 q.a)) (l₂:=[Cell ze 100 #[.int .i64 0,.int .i64 0,.int .i64 0,.int .i64 0,.int .i64 0,.int .i64 0,.int .u64 0,.int .i64 0],Cell x 211 #[.int .i64 1,.int .i64 0,.slice A m c],Cell z 100 #[.int .i64 0,.int .i64 0,.int .i64 0,.int .i64 0,.int .i64 0,.int .i64 0,.int .u64 0,.int .i64 0]])) hSB).drop1.drop1.drop1
 obtain⟨r1,r2⟩:=Solo.done hSC JB hl5
 have J9:Just (Lic V w) w wB:=(J5.trans (Just.of_grow hg57)).trans (r2.imp fun b hb=>(hV5 b hb).1)
 have hSD:Solo (Lic V w) (Many (woL W q [(0,1,frame (ansB (4294967296+1) 1 0))] Emp (A3 q.a))) wB:=Solo.of_new (fun b hb => .inr (Nat.le_trans J9.size hb)) r1 fun b hb=>by
  have h5:=J5.size
  have h2:=r2.size
  rcases hb with hb|hb
  ·exact⟨(hV5 b hb).1,by have:=(hV5 b hb).2;omega⟩
  ·exact⟨.inr (by have:=hb.1;omega),hb.2⟩
 obtain⟨s1,s2⟩:=Solo.done hSD J9 hV
 exact⟨rfl,s1,s2⟩
end Go.Proofs.YtmijcbfgfkeodaaGreatDoor
end
