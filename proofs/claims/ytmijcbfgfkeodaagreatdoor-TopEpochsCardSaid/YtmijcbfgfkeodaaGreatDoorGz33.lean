/- Wd9. -/
import Derived.Test.YtmijcbfgfkeodaaGreatDoorGz32
set_option linter.all false
set_option maxRecDepth 100000
section
namespace Go.Proofs.YtmijcbfgfkeodaaGreatDoor
open Go.RowKit Go.Hop Go.Proofs.YtmijcbfgfkeodaaGreatDoor.V
theorem do_ingest (w:World) (W:Nat) (q:WoP) (RT:Thing) (hRT:Framed RT) (V:Nat→Prop) (hM:Many (woL W q [] (RT) (A0 q.a)) w V) (hV:∀ b,V b→b<w.heap.size) :
 Calls Tryz.prog 116 #[.pointer (some ⟨W,0,none⟩),.agg #[.int .i64 9,.int .i64 1,.int .i64 0,.int .i64 7,.string tA1]] w fun e w'=>e=.returned (.agg #[.int .i64 0,.int .i64 0,.int .i64 0,.int .i64 0,.int .i64 0,.int .i64 0,.int .u64 0,.int .i64 0])∧Many (woL W q [] (RT) (A1 q.a)) w' (Ext V w w')∧Just V w w':=by
 have hRT:Framed (RT):=hRT
 have hAT:Framed (A0 q.a):=A0.framed q.a
 have hS0:=Solo.begin_ hM hV
 have hF0:=woL_framed W q [] (RT) (A0 q.a) hRT hAT
 have g1:=grow_alloc w (.cells #[.int .i64 9,.int .i64 1,.int .i64 0,.int .i64 7,.string tA1] 98)
 have b1:=Blk.made w 98 #[.int .i64 9,.int .i64 1,.int .i64 0,.int .i64 7,.string tA1]
 have g2r:=grow_alloc (w.alloc (.cells #[.int .i64 9,.int .i64 1,.int .i64 0,.int .i64 7,.string tA1] 98)) (.cells #[.int .i64 0,.int .i64 0,.int .i64 0,.int .i64 0,.int .i64 0,.int .i64 0,.int .u64 0,.int .i64 0] 100)
 have rY:=b1.grow g2r
 have rW:=(hS0.blk 0 rfl).grow (g1.trans g2r)
 unfold wdC at rW
 have c0:=rY.cell 0
 have c1:=rY.cell 1
 have c2:=rY.cell 2
 have c3:=rY.cell 3
 have c4:=rY.cell 4
 obtain⟨y,HY⟩:∃ y:Nat,Hid (y=w.heap.size):=⟨_,rfl⟩
 obtain⟨wa,HA_⟩:∃ wa:World,Hid (wa=w.alloc (.cells #[.int .i64 9,.int .i64 1,.int .i64 0,.int .i64 7,.string tA1] 98)):=⟨_,rfl⟩
 have hz0:wa.heap.size=y+1:=by rw[HA_.out,HY.out];simp
 rw[←HA_.out] at g1 b1
 rw[←HY.out] at b1
 have g2:=grow_alloc wa (.cells #[.int .i64 0,.int .i64 0,.int .i64 0,.int .i64 0,.int .i64 0,.int .i64 0,.int .u64 0,.int .i64 0] 100)
 have b2:=Blk.made wa 100 #[.int .i64 0,.int .i64 0,.int .i64 0,.int .i64 0,.int .i64 0,.int .i64 0,.int .u64 0,.int .i64 0]
 obtain⟨z,HZ⟩:∃ z:Nat,Hid (z=y+1):=⟨_,rfl⟩
 obtain⟨wb,HB_⟩:∃ wb:World,Hid (wb=wa.alloc (.cells #[.int .i64 0,.int .i64 0,.int .i64 0,.int .i64 0,.int .i64 0,.int .i64 0,.int .u64 0,.int .i64 0] 100)):=⟨_,rfl⟩
 rw[←HB_.out] at g2 b2
 rw[hz0,←HZ.out] at b2
 have hSa:=hS0.join hF0 g1 (R:=Cell y 98 #[.int .i64 9,.int .i64 1,.int .i64 0,.int .i64 7,.string tA1]) (U:=fun b=>b=y) ⟨rfl,b1⟩ (fun b hb=>by have h8:b=y:=hb;have:=HY.out;have:=b1.lt;omega)
 have hFa:=hF0.cons (Cell.framed y 98 #[.int .i64 9,.int .i64 1,.int .i64 0,.int .i64 7,.string tA1])
 have hSb:=hSa.join hFa g2 (R:=Cell z 100 #[.int .i64 0,.int .i64 0,.int .i64 0,.int .i64 0,.int .i64 0,.int .i64 0,.int .u64 0,.int .i64 0]) (U:=fun b=>b=z) ⟨rfl,b2⟩ (fun b hb=>by have h8:b=z:=hb;have:=HZ.out;have:=b2.lt;omega)
 have hSb:Solo (Lic V w) (Many (woL W q [] (RT) (A0 q.a)++[Cell z 100 #[.int .i64 0,.int .i64 0,.int .i64 0,.int .i64 0,.int .i64 0,.int .i64 0,.int .u64 0,.int .i64 0],Cell y 98 #[.int .i64 9,.int .i64 1,.int .i64 0,.int .i64 7,.string tA1]])) wb:=hSb.perm (List.perm_append_comm (l₁:=[Cell z 100 #[.int .i64 0,.int .i64 0,.int .i64 0,.int .i64 0,.int .i64 0,.int .i64 0,.int .u64 0,.int .i64 0],Cell y 98 #[.int .i64 9,.int .i64 1,.int .i64 0,.int .i64 7,.string tA1]]))
 have hFb:=allFramed_app hF0 ((AllFramed.nil.cons (Cell.framed y 98 #[.int .i64 9,.int .i64 1,.int .i64 0,.int .i64 7,.string tA1])).cons (Cell.framed z 100 #[.int .i64 0,.int .i64 0,.int .i64 0,.int .i64 0,.int .i64 0,.int .i64 0,.int .u64 0,.int .i64 0]))
 have Jb:Just (Lic V w) w wb:=(Just.of_grow g1).trans (Just.of_grow g2)
 have hyz:¬ (fun b=>b=z) y:=fun e=>by have e2:y=z:=e;have:=HZ.out;omega
 clear b1 b2 g1 g2 hz0 hSa g2r
 have hc:=Solo.at_ 0 rfl (((AllFramed.nil.cons (Cell.framed y 98 #[.int .i64 9,.int .i64 1,.int .i64 0,.int .i64 7,.string tA1])).cons (Cell.framed z 100 #[.int .i64 0,.int .i64 0,.int .i64 0,.int .i64 0,.int .i64 0,.int .i64 0,.int .u64 0,.int .i64 0])).cons (Many.framed _ hF0)) (Solo.unflat (l:=woL W q [] (RT) (A0 q.a)) hSb) (fun U hU hUl=>call_ingest wb W q RT hRT U hU hUl)
 go_enter Tryz.func116,Tryz.ntmps116
 go_wp2_with fail
 rw[←HA_.out,←HY.out,←HB_.out,←HZ.out]
 clear c0 c1 c2 c3 c4
 refine hc.mono ?_
 rintro e w2 ⟨rfl,hj2,hS2⟩
 have hS2:Solo (Lic V w) (Many (woL W q [] (RT) (A1 q.a)++[Cell z 100 #[.int .i64 0,.int .i64 0,.int .i64 0,.int .i64 0,.int .i64 0,.int .i64 0,.int .u64 0,.int .i64 0],Cell y 98 #[.int .i64 9,.int .i64 1,.int .i64 0,.int .i64 7,.string tA1]])) w2:=Solo.flat (l:=woL W q [] (RT) (A1 q.a)) hS2
 have hF2:=allFramed_app (woL_framed W q [] (RT) (A1 q.a) (hRT) (A1.framed q.a)) ((AllFramed.nil.cons (Cell.framed y 98 #[.int .i64 9,.int .i64 1,.int .i64 0,.int .i64 7,.string tA1])).cons (Cell.framed z 100 #[.int .i64 0,.int .i64 0,.int .i64 0,.int .i64 0,.int .i64 0,.int .i64 0,.int .u64 0,.int .i64 0]))
 have J2:=Jb.trans hj2
 have hz_:=hS2.blk 7 rfl
 go_wp2_with (refine wpList_fill rfl 100 _ _ rfl _ rfl [.int .i64 0,.int .i64 0,.int .i64 0,.int .i64 0,.int .i64 0,.int .i64 0,.int .u64 0,.int .i64 0] rfl hz_ rfl rfl (by kernel_rfl) ?_;intro w9 hZ9 hj9 hs9;refine stay ?_)
 refine stay_out ?_
 have hS9:=hS2.turned 7 rfl hF2 hj9 hZ9
 have J9:=J2.trans (hj9.imp fun b hb=>hb▸(hS2.lics 7 rfl).1)
 go_wp2_with fail
 refine bodyPost_ret (results_blk rfl _ z rfl hZ9 Tryz.underlying100 (by kernel_rfl)) rfl ?_
 have hS10:Solo (Lic V w) (Many (woL W q [] (RT) (A1 q.a))) w9:=(Solo.perm (List.perm_append_comm (l₁:=woL W q [] (RT) (A1 q.a)) (l₂:=[Cell z 100 #[.int .i64 0,.int .i64 0,.int .i64 0,.int .i64 0,.int .i64 0,.int .i64 0,.int .u64 0,.int .i64 0],Cell y 98 #[.int .i64 9,.int .i64 1,.int .i64 0,.int .i64 7,.string tA1]])) hS9).drop1.drop1
 obtain⟨r1,r2⟩:=Solo.done hS10 J9 hV
 exact⟨rfl,r1,r2⟩
theorem do_batch (w:World) (W:Nat) (q:WoP) (RT:Thing) (hRT:Framed RT) (V:Nat→Prop) (hM:Many (woL W q [] (RT) (A1 q.a)) w V) (hV:∀ b,V b→b<w.heap.size) :
 Calls Tryz.prog 116 #[.pointer (some ⟨W,0,none⟩),.agg #[.int .i64 10,.int .i64 1,.int .i64 0,.int .i64 0,.string ⟨#[]⟩]] w fun e w'=>e=.returned (.agg #[.int .i64 0,.int .i64 0,.int .i64 1,.int .i64 0,.int .i64 0,.int .i64 0,.int .u64 0,.int .i64 0])∧Many (woL W q [] (RT) (A2 q.a)) w' (Ext V w w')∧Just V w w':=by
 have hRT:Framed (RT):=hRT
 have hAT:Framed (A1 q.a):=A1.framed q.a
 have hS0:=Solo.begin_ hM hV
 have hF0:=woL_framed W q [] (RT) (A1 q.a) hRT hAT
 have g1:=grow_alloc w (.cells #[.int .i64 10,.int .i64 1,.int .i64 0,.int .i64 0,.string ⟨#[]⟩] 98)
 have b1:=Blk.made w 98 #[.int .i64 10,.int .i64 1,.int .i64 0,.int .i64 0,.string ⟨#[]⟩]
 have g2r:=grow_alloc (w.alloc (.cells #[.int .i64 10,.int .i64 1,.int .i64 0,.int .i64 0,.string ⟨#[]⟩] 98)) (.cells #[.int .i64 0,.int .i64 0,.int .i64 0,.int .i64 0,.int .i64 0,.int .i64 0,.int .u64 0,.int .i64 0] 100)
 have rY:=b1.grow g2r
 have rW:=(hS0.blk 0 rfl).grow (g1.trans g2r)
 unfold wdC at rW
 have c0:=rY.cell 0
 have c1:=rY.cell 1
 have c2:=rY.cell 2
 have c3:=rY.cell 3
 have c4:=rY.cell 4
 obtain⟨y,HY⟩:∃ y:Nat,Hid (y=w.heap.size):=⟨_,rfl⟩
 obtain⟨wa,HA_⟩:∃ wa:World,Hid (wa=w.alloc (.cells #[.int .i64 10,.int .i64 1,.int .i64 0,.int .i64 0,.string ⟨#[]⟩] 98)):=⟨_,rfl⟩
 have hz0:wa.heap.size=y+1:=by rw[HA_.out,HY.out];simp
 rw[←HA_.out] at g1 b1
 rw[←HY.out] at b1
 have g2:=grow_alloc wa (.cells #[.int .i64 0,.int .i64 0,.int .i64 0,.int .i64 0,.int .i64 0,.int .i64 0,.int .u64 0,.int .i64 0] 100)
 have b2:=Blk.made wa 100 #[.int .i64 0,.int .i64 0,.int .i64 0,.int .i64 0,.int .i64 0,.int .i64 0,.int .u64 0,.int .i64 0]
 obtain⟨z,HZ⟩:∃ z:Nat,Hid (z=y+1):=⟨_,rfl⟩
 obtain⟨wb,HB_⟩:∃ wb:World,Hid (wb=wa.alloc (.cells #[.int .i64 0,.int .i64 0,.int .i64 0,.int .i64 0,.int .i64 0,.int .i64 0,.int .u64 0,.int .i64 0] 100)):=⟨_,rfl⟩
 rw[←HB_.out] at g2 b2
 rw[hz0,←HZ.out] at b2
 have hSa:=hS0.join hF0 g1 (R:=Cell y 98 #[.int .i64 10,.int .i64 1,.int .i64 0,.int .i64 0,.string ⟨#[]⟩]) (U:=fun b=>b=y) ⟨rfl,b1⟩ (fun b hb=>by have h8:b=y:=hb;have:=HY.out;have:=b1.lt;omega)
 have hFa:=hF0.cons (Cell.framed y 98 #[.int .i64 10,.int .i64 1,.int .i64 0,.int .i64 0,.string ⟨#[]⟩])
 have hSb:=hSa.join hFa g2 (R:=Cell z 100 #[.int .i64 0,.int .i64 0,.int .i64 0,.int .i64 0,.int .i64 0,.int .i64 0,.int .u64 0,.int .i64 0]) (U:=fun b=>b=z) ⟨rfl,b2⟩ (fun b hb=>by have h8:b=z:=hb;have:=HZ.out;have:=b2.lt;omega)
 have hSb:Solo (Lic V w) (Many (woL W q [] (RT) (A1 q.a)++[Cell z 100 #[.int .i64 0,.int .i64 0,.int .i64 0,.int .i64 0,.int .i64 0,.int .i64 0,.int .u64 0,.int .i64 0],Cell y 98 #[.int .i64 10,.int .i64 1,.int .i64 0,.int .i64 0,.string ⟨#[]⟩]])) wb:=hSb.perm (List.perm_append_comm (l₁:=[Cell z 100 #[.int .i64 0,.int .i64 0,.int .i64 0,.int .i64 0,.int .i64 0,.int .i64 0,.int .u64 0,.int .i64 0],Cell y 98 #[.int .i64 10,.int .i64 1,.int .i64 0,.int .i64 0,.string ⟨#[]⟩]]))
 have hFb:=allFramed_app hF0 ((AllFramed.nil.cons (Cell.framed y 98 #[.int .i64 10,.int .i64 1,.int .i64 0,.int .i64 0,.string ⟨#[]⟩])).cons (Cell.framed z 100 #[.int .i64 0,.int .i64 0,.int .i64 0,.int .i64 0,.int .i64 0,.int .i64 0,.int .u64 0,.int .i64 0]))
 have Jb:Just (Lic V w) w wb:=(Just.of_grow g1).trans (Just.of_grow g2)
 have hyz:¬ (fun b=>b=z) y:=fun e=>by have e2:y=z:=e;have:=HZ.out;omega
 clear b1 b2 g1 g2 hz0 hSa g2r
 have hc:=Solo.at_ 0 rfl (((AllFramed.nil.cons (Cell.framed y 98 #[.int .i64 10,.int .i64 1,.int .i64 0,.int .i64 0,.string ⟨#[]⟩])).cons (Cell.framed z 100 #[.int .i64 0,.int .i64 0,.int .i64 0,.int .i64 0,.int .i64 0,.int .i64 0,.int .u64 0,.int .i64 0])).cons (Many.framed _ hF0)) (Solo.unflat (l:=woL W q [] (RT) (A1 q.a)) hSb) (fun U hU hUl=>call_batch wb W q RT hRT U hU hUl)
 go_enter Tryz.func116,Tryz.ntmps116
 go_wp2_with fail
 rw[←HA_.out,←HY.out,←HB_.out,←HZ.out]
 clear c0 c1 c2 c3 c4
 refine hc.mono ?_
 rintro e w2 ⟨rfl,hj2,hS2⟩
 have hS2:Solo (Lic V w) (Many (woL W q [] (RT) (A2 q.a)++[Cell z 100 #[.int .i64 0,.int .i64 0,.int .i64 0,.int .i64 0,.int .i64 0,.int .i64 0,.int .u64 0,.int .i64 0],Cell y 98 #[.int .i64 10,.int .i64 1,.int .i64 0,.int .i64 0,.string ⟨#[]⟩]])) w2:=Solo.flat (l:=woL W q [] (RT) (A2 q.a)) hS2
 have hF2:=allFramed_app (woL_framed W q [] (RT) (A2 q.a) (hRT) (A2.framed q.a)) ((AllFramed.nil.cons (Cell.framed y 98 #[.int .i64 10,.int .i64 1,.int .i64 0,.int .i64 0,.string ⟨#[]⟩])).cons (Cell.framed z 100 #[.int .i64 0,.int .i64 0,.int .i64 0,.int .i64 0,.int .i64 0,.int .i64 0,.int .u64 0,.int .i64 0]))
 have J2:=Jb.trans hj2
 have hz_:=hS2.blk 7 rfl
 go_wp2_with (refine wpList_fill rfl 100 _ _ rfl _ rfl [.int .i64 0,.int .i64 0,.int .i64 1,.int .i64 0,.int .i64 0,.int .i64 0,.int .u64 0,.int .i64 0] rfl hz_ rfl rfl (by kernel_rfl) ?_;intro w9 hZ9 hj9 hs9;refine stay ?_)
 refine stay_out ?_
 have hS9:=hS2.turned 7 rfl hF2 hj9 hZ9
 have J9:=J2.trans (hj9.imp fun b hb=>hb▸(hS2.lics 7 rfl).1)
 go_wp2_with fail
 refine bodyPost_ret (results_blk rfl _ z rfl hZ9 Tryz.underlying100 (by kernel_rfl)) rfl ?_
 have hS10:Solo (Lic V w) (Many (woL W q [] (RT) (A2 q.a))) w9:=(Solo.perm (List.perm_append_comm (l₁:=woL W q [] (RT) (A2 q.a)) (l₂:=[Cell z 100 #[.int .i64 0,.int .i64 0,.int .i64 1,.int .i64 0,.int .i64 0,.int .i64 0,.int .u64 0,.int .i64 0],Cell y 98 #[.int .i64 10,.int .i64 1,.int .i64 0,.int .i64 0,.string ⟨#[]⟩]])) hS9).drop1.drop1
 obtain⟨r1,r2⟩:=Solo.done hS10 J9 hV
 exact⟨rfl,r1,r2⟩
theorem do_tick (w:World) (W:Nat) (q:WoP) (RT:Thing) (hRT:Framed RT) (V:Nat→Prop) (hM:Many (woL W q [] (RT) (A2 q.a)) w V) (hV:∀ b,V b→b<w.heap.size) :
 Calls Tryz.prog 116 #[.pointer (some ⟨W,0,none⟩),.agg #[.int .i64 1,.int .i64 1,.int .i64 0,.int .i64 1,.string ⟨#[]⟩]] w fun e w'=>e=.returned (.agg #[.int .i64 0,.int .i64 1,.int .i64 0,.int .i64 0,.int .i64 0,.int .i64 0,.int .u64 0,.int .i64 0])∧Many (woL W q [(1,0,frame (askB eAsk))] (RT) (A3 q.a)) w' (Ext V w w')∧Just V w w':=by
 have hRT:Framed (RT):=hRT
 have hAT:Framed (A2 q.a):=A2.framed q.a
 have hS0:=Solo.begin_ hM hV
 have hF0:=woL_framed W q [] (RT) (A2 q.a) hRT hAT
 have g1:=grow_alloc w (.cells #[.int .i64 1,.int .i64 1,.int .i64 0,.int .i64 1,.string ⟨#[]⟩] 98)
 have b1:=Blk.made w 98 #[.int .i64 1,.int .i64 1,.int .i64 0,.int .i64 1,.string ⟨#[]⟩]
 have g2r:=grow_alloc (w.alloc (.cells #[.int .i64 1,.int .i64 1,.int .i64 0,.int .i64 1,.string ⟨#[]⟩] 98)) (.cells #[.int .i64 0,.int .i64 0,.int .i64 0,.int .i64 0,.int .i64 0,.int .i64 0,.int .u64 0,.int .i64 0] 100)
 have rY:=b1.grow g2r
 have rW:=(hS0.blk 0 rfl).grow (g1.trans g2r)
 unfold wdC at rW
 have c0:=rY.cell 0
 have c1:=rY.cell 1
 have c2:=rY.cell 2
 have c3:=rY.cell 3
 have c4:=rY.cell 4
 obtain⟨y,HY⟩:∃ y:Nat,Hid (y=w.heap.size):=⟨_,rfl⟩
 obtain⟨wa,HA_⟩:∃ wa:World,Hid (wa=w.alloc (.cells #[.int .i64 1,.int .i64 1,.int .i64 0,.int .i64 1,.string ⟨#[]⟩] 98)):=⟨_,rfl⟩
 have hz0:wa.heap.size=y+1:=by rw[HA_.out,HY.out];simp
 rw[←HA_.out] at g1 b1
 rw[←HY.out] at b1
 have g2:=grow_alloc wa (.cells #[.int .i64 0,.int .i64 0,.int .i64 0,.int .i64 0,.int .i64 0,.int .i64 0,.int .u64 0,.int .i64 0] 100)
 have b2:=Blk.made wa 100 #[.int .i64 0,.int .i64 0,.int .i64 0,.int .i64 0,.int .i64 0,.int .i64 0,.int .u64 0,.int .i64 0]
 obtain⟨z,HZ⟩:∃ z:Nat,Hid (z=y+1):=⟨_,rfl⟩
 obtain⟨wb,HB_⟩:∃ wb:World,Hid (wb=wa.alloc (.cells #[.int .i64 0,.int .i64 0,.int .i64 0,.int .i64 0,.int .i64 0,.int .i64 0,.int .u64 0,.int .i64 0] 100)):=⟨_,rfl⟩
 rw[←HB_.out] at g2 b2
 rw[hz0,←HZ.out] at b2
 have hSa:=hS0.join hF0 g1 (R:=Cell y 98 #[.int .i64 1,.int .i64 1,.int .i64 0,.int .i64 1,.string ⟨#[]⟩]) (U:=fun b=>b=y) ⟨rfl,b1⟩ (fun b hb=>by have h8:b=y:=hb;have:=HY.out;have:=b1.lt;omega)
 have hFa:=hF0.cons (Cell.framed y 98 #[.int .i64 1,.int .i64 1,.int .i64 0,.int .i64 1,.string ⟨#[]⟩])
 have hSb:=hSa.join hFa g2 (R:=Cell z 100 #[.int .i64 0,.int .i64 0,.int .i64 0,.int .i64 0,.int .i64 0,.int .i64 0,.int .u64 0,.int .i64 0]) (U:=fun b=>b=z) ⟨rfl,b2⟩ (fun b hb=>by have h8:b=z:=hb;have:=HZ.out;have:=b2.lt;omega)
 have hSb:Solo (Lic V w) (Many (woL W q [] (RT) (A2 q.a)++[Cell z 100 #[.int .i64 0,.int .i64 0,.int .i64 0,.int .i64 0,.int .i64 0,.int .i64 0,.int .u64 0,.int .i64 0],Cell y 98 #[.int .i64 1,.int .i64 1,.int .i64 0,.int .i64 1,.string ⟨#[]⟩]])) wb:=hSb.perm (List.perm_append_comm (l₁:=[Cell z 100 #[.int .i64 0,.int .i64 0,.int .i64 0,.int .i64 0,.int .i64 0,.int .i64 0,.int .u64 0,.int .i64 0],Cell y 98 #[.int .i64 1,.int .i64 1,.int .i64 0,.int .i64 1,.string ⟨#[]⟩]]))
 have hFb:=allFramed_app hF0 ((AllFramed.nil.cons (Cell.framed y 98 #[.int .i64 1,.int .i64 1,.int .i64 0,.int .i64 1,.string ⟨#[]⟩])).cons (Cell.framed z 100 #[.int .i64 0,.int .i64 0,.int .i64 0,.int .i64 0,.int .i64 0,.int .i64 0,.int .u64 0,.int .i64 0]))
 have Jb:Just (Lic V w) w wb:=(Just.of_grow g1).trans (Just.of_grow g2)
 have hyz:¬ (fun b=>b=z) y:=fun e=>by have e2:y=z:=e;have:=HZ.out;omega
 clear b1 b2 g1 g2 hz0 hSa g2r
 have hc:=Solo.at_ 0 rfl (((AllFramed.nil.cons (Cell.framed y 98 #[.int .i64 1,.int .i64 1,.int .i64 0,.int .i64 1,.string ⟨#[]⟩])).cons (Cell.framed z 100 #[.int .i64 0,.int .i64 0,.int .i64 0,.int .i64 0,.int .i64 0,.int .i64 0,.int .u64 0,.int .i64 0])).cons (Many.framed _ hF0)) (Solo.unflat (l:=woL W q [] (RT) (A2 q.a)) hSb) (fun U hU hUl=>wotick_1 wb W q RT hRT U hU hUl)
 go_enter Tryz.func116,Tryz.ntmps116
 go_wp2_with fail
 rw[←HA_.out,←HY.out,←HB_.out,←HZ.out]
 clear c0 c1 c2 c3 c4
 refine hc.mono ?_
 rintro e w2 ⟨rfl,hj2,hS2⟩
 have hS2:Solo (Lic V w) (Many (woL W q [(1,0,frame (askB eAsk))] (RT) (A3 q.a)++[Cell z 100 #[.int .i64 0,.int .i64 0,.int .i64 0,.int .i64 0,.int .i64 0,.int .i64 0,.int .u64 0,.int .i64 0],Cell y 98 #[.int .i64 1,.int .i64 1,.int .i64 0,.int .i64 1,.string ⟨#[]⟩]])) w2:=Solo.flat (l:=woL W q [(1,0,frame (askB eAsk))] (RT) (A3 q.a)) hS2
 have hF2:=allFramed_app (woL_framed W q [(1,0,frame (askB eAsk))] (RT) (A3 q.a) (hRT) (A3.framed q.a)) ((AllFramed.nil.cons (Cell.framed y 98 #[.int .i64 1,.int .i64 1,.int .i64 0,.int .i64 1,.string ⟨#[]⟩])).cons (Cell.framed z 100 #[.int .i64 0,.int .i64 0,.int .i64 0,.int .i64 0,.int .i64 0,.int .i64 0,.int .u64 0,.int .i64 0]))
 have J2:=Jb.trans hj2
 have hz_:=hS2.blk 7 rfl
 go_wp2_with (refine wpList_fill rfl 100 _ _ rfl _ rfl [.int .i64 0,.int .i64 1,.int .i64 0,.int .i64 0,.int .i64 0,.int .i64 0,.int .u64 0,.int .i64 0] rfl hz_ rfl rfl (by kernel_rfl) ?_;intro w9 hZ9 hj9 hs9;refine stay ?_)
 refine stay_out ?_
 have hS9:=hS2.turned 7 rfl hF2 hj9 hZ9
 have J9:=J2.trans (hj9.imp fun b hb=>hb▸(hS2.lics 7 rfl).1)
 go_wp2_with fail
 refine bodyPost_ret (results_blk rfl _ z rfl hZ9 Tryz.underlying100 (by kernel_rfl)) rfl ?_
 have hS10:Solo (Lic V w) (Many (woL W q [(1,0,frame (askB eAsk))] (RT) (A3 q.a))) w9:=(Solo.perm (List.perm_append_comm (l₁:=woL W q [(1,0,frame (askB eAsk))] (RT) (A3 q.a)) (l₂:=[Cell z 100 #[.int .i64 0,.int .i64 1,.int .i64 0,.int .i64 0,.int .i64 0,.int .i64 0,.int .u64 0,.int .i64 0],Cell y 98 #[.int .i64 1,.int .i64 1,.int .i64 0,.int .i64 1,.string ⟨#[]⟩]])) hS9).drop1.drop1
 obtain⟨r1,r2⟩:=Solo.done hS10 J9 hV
 exact⟨rfl,r1,r2⟩
theorem do_ask (w:World) (W:Nat) (q:WoP) (V:Nat→Prop) (hM:Many (woL W q [(1,0,frame (askB eAsk))] (R1 q.r) (A3 q.a)) w V) (hV:∀ b,V b→b<w.heap.size) :
 Calls Tryz.prog 116 #[.pointer (some ⟨W,0,none⟩),.agg #[.int .i64 2,.int .i64 0,.int .i64 0,.int .i64 0,.string ⟨#[]⟩]] w fun e w'=>e=.returned (.agg #[.int .i64 0,.int .i64 0,.int .i64 0,.int .i64 0,.int .i64 0,.int .i64 0,.int .u64 0,.int .i64 0])∧Many (woL W q [(0,1,frame (ansB (4294967296+1) 1 0))] (Emp) (A3 q.a)) w' (Ext V w w')∧Just V w w':=by
 have hRT:Framed (R1 q.r):=R1.framed q.r
 have hAT:Framed (A3 q.a):=A3.framed q.a
 have hS0:=Solo.begin_ hM hV
 have hF0:=woL_framed W q [(1,0,frame (askB eAsk))] (R1 q.r) (A3 q.a) hRT hAT
 have g1:=grow_alloc w (.cells #[.int .i64 2,.int .i64 0,.int .i64 0,.int .i64 0,.string ⟨#[]⟩] 98)
 have b1:=Blk.made w 98 #[.int .i64 2,.int .i64 0,.int .i64 0,.int .i64 0,.string ⟨#[]⟩]
 have g2r:=grow_alloc (w.alloc (.cells #[.int .i64 2,.int .i64 0,.int .i64 0,.int .i64 0,.string ⟨#[]⟩] 98)) (.cells #[.int .i64 0,.int .i64 0,.int .i64 0,.int .i64 0,.int .i64 0,.int .i64 0,.int .u64 0,.int .i64 0] 100)
 have rY:=b1.grow g2r
 have rW:=(hS0.blk 0 rfl).grow (g1.trans g2r)
 unfold wdC at rW
 have c0:=rY.cell 0
 have c1:=rY.cell 1
 have c2:=rY.cell 2
 have c3:=rY.cell 3
 have c4:=rY.cell 4
 obtain⟨y,HY⟩:∃ y:Nat,Hid (y=w.heap.size):=⟨_,rfl⟩
 obtain⟨wa,HA_⟩:∃ wa:World,Hid (wa=w.alloc (.cells #[.int .i64 2,.int .i64 0,.int .i64 0,.int .i64 0,.string ⟨#[]⟩] 98)):=⟨_,rfl⟩
 have hz0:wa.heap.size=y+1:=by rw[HA_.out,HY.out];simp
 rw[←HA_.out] at g1 b1
 rw[←HY.out] at b1
 have g2:=grow_alloc wa (.cells #[.int .i64 0,.int .i64 0,.int .i64 0,.int .i64 0,.int .i64 0,.int .i64 0,.int .u64 0,.int .i64 0] 100)
 have b2:=Blk.made wa 100 #[.int .i64 0,.int .i64 0,.int .i64 0,.int .i64 0,.int .i64 0,.int .i64 0,.int .u64 0,.int .i64 0]
 obtain⟨z,HZ⟩:∃ z:Nat,Hid (z=y+1):=⟨_,rfl⟩
 obtain⟨wb,HB_⟩:∃ wb:World,Hid (wb=wa.alloc (.cells #[.int .i64 0,.int .i64 0,.int .i64 0,.int .i64 0,.int .i64 0,.int .i64 0,.int .u64 0,.int .i64 0] 100)):=⟨_,rfl⟩
 rw[←HB_.out] at g2 b2
 rw[hz0,←HZ.out] at b2
 have hSa:=hS0.join hF0 g1 (R:=Cell y 98 #[.int .i64 2,.int .i64 0,.int .i64 0,.int .i64 0,.string ⟨#[]⟩]) (U:=fun b=>b=y) ⟨rfl,b1⟩ (fun b hb=>by have h8:b=y:=hb;have:=HY.out;have:=b1.lt;omega)
 have hFa:=hF0.cons (Cell.framed y 98 #[.int .i64 2,.int .i64 0,.int .i64 0,.int .i64 0,.string ⟨#[]⟩])
 have hSb:=hSa.join hFa g2 (R:=Cell z 100 #[.int .i64 0,.int .i64 0,.int .i64 0,.int .i64 0,.int .i64 0,.int .i64 0,.int .u64 0,.int .i64 0]) (U:=fun b=>b=z) ⟨rfl,b2⟩ (fun b hb=>by have h8:b=z:=hb;have:=HZ.out;have:=b2.lt;omega)
 have hSb:Solo (Lic V w) (Many (woL W q [(1,0,frame (askB eAsk))] (R1 q.r) (A3 q.a)++[Cell z 100 #[.int .i64 0,.int .i64 0,.int .i64 0,.int .i64 0,.int .i64 0,.int .i64 0,.int .u64 0,.int .i64 0],Cell y 98 #[.int .i64 2,.int .i64 0,.int .i64 0,.int .i64 0,.string ⟨#[]⟩]])) wb:=hSb.perm (List.perm_append_comm (l₁:=[Cell z 100 #[.int .i64 0,.int .i64 0,.int .i64 0,.int .i64 0,.int .i64 0,.int .i64 0,.int .u64 0,.int .i64 0],Cell y 98 #[.int .i64 2,.int .i64 0,.int .i64 0,.int .i64 0,.string ⟨#[]⟩]]))
 have hFb:=allFramed_app hF0 ((AllFramed.nil.cons (Cell.framed y 98 #[.int .i64 2,.int .i64 0,.int .i64 0,.int .i64 0,.string ⟨#[]⟩])).cons (Cell.framed z 100 #[.int .i64 0,.int .i64 0,.int .i64 0,.int .i64 0,.int .i64 0,.int .i64 0,.int .u64 0,.int .i64 0]))
 have Jb:Just (Lic V w) w wb:=(Just.of_grow g1).trans (Just.of_grow g2)
 have hyz:¬ (fun b=>b=z) y:=fun e=>by have e2:y=z:=e;have:=HZ.out;omega
 clear b1 b2 g1 g2 hz0 hSa g2r
 have hc:=Solo.at_ 0 rfl (((AllFramed.nil.cons (Cell.framed y 98 #[.int .i64 2,.int .i64 0,.int .i64 0,.int .i64 0,.string ⟨#[]⟩])).cons (Cell.framed z 100 #[.int .i64 0,.int .i64 0,.int .i64 0,.int .i64 0,.int .i64 0,.int .i64 0,.int .u64 0,.int .i64 0])).cons (Many.framed _ hF0)) (Solo.unflat (l:=woL W q [(1,0,frame (askB eAsk))] (R1 q.r) (A3 q.a)) hSb) (fun U hU hUl=>wodeliver_1 wb W q U hU hUl)
 go_enter Tryz.func116,Tryz.ntmps116
 go_wp2_with fail
 rw[←HA_.out,←HY.out,←HB_.out,←HZ.out]
 clear c0 c1 c2 c3 c4
 refine hc.mono ?_
 rintro e w2 ⟨rfl,hj2,hS2⟩
 have hS2:Solo (Lic V w) (Many (woL W q [(0,1,frame (ansB (4294967296+1) 1 0))] (Emp) (A3 q.a)++[Cell z 100 #[.int .i64 0,.int .i64 0,.int .i64 0,.int .i64 0,.int .i64 0,.int .i64 0,.int .u64 0,.int .i64 0],Cell y 98 #[.int .i64 2,.int .i64 0,.int .i64 0,.int .i64 0,.string ⟨#[]⟩]])) w2:=Solo.flat (l:=woL W q [(0,1,frame (ansB (4294967296+1) 1 0))] (Emp) (A3 q.a)) hS2
 have hF2:=allFramed_app (woL_framed W q [(0,1,frame (ansB (4294967296+1) 1 0))] (Emp) (A3 q.a) (Emp.framed) (A3.framed q.a)) ((AllFramed.nil.cons (Cell.framed y 98 #[.int .i64 2,.int .i64 0,.int .i64 0,.int .i64 0,.string ⟨#[]⟩])).cons (Cell.framed z 100 #[.int .i64 0,.int .i64 0,.int .i64 0,.int .i64 0,.int .i64 0,.int .i64 0,.int .u64 0,.int .i64 0]))
 have J2:=Jb.trans hj2
 have hz_:=hS2.blk 7 rfl
 go_wp2_with (refine wpList_fill rfl 100 _ _ rfl _ rfl [.int .i64 0,.int .i64 0,.int .i64 0,.int .i64 0,.int .i64 0,.int .i64 0,.int .u64 0,.int .i64 0] rfl hz_ rfl rfl (by kernel_rfl) ?_;intro w9 hZ9 hj9 hs9;refine stay ?_)
 refine stay_out ?_
 have hS9:=hS2.turned 7 rfl hF2 hj9 hZ9
 have J9:=J2.trans (hj9.imp fun b hb=>hb▸(hS2.lics 7 rfl).1)
 go_wp2_with fail
 refine bodyPost_ret (results_blk rfl _ z rfl hZ9 Tryz.underlying100 (by kernel_rfl)) rfl ?_
 have hS10:Solo (Lic V w) (Many (woL W q [(0,1,frame (ansB (4294967296+1) 1 0))] (Emp) (A3 q.a))) w9:=(Solo.perm (List.perm_append_comm (l₁:=woL W q [(0,1,frame (ansB (4294967296+1) 1 0))] (Emp) (A3 q.a)) (l₂:=[Cell z 100 #[.int .i64 0,.int .i64 0,.int .i64 0,.int .i64 0,.int .i64 0,.int .i64 0,.int .u64 0,.int .i64 0],Cell y 98 #[.int .i64 2,.int .i64 0,.int .i64 0,.int .i64 0,.string ⟨#[]⟩]])) hS9).drop1.drop1
 obtain⟨r1,r2⟩:=Solo.done hS10 J9 hV
 exact⟨rfl,r1,r2⟩
theorem do_answer (w:World) (W:Nat) (q:WoP) (V:Nat→Prop) (hM:Many (woL W q [(0,1,frame (ansB (4294967296+1) 1 0))] (Emp) (A3 q.a)) w V) (hV:∀ b,V b→b<w.heap.size) :
 Calls Tryz.prog 116 #[.pointer (some ⟨W,0,none⟩),.agg #[.int .i64 2,.int .i64 0,.int .i64 0,.int .i64 0,.string ⟨#[]⟩]] w fun e w'=>e=.returned (.agg #[.int .i64 0,.int .i64 1,.int .i64 1,.int .i64 ((1:Nat):Int),.int .i64 0,.int .i64 1,.int .u64 0,.int .i64 0])∧Many (woL W q [] (Emp) (Emp)) w' (Ext V w w')∧Just V w w':=by
 have hRT:Framed (Emp):=Emp.framed
 have hAT:Framed (A3 q.a):=A3.framed q.a
 have hS0:=Solo.begin_ hM hV
 have hF0:=woL_framed W q [(0,1,frame (ansB (4294967296+1) 1 0))] (Emp) (A3 q.a) hRT hAT
 have g1:=grow_alloc w (.cells #[.int .i64 2,.int .i64 0,.int .i64 0,.int .i64 0,.string ⟨#[]⟩] 98)
 have b1:=Blk.made w 98 #[.int .i64 2,.int .i64 0,.int .i64 0,.int .i64 0,.string ⟨#[]⟩]
 have g2r:=grow_alloc (w.alloc (.cells #[.int .i64 2,.int .i64 0,.int .i64 0,.int .i64 0,.string ⟨#[]⟩] 98)) (.cells #[.int .i64 0,.int .i64 0,.int .i64 0,.int .i64 0,.int .i64 0,.int .i64 0,.int .u64 0,.int .i64 0] 100)
 have rY:=b1.grow g2r
 have rW:=(hS0.blk 0 rfl).grow (g1.trans g2r)
 unfold wdC at rW
 have c0:=rY.cell 0
 have c1:=rY.cell 1
 have c2:=rY.cell 2
 have c3:=rY.cell 3
 have c4:=rY.cell 4
 obtain⟨y,HY⟩:∃ y:Nat,Hid (y=w.heap.size):=⟨_,rfl⟩
 obtain⟨wa,HA_⟩:∃ wa:World,Hid (wa=w.alloc (.cells #[.int .i64 2,.int .i64 0,.int .i64 0,.int .i64 0,.string ⟨#[]⟩] 98)):=⟨_,rfl⟩
 have hz0:wa.heap.size=y+1:=by rw[HA_.out,HY.out];simp
 rw[←HA_.out] at g1 b1
 rw[←HY.out] at b1
 have g2:=grow_alloc wa (.cells #[.int .i64 0,.int .i64 0,.int .i64 0,.int .i64 0,.int .i64 0,.int .i64 0,.int .u64 0,.int .i64 0] 100)
 have b2:=Blk.made wa 100 #[.int .i64 0,.int .i64 0,.int .i64 0,.int .i64 0,.int .i64 0,.int .i64 0,.int .u64 0,.int .i64 0]
 obtain⟨z,HZ⟩:∃ z:Nat,Hid (z=y+1):=⟨_,rfl⟩
 obtain⟨wb,HB_⟩:∃ wb:World,Hid (wb=wa.alloc (.cells #[.int .i64 0,.int .i64 0,.int .i64 0,.int .i64 0,.int .i64 0,.int .i64 0,.int .u64 0,.int .i64 0] 100)):=⟨_,rfl⟩
 rw[←HB_.out] at g2 b2
 rw[hz0,←HZ.out] at b2
 have hSa:=hS0.join hF0 g1 (R:=Cell y 98 #[.int .i64 2,.int .i64 0,.int .i64 0,.int .i64 0,.string ⟨#[]⟩]) (U:=fun b=>b=y) ⟨rfl,b1⟩ (fun b hb=>by have h8:b=y:=hb;have:=HY.out;have:=b1.lt;omega)
 have hFa:=hF0.cons (Cell.framed y 98 #[.int .i64 2,.int .i64 0,.int .i64 0,.int .i64 0,.string ⟨#[]⟩])
 have hSb:=hSa.join hFa g2 (R:=Cell z 100 #[.int .i64 0,.int .i64 0,.int .i64 0,.int .i64 0,.int .i64 0,.int .i64 0,.int .u64 0,.int .i64 0]) (U:=fun b=>b=z) ⟨rfl,b2⟩ (fun b hb=>by have h8:b=z:=hb;have:=HZ.out;have:=b2.lt;omega)
 have hSb:Solo (Lic V w) (Many (woL W q [(0,1,frame (ansB (4294967296+1) 1 0))] (Emp) (A3 q.a)++[Cell z 100 #[.int .i64 0,.int .i64 0,.int .i64 0,.int .i64 0,.int .i64 0,.int .i64 0,.int .u64 0,.int .i64 0],Cell y 98 #[.int .i64 2,.int .i64 0,.int .i64 0,.int .i64 0,.string ⟨#[]⟩]])) wb:=hSb.perm (List.perm_append_comm (l₁:=[Cell z 100 #[.int .i64 0,.int .i64 0,.int .i64 0,.int .i64 0,.int .i64 0,.int .i64 0,.int .u64 0,.int .i64 0],Cell y 98 #[.int .i64 2,.int .i64 0,.int .i64 0,.int .i64 0,.string ⟨#[]⟩]]))
 have hFb:=allFramed_app hF0 ((AllFramed.nil.cons (Cell.framed y 98 #[.int .i64 2,.int .i64 0,.int .i64 0,.int .i64 0,.string ⟨#[]⟩])).cons (Cell.framed z 100 #[.int .i64 0,.int .i64 0,.int .i64 0,.int .i64 0,.int .i64 0,.int .i64 0,.int .u64 0,.int .i64 0]))
 have Jb:Just (Lic V w) w wb:=(Just.of_grow g1).trans (Just.of_grow g2)
 have hyz:¬ (fun b=>b=z) y:=fun e=>by have e2:y=z:=e;have:=HZ.out;omega
 clear b1 b2 g1 g2 hz0 hSa g2r
 have hc:=Solo.at_ 0 rfl (((AllFramed.nil.cons (Cell.framed y 98 #[.int .i64 2,.int .i64 0,.int .i64 0,.int .i64 0,.string ⟨#[]⟩])).cons (Cell.framed z 100 #[.int .i64 0,.int .i64 0,.int .i64 0,.int .i64 0,.int .i64 0,.int .i64 0,.int .u64 0,.int .i64 0])).cons (Many.framed _ hF0)) (Solo.unflat (l:=woL W q [(0,1,frame (ansB (4294967296+1) 1 0))] (Emp) (A3 q.a)) hSb) (fun U hU hUl=>wodeliver_2 wb W q U hU hUl)
 go_enter Tryz.func116,Tryz.ntmps116
 go_wp2_with fail
 rw[←HA_.out,←HY.out,←HB_.out,←HZ.out]
 clear c0 c1 c2 c3 c4
 refine hc.mono ?_
 rintro e w2 ⟨rfl,hj2,hS2⟩
 have hS2:Solo (Lic V w) (Many (woL W q [] (Emp) (Emp)++[Cell z 100 #[.int .i64 0,.int .i64 0,.int .i64 0,.int .i64 0,.int .i64 0,.int .i64 0,.int .u64 0,.int .i64 0],Cell y 98 #[.int .i64 2,.int .i64 0,.int .i64 0,.int .i64 0,.string ⟨#[]⟩]])) w2:=Solo.flat (l:=woL W q [] (Emp) (Emp)) hS2
 have hF2:=allFramed_app (woL_framed W q [] (Emp) (Emp) (Emp.framed) (Emp.framed)) ((AllFramed.nil.cons (Cell.framed y 98 #[.int .i64 2,.int .i64 0,.int .i64 0,.int .i64 0,.string ⟨#[]⟩])).cons (Cell.framed z 100 #[.int .i64 0,.int .i64 0,.int .i64 0,.int .i64 0,.int .i64 0,.int .i64 0,.int .u64 0,.int .i64 0]))
 have J2:=Jb.trans hj2
 have hz_:=hS2.blk 7 rfl
 go_wp2_with (refine wpList_fill rfl 100 _ _ rfl _ rfl [.int .i64 0,.int .i64 1,.int .i64 1,.int .i64 ((1:Nat):Int),.int .i64 0,.int .i64 1,.int .u64 0,.int .i64 0] rfl hz_ rfl rfl (by kernel_rfl) ?_;intro w9 hZ9 hj9 hs9;refine stay ?_)
 refine stay_out ?_
 have hS9:=hS2.turned 7 rfl hF2 hj9 hZ9
 have J9:=J2.trans (hj9.imp fun b hb=>hb▸(hS2.lics 7 rfl).1)
 go_wp2_with fail
 refine bodyPost_ret (results_blk rfl _ z rfl hZ9 Tryz.underlying100 (by kernel_rfl)) rfl ?_
 have hS10:Solo (Lic V w) (Many (woL W q [] (Emp) (Emp))) w9:=(Solo.perm (List.perm_append_comm (l₁:=woL W q [] (Emp) (Emp)) (l₂:=[Cell z 100 #[.int .i64 0,.int .i64 1,.int .i64 1,.int .i64 ((1:Nat):Int),.int .i64 0,.int .i64 1,.int .u64 0,.int .i64 0],Cell y 98 #[.int .i64 2,.int .i64 0,.int .i64 0,.int .i64 0,.string ⟨#[]⟩]])) hS9).drop1.drop1
 obtain⟨r1,r2⟩:=Solo.done hS10 J9 hV
 exact⟨rfl,r1,r2⟩
theorem do_lead (w:World) (W:Nat) (q:WoP) (AT:Thing) (hAT:Framed AT) (V:Nat→Prop) (hM:Many (woL W q [] (R0 q.r) AT) w V) (hV:∀ b,V b→b<w.heap.size) :
 Calls Tryz.prog 116 #[.pointer (some ⟨W,0,none⟩),.agg #[.int .i64 8,.int .i64 0,.int .i64 0,.int .i64 0,.string ⟨#[]⟩]] w fun e w'=>e=.returned (.agg #[.int .i64 0,.int .i64 0,.int .i64 0,.int .i64 0,.int .i64 0,.int .i64 0,.int .u64 0,.int .i64 0])∧Many (woL W q [] (R1 q.r) AT) w' (Ext V w w')∧Just V w w':=by
 have k32:∀ (vs:Array Value) (w:World),(callFunc 32 vs).run Tryz.prog w=.ok (.enter 32 vs) w:=fun vs w=>by go_simp
 have hRT:=R0.framed q.r
 have hS0:=Solo.begin_ hM hV
 have hF0:=woL_framed W q [] (R0 q.r) (AT) hRT hAT
 have g1:=grow_alloc w (.cells #[.int .i64 8,.int .i64 0,.int .i64 0,.int .i64 0,.string ⟨#[]⟩] 98)
 have b1:=Blk.made w 98 #[.int .i64 8,.int .i64 0,.int .i64 0,.int .i64 0,.string ⟨#[]⟩]
 have g2r:=grow_alloc (w.alloc (.cells #[.int .i64 8,.int .i64 0,.int .i64 0,.int .i64 0,.string ⟨#[]⟩] 98)) (.cells #[.int .i64 0,.int .i64 0,.int .i64 0,.int .i64 0,.int .i64 0,.int .i64 0,.int .u64 0,.int .i64 0] 100)
 have rY:=b1.grow g2r
 have rW:=(hS0.blk 0 rfl).grow (g1.trans g2r)
 unfold wdC at rW
 have c0:=rY.cell 0
 have c1:=rY.cell 1
 have c2:=rY.cell 2
 have c3:=rY.cell 3
 have c4:=rY.cell 4
 obtain⟨y,HY⟩:∃ y:Nat,Hid (y=w.heap.size):=⟨_,rfl⟩
 obtain⟨wa,HA_⟩:∃ wa:World,Hid (wa=w.alloc (.cells #[.int .i64 8,.int .i64 0,.int .i64 0,.int .i64 0,.string ⟨#[]⟩] 98)):=⟨_,rfl⟩
 have hz0:wa.heap.size=y+1:=by rw[HA_.out,HY.out];simp
 rw[←HA_.out] at g1 b1
 rw[←HY.out] at b1
 have g2:=grow_alloc wa (.cells #[.int .i64 0,.int .i64 0,.int .i64 0,.int .i64 0,.int .i64 0,.int .i64 0,.int .u64 0,.int .i64 0] 100)
 have b2:=Blk.made wa 100 #[.int .i64 0,.int .i64 0,.int .i64 0,.int .i64 0,.int .i64 0,.int .i64 0,.int .u64 0,.int .i64 0]
 obtain⟨z,HZ⟩:∃ z:Nat,Hid (z=y+1):=⟨_,rfl⟩
 obtain⟨wb,HB_⟩:∃ wb:World,Hid (wb=wa.alloc (.cells #[.int .i64 0,.int .i64 0,.int .i64 0,.int .i64 0,.int .i64 0,.int .i64 0,.int .u64 0,.int .i64 0] 100)):=⟨_,rfl⟩
 rw[←HB_.out] at g2 b2
 rw[hz0,←HZ.out] at b2
 have hSa:=hS0.join hF0 g1 (R:=Cell y 98 #[.int .i64 8,.int .i64 0,.int .i64 0,.int .i64 0,.string ⟨#[]⟩]) (U:=fun b=>b=y) ⟨rfl,b1⟩ (fun b hb=>by have h8:b=y:=hb;have:=HY.out;have:=b1.lt;omega)
 have hFa:=hF0.cons (Cell.framed y 98 #[.int .i64 8,.int .i64 0,.int .i64 0,.int .i64 0,.string ⟨#[]⟩])
 have hSb:=hSa.join hFa g2 (R:=Cell z 100 #[.int .i64 0,.int .i64 0,.int .i64 0,.int .i64 0,.int .i64 0,.int .i64 0,.int .u64 0,.int .i64 0]) (U:=fun b=>b=z) ⟨rfl,b2⟩ (fun b hb=>by have h8:b=z:=hb;have:=HZ.out;have:=b2.lt;omega)
 have hSb:Solo (Lic V w) (Many (woL W q [] (R0 q.r) (AT)++[Cell z 100 #[.int .i64 0,.int .i64 0,.int .i64 0,.int .i64 0,.int .i64 0,.int .i64 0,.int .u64 0,.int .i64 0],Cell y 98 #[.int .i64 8,.int .i64 0,.int .i64 0,.int .i64 0,.string ⟨#[]⟩]])) wb:=hSb.perm (List.perm_append_comm (l₁:=[Cell z 100 #[.int .i64 0,.int .i64 0,.int .i64 0,.int .i64 0,.int .i64 0,.int .i64 0,.int .u64 0,.int .i64 0],Cell y 98 #[.int .i64 8,.int .i64 0,.int .i64 0,.int .i64 0,.string ⟨#[]⟩]]))
 have hFb:=allFramed_app hF0 ((AllFramed.nil.cons (Cell.framed y 98 #[.int .i64 8,.int .i64 0,.int .i64 0,.int .i64 0,.string ⟨#[]⟩])).cons (Cell.framed z 100 #[.int .i64 0,.int .i64 0,.int .i64 0,.int .i64 0,.int .i64 0,.int .i64 0,.int .u64 0,.int .i64 0]))
 have Jb:Just (Lic V w) w wb:=(Just.of_grow g1).trans (Just.of_grow g2)
 have hyz:¬ (fun b=>b=z) y:=fun e=>by have e2:y=z:=e;have:=HZ.out;omega
 clear b1 b2 g1 g2 hz0 hSa g2r
 obtain⟨U1,hU1,_⟩:=hSb.see 1 rfl
 have hRp:=woReplica_0 wb W q.g q.rs q.ags q.ds q.r q.a q.d0 q.d1 U1 (hSb.blk 0 rfl) hU1
 have hF1:AllFramed (woL W q [] (R1 q.r) AT++[Cell z 100 #[.int .i64 0,.int .i64 0,.int .i64 0,.int .i64 0,.int .i64 0,.int .i64 0,.int .u64 0,.int .i64 0],Cell y 98 #[.int .i64 8,.int .i64 0,.int .i64 0,.int .i64 0,.string ⟨#[]⟩]]):=allFramed_app (woL_framed W q [] (R1 q.r) AT (R1.framed q.r) hAT) ((AllFramed.nil.cons (Cell.framed y 98 #[.int .i64 8,.int .i64 0,.int .i64 0,.int .i64 0,.string ⟨#[]⟩])).cons (Cell.framed z 100 #[.int .i64 0,.int .i64 0,.int .i64 0,.int .i64 0,.int .i64 0,.int .i64 0,.int .u64 0,.int .i64 0]))
 go_enter Tryz.func116,Tryz.ntmps116
 go_wp2_with fail
 rw[←HA_.out,←HY.out,←HB_.out,←HZ.out]
 clear c0 c1 c2 c3 c4
 refine hRp.mono ?_
 rintro e w1 ⟨rfl,rfl⟩
 go_wp2_with fail
 refine wp_region_reg rfl ?_
 refine reg_flow (SoloSt (Lic V w) (Many (woL W q [] (R0 q.r) AT++[Cell z 100 #[.int .i64 0,.int .i64 0,.int .i64 0,.int .i64 0,.int .i64 0,.int .i64 0,.int .u64 0,.int .i64 0],Cell y 98 #[.int .i64 8,.int .i64 0,.int .i64 0,.int .i64 0,.string ⟨#[]⟩]])) (Many (woL W q [] (R1 q.r) AT++[Cell z 100 #[.int .i64 0,.int .i64 0,.int .i64 0,.int .i64 0,.int .i64 0,.int .i64 0,.int .u64 0,.int .i64 0],Cell y 98 #[.int .i64 8,.int .i64 0,.int .i64 0,.int .i64 0,.string ⟨#[]⟩]])) 4 []) (soloSt_ok (Many.framed _ hFb) (Many.framed _ hF1)) 0 5 96 [(4,.inl (.slice none 0 0))] rfl (by kernel_rfl) (by kernel_rfl) (by kernel_rfl) ?_ (Just.of_grow (Grow.refl _).drew) (hSb.grows hFb (Grow.refl _).drew) ?_
 ·intro x hx φ he
  simp only[List.mem_cons,List.not_mem_nil,or_false] at hx
  rcases hx with rfl<;>cases he
 intro ops' A' K' T hops hA' hK hT
 refine fl_mvN 77 (.pointer (some ⟨W,0,none⟩)) ?_
 refine fl_op1N 78 (.tmp 3) (.pointer (some ⟨y,0,none⟩)) (.pointer (some ⟨y,1,none⟩)) (fun ρ h1 kk w5 (hj5:Just (Lic V w) _ w5) hb hf=>by go_simp) ?_
 refine fl_op1N 79 (.tmp 78) (.pointer (some ⟨y,1,none⟩)) (.int .i64 0) (fun ρ h1 kk w5 (hj5:Just (Lic V w) _ w5) hb hf=>by rcases soloSt_or hb with hI|hI<;>(have c:=(hI.blk 8 rfl).cell 1;go_simp)) ?_
 refine fl_mvN 80 (.pointer (some ⟨q.r,0,none⟩)) ?_
 refine fl_call 81 (by rfl) (by decide) (wanted_none (by rfl)) (.slice none 0 0) (by rw[hK.out];rfl) 32 _ _ (by rfl) [.pointer (some ⟨q.r,0,none⟩)] (by rfl) k32 (fun kk w5 (hj5:Just (Lic V w) _ w5) hb hf=>calls_turn 0 (by rfl) (by obtain rfl:=before_some 0 (by rfl) hb;have hI:=hb.1;exact (Solo.at_ 5 rfl hFb hI (rpLead_R w5 q.r)))) ?_
 refine fl_end (fun _ _ w5 (hj5:Just (Lic V w) _ w5) hend hfacts=>hT _ _ ?_)
 clear hops hA' hK hT
 simp only[putsL,Act.put,List.setIfInBounds_toArray,List.set_cons_zero,List.set_cons_succ]
 have hS5:Solo (Lic V w) (Many (woL W q [] (R1 q.r) AT++[Cell z 100 #[.int .i64 0,.int .i64 0,.int .i64 0,.int .i64 0,.int .i64 0,.int .i64 0,.int .u64 0,.int .i64 0],Cell y 98 #[.int .i64 8,.int .i64 0,.int .i64 0,.int .i64 0,.string ⟨#[]⟩]])) w5:=hend
 clear hfacts
 have J5:=Jb.trans hj5
 have hSn:=wosend_nil w5 W 0
 refine reg_line 5 6 (by kernel_rfl) (by kernel_rfl) ?_
 simp only[List.take_succ_cons,List.take_zero,List.drop_succ_cons,List.drop_zero]
 go_wp2_with fail
 refine hSn.mono ?_
 rintro e w6 ⟨rfl,rfl⟩
 go_wp2_with fail
 refine reg_end ?_
 have c1:=(hS5.blk 8 rfl).cell 1
 have hz_:=hS5.blk 7 rfl
 go_wp2_with (refine wpList_fill rfl 100 _ _ rfl _ rfl [.int .i64 0,.int .i64 0,.int .i64 0,.int .i64 0,.int .i64 0,.int .i64 0,.int .u64 0,.int .i64 0] rfl hz_ rfl rfl (by kernel_rfl) ?_;intro w9 hZ9 hj9 hs9;refine stay ?_)
 refine stay_out ?_
 have hS9:=hS5.turned 7 rfl hF1 hj9 hZ9
 have J9:=J5.trans (hj9.imp fun b hb=>hb▸(hS5.lics 7 rfl).1)
 go_wp2_with fail
 refine bodyPost_ret (results_blk rfl _ z rfl hZ9 Tryz.underlying100 (by kernel_rfl)) rfl ?_
 have hS10:Solo (Lic V w) (Many (woL W q [] (R1 q.r) (AT))) w9:=(Solo.perm (List.perm_append_comm (l₁:=woL W q [] (R1 q.r) (AT)) (l₂:=[Cell z 100 #[.int .i64 0,.int .i64 0,.int .i64 0,.int .i64 0,.int .i64 0,.int .i64 0,.int .u64 0,.int .i64 0],Cell y 98 #[.int .i64 8,.int .i64 0,.int .i64 0,.int .i64 0,.string ⟨#[]⟩]])) hS9).drop1.drop1
 obtain⟨r1,r2⟩:=Solo.done hS10 J9 hV
 exact⟨rfl,r1,r2⟩
end Go.Proofs.YtmijcbfgfkeodaaGreatDoor
end
