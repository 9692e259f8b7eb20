/- Aw1, Aw2, Bulk. -/
import Derived.Test.YtmijcbfgfkeodaaGreatDoorHz40
import Derived.Test.YtmijcbfgfkeodaaGreatDoorRows
set_option linter.all false
set_option maxRecDepth 100000
section
namespace Go.Proofs.YtmijcbfgfkeodaaGreatDoor
open Go.RowKit Go.Hop Go.Proofs.YtmijcbfgfkeodaaGreatDoor.V
theorem _root_.Go.Hop.Blk.rangeN {w:World} {g:Nat} {t:TypeId} {vs:List Value} (h:Blk w g t vs.toArray) (b:Nat) (cs:List Value) (hc:(vs.drop b).take cs.length=cs):w.rangeAt g b cs:=fun j u hu=>by
 have hj:j<cs.length:=(List.getElem?_eq_some_iff.1 hu).1
 rw[←hc,List.getElem?_take,if_pos hj,List.getElem?_drop] at hu
 rw[h.cell]
 simpa using hu
set_option maxHeartbeats 2000000 in
theorem run_lead (w:World) (W:Nat) (q:WoP) (s b:Nat) (V:Nat→Prop) (hM:Many (woL W q [] (R0 q.r) (A0 q.a)++[Sn s,Cell b 98 #[.int .i64 8,.int .i64 0,.int .i64 0,.int .i64 0,.string ⟨#[]⟩]]) w V) (hV:∀ b,V b→b<w.heap.size):Calls Tryz.prog 43 #[.pointer (some ⟨W,0,none⟩),.pointer (some ⟨s,0,none⟩),.slice (some ⟨b,0,none⟩) 1 1] w fun e w'=>e=.returned (.bool true)∧Many (woL W q [] (R1 q.r) (A0 q.a)++[Sn s,Cell b 98 #[.int .i64 8,.int .i64 0,.int .i64 0,.int .i64 0,.string ⟨#[]⟩]]) w' (Ext V w w')∧Just V w w':=by
 have hS0:=Solo.begin_ hM hV
 go_enter Tryz.func43,Tryz.ntmps43
 go_wp2_with fail
 go_loopw [12] (fun i wr=>(i=.int .i64 0∧w=wr)∨(i=.int .i64 1∧Solo (Lic V w) (Many (woL W q [] (R1 q.r) (A0 q.a)++[Sn s,Cell b 98 #[.int .i64 8,.int .i64 0,.int .i64 0,.int .i64 0,.string ⟨#[]⟩]])) wr∧Just (Lic V w) w wr)) (fun i _=>1-(intOf i).toNat)
 case atStart=>exact .inl ⟨rfl,rfl⟩
 case round=>
  rcases hrel with ⟨rfl,rfl⟩|⟨rfl,hSr,Jr⟩
  ·have hSr:=hS0
   have Jr:Just (Lic V w) w w:=Just.of_grow (Grow.refl w)
   have hFr:AllFramed (woL W q [] (R0 q.r) (A0 q.a)++[Sn s,Cell b 98 #[.int .i64 8,.int .i64 0,.int .i64 0,.int .i64 0,.string ⟨#[]⟩]]):=allFramed_app (woL_framed W q [] (R0 q.r) (A0 q.a) (R0.framed q.r) (A0.framed q.a)) ((AllFramed.nil.cons (Cell.framed b 98 #[.int .i64 8,.int .i64 0,.int .i64 0,.int .i64 0,.string ⟨#[]⟩])).cons (Sn.framed s))
   have hrec:=(hSr.blk 8 rfl).rangeN 0 [.int .i64 8,.int .i64 0,.int .i64 0,.int .i64 0,.string ⟨#[]⟩] rfl
   go_wp2_with (refine wpList_load_rec rfl 98 _ rfl b 0 rfl [.int .i64 8,.int .i64 0,.int .i64 0,.int .i64 0,.string ⟨#[]⟩] hrec Tryz.underlying98 (by kernel_rfl) ?_;refine stay ?_)
   refine stay_out ?_
   go_wp2_with (refine wpList_new rfl (run_alcA _ _ _ rfl) ?_;intro y w1 hB1 hg1 hz1 hs1;refine stay ?_)
   refine stay_out ?_
   go_wp2_with (refine wpList_fill rfl 98 _ _ rfl _ rfl [.int .i64 8,.int .i64 0,.int .i64 0,.int .i64 0,.string ⟨#[]⟩] rfl hB1 rfl rfl (by kernel_rfl) ?_;intro w2 hY2 hj2 hs2;refine stay ?_)
   refine stay_out ?_
   have hg2:Grow w w2:=Below.trans hg1 (hj2.below (B:=w.heap.size) (fun b hb=>by have e2:b=y:=hb;omega) (by omega))
   have hS2:=hSr.join hFr hg2 (R:=Cell y 98 #[.int .i64 8,.int .i64 0,.int .i64 0,.int .i64 0,.string ⟨#[]⟩]) (U:=fun b=>b=y) ⟨rfl,hY2⟩ (fun b hb=>by have e2:b=y:=hb;omega)
   have hS2:Solo (Lic V w) (Many (woL W q [] (R0 q.r) (A0 q.a)++[Sn s,Cell b 98 #[.int .i64 8,.int .i64 0,.int .i64 0,.int .i64 0,.string ⟨#[]⟩],Cell y 98 #[.int .i64 8,.int .i64 0,.int .i64 0,.int .i64 0,.string ⟨#[]⟩]])) w2:=hS2.perm (List.perm_append_comm (l₁:=[Cell y 98 #[.int .i64 8,.int .i64 0,.int .i64 0,.int .i64 0,.string ⟨#[]⟩]]))
   have J2:=Jr.trans (Just.of_grow hg2)
   have hTl:AllFramed [Sn s,Cell b 98 #[.int .i64 8,.int .i64 0,.int .i64 0,.int .i64 0,.string ⟨#[]⟩],Cell y 98 #[.int .i64 8,.int .i64 0,.int .i64 0,.int .i64 0,.string ⟨#[]⟩]]:=((AllFramed.nil.cons (Cell.framed y 98 #[.int .i64 8,.int .i64 0,.int .i64 0,.int .i64 0,.string ⟨#[]⟩])).cons (Cell.framed b 98 #[.int .i64 8,.int .i64 0,.int .i64 0,.int .i64 0,.string ⟨#[]⟩])).cons (Sn.framed s)
   have hDo:=Solo.at_ 0 rfl (hTl.cons (Many.framed _ (woL_framed W q [] (R0 q.r) (A0 q.a) (R0.framed q.r) (A0.framed q.a)))) (Solo.unflat (l:=woL W q [] (R0 q.r) (A0 q.a)) hS2) (fun U hU hUl=>woDo_any w2 W q [] [] (R0 q.r) (A0 q.a) (R1 q.r) (A0 q.a) (R0.framed q.r) (A0.framed q.a) (R1.framed q.r) (A0.framed q.a) 8 0 0 0 ⟨#[]⟩ 0 0 0 0 0 0 0 0 (fun w9 V9 hM9 hV9=>do_lead w9 W q (A0 q.a) (A0.framed q.a) V9 hM9 hV9) U hU hUl)
   have hy2:=hS2.blk 9 rfl
   go_wp2_with (refine wpList_load_blk rfl 98 _ rfl _ rfl (hy2) Tryz.underlying98 (by kernel_rfl) ?_)
   refine hDo.mono ?_
   rintro e w3 ⟨rfl,hj3,hS3⟩
   have hS3:Solo (Lic V w) (Many (woL W q [] (R1 q.r) (A0 q.a)++[Sn s,Cell b 98 #[.int .i64 8,.int .i64 0,.int .i64 0,.int .i64 0,.string ⟨#[]⟩],Cell y 98 #[.int .i64 8,.int .i64 0,.int .i64 0,.int .i64 0,.string ⟨#[]⟩]])) w3:=Solo.flat (l:=woL W q [] (R1 q.r) (A0 q.a)) hS3
   have J3:=J2.trans hj3
   go_wp2_with (refine wpList_new rfl (run_alcV _ _ _ rfl) ?_;intro ze w4 hB4 hg4 hz4 hs4;refine stay ?_)
   refine stay_out ?_
   go_wp2_with (refine wpList_fill rfl 100 _ _ rfl _ rfl [.int .i64 0,.int .i64 0,.int .i64 0,.int .i64 0,.int .i64 0,.int .i64 0,.int .u64 0,.int .i64 0] rfl hB4 rfl rfl (by kernel_rfl) ?_;intro w5 hE5 hj5 hs5;refine stay ?_)
   refine stay_out ?_
   have hg5:Grow w3 w5:=Below.trans hg4 (hj5.below (B:=w3.heap.size) (fun b hb=>by have e2:b=ze:=hb;omega) (by omega))
   have hF3:AllFramed (woL W q [] (R1 q.r) (A0 q.a)++[Sn s,Cell b 98 #[.int .i64 8,.int .i64 0,.int .i64 0,.int .i64 0,.string ⟨#[]⟩],Cell y 98 #[.int .i64 8,.int .i64 0,.int .i64 0,.int .i64 0,.string ⟨#[]⟩]]):=allFramed_app (woL_framed W q [] (R1 q.r) (A0 q.a) (R1.framed q.r) (A0.framed q.a)) hTl
   have hS5:=hS3.grows hF3 hg5
   have J5:=J3.trans (Just.of_grow hg5)
   have hy5:=hS5.blk 9 rfl
   have hAdd:=fun x bag=>stAdd_skip w5 (.pointer (some ⟨s,0,none⟩)) 8 0 0 0 ⟨#[]⟩ (by decide) 0 0 0 0 0 0 x bag
   go_wp2_with (first|(refine wpList_load_blk rfl 98 _ rfl _ rfl (hy5) Tryz.underlying98 (by kernel_rfl) ?_)|(refine wpList_load_blk rfl 100 _ rfl _ rfl (hE5) Tryz.underlying100 (by kernel_rfl) ?_))
   refine (hAdd _ _).mono ?_
   rintro e w6 ⟨rfl,hg6⟩
   have hS6:=hS5.grows hF3 hg6
   have J6:=J5.trans (Just.of_grow hg6)
   have e0:=(hE5.grow hg6).cell 0
   have hS7:Solo (Lic V w) (Many (woL W q [] (R1 q.r) (A0 q.a)++[Sn s,Cell b 98 #[.int .i64 8,.int .i64 0,.int .i64 0,.int .i64 0,.string ⟨#[]⟩]])) w6:=(Solo.perm (List.perm_append_comm (l₁:=woL W q [] (R1 q.r) (A0 q.a)++[Sn s,Cell b 98 #[.int .i64 8,.int .i64 0,.int .i64 0,.int .i64 0,.string ⟨#[]⟩]]) (l₂:=[Cell y 98 #[.int .i64 8,.int .i64 0,.int .i64 0,.int .i64 0,.string ⟨#[]⟩]])) hS6).drop1
   go_wp2_with fail
   go_roundw
   case rel=>exact .inr ⟨rfl,hS7,J6⟩
   case measure=>simp[intOf]
  ·go_wp2_with fail
   go_ret
   obtain⟨r1,r2⟩:=Solo.done hSr Jr hV
   exact⟨rfl,r1,r2⟩
set_option maxHeartbeats 2000000 in
theorem run_give (w:World) (W:Nat) (q:WoP) (s b:Nat) (V:Nat→Prop) (hM:Many (woL W q [] (R1 q.r) (A0 q.a)++[Sn s,Cell b 98 #[.int .i64 9,.int .i64 1,.int .i64 0,.int .i64 7,.string tA1,.int .i64 10,.int .i64 1,.int .i64 0,.int .i64 0,.string ⟨#[]⟩,.int .i64 1,.int .i64 1,.int .i64 0,.int .i64 1,.string ⟨#[]⟩]]) w V) (hV:∀ b,V b→b<w.heap.size):Calls Tryz.prog 43 #[.pointer (some ⟨W,0,none⟩),.pointer (some ⟨s,0,none⟩),.slice (some ⟨b,0,none⟩) 3 3] w fun e w'=>e=.returned (.bool true)∧Many (woL W q [(1,0,frame (askB eAsk))] (R1 q.r) (A3 q.a)++[Sn s,Cell b 98 #[.int .i64 9,.int .i64 1,.int .i64 0,.int .i64 7,.string tA1,.int .i64 10,.int .i64 1,.int .i64 0,.int .i64 0,.string ⟨#[]⟩,.int .i64 1,.int .i64 1,.int .i64 0,.int .i64 1,.string ⟨#[]⟩]]) w' (Ext V w w')∧Just V w w':=by
 have hS0:=Solo.begin_ hM hV
 go_enter Tryz.func43,Tryz.ntmps43
 go_wp2_with fail
 go_loopw [12] (fun i wr=>(i=.int .i64 0∧w=wr)∨(i=.int .i64 1∧Solo (Lic V w) (Many (woL W q [] (R1 q.r) (A1 q.a)++[Sn s,Cell b 98 #[.int .i64 9,.int .i64 1,.int .i64 0,.int .i64 7,.string tA1,.int .i64 10,.int .i64 1,.int .i64 0,.int .i64 0,.string ⟨#[]⟩,.int .i64 1,.int .i64 1,.int .i64 0,.int .i64 1,.string ⟨#[]⟩]])) wr∧Just (Lic V w) w wr)∨(i=.int .i64 2∧Solo (Lic V w) (Many (woL W q [] (R1 q.r) (A2 q.a)++[Sn s,Cell b 98 #[.int .i64 9,.int .i64 1,.int .i64 0,.int .i64 7,.string tA1,.int .i64 10,.int .i64 1,.int .i64 0,.int .i64 0,.string ⟨#[]⟩,.int .i64 1,.int .i64 1,.int .i64 0,.int .i64 1,.string ⟨#[]⟩]])) wr∧Just (Lic V w) w wr)∨(i=.int .i64 3∧Solo (Lic V w) (Many (woL W q [(1,0,frame (askB eAsk))] (R1 q.r) (A3 q.a)++[Sn s,Cell b 98 #[.int .i64 9,.int .i64 1,.int .i64 0,.int .i64 7,.string tA1,.int .i64 10,.int .i64 1,.int .i64 0,.int .i64 0,.string ⟨#[]⟩,.int .i64 1,.int .i64 1,.int .i64 0,.int .i64 1,.string ⟨#[]⟩]])) wr∧Just (Lic V w) w wr)) (fun i _=>3-(intOf i).toNat)
 case atStart=>exact .inl ⟨rfl,rfl⟩
 case round=>
  rcases hrel with ⟨rfl,rfl⟩|⟨rfl,hSr,Jr⟩|⟨rfl,hSr,Jr⟩|⟨rfl,hSr,Jr⟩
  ·have hSr:=hS0
   have Jr:Just (Lic V w) w w:=Just.of_grow (Grow.refl w)
   have hFr:AllFramed (woL W q [] (R1 q.r) (A0 q.a)++[Sn s,Cell b 98 #[.int .i64 9,.int .i64 1,.int .i64 0,.int .i64 7,.string tA1,.int .i64 10,.int .i64 1,.int .i64 0,.int .i64 0,.string ⟨#[]⟩,.int .i64 1,.int .i64 1,.int .i64 0,.int .i64 1,.string ⟨#[]⟩]]):=allFramed_app (woL_framed W q [] (R1 q.r) (A0 q.a) (R1.framed q.r) (A0.framed q.a)) ((AllFramed.nil.cons (Cell.framed b 98 #[.int .i64 9,.int .i64 1,.int .i64 0,.int .i64 7,.string tA1,.int .i64 10,.int .i64 1,.int .i64 0,.int .i64 0,.string ⟨#[]⟩,.int .i64 1,.int .i64 1,.int .i64 0,.int .i64 1,.string ⟨#[]⟩])).cons (Sn.framed s))
   have hrec:=(hSr.blk 8 rfl).rangeN 0 [.int .i64 9,.int .i64 1,.int .i64 0,.int .i64 7,.string tA1] rfl
   go_wp2_with (refine wpList_load_rec rfl 98 _ rfl b 0 rfl [.int .i64 9,.int .i64 1,.int .i64 0,.int .i64 7,.string tA1] hrec Tryz.underlying98 (by kernel_rfl) ?_;refine stay ?_)
   refine stay_out ?_
   go_wp2_with (refine wpList_new rfl (run_alcA _ _ _ rfl) ?_;intro y w1 hB1 hg1 hz1 hs1;refine stay ?_)
   refine stay_out ?_
   go_wp2_with (refine wpList_fill rfl 98 _ _ rfl _ rfl [.int .i64 9,.int .i64 1,.int .i64 0,.int .i64 7,.string tA1] rfl hB1 rfl rfl (by kernel_rfl) ?_;intro w2 hY2 hj2 hs2;refine stay ?_)
   refine stay_out ?_
   have hg2:Grow w w2:=Below.trans hg1 (hj2.below (B:=w.heap.size) (fun b hb=>by have e2:b=y:=hb;omega) (by omega))
   have hS2:=hSr.join hFr hg2 (R:=Cell y 98 #[.int .i64 9,.int .i64 1,.int .i64 0,.int .i64 7,.string tA1]) (U:=fun b=>b=y) ⟨rfl,hY2⟩ (fun b hb=>by have e2:b=y:=hb;omega)
   have hS2:Solo (Lic V w) (Many (woL W q [] (R1 q.r) (A0 q.a)++[Sn s,Cell b 98 #[.int .i64 9,.int .i64 1,.int .i64 0,.int .i64 7,.string tA1,.int .i64 10,.int .i64 1,.int .i64 0,.int .i64 0,.string ⟨#[]⟩,.int .i64 1,.int .i64 1,.int .i64 0,.int .i64 1,.string ⟨#[]⟩],Cell y 98 #[.int .i64 9,.int .i64 1,.int .i64 0,.int .i64 7,.string tA1]])) w2:=hS2.perm (List.perm_append_comm (l₁:=[Cell y 98 #[.int .i64 9,.int .i64 1,.int .i64 0,.int .i64 7,.string tA1]]))
   have J2:=Jr.trans (Just.of_grow hg2)
   have hTl:AllFramed [Sn s,Cell b 98 #[.int .i64 9,.int .i64 1,.int .i64 0,.int .i64 7,.string tA1,.int .i64 10,.int .i64 1,.int .i64 0,.int .i64 0,.string ⟨#[]⟩,.int .i64 1,.int .i64 1,.int .i64 0,.int .i64 1,.string ⟨#[]⟩],Cell y 98 #[.int .i64 9,.int .i64 1,.int .i64 0,.int .i64 7,.string tA1]]:=((AllFramed.nil.cons (Cell.framed y 98 #[.int .i64 9,.int .i64 1,.int .i64 0,.int .i64 7,.string tA1])).cons (Cell.framed b 98 #[.int .i64 9,.int .i64 1,.int .i64 0,.int .i64 7,.string tA1,.int .i64 10,.int .i64 1,.int .i64 0,.int .i64 0,.string ⟨#[]⟩,.int .i64 1,.int .i64 1,.int .i64 0,.int .i64 1,.string ⟨#[]⟩])).cons (Sn.framed s)
   have hDo:=Solo.at_ 0 rfl (hTl.cons (Many.framed _ (woL_framed W q [] (R1 q.r) (A0 q.a) (R1.framed q.r) (A0.framed q.a)))) (Solo.unflat (l:=woL W q [] (R1 q.r) (A0 q.a)) hS2) (fun U hU hUl=>woDo_any w2 W q [] [] (R1 q.r) (A0 q.a) (R1 q.r) (A1 q.a) (R1.framed q.r) (A0.framed q.a) (R1.framed q.r) (A1.framed q.a) 9 1 0 7 tA1 0 0 0 0 0 0 0 0 (fun w9 V9 hM9 hV9=>do_ingest w9 W q (R1 q.r) (R1.framed q.r) V9 hM9 hV9) U hU hUl)
   have hy2:=hS2.blk 9 rfl
   go_wp2_with (refine wpList_load_blk rfl 98 _ rfl _ rfl (hy2) Tryz.underlying98 (by kernel_rfl) ?_)
   refine hDo.mono ?_
   rintro e w3 ⟨rfl,hj3,hS3⟩
   have hS3:Solo (Lic V w) (Many (woL W q [] (R1 q.r) (A1 q.a)++[Sn s,Cell b 98 #[.int .i64 9,.int .i64 1,.int .i64 0,.int .i64 7,.string tA1,.int .i64 10,.int .i64 1,.int .i64 0,.int .i64 0,.string ⟨#[]⟩,.int .i64 1,.int .i64 1,.int .i64 0,.int .i64 1,.string ⟨#[]⟩],Cell y 98 #[.int .i64 9,.int .i64 1,.int .i64 0,.int .i64 7,.string tA1]])) w3:=Solo.flat (l:=woL W q [] (R1 q.r) (A1 q.a)) hS3
   have J3:=J2.trans hj3
   go_wp2_with (refine wpList_new rfl (run_alcV _ _ _ rfl) ?_;intro ze w4 hB4 hg4 hz4 hs4;refine stay ?_)
   refine stay_out ?_
   go_wp2_with (refine wpList_fill rfl 100 _ _ rfl _ rfl [.int .i64 0,.int .i64 0,.int .i64 0,.int .i64 0,.int .i64 0,.int .i64 0,.int .u64 0,.int .i64 0] rfl hB4 rfl rfl (by kernel_rfl) ?_;intro w5 hE5 hj5 hs5;refine stay ?_)
   refine stay_out ?_
   have hg5:Grow w3 w5:=Below.trans hg4 (hj5.below (B:=w3.heap.size) (fun b hb=>by have e2:b=ze:=hb;omega) (by omega))
   have hF3:AllFramed (woL W q [] (R1 q.r) (A1 q.a)++[Sn s,Cell b 98 #[.int .i64 9,.int .i64 1,.int .i64 0,.int .i64 7,.string tA1,.int .i64 10,.int .i64 1,.int .i64 0,.int .i64 0,.string ⟨#[]⟩,.int .i64 1,.int .i64 1,.int .i64 0,.int .i64 1,.string ⟨#[]⟩],Cell y 98 #[.int .i64 9,.int .i64 1,.int .i64 0,.int .i64 7,.string tA1]]):=allFramed_app (woL_framed W q [] (R1 q.r) (A1 q.a) (R1.framed q.r) (A1.framed q.a)) hTl
   have hS5:=hS3.grows hF3 hg5
   have J5:=J3.trans (Just.of_grow hg5)
   have hy5:=hS5.blk 9 rfl
   have hAdd:=fun x bag=>stAdd_skip w5 (.pointer (some ⟨s,0,none⟩)) 9 1 0 7 tA1 (by decide) 0 0 0 0 0 0 x bag
   go_wp2_with (first|(refine wpList_load_blk rfl 98 _ rfl _ rfl (hy5) Tryz.underlying98 (by kernel_rfl) ?_)|(refine wpList_load_blk rfl 100 _ rfl _ rfl (hE5) Tryz.underlying100 (by kernel_rfl) ?_))
   refine (hAdd _ _).mono ?_
   rintro e w6 ⟨rfl,hg6⟩
   have hS6:=hS5.grows hF3 hg6
   have J6:=J5.trans (Just.of_grow hg6)
   have e0:=(hE5.grow hg6).cell 0
   have hS7:Solo (Lic V w) (Many (woL W q [] (R1 q.r) (A1 q.a)++[Sn s,Cell b 98 #[.int .i64 9,.int .i64 1,.int .i64 0,.int .i64 7,.string tA1,.int .i64 10,.int .i64 1,.int .i64 0,.int .i64 0,.string ⟨#[]⟩,.int .i64 1,.int .i64 1,.int .i64 0,.int .i64 1,.string ⟨#[]⟩]])) w6:=(Solo.perm (List.perm_append_comm (l₁:=woL W q [] (R1 q.r) (A1 q.a)++[Sn s,Cell b 98 #[.int .i64 9,.int .i64 1,.int .i64 0,.int .i64 7,.string tA1,.int .i64 10,.int .i64 1,.int .i64 0,.int .i64 0,.string ⟨#[]⟩,.int .i64 1,.int .i64 1,.int .i64 0,.int .i64 1,.string ⟨#[]⟩]]) (l₂:=[Cell y 98 #[.int .i64 9,.int .i64 1,.int .i64 0,.int .i64 7,.string tA1]])) hS6).drop1
   go_wp2_with fail
   go_roundw
   case rel=>exact .inr (.inl ⟨rfl,hS7,J6⟩)
   case measure=>simp[intOf]
  ·skip
   have hFr:AllFramed (woL W q [] (R1 q.r) (A1 q.a)++[Sn s,Cell b 98 #[.int .i64 9,.int .i64 1,.int .i64 0,.int .i64 7,.string tA1,.int .i64 10,.int .i64 1,.int .i64 0,.int .i64 0,.string ⟨#[]⟩,.int .i64 1,.int .i64 1,.int .i64 0,.int .i64 1,.string ⟨#[]⟩]]):=allFramed_app (woL_framed W q [] (R1 q.r) (A1 q.a) (R1.framed q.r) (A1.framed q.a)) ((AllFramed.nil.cons (Cell.framed b 98 #[.int .i64 9,.int .i64 1,.int .i64 0,.int .i64 7,.string tA1,.int .i64 10,.int .i64 1,.int .i64 0,.int .i64 0,.string ⟨#[]⟩,.int .i64 1,.int .i64 1,.int .i64 0,.int .i64 1,.string ⟨#[]⟩])).cons (Sn.framed s))
   have hrec:=(hSr.blk 8 rfl).rangeN 5 [.int .i64 10,.int .i64 1,.int .i64 0,.int .i64 0,.string ⟨#[]⟩] rfl
   go_wp2_with (refine wpList_load_rec rfl 98 _ rfl b 5 rfl [.int .i64 10,.int .i64 1,.int .i64 0,.int .i64 0,.string ⟨#[]⟩] hrec Tryz.underlying98 (by kernel_rfl) ?_;refine stay ?_)
   refine stay_out ?_
   go_wp2_with (refine wpList_new rfl (run_alcA _ _ _ rfl) ?_;intro y w1 hB1 hg1 hz1 hs1;refine stay ?_)
   refine stay_out ?_
   go_wp2_with (refine wpList_fill rfl 98 _ _ rfl _ rfl [.int .i64 10,.int .i64 1,.int .i64 0,.int .i64 0,.string ⟨#[]⟩] rfl hB1 rfl rfl (by kernel_rfl) ?_;intro w2 hY2 hj2 hs2;refine stay ?_)
   refine stay_out ?_
   have hg2:Grow wr w2:=Below.trans hg1 (hj2.below (B:=wr.heap.size) (fun b hb=>by have e2:b=y:=hb;omega) (by omega))
   have hS2:=hSr.join hFr hg2 (R:=Cell y 98 #[.int .i64 10,.int .i64 1,.int .i64 0,.int .i64 0,.string ⟨#[]⟩]) (U:=fun b=>b=y) ⟨rfl,hY2⟩ (fun b hb=>by have e2:b=y:=hb;omega)
   have hS2:Solo (Lic V w) (Many (woL W q [] (R1 q.r) (A1 q.a)++[Sn s,Cell b 98 #[.int .i64 9,.int .i64 1,.int .i64 0,.int .i64 7,.string tA1,.int .i64 10,.int .i64 1,.int .i64 0,.int .i64 0,.string ⟨#[]⟩,.int .i64 1,.int .i64 1,.int .i64 0,.int .i64 1,.string ⟨#[]⟩],Cell y 98 #[.int .i64 10,.int .i64 1,.int .i64 0,.int .i64 0,.string ⟨#[]⟩]])) w2:=hS2.perm (List.perm_append_comm (l₁:=[Cell y 98 #[.int .i64 10,.int .i64 1,.int .i64 0,.int .i64 0,.string ⟨#[]⟩]]))
   have J2:=Jr.trans (Just.of_grow hg2)
   have hTl:AllFramed [Sn s,Cell b 98 #[.int .i64 9,.int .i64 1,.int .i64 0,.int .i64 7,.string tA1,.int .i64 10,.int .i64 1,.int .i64 0,.int .i64 0,.string ⟨#[]⟩,.int .i64 1,.int .i64 1,.int .i64 0,.int .i64 1,.string ⟨#[]⟩],Cell y 98 #[.int .i64 10,.int .i64 1,.int .i64 0,.int .i64 0,.string ⟨#[]⟩]]:=((AllFramed.nil.cons (Cell.framed y 98 #[.int .i64 10,.int .i64 1,.int .i64 0,.int .i64 0,.string ⟨#[]⟩])).cons (Cell.framed b 98 #[.int .i64 9,.int .i64 1,.int .i64 0,.int .i64 7,.string tA1,.int .i64 10,.int .i64 1,.int .i64 0,.int .i64 0,.string ⟨#[]⟩,.int .i64 1,.int .i64 1,.int .i64 0,.int .i64 1,.string ⟨#[]⟩])).cons (Sn.framed s)
   have hDo:=Solo.at_ 0 rfl (hTl.cons (Many.framed _ (woL_framed W q [] (R1 q.r) (A1 q.a) (R1.framed q.r) (A1.framed q.a)))) (Solo.unflat (l:=woL W q [] (R1 q.r) (A1 q.a)) hS2) (fun U hU hUl=>woDo_any w2 W q [] [] (R1 q.r) (A1 q.a) (R1 q.r) (A2 q.a) (R1.framed q.r) (A1.framed q.a) (R1.framed q.r) (A2.framed q.a) 10 1 0 0 ⟨#[]⟩ 0 0 1 0 0 0 0 0 (fun w9 V9 hM9 hV9=>do_batch w9 W q (R1 q.r) (R1.framed q.r) V9 hM9 hV9) U hU hUl)
   have hy2:=hS2.blk 9 rfl
   go_wp2_with (refine wpList_load_blk rfl 98 _ rfl _ rfl (hy2) Tryz.underlying98 (by kernel_rfl) ?_)
   refine hDo.mono ?_
   rintro e w3 ⟨rfl,hj3,hS3⟩
   have hS3:Solo (Lic V w) (Many (woL W q [] (R1 q.r) (A2 q.a)++[Sn s,Cell b 98 #[.int .i64 9,.int .i64 1,.int .i64 0,.int .i64 7,.string tA1,.int .i64 10,.int .i64 1,.int .i64 0,.int .i64 0,.string ⟨#[]⟩,.int .i64 1,.int .i64 1,.int .i64 0,.int .i64 1,.string ⟨#[]⟩],Cell y 98 #[.int .i64 10,.int .i64 1,.int .i64 0,.int .i64 0,.string ⟨#[]⟩]])) w3:=Solo.flat (l:=woL W q [] (R1 q.r) (A2 q.a)) hS3
   have J3:=J2.trans hj3
   go_wp2_with (refine wpList_new rfl (run_alcV _ _ _ rfl) ?_;intro ze w4 hB4 hg4 hz4 hs4;refine stay ?_)
   refine stay_out ?_
   go_wp2_with (refine wpList_fill rfl 100 _ _ rfl _ rfl [.int .i64 0,.int .i64 0,.int .i64 1,.int .i64 0,.int .i64 0,.int .i64 0,.int .u64 0,.int .i64 0] rfl hB4 rfl rfl (by kernel_rfl) ?_;intro w5 hE5 hj5 hs5;refine stay ?_)
   refine stay_out ?_
   have hg5:Grow w3 w5:=Below.trans hg4 (hj5.below (B:=w3.heap.size) (fun b hb=>by have e2:b=ze:=hb;omega) (by omega))
   have hF3:AllFramed (woL W q [] (R1 q.r) (A2 q.a)++[Sn s,Cell b 98 #[.int .i64 9,.int .i64 1,.int .i64 0,.int .i64 7,.string tA1,.int .i64 10,.int .i64 1,.int .i64 0,.int .i64 0,.string ⟨#[]⟩,.int .i64 1,.int .i64 1,.int .i64 0,.int .i64 1,.string ⟨#[]⟩],Cell y 98 #[.int .i64 10,.int .i64 1,.int .i64 0,.int .i64 0,.string ⟨#[]⟩]]):=allFramed_app (woL_framed W q [] (R1 q.r) (A2 q.a) (R1.framed q.r) (A2.framed q.a)) hTl
   have hS5:=hS3.grows hF3 hg5
   have J5:=J3.trans (Just.of_grow hg5)
   have hy5:=hS5.blk 9 rfl
   have hAdd:=fun x bag=>stAdd_skip w5 (.pointer (some ⟨s,0,none⟩)) 10 1 0 0 ⟨#[]⟩ (by decide) 0 0 1 0 0 0 x bag
   go_wp2_with (first|(refine wpList_load_blk rfl 98 _ rfl _ rfl (hy5) Tryz.underlying98 (by kernel_rfl) ?_)|(refine wpList_load_blk rfl 100 _ rfl _ rfl (hE5) Tryz.underlying100 (by kernel_rfl) ?_))
   refine (hAdd _ _).mono ?_
   rintro e w6 ⟨rfl,hg6⟩
   have hS6:=hS5.grows hF3 hg6
   have J6:=J5.trans (Just.of_grow hg6)
   have e0:=(hE5.grow hg6).cell 0
   have hS7:Solo (Lic V w) (Many (woL W q [] (R1 q.r) (A2 q.a)++[Sn s,Cell b 98 #[.int .i64 9,.int .i64 1,.int .i64 0,.int .i64 7,.string tA1,.int .i64 10,.int .i64 1,.int .i64 0,.int .i64 0,.string ⟨#[]⟩,.int .i64 1,.int .i64 1,.int .i64 0,.int .i64 1,.string ⟨#[]⟩]])) w6:=(Solo.perm (List.perm_append_comm (l₁:=woL W q [] (R1 q.r) (A2 q.a)++[Sn s,Cell b 98 #[.int .i64 9,.int .i64 1,.int .i64 0,.int .i64 7,.string tA1,.int .i64 10,.int .i64 1,.int .i64 0,.int .i64 0,.string ⟨#[]⟩,.int .i64 1,.int .i64 1,.int .i64 0,.int .i64 1,.string ⟨#[]⟩]]) (l₂:=[Cell y 98 #[.int .i64 10,.int .i64 1,.int .i64 0,.int .i64 0,.string ⟨#[]⟩]])) hS6).drop1
   go_wp2_with fail
   go_roundw
   case rel=>exact .inr (.inr (.inl ⟨rfl,hS7,J6⟩))
   case measure=>simp[intOf]
  ·skip
   have hFr:AllFramed (woL W q [] (R1 q.r) (A2 q.a)++[Sn s,Cell b 98 #[.int .i64 9,.int .i64 1,.int .i64 0,.int .i64 7,.string tA1,.int .i64 10,.int .i64 1,.int .i64 0,.int .i64 0,.string ⟨#[]⟩,.int .i64 1,.int .i64 1,.int .i64 0,.int .i64 1,.string ⟨#[]⟩]]):=allFramed_app (woL_framed W q [] (R1 q.r) (A2 q.a) (R1.framed q.r) (A2.framed q.a)) ((AllFramed.nil.cons (Cell.framed b 98 #[.int .i64 9,.int .i64 1,.int .i64 0,.int .i64 7,.string tA1,.int .i64 10,.int .i64 1,.int .i64 0,.int .i64 0,.string ⟨#[]⟩,.int .i64 1,.int .i64 1,.int .i64 0,.int .i64 1,.string ⟨#[]⟩])).cons (Sn.framed s))
   have hrec:=(hSr.blk 8 rfl).rangeN 10 [.int .i64 1,.int .i64 1,.int .i64 0,.int .i64 1,.string ⟨#[]⟩] rfl
   go_wp2_with (refine wpList_load_rec rfl 98 _ rfl b 10 rfl [.int .i64 1,.int .i64 1,.int .i64 0,.int .i64 1,.string ⟨#[]⟩] hrec Tryz.underlying98 (by kernel_rfl) ?_;refine stay ?_)
   refine stay_out ?_
   go_wp2_with (refine wpList_new rfl (run_alcA _ _ _ rfl) ?_;intro y w1 hB1 hg1 hz1 hs1;refine stay ?_)
   refine stay_out ?_
   go_wp2_with (refine wpList_fill rfl 98 _ _ rfl _ rfl [.int .i64 1,.int .i64 1,.int .i64 0,.int .i64 1,.string ⟨#[]⟩] rfl hB1 rfl rfl (by kernel_rfl) ?_;intro w2 hY2 hj2 hs2;refine stay ?_)
   refine stay_out ?_
   have hg2:Grow wr w2:=Below.trans hg1 (hj2.below (B:=wr.heap.size) (fun b hb=>by have e2:b=y:=hb;omega) (by omega))
   have hS2:=hSr.join hFr hg2 (R:=Cell y 98 #[.int .i64 1,.int .i64 1,.int .i64 0,.int .i64 1,.string ⟨#[]⟩]) (U:=fun b=>b=y) ⟨rfl,hY2⟩ (fun b hb=>by have e2:b=y:=hb;omega)
   have hS2:Solo (Lic V w) (Many (woL W q [] (R1 q.r) (A2 q.a)++[Sn s,Cell b 98 #[.int .i64 9,.int .i64 1,.int .i64 0,.int .i64 7,.string tA1,.int .i64 10,.int .i64 1,.int .i64 0,.int .i64 0,.string ⟨#[]⟩,.int .i64 1,.int .i64 1,.int .i64 0,.int .i64 1,.string ⟨#[]⟩],Cell y 98 #[.int .i64 1,.int .i64 1,.int .i64 0,.int .i64 1,.string ⟨#[]⟩]])) w2:=hS2.perm (List.perm_append_comm (l₁:=[Cell y 98 #[.int .i64 1,.int .i64 1,.int .i64 0,.int .i64 1,.string ⟨#[]⟩]]))
   have J2:=Jr.trans (Just.of_grow hg2)
   have hTl:AllFramed [Sn s,Cell b 98 #[.int .i64 9,.int .i64 1,.int .i64 0,.int .i64 7,.string tA1,.int .i64 10,.int .i64 1,.int .i64 0,.int .i64 0,.string ⟨#[]⟩,.int .i64 1,.int .i64 1,.int .i64 0,.int .i64 1,.string ⟨#[]⟩],Cell y 98 #[.int .i64 1,.int .i64 1,.int .i64 0,.int .i64 1,.string ⟨#[]⟩]]:=((AllFramed.nil.cons (Cell.framed y 98 #[.int .i64 1,.int .i64 1,.int .i64 0,.int .i64 1,.string ⟨#[]⟩])).cons (Cell.framed b 98 #[.int .i64 9,.int .i64 1,.int .i64 0,.int .i64 7,.string tA1,.int .i64 10,.int .i64 1,.int .i64 0,.int .i64 0,.string ⟨#[]⟩,.int .i64 1,.int .i64 1,.int .i64 0,.int .i64 1,.string ⟨#[]⟩])).cons (Sn.framed s)
   have hDo:=Solo.at_ 0 rfl (hTl.cons (Many.framed _ (woL_framed W q [] (R1 q.r) (A2 q.a) (R1.framed q.r) (A2.framed q.a)))) (Solo.unflat (l:=woL W q [] (R1 q.r) (A2 q.a)) hS2) (fun U hU hUl=>woDo_any w2 W q [] [(1,0,frame (askB eAsk))] (R1 q.r) (A2 q.a) (R1 q.r) (A3 q.a) (R1.framed q.r) (A2.framed q.a) (R1.framed q.r) (A3.framed q.a) 1 1 0 1 ⟨#[]⟩ 0 1 0 0 0 0 0 0 (fun w9 V9 hM9 hV9=>do_tick w9 W q (R1 q.r) (R1.framed q.r) V9 hM9 hV9) U hU hUl)
   have hy2:=hS2.blk 9 rfl
   go_wp2_with (refine wpList_load_blk rfl 98 _ rfl _ rfl (hy2) Tryz.underlying98 (by kernel_rfl) ?_)
   refine hDo.mono ?_
   rintro e w3 ⟨rfl,hj3,hS3⟩
   have hS3:Solo (Lic V w) (Many (woL W q [(1,0,frame (askB eAsk))] (R1 q.r) (A3 q.a)++[Sn s,Cell b 98 #[.int .i64 9,.int .i64 1,.int .i64 0,.int .i64 7,.string tA1,.int .i64 10,.int .i64 1,.int .i64 0,.int .i64 0,.string ⟨#[]⟩,.int .i64 1,.int .i64 1,.int .i64 0,.int .i64 1,.string ⟨#[]⟩],Cell y 98 #[.int .i64 1,.int .i64 1,.int .i64 0,.int .i64 1,.string ⟨#[]⟩]])) w3:=Solo.flat (l:=woL W q [(1,0,frame (askB eAsk))] (R1 q.r) (A3 q.a)) hS3
   have J3:=J2.trans hj3
   go_wp2_with (refine wpList_new rfl (run_alcV _ _ _ rfl) ?_;intro ze w4 hB4 hg4 hz4 hs4;refine stay ?_)
   refine stay_out ?_
   go_wp2_with (refine wpList_fill rfl 100 _ _ rfl _ rfl [.int .i64 0,.int .i64 1,.int .i64 0,.int .i64 0,.int .i64 0,.int .i64 0,.int .u64 0,.int .i64 1] rfl hB4 rfl rfl (by kernel_rfl) ?_;intro w5 hE5 hj5 hs5;refine stay ?_)
   refine stay_out ?_
   have hg5:Grow w3 w5:=Below.trans hg4 (hj5.below (B:=w3.heap.size) (fun b hb=>by have e2:b=ze:=hb;omega) (by omega))
   have hF3:AllFramed (woL W q [(1,0,frame (askB eAsk))] (R1 q.r) (A3 q.a)++[Sn s,Cell b 98 #[.int .i64 9,.int .i64 1,.int .i64 0,.int .i64 7,.string tA1,.int .i64 10,.int .i64 1,.int .i64 0,.int .i64 0,.string ⟨#[]⟩,.int .i64 1,.int .i64 1,.int .i64 0,.int .i64 1,.string ⟨#[]⟩],Cell y 98 #[.int .i64 1,.int .i64 1,.int .i64 0,.int .i64 1,.string ⟨#[]⟩]]):=allFramed_app (woL_framed W q [(1,0,frame (askB eAsk))] (R1 q.r) (A3 q.a) (R1.framed q.r) (A3.framed q.a)) hTl
   have hS5:=hS3.grows hF3 hg5
   have J5:=J3.trans (Just.of_grow hg5)
   have hy5:=hS5.blk 9 rfl
   have hAdd:=fun x bag=>stAdd_skip w5 (.pointer (some ⟨s,0,none⟩)) 1 1 0 1 ⟨#[]⟩ (by decide) 0 1 0 0 0 0 x bag
   go_wp2_with (first|(refine wpList_load_blk rfl 98 _ rfl _ rfl (hy5) Tryz.underlying98 (by kernel_rfl) ?_)|(refine wpList_load_blk rfl 100 _ rfl _ rfl (hE5) Tryz.underlying100 (by kernel_rfl) ?_))
   refine (hAdd _ _).mono ?_
   rintro e w6 ⟨rfl,hg6⟩
   have hS6:=hS5.grows hF3 hg6
   have J6:=J5.trans (Just.of_grow hg6)
   have e0:=(hE5.grow hg6).cell 0
   have hS7:Solo (Lic V w) (Many (woL W q [(1,0,frame (askB eAsk))] (R1 q.r) (A3 q.a)++[Sn s,Cell b 98 #[.int .i64 9,.int .i64 1,.int .i64 0,.int .i64 7,.string tA1,.int .i64 10,.int .i64 1,.int .i64 0,.int .i64 0,.string ⟨#[]⟩,.int .i64 1,.int .i64 1,.int .i64 0,.int .i64 1,.string ⟨#[]⟩]])) w6:=(Solo.perm (List.perm_append_comm (l₁:=woL W q [(1,0,frame (askB eAsk))] (R1 q.r) (A3 q.a)++[Sn s,Cell b 98 #[.int .i64 9,.int .i64 1,.int .i64 0,.int .i64 7,.string tA1,.int .i64 10,.int .i64 1,.int .i64 0,.int .i64 0,.string ⟨#[]⟩,.int .i64 1,.int .i64 1,.int .i64 0,.int .i64 1,.string ⟨#[]⟩]]) (l₂:=[Cell y 98 #[.int .i64 1,.int .i64 1,.int .i64 0,.int .i64 1,.string ⟨#[]⟩]])) hS6).drop1
   go_wp2_with fail
   go_roundw
   case rel=>exact .inr (.inr (.inr ⟨rfl,hS7,J6⟩))
   case measure=>simp[intOf]
  ·go_wp2_with fail
   go_ret
   obtain⟨r1,r2⟩:=Solo.done hSr Jr hV
   exact⟨rfl,r1,r2⟩
set_option maxHeartbeats 1000000 in
theorem give_1 (w:World) (W:Nat) (q:WoP) (s:Nat) (V:Nat→Prop) (hM:Many (woL W q [] (R1 q.r) (A0 q.a)++[Sn s]) w V) (hV:∀ b,V b→b<w.heap.size) :
 Calls Tryz.prog 39 #[.pointer (some ⟨W,0,none⟩),.pointer (some ⟨s,0,none⟩),.int .i64 1,.string tA1,.int .i64 7] w fun e w'=>e=.returned (.bool true)∧Sk s w' (Ext V w w')∧Just V w w':=by
 have hS0:=Solo.begin_ hM hV
 have hF0:AllFramed (woL W q [] (R1 q.r) (A0 q.a)++[Sn s]):=allFramed_app (woL_framed W q [] (R1 q.r) (A0 q.a) (R1.framed q.r) (A0.framed q.a)) (AllFramed.nil.cons (Sn.framed s))
 have ga:=grow_alloc w (.cells #[.int .i64 9,.int .i64 1,.int .i64 0,.int .i64 7,.string tA1,.int .i64 10,.int .i64 1,.int .i64 0,.int .i64 0,.string ⟨#[]⟩,.int .i64 1,.int .i64 1,.int .i64 0,.int .i64 1,.string ⟨#[]⟩] 98)
 have hB:=Blk.made w 98 #[.int .i64 9,.int .i64 1,.int .i64 0,.int .i64 7,.string tA1,.int .i64 10,.int .i64 1,.int .i64 0,.int .i64 0,.string ⟨#[]⟩,.int .i64 1,.int .i64 1,.int .i64 0,.int .i64 1,.string ⟨#[]⟩]
 obtain⟨b,HB⟩:∃ b:Nat,Hid (b=w.heap.size):=⟨_,rfl⟩
 obtain⟨wa,HA_⟩:∃ wa:World,Hid (wa=w.alloc (.cells #[.int .i64 9,.int .i64 1,.int .i64 0,.int .i64 7,.string tA1,.int .i64 10,.int .i64 1,.int .i64 0,.int .i64 0,.string ⟨#[]⟩,.int .i64 1,.int .i64 1,.int .i64 0,.int .i64 1,.string ⟨#[]⟩] 98)):=⟨_,rfl⟩
 rw[←HA_.out] at ga hB
 rw[←HB.out] at hB
 have hSa:=hS0.join hF0 ga (R:=Cell b 98 #[.int .i64 9,.int .i64 1,.int .i64 0,.int .i64 7,.string tA1,.int .i64 10,.int .i64 1,.int .i64 0,.int .i64 0,.string ⟨#[]⟩,.int .i64 1,.int .i64 1,.int .i64 0,.int .i64 1,.string ⟨#[]⟩]) (U:=fun x=>x=b) ⟨rfl,hB⟩ (fun x hx=>by have e2:x=b:=hx;have:=HB.out;have:=hB.lt;omega)
 have hSa:Solo (Lic V w) (Many (woL W q [] (R1 q.r) (A0 q.a)++[Sn s,Cell b 98 #[.int .i64 9,.int .i64 1,.int .i64 0,.int .i64 7,.string tA1,.int .i64 10,.int .i64 1,.int .i64 0,.int .i64 0,.string ⟨#[]⟩,.int .i64 1,.int .i64 1,.int .i64 0,.int .i64 1,.string ⟨#[]⟩]])) wa:=hSa.perm (List.perm_append_comm (l₁:=[Cell b 98 #[.int .i64 9,.int .i64 1,.int .i64 0,.int .i64 7,.string tA1,.int .i64 10,.int .i64 1,.int .i64 0,.int .i64 0,.string ⟨#[]⟩,.int .i64 1,.int .i64 1,.int .i64 0,.int .i64 1,.string ⟨#[]⟩]]))
 have hRn:=Solo.call hSa fun U hU hUl=>run_give wa W q s b U hU hUl
 go_enter Tryz.func39,Tryz.ntmps39
 go_wp2_with fail
 rw[←HA_.out,←HB.out]
 refine hRn.mono ?_
 rintro e w1 ⟨rfl,hj1,hS1⟩
 have hS1:Solo (Lic V w) (Many (woL W q [(1,0,frame (askB eAsk))] (R1 q.r) (A3 q.a)++[Sn s])) w1:=(Solo.perm (List.perm_append_comm (l₁:=woL W q [(1,0,frame (askB eAsk))] (R1 q.r) (A3 q.a)++[Sn s]) (l₂:=[Cell b 98 #[.int .i64 9,.int .i64 1,.int .i64 0,.int .i64 7,.string tA1,.int .i64 10,.int .i64 1,.int .i64 0,.int .i64 0,.string ⟨#[]⟩,.int .i64 1,.int .i64 1,.int .i64 0,.int .i64 1,.string ⟨#[]⟩]])) hS1).drop1
 have J1:=(Just.of_grow (V:=Lic V w) ga).trans hj1
 have hDr:=Solo.call hS1 fun U hU hUl=>Drain_2 w1 W q s U hU hUl
 go_wp2_with fail
 refine hDr.mono ?_
 rintro e w2 ⟨rfl,hj2,hS2⟩
 go_wp2_with fail
 go_ret
 have hS3:Solo (Lic V w) (Many [Sk s]) w2:=(Solo.perm (List.perm_append_comm (l₁:=woL W q [] Emp Emp) (l₂:=[Sk s])) hS2).turn fun U hU=>by
  obtain⟨U1,_,h1,_,h2,_⟩:=hU
  exact⟨U1,fun _=>False,h1,trivial,h2,fun _ h=>h.elim,fun _ _ h=>h⟩
 obtain⟨⟨U1,_,h1,_,h2,_⟩,r2⟩:=Solo.done hS3 (J1.trans hj2) hV
 obtain⟨A,xs,h0,hK⟩:=h1
 exact⟨rfl,⟨A,xs,h0,Many.wide _ w2 U1 _ h2 hK⟩,r2⟩
set_option maxHeartbeats 1000000 in
theorem begun_1 (w:World):Calls Tryz.prog 37 #[.int .i64 1,.int .i64 1] w fun e w'=>∃ (W s:Nat) (q:WoP) (V:Nat→Prop),e=.returned (.tuple #[.pointer (some ⟨W,0,none⟩),.pointer (some ⟨s,0,none⟩)])∧Many (woL W q [] (R1 q.r) (A0 q.a)++[Sn s]) w' V∧(∀ b,V b→w.heap.size≤b∧b<w'.heap.size)∧Grow w w':=by
 have hNw:=woNew_1 w
 go_enter Tryz.func37,Tryz.ntmps37
 go_wp2_with fail
 refine hNw.mono ?_
 rintro e w1 ⟨W,rfl,⟨q,hM1⟩,hg1⟩
 have hSt:=stNew_1 w1
 go_wp2_with fail
 refine hSt.mono ?_
 rintro e w2 ⟨s,rfl,hSn,hg2⟩
 have hF1:=woL_framed W q [] (R0 q.r) (A0 q.a) (R0.framed q.r) (A0.framed q.a)
 have hS1:Solo (fun b=>w.heap.size≤b) (Many (woL W q [] (R0 q.r) (A0 q.a))) w1:=Solo.of_new (fun b hb=>Nat.le_trans hg1.size hb) hM1 fun b hb=>hb
 have hS2:=hS1.join hF1 hg2 (R:=Sn s) (U:=fun b=>w1.heap.size≤b∧b<w2.heap.size) hSn (fun b hb=>hb)
 have hS2:Solo (fun b=>w.heap.size≤b) (Many (woL W q [] (R0 q.r) (A0 q.a)++[Sn s])) w2:=hS2.perm (List.perm_append_comm (l₁:=[Sn s]))
 have hF2:AllFramed (woL W q [] (R0 q.r) (A0 q.a)++[Sn s]):=allFramed_app hF1 (AllFramed.nil.cons (Sn.framed s))
 have hW2:=hS2.blk 0 rfl
 obtain⟨U1,hU1,_⟩:=hS2.see 1 rfl
 obtain⟨U2,hU2,_⟩:=hS2.see 2 rfl
 obtain⟨U5,hU5,_⟩:=hS2.see 5 rfl
 have hAg:=woAgent_0 w2 W q.g q.rs q.ags q.ds q.r q.a q.d0 q.d1 U2 hW2 hU2
 have hRp:=woReplica_0 w2 W q.g q.rs q.ags q.ds q.r q.a q.d0 q.d1 U1 hW2 hU1
 have hMa:=rpMachine_R w2 q.r U5 hU5
 have hNt:=woNet_any w2 W q.g q.rs q.ags q.ds hW2
 go_wp2_with fail
 go_loopw [8] (fun i wr=>(i=.int .i64 0∨i=.int .i64 1)∧w2=wr) (fun i _=>1-(intOf i).toNat)
 case atStart=>exact⟨.inl rfl,rfl⟩
 case round=>
  obtain⟨hi,rfl⟩:=hrel
  rcases hi with rfl|rfl
  ·go_wp2_with fail
   refine hAg.mono ?_
   rintro e w3 ⟨rfl,rfl⟩
   go_wp2_with fail
   go_roundw
   case rel=>first|exact⟨.inr rfl,rfl⟩|simp
   case measure=>simp[intOf]
  ·go_wp2_with fail
   go_loopw [9] (fun i wr=>(i=.int .i64 0∨i=.int .i64 1)∧w2=wr) (fun i _=>1-(intOf i).toNat)
   case atStart=>exact⟨.inl rfl,rfl⟩
   case round=>
    obtain⟨hi,rfl⟩:=hrel
    rcases hi with rfl|rfl
    ·go_wp2_with fail
     refine hRp.mono ?_
     rintro e w3 ⟨rfl,rfl⟩
     go_wp2_with fail
     refine hRp.mono ?_
     rintro e w3 ⟨rfl,rfl⟩
     go_wp2_with fail
     refine hMa.mono ?_
     rintro e w3 ⟨⟨m,rfl⟩,rfl⟩
     go_wp2_with fail
     go_roundw
     case rel=>first|exact⟨.inr rfl,rfl⟩|simp
     case measure=>simp[intOf]
    ·have ga:=grow_alloc w2 (.cells #[.int .i64 8,.int .i64 0,.int .i64 0,.int .i64 0,.string ⟨#[]⟩] 98)
     have hB:=Blk.made w2 98 #[.int .i64 8,.int .i64 0,.int .i64 0,.int .i64 0,.string ⟨#[]⟩]
     obtain⟨b,HB⟩:∃ b:Nat,Hid (b=w2.heap.size):=⟨_,rfl⟩
     obtain⟨wa,HA_⟩:∃ wa:World,Hid (wa=w2.alloc (.cells #[.int .i64 8,.int .i64 0,.int .i64 0,.int .i64 0,.string ⟨#[]⟩] 98)):=⟨_,rfl⟩
     rw[←HA_.out] at ga hB
     rw[←HB.out] at hB
     have hSa:=hS2.join hF2 ga (R:=Cell b 98 #[.int .i64 8,.int .i64 0,.int .i64 0,.int .i64 0,.string ⟨#[]⟩]) (U:=fun x=>x=b) ⟨rfl,hB⟩ (fun x hx=>by have e2:x=b:=hx;have:=HB.out;have:=hB.lt;omega)
     have hSa:Solo (fun b=>w.heap.size≤b) (Many (woL W q [] (R0 q.r) (A0 q.a)++[Sn s,Cell b 98 #[.int .i64 8,.int .i64 0,.int .i64 0,.int .i64 0,.string ⟨#[]⟩]])) wa:=hSa.perm (List.perm_append_comm (l₁:=[Cell b 98 #[.int .i64 8,.int .i64 0,.int .i64 0,.int .i64 0,.string ⟨#[]⟩]]))
     have hRn:=Solo.call hSa fun U hU hUl=>run_lead wa W q s b U hU hUl
     go_wp2_with fail
     refine hNt.mono ?_
     rintro e w3 ⟨rfl,rfl⟩
     go_wp2_with fail
     rw[←HA_.out,←HB.out]
     refine hRn.mono ?_
     rintro e w4 ⟨rfl,hj4,hS4⟩
     have hS4:Solo (fun b=>w.heap.size≤b) (Many (woL W q [] (R1 q.r) (A0 q.a)++[Sn s])) w4:=(Solo.perm (List.perm_append_comm (l₁:=woL W q [] (R1 q.r) (A0 q.a)++[Sn s]) (l₂:=[Cell b 98 #[.int .i64 8,.int .i64 0,.int .i64 0,.int .i64 0,.string ⟨#[]⟩]])) hS4).drop1
     obtain⟨h04,V4,hM4,hV4⟩:=hS4
     obtain⟨Vw,Vs,hMw,_,hsw,_,_⟩:=Many.app (woL W q [] (R1 q.r) (A0 q.a)) hM4
     have hDr:=Drain_0 w4 W q (R1 q.r) (A0 q.a) s Vw hMw (fun b hb=>(hV4 b (hsw b hb)).2)
     have hSw:=Solo.begin_ hMw (fun b hb=>(hV4 b (hsw b hb)).2)
     obtain⟨U1,hU1,_⟩:=hSw.see 1 rfl
     obtain⟨U5,hU5,_⟩:=hSw.see 5 rfl
     have hRp4:=woReplica_0 w4 W q.g q.rs q.ags q.ds q.r q.a q.d0 q.d1 U1 (hSw.blk 0 rfl) hU1
     have hLd:=rpLeads_R w4 q.r U5 hU5
     go_wp2_with fail
     refine hDr.mono ?_
     rintro e w5 ⟨rfl,rfl⟩
     go_wp2_with fail
     refine hRp4.mono ?_
     rintro e w5 ⟨rfl,rfl⟩
     go_wp2_with fail
     refine hLd.mono ?_
     rintro e w5 ⟨rfl,rfl⟩
     go_wp2_with fail
     go_ret2
     exact⟨W,s,q,V4,rfl,hM4,hV4,Below.trans (hg1.trans (hg2.trans ga)) (hj4.below (B:=w.heap.size) (fun b hb=>hb) (hg1.trans (hg2.trans ga)).size)⟩
theorem awake_1 (w:World):Calls Tryz.prog 15 #[] w fun e w'=>e=.returned (.bool true)∧Grow w w':=by
 have hBg:=begun_1 w
 go_enter Tryz.func15,Tryz.ntmps15
 go_wp2_with fail
 refine hBg.mono ?_
 rintro e w1 ⟨W,s,q,V,rfl,hM,hV,hg1⟩
 have hGv:=give_1 w1 W q s V hM fun b hb=>(hV b hb).2
 go_wp2_with fail
 refine hGv.mono ?_
 rintro e w2 ⟨rfl,hK,hj2⟩
 have hAc:=stAcked_k w2 s _ hK
 go_wp2_with fail
 refine hAc.mono ?_
 rintro e w3 ⟨⟨A,c,rfl⟩,hg3⟩
 go_wp2_with fail
 go_ret
 exact⟨rfl,Grow.trans (show Grow w w2 from Below.trans hg1 (hj2.below (B:=w.heap.size) (fun b hb=>(hV b hb).1) hg1.size)) hg3⟩
end Go.Proofs.YtmijcbfgfkeodaaGreatDoor
end
section
namespace Go.Proofs.YtmijcbfgfkeodaaGreatDoor.bulks
theorem one_le {H:Type} (d:DataW H):1≤Rows.uptoBulk d:=by
 cases d with
 | lit l=>cases l<;>simp[Rows.uptoBulk]
 | nil=>simp[Rows.uptoBulk]
 | ptr d=>simp[Rows.uptoBulk]
 | slice elems spare=>simp[Rows.uptoBulk]
 | agg parts=>simp[Rows.uptoBulk]
 | iface t d=>simp[Rows.uptoBulk]
 | map entries=>simp[Rows.uptoBulk]
 | held h=>simp[Rows.uptoBulk]
theorem append {H:Type} (l r:List (DataW H)):Rows.uptoBulkAll (l++r)=Rows.uptoBulkAll l+Rows.uptoBulkAll r:=by
 induction l with
 | nil=>simp[Rows.uptoBulkAll]
 | cons x l ih=>simp only[List.cons_append,Rows.uptoBulkAll,ih];omega
theorem length_le {H:Type} (l:List (DataW H)):l.length≤Rows.uptoBulkAll l:=by
 induction l with
 | nil=>simp[Rows.uptoBulkAll]
 | cons x r ih=>have:=one_le x;simp only[Rows.uptoBulkAll,List.length_cons];omega
end Go.Proofs.YtmijcbfgfkeodaaGreatDoor.bulks
end
