/- Ga2, Within, Ga3, Put, Rng, St1, Ag1, Re1. -/
import Derived.Test.YtmijcbfgfkeodaaGreatDoorHz24
import Derived.Maps.RangeRun
set_option linter.all false
set_option maxRecDepth 100000
section
namespace Go.Hop
open Go.RowKit
theorem Solo.op {P:Nat→Prop} {S:Thing} {l:List Thing} {w:World} (i:Nat) (hi:l[i]?=some S) (hF:AllFramed l) (h:Solo P (Many l) w) :
 ∃ U:Nat→Prop,S w U∧(∀ b,U b→P b∧b<w.heap.size)∧∀ (S':Thing) (w':World),S' w' (Ext U w w')→Just U w w'→Solo P (Many (l.set i S')) w'∧Just P w w':=by
 obtain⟨h0,V,h1,h4⟩:=h
 obtain⟨V1,V2,a,b,c,d,e⟩:=Many.pick l i S hi h1
 refine⟨V1,a,fun x hx=>h4 x (c x hx),fun S' w' hs hj=>⟨⟨fun x hx=>h0 x (Nat.le_trans hj.size hx),Ext V w w',Many.unpick l i S S' hi ⟨Ext V1 w w',V2,hs,Many.framed _ (fun R hR=>hF R (List.mem_of_mem_eraseIdx hR)) w w' V2 b fun x hx=>hj.block x (h4 x (d x hx)).2 (fun h1=>e x h1 hx),fun x hx=>?_,fun x hx => .inl (d x hx),fun x hx h2=>?_⟩,ext_lt h4 h0 hj.size⟩,hj.imp fun x hx=>(h4 x (c x hx)).1⟩⟩
 ·rcases hx with hx|hx
  ·exact .inl (c x hx)
  ·exact .inr hx
 ·rcases hx with hx|hx
  ·exact e x hx h2
  ·have:=(h4 x (d x h2)).2;have:=hx.1;omega
end Go.Hop
namespace Go.Proofs.YtmijcbfgfkeodaaGreatDoor
open Go.RowKit Go.Hop Go.Proofs.YtmijcbfgfkeodaaGreatDoor.V
def IdT (v:Value) (l:List (Int×Int×Int)):Thing:=fun w V=>Row w V 26 3 v l.length (icells l)
theorem IdT.framed (v:Value) (l:List (Int×Int×Int)):Framed (IdT v l):=fun w w' V h hk=>Row.keep h fun b hb _=>hk b hb
def idsL (L:List Nat):List (Int×Int×Int):=L.map fun (i:Nat)=>((1:Int),(0:Int),(i:Int))
theorem idsL_nodup {L:List Nat} (h:L.Nodup):(idsL L).Nodup:=by
 unfold idsL List.Nodup
 rw[List.pairwise_map]
 exact h.imp fun hne e=>hne (by injection e with _ e;injection e with _ e;omega)
theorem idsL_more (L:List Nat) (i:Nat):idsL (L++[i])=idsL L++[(1,0,(i:Int))]:=by simp[idsL]
set_option maxHeartbeats 2000000 in
theorem counted_gap (w:World) (k:Nat) (hk31:k≤31) (L:List Nat) (hnd:L.Nodup) (hLk:∀ n∈L,1≤n∧n≤k) (hLn:L.length≤31) (q:List El) (hqL:q.map El.e=L.map fun (i:Nat)=>enA 1 (i:Int) 1 i 0 0) (A:Option Addr) (c:Nat) (D0:Nat→Prop) (hE:Ens w D0 A q) (hDl:∀ b,D0 b→b<w.heap.size) :
 Calls Tryz.prog 17 #[.slice A q.length c] w fun e w'=>∃ A2,e=.returned (.slice A2 q.length q.length)∧Grow w w':=by
 have hlen:q.length=L.length:=by have:=congrArg List.length hqL;simpa using this
 obtain⟨n,HN⟩:∃ n:Nat,Hid (n=q.length):=⟨_,rfl⟩
 rw[←HN.out]
 rw[←HN.out] at hlen
 have hn31:n≤31:=by omega
 have HLen:=Lib.hid hlen
 clear hlen
 have hNw:=maNew_any w
 go_enter Tryz.func17,Tryz.ntmps17
 go_wp2_with fail
 refine hNw.mono ?_
 rintro e w1 ⟨m,rfl,hM1,hg1⟩
 have hS1:Solo (fun b=>w.heap.size≤b) (Many [GapT m k [],IdT (.slice none 0 0) []]) w1:=⟨fun b hb=>Nat.le_trans hg1.size hb,New w w1,⟨New w w1,fun _=>False,.inl ⟨rfl,hM1⟩,⟨fun _=>False,fun _=>False,⟨rfl,.inl ⟨rfl,rfl⟩⟩,trivial,fun _ h=>h,fun _ h=>h,fun _ h _=>h⟩,fun _ h=>h,fun _ h=>h.elim,fun _ _ h=>h⟩,fun b hb=>⟨hb.1,hb.2⟩⟩
 have J1:Just (fun b=>w.heap.size≤b) w w1:=Just.of_grow hg1
 go_wp2_with fail
 go_loopw [4,12] (fun v x wr=>∃ j:Nat,j≤n∧x=.int .i64 (j:Int)∧Solo (fun b=>w.heap.size≤b) (Many [GapT m k (L.take j),IdT v (idsL (L.take j))]) wr∧Just (fun b=>w.heap.size≤b) w wr) (fun _ x _=>n-(intOf x).toNat)
 case atStart=>exact⟨0,by omega,rfl,by rw[List.take_zero];exact hS1,J1⟩
 case round=>
  clear hS1 J1 hNw hM1 hg1
  obtain⟨j,hjn,rfl,hS,hJ⟩:=hrel
  have hgr:Grow w wr:=hJ.below (fun b hb=>hb) (Nat.le_refl _)
  have hF:AllFramed [GapT m k (L.take j),IdT u4 (idsL (L.take j))]:=(AllFramed.nil.cons (IdT.framed _ _)).cons (GapT.framed _ _ _)
  by_cases hj':j<n
  ·have hlen:=HLen.out
   have hj:j<q.length:=by rw[←HN.out];exact hj'
   have hEr:=hE.grow hgr
   obtain⟨ad,hkq,rfl,hVb,hBb,e0,e1⟩:=hEr.1.rec_ (by omega) el_len hj
   have hbin:=hEr.2 q[j] (List.getElem_mem hkq)
   have hbe:q[j].e=enA 1 ((L[j]'(by omega):Nat):Int) 1 (L[j]'(by omega)) 0 0:=by
    have h1:(q.map El.e)[j]?=some q[j].e:=by rw[List.getElem?_map,List.getElem?_eq_getElem hkq];rfl
    rw[hqL,List.getElem?_map,List.getElem?_eq_getElem (show j<L.length by omega)] at h1
    exact (Option.some.inj h1).symm
   have hiL:L[j]'(by omega)∈L:=List.getElem_mem _
   have hsn:L.take (j+1)=L.take j++[L[j]'(by omega)]:=List.take_succ_eq_append_getElem (by omega)
   have hni:L[j]'(by omega) ∉ L.take j:=fun hm=>by
    obtain⟨a,ha,e⟩:=List.mem_take_iff_getElem.1 hm
    exact List.pairwise_iff_getElem.1 hnd a j (by omega) (by omega) (by omega) e
   have HS:=Lib.hid hsn
   clear hsn
   generalize q[j]=b at hbin e0 e1 hbe
   generalize L[j]'(by omega)=i at hbe hiL HS hni
   obtain⟨be,Ab,cb⟩:=b
   dsimp only at hbe
   subst hbe
   obtain⟨hi1,hik⟩:=hLk i hiL
   have hd0:DIn wr D0 Ab 1 [(tA1,i)]:=hbin.1
   have e2:=e1 1 (.int .i64 0) rfl
   have e3:=e1 2 (.int .i64 (i:Int)) rfl
   have e4:=e1 3 (.int .i64 1) rfl
   have e5:=e1 4 (.slice Ab 1 cb) rfl
   have e6:=e1 5 (.string ⟨#[]⟩) rfl
   have e7:=e1 6 (.int .i64 0) rfl
   have e8:=e1 7 (.int .i64 0) rfl
   have e1:=e1 0 (.int .i64 1) rfl
   have e0:=e0 (.int .i64 1) rfl
   clear hbin
   have hga:=grow_alloc wr (.cells #[.int .i64 1,.int .i64 1,.int .i64 0,.int .i64 (i:Int),.int .i64 1,.slice Ab 1 cb,.string ⟨#[]⟩,.int .i64 0,.int .i64 0] 32)
   have hBy:=Blk.made wr 32 #[.int .i64 1,.int .i64 1,.int .i64 0,.int .i64 (i:Int),.int .i64 1,.slice Ab 1 cb,.string ⟨#[]⟩,.int .i64 0,.int .i64 0]
   obtain⟨y,HY⟩:∃ y:Nat,Hid (y=wr.heap.size):=⟨_,rfl⟩
   obtain⟨wa,HA_⟩:∃ wa:World,Hid (wa=wr.alloc (.cells #[.int .i64 1,.int .i64 1,.int .i64 0,.int .i64 (i:Int),.int .i64 1,.slice Ab 1 cb,.string ⟨#[]⟩,.int .i64 0,.int .i64 0] 32)):=⟨_,rfl⟩
   rw[←HA_.out] at hga hBy
   rw[←HY.out] at hBy
   have hSa:=hS.join hF hga (R:=Cell y 32 #[.int .i64 1,.int .i64 1,.int .i64 0,.int .i64 (i:Int),.int .i64 1,.slice Ab 1 cb,.string ⟨#[]⟩,.int .i64 0,.int .i64 0]) (U:=fun b=>b=y) ⟨rfl,hBy⟩ (fun b hb=>by have:=HY.out;have:=hBy.lt;omega)
   have hFa:=hF.cons (Cell.framed y 32 #[.int .i64 1,.int .i64 1,.int .i64 0,.int .i64 (i:Int),.int .i64 1,.slice Ab 1 cb,.string ⟨#[]⟩,.int .i64 0,.int .i64 0])
   have Ja:=hJ.trans (Just.of_grow (V:=fun b=>w.heap.size≤b) hga)
   have hda:=In.grow hd0 hga
   have hAp:=Solo.atV 1 rfl hFa hSa (fun U hU hUl hUP=>gap_step wa m k i (L.take j) hk31 hi1 hik (fun n hn=>hLk n (List.mem_of_mem_take hn)) (by rw[List.length_take];omega) hni Ab cb D0 U hUl hda (fun b hb=>Nat.lt_of_lt_of_le (hDl b hb) Ja.size) (fun b hb hu=>by have:=hDl b hb;have:=hUP b hu;omega) hU)
   have hya:=hSa.blk 0 rfl
   clear hlen
   go_wp2_with fail
   rw[←HA_.out,←HY.out]
   clear e0 e1 e2 e3 e4 e5 e6 e7 e8 hBy
   go_wp2_with (refine wpList_load_blk rfl 32 _ rfl _ rfl (hya) Tryz.underlying32 (by kernel_rfl) ?_)
   refine hAp.mono ?_
   rintro e w2 ⟨rfl,hj2,hS2⟩
   have hS2:Solo (fun b=>w.heap.size≤b) (Many [Cell y 32 #[.int .i64 1,.int .i64 1,.int .i64 0,.int .i64 (i:Int),.int .i64 1,.slice Ab 1 cb,.string ⟨#[]⟩,.int .i64 0,.int .i64 0],GapT m k (L.take j++[i]),IdT u4 (idsL (L.take j))]) w2:=hS2
   have hF2:AllFramed [Cell y 32 #[.int .i64 1,.int .i64 1,.int .i64 0,.int .i64 (i:Int),.int .i64 1,.slice Ab 1 cb,.string ⟨#[]⟩,.int .i64 0,.int .i64 0],GapT m k (L.take j++[i]),IdT u4 (idsL (L.take j))]:=((AllFramed.nil.cons (IdT.framed _ _)).cons (GapT.framed _ _ _)).cons (Cell.framed _ _ _)
   have J2:=Ja.trans hj2
   have hy2:=hS2.blk 0 rfl
   have c1:=hy2.cell 1
   have c2:=hy2.cell 2
   have c3:=hy2.cell 3
   obtain⟨A4,e4,hI4⟩:=isIn_blk (Blk.made w2 26 #[.int .i64 1,.int .i64 0,.int .i64 (i:Int)]) (size:=3) (n:=1) rfl
   injection e4 with e4
   subst e4
   have hgb:=grow_alloc w2 (.cells #[.int .i64 1,.int .i64 0,.int .i64 (i:Int)] 26)
   have hS3:=hS2.grows hF2 hgb
   have J3:=J2.trans (Just.of_grow (V:=fun b=>w.heap.size≤b) hgb)
   have hF3:=hF2
   obtain⟨U3,hR3,hU3,hop⟩:=hS3.op 2 rfl hF3
   have hln:(idsL (L.take j)).length=j:=by unfold idsL;rw[List.length_map,List.length_take];have:=HLen.out;omega
   have hR3:Row _ U3 26 3 u4 (idsL (L.take j)).length (icells (idsL (L.take j))):=hR3
   have hic:icells (idsL (L.take j))++[.int .i64 1,.int .i64 0,.int .i64 (i:Int)]=icells (idsL (L.take j++[i])):=by rw[idsL_more];simp[icells,icell]
   have hlm:(idsL (L.take j)).length+1=(idsL (L.take j++[i])).length:=by rw[idsL_more];simp
   rw[hln] at hR3
   rw[hln] at hlm
   go_wp2_with (at_builtin;refine stay ?_)
   refine stay_out ?_
   refine wpList_row idE _ rfl (.tmp 24) (.tmp 27) rfl u4 j _ rfl hR3 _ _ 1 1 [.int .i64 1,.int .i64 0,.int .i64 (i:Int)] rfl hI4.reads (ident_one _ _ _) (by have:=HLen.out;omega) ?_
   intro v5 w5 hR5 hj5
   rw[hic,hlm] at hR5
   obtain⟨hS5,J5⟩:=hop (IdT v5 (idsL (L.take j++[i]))) w5 hR5 hj5
   have hS5:Solo (fun b=>w.heap.size≤b) (Many [GapT m k (L.take j++[i]),IdT v5 (idsL (L.take j++[i]))]) w5:=Solo.drop1 hS5
   have J5:=J3.trans J5
   rw[←HS.out] at hS5
   clear c1 c2 c3 hS hSa hS2 hS3 hop hlm hln hic
   go_wp2_with fail
   go_roundw
   case rel=>exact⟨j+1,by omega,by have:=HLen.out;go_num,hS5,J5⟩
   case measure=>have:=HLen.out;simp[intOf];omega
  ·obtain rfl:j=n:=by omega
   obtain⟨U,hR,hU⟩:=hS.see 1 rfl
   have hlen:=HLen.out
   have hTL:L.take j=L:=List.take_of_length_le (by omega)
   rw[hTL] at hR
   obtain⟨A3,c3,rfl,hI3,hc3,hm3⟩:=Row.in_ hR
   have hUn:=Union_any wr A3 c3 (idsL L) U hI3 (by unfold idsL;rw[List.length_map];omega) (idsL_nodup hnd)
   have HL:Hid ((idsL L).length=j):=Lib.hid (by unfold idsL;rw[List.length_map,hlen])
   clear hTL hR hI3 hS hE hqL hlen hc3 hm3 hU
   go_wp2_with fail
   refine hUn.mono ?_
   rintro e w2 ⟨A2,l2,rfl,_,_,hg2⟩
   go_wp2_with fail
   go_ret
   exact⟨A2,by rw[←HL.out];rfl,hgr.trans hg2⟩
end Go.Proofs.YtmijcbfgfkeodaaGreatDoor
end
section
namespace Go.Proofs.YtmijcbfgfkeodaaGreatDoor
open Go.RowKit Go.Hop
theorem within_any (w:World) (n lo hi:Int) (hn:-9223372036854775808≤n∧n≤9223372036854775807) (h0:-4000000000≤lo) (h1:lo≤hi) (h2:hi≤4000000000) :
 Calls Tryz.prog 11 #[.int .i64 n,.int .i64 lo,.int .i64 hi] w fun e w'=>∃ m:Int,lo≤m∧m≤hi∧e=.returned (.int .i64 m)∧w=w':=by
 by_cases ha:lo≤n
 ·by_cases hb:n≤hi
  ·go_enter Tryz.func11,Tryz.ntmps11
   go_wp2_with fail
   go_ret
   exact⟨n,ha,hb,rfl,rfl⟩
  ·skip
   have hp:=Int.emod_nonneg n (show hi-lo+1≠0 by omega)
   have hl:=Int.emod_lt_of_pos n (show 0<hi-lo+1 by omega)
   have q1:=Int.tmod_lt_of_pos n (show 0<hi-lo+1 by omega)
   have q2:=Int.lt_tmod_of_pos n (show 0<hi-lo+1 by omega)
   go_enter Tryz.func11,Tryz.ntmps11
   go_wp2_with fail
   all_goals
    go_ret
    refine⟨_,?_,?_,rfl,rfl⟩<;>(try unfold wrap64)<;>omega
 ·skip
  have hp:=Int.emod_nonneg n (show hi-lo+1≠0 by omega)
  have hl:=Int.emod_lt_of_pos n (show 0<hi-lo+1 by omega)
  have q1:=Int.tmod_lt_of_pos n (show 0<hi-lo+1 by omega)
  have q2:=Int.lt_tmod_of_pos n (show 0<hi-lo+1 by omega)
  go_enter Tryz.func11,Tryz.ntmps11
  go_wp2_with fail
  all_goals
   go_ret
   refine⟨_,?_,?_,rfl,rfl⟩<;>(try unfold wrap64)<;>omega
end Go.Proofs.YtmijcbfgfkeodaaGreatDoor
end
section
namespace Go.Proofs.YtmijcbfgfkeodaaGreatDoor
open Go.RowKit Go.Hop Go.Proofs.YtmijcbfgfkeodaaGreatDoor.V
def els (w:World) (R:Nat→Prop) (g n c:Nat) (q:List El):Prop:=Own w R 32 9 (.slice (some ⟨g,0,none⟩) n c) (q).length ((q).flatMap El.cells)
theorem els_at {w:World} {R:Nat→Prop} {g n c:Nat} {q:List El} (h:els w R g n c q) {k:Nat} (hk:k<q.length):R g∧∀ i u,(El.cells q[k])[i]?=some u→w.cell? ⟨g,k*9+i,none⟩=some u∧w.frozen? ⟨g,k*9+i,none⟩=false:=by
 obtain⟨hl,⟨_,h0⟩|⟨g',cap,cur,e,hR,hg,hc1,hcm,hcs,htk⟩⟩:=h
 ·exact absurd hk (by omega)
 ·injection e with e1 e2 e3
  injection e1 with e1
  injection e1 with e1 _ _
  subst e1
  refine⟨hR,fun i u hu=>?_⟩
  have hi:i<9:=by
   have:=(List.getElem?_eq_some_iff.1 hu).1
   rwa [el_len] at this
  have h1:=flat_get El.cells 9 el_len q k i hk hi
  rw[hu,←htk,List.getElem?_take_of_lt (by omega),Array.getElem?_toList] at h1
  refine⟨?_,?_⟩
  ·unfold World.cell?
   simp only[hg]
   exact h1
  ·unfold World.frozen?
   simp only[hg]
   simp
theorem els_put {w:World} {R:Nat→Prop} {g n c:Nat} {q:List El} (h:els w R g n c q) {k:Nat} (hk:k<q.length) (a:El):els (w.setCells g (k*9) a.cells) R g n c (q.set k a)∧Just R w (w.setCells g (k*9) a.cells):=by
 obtain⟨hl,⟨_,h0⟩|⟨g',cap,cur,e,hR,hg,hc1,hcm,hcs,htk⟩⟩:=h
 ·exact absurd hk (by omega)
 ·injection e with e1 e2 e3
  injection e1 with e1
  injection e1 with e1 _ _
  subst e1
  have hsz:q.length*9≤cur.size:=by
   rcases hcs with hcs|⟨_,hcs⟩
   ·rw[hcs];exact Nat.mul_le_mul_right 9 hc1
   ·exact hcs
  obtain⟨cur',h1,h2,h3⟩:=setCells_heap g 32 (0,0) a.cells (k*9) w cur hg (by rw[el_len];omega)
  refine⟨⟨flat_length El.cells 9 el_len _,.inr ⟨g,cap,cur',by rw[e2,e3,List.length_set],hR,h1,by rw[List.length_set];exact hc1,hcm,by rw[h2,List.length_set];exact hcs,?_⟩⟩,Just.imp (Just.of_only (setCells_only g a.cells (k*9) w) rfl) fun b hb=>hb▸hR⟩
  rw[h3,List.length_set,List.set_eq_take_append_cons_drop,if_pos hk,List.flatMap_append,List.flatMap_cons,el_len]
  have e4:cur.toList.take (k*9)=(q.take k).flatMap El.cells:=by
   rw[←flat_take El.cells 9 el_len,←htk,List.take_take,Nat.min_eq_left (by omega)]
  have e5:(cur.toList.drop (k*9+9)).take (q.length*9-(k*9+9))=(q.drop (k+1)).flatMap El.cells:=by
   rw[←flat_drop El.cells 9 el_len,←htk,show (k+1)*9=k*9+9 by omega,List.drop_take]
  have lc:(cur.toList.take (k*9)).length=k*9:=by rw[List.length_take,Array.length_toList];omega
  have la:=el_len a
  rw[List.append_assoc,List.take_append,List.take_append,lc,la,List.take_of_length_le (by rw[lc];omega),List.take_of_length_le (l:=a.cells) (by rw[la];omega),e4,show q.length*9-k*9-9=q.length*9-(k*9+9) by omega,e5]
theorem els_store {w:World} {R:Nat→Prop} {g n c k:Nat} {q:List El} {a:El} {ρ:Operand→Value} {o:Oper} {x y:Operand} (hI:els w R g n c q) (hk:k<q.length)
 (h1:ρ x=.pointer (some ⟨g,k*9,none⟩)) (h2:ρ y=.agg a.cells.toArray) (ho:o.op=.store 32 x y) :
 flowUpon Tryz.prog (fun u w'=>u=undef∧Just R w w'∧els w' R g n c (q.set k a)) ((execOp ρ o).run Tryz.prog w):=by
 obtain⟨p1,p2⟩:=els_put hI hk a
 obtain⟨_,hc⟩:=els_at hI hk
 have hr:(execOp ρ o).run Tryz.prog w=.ok .skip (w.setCells g (k*9) a.cells):=by
  obtain⟨dst,op,ty,pos,after,guard⟩:=o
  simp only at ho
  subst ho
  have h3:=run_storeAt_mid (P:=Tryz.prog) w g (k*9) 32 a.cells.toArray (fun j hj=>by
   have hj:j<(El.cells q[k]).length:=by rw[el_len];simpa [El.cells,En.agg] using hj
   obtain⟨c1,c2⟩:=hc j _ (List.getElem?_eq_getElem hj)
   exact⟨by rw[c1];rfl,c2⟩) (by kernel_rfl) (by
    rw[Array.all_eq_true']
    intro u hu
    exact el_one a u (by simpa using hu))
  simp only[execOp,h1,h2,Sem.run_bind,Sem.run_pure,Result.andThen_ok,h3]
 rw[hr]
 exact⟨rfl,p2,p1⟩
theorem els_load {w:World} {R:Nat→Prop} {g n c k:Nat} {q:List El} {ρ:Operand→Value} {o:Oper} {x:Operand} (hI:els w R g n c q) (hk:k<q.length) (h1:ρ x=.pointer (some ⟨g,k*9,none⟩)) (ho:o.op=.load 32 x) :
 (execOp ρ o).run Tryz.prog w=.ok (.value (.agg (El.cells q[k]).toArray)) w:=by
 obtain⟨_,hc⟩:=els_at hI hk
 obtain⟨dst,op,ty,pos,after,guard⟩:=o
 simp only at ho
 subst ho
 have h3:=run_loadAt_mid (P:=Tryz.prog) w g (k*9) 32 (El.cells q[k]) _ (fun j v hv=>(hc j v hv).1) Tryz.underlying32 rfl (by rw[el_len];kernel_rfl)
 simp only[execOp,h1,Sem.run_bind,Sem.run_pure,Result.andThen_ok,h3]
theorem els_load' {w:World} {R:Nat→Prop} {g n c k:Nat} {q:List El} {e:El} {ρ:Operand→Value} {o:Oper} {x:Operand} (hI:els w R g n c q) (hk:q[k]?=some e) (h1:ρ x=.pointer (some ⟨g,k*9,none⟩)) (ho:o.op=.load 32 x) :
 (execOp ρ o).run Tryz.prog w=.ok (.value (.agg (El.cells e).toArray)) w:=by
 obtain⟨h2,rfl⟩:=List.getElem?_eq_some_iff.1 hk
 exact els_load hI h2 h1 ho
def SwE (R:Nat→Prop) (g n c:Nat) (q:List El) (a b:El) (i j:Nat):Stages where
 G:=Just R
 T:=fun _=>Just R
 I := fun k w=>match k with
   | 0=>els w R g n c q
   | 1=>els w R g n c (q.set i b)
   | _=>els w R g n c ((q.set i b).set j a)
 muts:=[13,15]
 stage:=fun x=>if x=7 then some 0 else if x=11 then some 0 else if x=13 then some 0 else if x=15 then some 1 else none
theorem els_grow {w w':World} {R:Nat→Prop} {g n c:Nat} {q:List El} (h:els w R g n c q) (hg:Grow w w'):els w' R g n c q:=Own.grows h hg
theorem swE_ok {R:Nat→Prop} {g n c:Nat} {q:List El} {a b:El} {i j:Nat}:(SwE R g n c q a b i j).Ok:=by
 refine⟨fun _ _ _=>Just.trans,fun _ _ h=>Just.of_grow h,fun _ _ _ h=>h,fun k a b hh hg=>?_⟩
 rcases k with _|_|k
 ·exact els_grow hh hg
 ·exact els_grow hh hg
 ·exact els_grow hh hg
end Go.Proofs.YtmijcbfgfkeodaaGreatDoor
end
section
namespace Go.Hop
open Go.RowKit
section
variable {P:Program} {ops:Array Oper} {rest:List Oper} {o:Oper} {a:Act} {w:World} {Q:Exit→Act→World→Prop}
theorem run_storeVar_cell (w:World) (b k:Nat) (ty:TypeId) (v:Value) (hc:(w.cell? ⟨b,k,none⟩).isSome=true) (hf:w.frozen? ⟨b,k,none⟩=false) (hi:(P.info? ty).map (·.size)=some 1) (h1:v.oneCell'=true) :
 (storeVar ty ⟨b,k,none⟩ v).run P w=.ok () (w.setCell ⟨b,k,none⟩ v):=by
 have hcs:v.cells=#[v]:=by cases v<;>first|rfl|cases h1
 have:=run_storeCells_cells (P:=P) b k [v] 0 w (fun j hj=>by simp at hj;subst hj;simpa using hc) (fun j hj=>by simp at hj;subst hj;simpa using hf) (fun x hx=>by simp at hx;subst hx;exact h1)
 cases hq:P.info? ty with
 | none=>simp[hq] at hi
 | some i=>
   have hs:1=i.size:=by simp[hq] at hi;omega
   simp only[Nat.add_zero] at this
   simp[storeVar,sizeOf,typeInfo,hq,hcs,←hs] at this ⊢
   simpa [World.setCells] using this
theorem wpList_put1 (hw:Region.wanted o (yielded ops a.tmps)=true) (ty:TypeId) (x y:Operand) (ho:o.op=.store ty x y) (g b:Nat) (hx:a.eval x=.pointer (some ⟨g,b,none⟩)) (v:Value) (hy:a.eval y=v) {t:TypeId} {cs:Array Value} (hB:Blk w g t cs) (hl:b<cs.size) (h1:v.oneCell'=true) (hi:(P.info? ty).map (·.size)=some 1)
 (h:∀ w',Hid (w'=w.setCell ⟨g,b,none⟩ v)→wpList P ops Q rest (a.put o.dst undef) w'):wpList P ops Q (o :: rest) a w:=by
 unfold wpList
 rw[if_pos hw]
 refine .inl ?_
 unfold Oper.wp execOp
 simp only[ho,hx,hy,Instr.storeAt,Instr.sureAddr,Sem.run_bind,Sem.run_pure,Result.andThen_ok,run_storeVar_cell w g b ty v (by rw[hB.cell,Array.getElem?_eq_getElem hl];rfl) (hB.frozen _) hi h1]
 exact h _ rfl
theorem wpList_putS (hw:Region.wanted o (yielded ops a.tmps)=true) (ty:TypeId) (x y:Operand) (ho:o.op=.store ty x y) {l:List Thing} {R:Nat→Prop} {w0:World} (hS:Solo R (Many l) w) (hF:AllFramed l) (hj:Just R w0 w) (i:Nat) {g b:Nat} {t:TypeId} {cs:Array Value} (hi0:l[i]?=some (Cell g t cs)) (hx:a.eval x=.pointer (some ⟨g,b,none⟩)) (v:Value) (hy:a.eval y=v) (hl:b<cs.size) (h1:v.oneCell'=true) (hi:(P.info? ty).map (·.size)=some 1)
 (h:∀ w',Solo R (Many (l.set i (Cell g t (cs.setIfInBounds b v)))) w'→Just R w0 w'→wpList P ops Q rest (a.put o.dst undef) w'):wpList P ops Q (o :: rest) a w:=
 wpList_put1 hw ty x y ho g b hx v hy (hS.blk i hi0) hl h1 hi fun w' e=>by
  rw[e.out]
  exact h _ (hS.puts i hi0 hF b v) (hj.put (hS.lics i hi0).1 b v)
theorem _root_.Go.RowKit.Just.ext_ {V:Nat→Prop} {w w1 w2:World} (h1:Just V w w1) (h2:Just (Ext V w w1) w1 w2):Just V w w2:=
 ⟨h2.os.trans h1.os,h2.tape.trans h1.tape,h2.output.trans h1.output,Nat.le_trans h1.size h2.size,fun b hb hne=>(h2.block b (Nat.lt_of_lt_of_le hb h1.size) fun h=>h.elim hne fun h=>by have:=h.1;omega).trans (h1.block b hb hne)⟩
theorem Solo.renew {P:Nat→Prop} {S R:Thing} {l:List Thing} {w w':World} (i:Nat) (hi:l[i]?=some S) (hF:AllFramed l) (h:Solo P (Many l) w) (hg:Grow w w') {U:Nat→Prop} (hR:R w' U) (hU:∀ b,U b→w.heap.size≤b∧b<w'.heap.size):Solo P (Many (l.set i R)) w':=
 (h.join hF hg hR hU).turn fun V hV=>Many.unpick l i S R hi (Sep.imp (show Sep R (Many l) w' V from hV) (fun _ h=>h) fun U1 hU1=>by
  obtain⟨U2,h1,h2⟩:=(Many.pick l i S hi hU1).snd
  exact Many.wide _ w' U2 U1 h2 h1)
end
section
variable {κ:Type} {P:Program} {t kt et:TypeId} {ke:κ→Value} {w w':World} {b:Nat} {V V':Nat→Prop}
theorem GMap.empty (h:GMap ke b [] w V):∃ c,w.heap[b]?=some (.map #[] c):=by
 obtain⟨_,_,es,c,h3,h4⟩:=h
 have:es=#[]:=by
  have h5:=congrArg List.length h4
  simp at h5
  exact h5
 subst this
 exact⟨c,h3⟩
theorem GMap.range_nil (ht:P.underlying t=some (.map kt et)) {c:Nat} (h:w.heap[b]?=some (.map #[] c)) :
 (Instr.range t (.map (some b))).run P w=.ok (.pointer (some ⟨w.heap.size,0,none⟩)) (w.alloc (.mapIter (some b) c #[] c)):=by
 have hg:(getObj b).run P w=.ok (.map #[] c) w:=MapKept.run_getObj_map h
 simp[Instr.range,run_underlying ht,hg,Result.andThen]
theorem GMap.next_nil {c r:Nat} (ty:TypeId) (hr:w.heap[r]?=some (.mapIter (some b) c #[] c)) (h:w.heap[b]?=some (.map #[] c)):(Instr.next (.pointer (some ⟨r,0,none⟩)) false ty).run P w=.ok (.tuple #[.bool false]) w:=by
 rcases run_next_at (P:=P) w ty r b c c #[] #[] c hr h (by simp) (Nat.le_refl _) with ⟨_,h⟩|⟨e,he,_⟩
 ·exact h
 ·simp[leftOf] at he
end
def PtrRow (e:TypeId) (v:Value) (l:List Nat):Thing:=fun w V=>Row w V e 1 v l.length (l.map fun p=>Value.pointer (some ⟨p,0,none⟩))
theorem PtrRow.framed (e:TypeId) (v:Value) (l:List Nat):Framed (PtrRow e v l):=fun _ _ _ h hk=>Row.keep h fun b hb _=>hk b hb
theorem Row.range {w:World} {V:Nat→Prop} {e:TypeId} {size n:Nat} {v:Value} {xs:List Value} (h:Row w V e size v n xs) (hn:0<n):∃ g cap,v=.slice (some ⟨g,0,none⟩) n cap∧V g∧g<w.heap.size∧n≤cap∧cap≤maxLen∧w.rangeAt g 0 xs:=by
 obtain⟨A,c,e2,hI,hc,hm⟩:=h.in_
 rcases h.2 with ⟨_,h1⟩|⟨g,cap,cur,h1,hV,hg,_⟩
 ·omega
 ·rw[h1] at e2
  injection e2 with e3 e4 e5
  subst e3 e5
  obtain⟨ad,ea,_,hb,hcell⟩:=hI.2 hn
  injection ea with ea
  subst ea
  refine⟨g,cap,h1,hV,hb,hc,hm,fun j u hu=>?_⟩
  rw[←Addr.add_mid]
  exact hcell j u hu
theorem PtrRow.at {e:TypeId} {v:Value} {l:List Nat} {w:World} {V:Nat→Prop} (h:PtrRow e v l w V) (hl:0<l.length):∃ g cap,v=.slice (some ⟨g,0,none⟩) l.length cap∧l.length≤cap∧cap≤maxLen∧g<w.heap.size∧∀ (w':World),Grow w w'→∀ k (hk:k<l.length),w'.cell? ⟨g,k,none⟩=some (.pointer (some ⟨l[k],0,none⟩)):=by
 obtain⟨g,cap,e1,_,hg,hc,hm,hr⟩:=Row.range h hl
 refine⟨g,cap,e1,hc,hm,hg,fun w' hw k hk=>?_⟩
 have:=hr k (.pointer (some ⟨l[k],0,none⟩)) (by simp[hk])
 rw[Nat.zero_add] at this
 exact (hw.cell (p:=⟨g,k,none⟩) hg).trans this
section
variable {Pr:Program} {f:FuncId} {args:Array Value} {S:Thing} {l:List Thing} {w:World} {P:Nat→Prop}
theorem Solo.atW {ι:Type} {C:ι→Ending→World→Prop} {S':ι→Thing} (i:Nat) (hi:l[i]?=some S) (hF:AllFramed l) (h:Solo P (Many l) w) (hc:∀ U:Nat→Prop,S w U→(∀ b,U b→b<w.heap.size)→(∀ b,U b→P b)→Calls Pr f args w fun e w'=>∃ k,C k e w'∧S' k w' (Ext U w w')∧Just U w w') :
 Calls Pr f args w fun e w'=>∃ k,C k e w'∧Just P w w'∧Solo P (Many (l.set i (S' k))) w':=by
 obtain⟨h0,V,h1,h4⟩:=h
 obtain⟨V1,V2,a,b,c,d,e⟩:=Many.pick l i S hi h1
 have hR:=Many.framed (l.eraseIdx i) fun R hR=>hF R (List.mem_of_mem_eraseIdx hR)
 refine (hc V1 a (fun x hx=>(h4 x (c x hx)).2) fun x hx=>(h4 x (c x hx)).1).mono fun en w' ⟨k,he,hs,hj⟩=>⟨k,he,hj.imp fun x hx=>(h4 x (c x hx)).1,fun b hb=>h0 b (Nat.le_trans hj.size hb),Ext V w w',Many.unpick l i S (S' k) hi ⟨Ext V1 w w',V2,hs,hR w w' V2 b fun x hx=>hj.block x (h4 x (d x hx)).2 (fun h1=>e x h1 hx),fun x hx=>?_,fun x hx => .inl (d x hx),fun x hx h2=>?_⟩,ext_lt h4 h0 hj.size⟩
 ·rcases hx with hx|hx
  ·exact .inl (c x hx)
  ·exact .inr hx
 ·rcases hx with hx|hx
  ·exact e x hx h2
  ·have:=(h4 x (d x h2)).2;have:=hx.1;omega
end
section
variable {P:Program} {ops:Array Oper} {rest:List Oper} {o:Oper} {a:Act} {w:World} {Q:Exit→Act→World→Prop}
theorem wpList_load_rec (hw:Region.wanted o (yielded ops a.tmps)=true) (ty:TypeId) (x:Operand) (ho:o.op=.load ty x) (g b:Nat) (hx:a.eval x=.pointer (some ⟨g,b,none⟩)) (cs:List Value) (hr:w.rangeAt g b cs) {fs:Array Field} (hu:P.underlying ty=some (.struct fs)) (hi:(P.info? ty).map (·.size)=some cs.length)
 (h:wpList P ops Q rest (a.put o.dst (.agg cs.toArray)) w):wpList P ops Q (o :: rest) a w:=by
 unfold wpList
 rw[if_pos hw]
 exact .inl (wp_load_mid ty x ho g b hx cs _ hr hu rfl hi h)
end
theorem Blk.range {w:World} {g:Nat} {t:TypeId} {vs:List Value} (h:Blk w g t vs.toArray) (b:Nat) (cs:List Value) (hc:vs.drop b=cs):w.rangeAt g b cs:=fun j u hu=>by
 subst hc
 rw[h.cell]
 simpa using hu
end Go.Hop
end
section
namespace Go.Proofs.YtmijcbfgfkeodaaGreatDoor
open Go.RowKit Go.Hop Go.Proofs.YtmijcbfgfkeodaaGreatDoor.V
theorem iGrow_1 (w:World):Calls Tryz.prog 211 #[.slice none 0 0,.int .i64 1] w fun e w'=>∃ v,e=.returned v∧Row w' (fun b=>w.heap.size≤b∧b<w'.heap.size) 26 3 v 0 []∧Grow w w':=by
 obtain⟨i,hi,hz,hs,hb⟩:=idE.info
 go_enter Tryz.func211,Tryz.ntmps211
 go_wp2_with (at_builtin;refine Lib.wpList_append_run _ rfl _ _ _ _ rfl _ _ rfl rfl _ _ (Lib.run_append_nil_zeros _ 41 3 _ 26 i (.agg #[.int .i64 0,.int .i64 0,.int .i64 0]) .i64 .i64 Tryz.underlying41 Tryz.underlying3 hi hz 1 (by omega) (by omega) (by omega) (by rw[hb];omega)) ?_)
 have hge:=grownCap_ge w 1 0 26
 have hle:grownCap w 1 0 26≤maxLen:=grownCap_le_maxLen w 1 0 26 (by unfold maxLen;omega)
 generalize grownCap w 1 0 26=cap at hge hle
 have hcs:(Builtin.zeroCells #[Value.int .i64 0,.int .i64 0,.int .i64 0] 1++Builtin.zeroCells #[Value.int .i64 0,.int .i64 0,.int .i64 0] (cap-1)).size=cap*3:=by
  rw[Array.size_append,size_zeroCells,size_zeroCells,show (#[Value.int .i64 0,.int .i64 0,.int .i64 0]:Array Value).size=3 from rfl];omega
 generalize Builtin.zeroCells #[Value.int .i64 0,.int .i64 0,.int .i64 0] 1++Builtin.zeroCells #[Value.int .i64 0,.int .i64 0,.int .i64 0] (cap-1)=cur at hcs
 have hc0:¬ cap<0:=by omega
 go_wp2_with fail
 go_ret
 refine⟨_,rfl,⟨rfl,.inr ⟨w.heap.size,cap,cur,rfl,⟨Nat.le_refl _,by simp⟩,?_,Nat.zero_le _,hle,hcs,by simp⟩⟩,Grow.drew ((Below.refl _ _).alloc (Nat.le_refl _) _)⟩
 exact heap_alloc_new w _
theorem iConcat_1 (w:World) (b:Nat) (A:Option Addr) (c:Nat) (hB:Blk w b 41 #[.slice none 0 0,.slice A 1 c]) (D:Nat→Prop) (xs:List Value) (hxs:∀ u∈xs,u.oneCell'=true) (hI:In w D 3 A 1 xs) :
 Calls Tryz.prog 138 #[.slice (some ⟨b,0,none⟩) 2 2] w fun e w'=>∃ v,e=.returned v∧Row w' (fun b=>w.heap.size≤b∧b<w'.heap.size) 26 3 v 1 xs∧Grow w w':=by
 have e0:=hB.cell 0
 have e1:=hB.cell 1
 have hG:=iGrow_1 w
 go_enter Tryz.func138,Tryz.ntmps138
 go_wp2_with fail
 go_loopw [3,11] (fun s i wr=>((s=.int .i64 0∧i=.int .i64 0)∨(s=.int .i64 0∧i=.int .i64 1)∨(s=.int .i64 1∧i=.int .i64 2))∧w=wr) (fun _ i _=>2-(intOf i).toNat)
 case atStart=>exact⟨.inl ⟨rfl,rfl⟩,rfl⟩
 case round=>
  obtain⟨hsi,rfl⟩:=hrel
  rcases hsi with ⟨rfl,rfl⟩|⟨rfl,rfl⟩|⟨rfl,rfl⟩
  ·go_wp2_with fail
   go_roundw
   case rel=>exact⟨.inr (.inl ⟨rfl,rfl⟩),by trivial⟩
   case measure=>simp[intOf]
  ·go_wp2_with fail
   go_roundw
   case rel=>exact⟨.inr (.inr ⟨rfl,rfl⟩),by trivial⟩
   case measure=>simp[intOf]
  ·go_wp2_with fail
   refine hG.mono ?_
   rintro e w1 ⟨v1,rfl,hR1,hg1⟩
   go_wp2_with fail
   go_loopw [6,27] (fun v i wr=>((i=.int .i64 0∧Row wr (fun b=>w.heap.size≤b∧b<wr.heap.size) 26 3 v 0 [])∨(i=.int .i64 1∧Row wr (fun b=>w.heap.size≤b∧b<wr.heap.size) 26 3 v 0 [])∨(i=.int .i64 2∧Row wr (fun b=>w.heap.size≤b∧b<wr.heap.size) 26 3 v 1 xs))∧Grow w wr) (fun _ i _=>2-(intOf i).toNat)
   case atStart=>exact⟨.inl ⟨rfl,hR1⟩,hg1⟩
   case round=>
    obtain⟨hsi,hgr⟩:=hrel
    have e0:=(hB.grow hgr).cell 0
    have e1:=(hB.grow hgr).cell 1
    have hwr:=hgr.size
    rcases hsi with ⟨rfl,hR⟩|⟨rfl,hR⟩|⟨rfl,hR⟩
    ·go_wp2_with (at_builtin;refine stay ?_)
     refine stay_out ?_
     refine wpList_row idE _ rfl (.tmp 31) (.tmp 32) rfl _ 0 [] rfl hR 0 none 0 0 [] rfl Reads.nil (by simp) (by decide) ?_
     intro v2 w2 hR2 hj2
     have hg2:Grow w w2:=Below.trans hgr (hj2.below (B:=w.heap.size) (fun b hb=>hb.1) hwr)
     have hR2:=hR2.mono (V':=fun b=>w.heap.size≤b∧b<w2.heap.size) fun b hb=>hb.elim (fun h=>⟨h.1,Nat.lt_of_lt_of_le h.2 hj2.size⟩) fun h=>⟨Nat.le_trans hwr h.1,h.2⟩
     go_wp2_with fail
     go_roundw
     case rel=>exact⟨.inr (.inl ⟨rfl,hR2⟩),hg2⟩
     case measure=>simp[intOf]
    ·go_wp2_with (at_builtin;refine stay ?_)
     refine stay_out ?_
     refine wpList_row idE _ rfl (.tmp 31) (.tmp 32) rfl _ 0 [] rfl hR _ A 1 c xs rfl (hI.grow hgr).reads hxs (by decide) ?_
     intro v2 w2 hR2 hj2
     have hg2:Grow w w2:=Below.trans hgr (hj2.below (B:=w.heap.size) (fun b hb=>hb.1) hwr)
     have hR2:=hR2.mono (V':=fun b=>w.heap.size≤b∧b<w2.heap.size) fun b hb=>hb.elim (fun h=>⟨h.1,Nat.lt_of_lt_of_le h.2 hj2.size⟩) fun h=>⟨Nat.le_trans hwr h.1,h.2⟩
     go_wp2_with fail
     go_roundw
     case rel=>exact⟨.inr (.inr ⟨rfl,hR2⟩),hg2⟩
     case measure=>simp[intOf]
    ·go_wp2_with fail
     go_ret
     exact⟨_,rfl,hR,hgr⟩
theorem iins_1 (w:World) (A:Option Addr) (c:Nat) (fv:Value):Calls Tryz.prog 275 #[.slice A 1 c,.int .i64 0,.int .i64 1,fv] w fun e w'=>e=.returned (.tuple #[])∧w=w':=by
 go_enter Tryz.func275,Tryz.ntmps275
 go_wp2_with fail
 go_loopw [8] (fun i wr=>i=.int .i64 1∧w=wr) (fun _ _=>0)
 case atStart=>exact⟨rfl,rfl⟩
 case round=>
  obtain⟨rfl,rfl⟩:=hrel
  go_wp2_with fail
  go_end0
  exact⟨rfl,rfl⟩
theorem ipdq_1 (w:World) (A:Option Addr) (c:Nat) (l:Int) (fv:Value):Calls Tryz.prog 212 #[.slice A 1 c,.int .i64 0,.int .i64 1,.int .i64 l,fv] w fun e w'=>e=.returned (.tuple #[])∧w=w':=by
 have hI:=iins_1 w A c fv
 go_enter Tryz.func212,Tryz.ntmps212
 go_wp2_with fail
 go_loopw [1,2] (fun a b wr=>a=.int .i64 0∧b=.int .i64 1∧w=wr) (fun _ _ _=>0)
 case atStart=>exact⟨rfl,rfl,rfl⟩
 case round=>
  obtain⟨rfl,rfl,rfl⟩:=hrel
  go_wp2_with fail
  refine hI.mono ?_
  rintro e w1 ⟨rfl,rfl⟩
  go_wp2_with fail
  refine bodyPost_ret (results_none rfl _ _ _) rfl ?_
  exact⟨rfl,rfl⟩
theorem iSort_1 (w:World) (A:Option Addr) (c:Nat) (fv:Value):Calls Tryz.prog 139 #[.slice A 1 c,fv] w fun e w'=>e=.returned (.tuple #[])∧w=w':=by
 have hL:=len_one w
 have hP:=fun l=>ipdq_1 w A c l fv
 go_enter Tryz.func139,Tryz.ntmps139
 go_wp2_with fail
 refine hL.mono ?_
 rintro e w1 ⟨l,rfl,rfl⟩
 go_wp2_with fail
 refine (hP l).mono ?_
 rintro e w1 ⟨rfl,rfl⟩
 go_wp2_with fail
 go_end0
 exact⟨rfl,rfl⟩
theorem iCompact_1 (w:World) (A:Option Addr) (c:Nat):Calls Tryz.prog 142 #[.slice A 1 c] w fun e w'=>e=.returned (.slice A 1 c)∧w=w':=by
 go_enter Tryz.func142,Tryz.ntmps142
 go_wp2_with fail
 go_ret
 exact⟨rfl,rfl⟩
theorem iClip_1 (w:World) (A:Option Addr) (c:Nat) (hc:1≤c):Calls Tryz.prog 141 #[.slice A 1 c] w fun e w'=>e=.returned (.slice A 1 1)∧w=w':=by
 have h1:¬ c<1:=by omega
 go_enter Tryz.func141,Tryz.ntmps141
 cases A with
 | none=>
   go_wp2_with fail
   go_ret
   exact⟨rfl,rfl⟩
 | some a=>
   go_wp2_with fail
   go_ret
   exact⟨rfl,rfl⟩
def keD (k:Int×Int×Int):Value := .agg #[.int .i64 k.1,.int .i64 k.2.1,.int .i64 k.2.2]
theorem keyL:KeyOk Tryz.prog 2 keI:=keyOk_int (by kernel_rfl)
theorem keyD:KeyOk Tryz.prog 26 keD:=keyOk_struct (fs:=(Tryz.prog.fieldsOf 26)) (by kernel_rfl) (fun w b k=>by unfold keD;kernel_rfl)
 (fun w a b=>by
  unfold keD
  show (Op.equalIn 10000 _ _ _).run Tryz.prog w=_
  go_simp
  by_cases h1:a.1=b.1<;>by_cases h2:a.2.1=b.2.1<;>by_cases h3:a.2.2=b.2.2<;>simp[h1,h2,h3,Prod.ext_iff])
 (fun k=>by simp[keD,Instr.sameBits])
theorem zT (w:World):(zeroValue 378).run Tryz.prog w=.ok (.agg #[.int .i64 0,.int .i64 0]) w:=by kernel_rfl
theorem zD (w:World):(zeroValue 26).run Tryz.prog w=.ok (.agg #[.int .i64 0,.int .i64 0,.int .i64 0]) w:=by kernel_rfl
theorem allFramed_app {l l':List Thing} (h:AllFramed l) (h':AllFramed l'):AllFramed (l++l'):=fun S hS=>(List.mem_append.1 hS).elim (h S) (h' S)
theorem frame_le (b:List UInt8) (h:b.length≤65536):(frame b).length≤b.length+14:=by
 rw[frame_len]
 have:=enc_ten (n:=b.length) (by omega)
 omega
structure AgP where
 (a st x d bT bK:Nat) (z:Qs)
def agC (p:AgP) (node reps now tag last:Int):Array Value:=#[.int .i64 node,.int .i64 reps,.pointer (some ⟨p.x,0,none⟩),.pointer (some ⟨p.st,0,none⟩),.int .i64 now,.int .i64 tag,.int .i64 last,.map (some p.bT),.map (some p.bK)]
def agL (p:AgP) (B:Thing) (node reps now tag last:Int) (asks:List (Int×Value)) (tr:List ((Int×Int×Int)×Value)) (n:Int) (bs:List UInt8) (k:Nat):List Thing:=[B,Cell p.a 143 (agC p node reps now tag last),GMap keI p.bK asks,GMap keD p.bT tr,LogAt p.x p.d n bs k]
theorem agL_framed (p:AgP) (B:Thing) (hB:Framed B) (node reps now tag last:Int) (asks:List (Int×Value)) (tr:List ((Int×Int×Int)×Value)) (n:Int) (bs:List UInt8) (k:Nat):AllFramed (agL p B node reps now tag last asks tr n bs k):=((((AllFramed.nil.cons (LogAt.framed _ _ _ _ _)).cons (GMap.framed _ _)).cons (GMap.framed _ _)).cons (Cell.framed _ _ _)).cons hB
theorem _root_.Go.Hop.AllFramed.tail {S:Thing} {l:List Thing} (h:AllFramed (S :: l)):AllFramed l:=fun R hR=>h R (List.mem_cons_of_mem _ hR)
theorem bTake_nil (w:World) (st c:Nat) (A:Option Addr):Calls Tryz.prog 67 #[.pointer (some ⟨st,0,none⟩),.slice A 0 c] w fun e w'=>e=.returned (.tuple #[])∧w=w':=by
 go_enter Tryz.func67,Tryz.ntmps67
 go_wp2_with fail
 go_loopw [8] (fun i wr=>i=.int .i64 0∧w=wr) (fun _ _=>0)
 case atStart=>exact⟨rfl,rfl⟩
 case round=>
  obtain⟨rfl,rfl⟩:=hrel
  go_wp2_with fail
  go_end0
  exact⟨rfl,rfl⟩
structure RpP where
 (r s x d m:Nat)
def rpC (p:RpP) (node nodes commit:Int) (v:Value) (leads:Bool) (own:Int):Array Value:=#[.int .i64 node,.int .i64 nodes,.pointer (some ⟨p.s,0,none⟩),.pointer (some ⟨p.m,0,none⟩),.int .i64 commit,v,.bool leads,.int .i64 own]
def rpL (p:RpP) (node nodes commit:Int) (v:Value) (leads:Bool) (own:Int) (t h:Nat) (es:List En) (n:Int) (bs:List UInt8) (Mt Vt:Thing):List Thing:=[Cell p.r 164 (rpC p node nodes commit v leads own),StateAt p.s p.x p.d t h es n bs,Mt,Vt]
theorem rpL_framed (p:RpP) (node nodes commit:Int) (v:Value) (leads:Bool) (own:Int) (t h:Nat) (es:List En) (n:Int) (bs:List UInt8) (Mt Vt:Thing) (hM:Framed Mt) (hV:Framed Vt):AllFramed (rpL p node nodes commit v leads own t h es n bs Mt Vt):=(((AllFramed.nil.cons hV).cons hM).cons (StateAt.framed _ _ _ _ _ _ _ _)).cons (Cell.framed _ _ _)
def SoloSt (P:Nat→Prop) (S0 S1:Thing) (m1:Nat) (st:List (Nat×Nat)):Stages where
 G:=Just P
 T:=fun _=>Just P
 I := fun k w=>match k with
   | 0=>Solo P S0 w
   | _=>Solo P S1 w
 muts:=[m1]
 stage:=fun j=>if j=m1 then some 0 else st.lookup j
theorem soloSt_ok {P:Nat→Prop} {S0 S1:Thing} {m1:Nat} {st:List (Nat×Nat)} (h0:Framed S0) (h1:Framed S1):(SoloSt P S0 S1 m1 st).Ok:=by
 refine⟨fun _ _ _=>Just.trans,fun _ _ h=>Just.of_grow h,fun _ _ _ h=>h,fun k a b h hg=>?_⟩
 rcases k with _|k
 ·exact Solo.grow h h0 hg
 ·exact Solo.grow h h1 hg
theorem many_emp (w:World):Many [Emp] w (fun _=>False):=⟨fun _=>False,fun _=>False,trivial,trivial,fun _ h=>h,fun _ h=>h,fun _ h _=>h⟩
theorem rpNew_0 (w:World) (d node nodes:Nat) (hnode:node<nodes) (h8:nodes≤8) (V:Nat→Prop) (hD:DiskAt 133 d [] 0 w V) (hV:∀ b,V b→b<w.heap.size) :
 Calls Tryz.prog 30 #[.int .i64 (node:Int),.int .i64 (nodes:Int),.pointer (some ⟨d,0,none⟩)] w fun e w'=>∃ p:RpP,p.d=d∧e=.returned (.pointer (some ⟨p.r,0,none⟩))∧Many (rpL p node nodes 0 (.pointer none) false 0 0 0 [] 0 [] (MachAt p.m [] [] none) Emp) w' (Ext V w w')∧Just V w w':=by
 have hO:=sOpen_new w d V hD hV
 have d1:decide ((nodes:Int)<1)=false:=decide_eq_false (by omega)
 have d2:decide ((8:Int)<(nodes:Int))=false:=decide_eq_false (by omega)
 have d3:decide ((node:Int)<0)=false:=decide_eq_false (by omega)
 have d4:decide ((nodes:Int)≤(node:Int))=false:=decide_eq_false (by omega)
 go_enter Tryz.func30,Tryz.ntmps30
 go_wp2_with fail
 refine hO.mono ?_
 rintro e w1 ⟨s,x,rfl,hS,hj1⟩
 have hww:=hj1.size
 have hlt:∀ b,Ext V w w1 b→b<w1.heap.size:=fun b hb=>by
  rcases hb with hb|hb
  ·have:=hV b hb;omega
  ·exact hb.2
 have hS1:Solo (Lic V w) (Many [StateAt s x d 0 0 [] 0 [],Emp]) w1:=Solo.cons_ (l:=[Emp]) (V:=fun _=>False) (U:=Ext V w w1) (fun b hb => .inr (by omega)) (many_emp w1) (fun b hb=>hb.elim) hS fun b hb=>⟨by
  rcases hb with hb|hb
  ·exact .inl hb
  ·exact .inr hb.1,hlt b hb,fun h=>h⟩
 have hF1:AllFramed [StateAt s x d 0 0 [] 0 [],Emp]:=(AllFramed.nil.cons Emp.framed).cons (StateAt.framed _ _ _ _ _ _ _ _)
 have hN:=maNew_any w1
 go_wp2_with fail
 refine hN.mono ?_
 rintro e w2 ⟨m,rfl,hM,hg2⟩
 have hS2:=hS1.join hF1 hg2 hM (fun b hb=>hb)
 have hF2:=hF1.cons (MachAt.framed m [] [] none)
 have g3:=grow_alloc w2 (.cells (rpC ⟨w2.heap.size,s,x,d,m⟩ node nodes 0 (.pointer none) false 0) 164)
 have hS3:=hS2.join hF2 g3 (R:=Cell w2.heap.size 164 (rpC ⟨w2.heap.size,s,x,d,m⟩ node nodes 0 (.pointer none) false 0)) (U:=fun b=>b=w2.heap.size) ⟨rfl,Blk.made w2 _ _⟩ (fun b hb=>by obtain rfl:b=w2.heap.size:=hb;simp)
 have J3:Just (Lic V w) w (w2.alloc (.cells (rpC ⟨w2.heap.size,s,x,d,m⟩ node nodes 0 (.pointer none) false 0) 164)):=((hj1.imp fun b hb => .inl hb).trans (Just.of_grow hg2)).trans (Just.of_grow g3)
 go_wp2_with fail
 go_ret
 obtain⟨r1,r2⟩:=Solo.done (Solo.perm (List.Perm.cons _ (List.Perm.swap _ _ _)) hS3) J3 hV
 exact⟨⟨w2.heap.size,s,x,d,m⟩,rfl,rfl,r1,r2⟩
theorem rpMachine_any (w:World) (p:RpP) (node nodes commit:Int) (v:Value) (leads:Bool) (own:Int) (hB:Blk w p.r 164 (rpC p node nodes commit v leads own)):Calls Tryz.prog 31 #[.pointer (some ⟨p.r,0,none⟩)] w fun e w'=>e=.returned (.pointer (some ⟨p.m,0,none⟩))∧w=w':=by
 unfold rpC at hB
 have c:=hB.cell 3
 go_enter Tryz.func31,Tryz.ntmps31
 go_wp2_with fail
 go_ret
 exact⟨rfl,rfl⟩
theorem rpLeads_any (w:World) (p:RpP) (node nodes commit:Int) (v:Value) (leads:Bool) (own:Int) (hB:Blk w p.r 164 (rpC p node nodes commit v leads own)):Calls Tryz.prog 110 #[.pointer (some ⟨p.r,0,none⟩)] w fun e w'=>e=.returned (.bool leads)∧w=w':=by
 unfold rpC at hB
 have c:=hB.cell 6
 go_enter Tryz.func110,Tryz.ntmps110
 go_wp2_with fail
 go_ret
 exact⟨rfl,rfl⟩
theorem rpdown_any (w:World) (p:RpP) (node nodes commit:Int) (v:Value) (leads:Bool) (own:Int):Turns Tryz.prog 85 #[.pointer (some ⟨p.r,0,none⟩)] (fun e=>e=.returned (.tuple #[])) (Cell p.r 164 (rpC p node nodes commit v leads own)) (Cell p.r 164 (rpC p node nodes commit (.pointer none) false own)) w:=by
 intro V ⟨hP,hB⟩ hV
 have b2:=(hB.put 6 (.bool false)).put 5 (.pointer none)
 have j2:=just_at (w.setCell ⟨p.r,6,none⟩ (.bool false)) p.r 5 (.pointer none)
 have j1:=just_at w p.r 6 (.bool false)
 have f6:=hB.frozen 6
 have c6:=hB.cell 6
 have f5:=(hB.put 6 (.bool false)).frozen 5
 have c5:=(hB.put 6 (.bool false)).cell 5
 unfold rpC at c5 c6
 go_enter Tryz.func85,Tryz.ntmps85
 go_wp2_with fail
 go_end0
 exact⟨rfl,⟨.inl hP,b2⟩,(j1.trans j2).imp fun b hb=>hb▸hP⟩
end Go.Proofs.YtmijcbfgfkeodaaGreatDoor
end
