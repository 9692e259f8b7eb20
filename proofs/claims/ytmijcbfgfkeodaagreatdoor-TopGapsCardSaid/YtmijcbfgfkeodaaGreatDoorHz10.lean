/- En7, Big, Ml1, Ml2, Crc, Crclaw. -/
import Derived.Test.YtmijcbfgfkeodaaGreatDoorHz09
import Derived.Laws.Rows
import Derived.Deep.MidRow
set_option linter.all false
set_option maxRecDepth 100000
section
namespace Go.Proofs.YtmijcbfgfkeodaaGreatDoor
open Go.RowKit Go.Hop Go.Proofs.YtmijcbfgfkeodaaGreatDoor.V
theorem RdAt.put {r B y:Nat} {l:List UInt8} {w:World} (h:RdAt r B l w) (hy:y≠r) (hB:B≤y) (i:Nat) (u:Value):RdAt r B l (w.setCell ⟨y,i,none⟩ u):=
 h.just (U:=fun b=>b=y) (just_at w y i u) (fun e=>hy e.symm) fun b hb e=>by omega
theorem setCells_just (b:Nat) (vs:List Value) (o:Nat) (w:World):Just (fun x=>x=b) w (w.setCells b o vs):=Just.of_only (setCells_only b vs o w) rfl
set_option maxHeartbeats 2000000 in
theorem Read_w (w:World) (e:En) (A:Option Addr) (n c:Nat) (hok:e.Ok) (hr:e.W) (hb:Bytes w w.heap.size A n (enB e)) (hnc:n≤c) (hcm:c≤maxLen) :
 Calls Tryz.prog 182 #[.slice A n c] w fun en w'=>∃ A' c',en=.returned (.tuple #[.agg (e.agg A' c'),.int .i64 0])∧ElIn w' (New w w') ⟨e,A',c'⟩∧Grow w w':=by
 have hok':=hok
 obtain⟨⟨hfr,htg⟩,_⟩:=id hok
 have hsm:=w_small hr
 obtain⟨k,ag,sh,sq,ep,ds,se,fr,tg⟩:=e
 obtain⟨h1,h2,h3,h4,h5,h6,h7,_⟩:=hr
 simp only at h1 h2 h3 h4 h5 h6 h7 hfr htg hsm
 subst h1 h2
 obtain⟨F,rfl⟩:=Int.eq_ofNat_of_zero_le hfr.1
 obtain⟨G,rfl⟩:=Int.eq_ofNat_of_zero_le htg.1
 obtain⟨AG,rfl⟩:=Int.eq_ofNat_of_zero_le h3.1
 obtain⟨SH,rfl⟩:=Int.eq_ofNat_of_zero_le h4.1
 obtain⟨SQ,rfl⟩:=Int.eq_ofNat_of_zero_le (show 0≤sq by omega)
 obtain⟨EP,rfl⟩:=Int.eq_ofNat_of_zero_le (show 0≤ep by omega)
 have hl:enB ⟨1,(AG:Int),(SH:Int),(SQ:Int),(EP:Int),ds,⟨#[]⟩,(F:Int),(G:Int)⟩=UInt8.ofNat 1 :: (enc F++(enc G++(enc AG++(enc SH++(enc SQ++(enc EP++(enc ds.length++(dsB ds++[])))))))):=by
  unfold enB
  rw[if_neg (show ¬ (1:Int)=2 by decide)]
  simp
 rw[hl] at hb
 clear hl
 have hRt:=fun (w1:World) (V:Nat→Prop) (A:Option Addr) (c:Nat) (hd:DIn w1 V A ds.length ds)=>Right_ok w1 _ V A c hok' hd
 unfold En.agg at hRt ⊢
 dsimp only at hRt ⊢
 clear hok hok'
 have hg0:=grow_alloc w (.cells #[.int .i64 0,.int .i64 0,.int .i64 0,.int .i64 0,.int .i64 0,.slice none 0 0,.string ⟨#[]⟩,.int .i64 0,.int .i64 0] 32)
 have hX:=Blk.made w 32 #[.int .i64 0,.int .i64 0,.int .i64 0,.int .i64 0,.int .i64 0,.slice none 0 0,.string ⟨#[]⟩,.int .i64 0,.int .i64 0]
 obtain⟨x,HX⟩:∃ x:Nat,Hid (x=w.heap.size):=⟨_,rfl⟩
 obtain⟨wa,HA⟩:∃ wa:World,Hid (wa=w.alloc (.cells #[.int .i64 0,.int .i64 0,.int .i64 0,.int .i64 0,.int .i64 0,.slice none 0 0,.string ⟨#[]⟩,.int .i64 0,.int .i64 0] 32)):=⟨_,rfl⟩
 rw[←HA.out] at hX hg0
 rw[←HX.out] at hX
 have hN:=rNew_any wa A n c _ ((Reads.below hb hg0).more hg0.size) hnc hcm
 go_enter Tryz.func182,Tryz.ntmps182
 go_wp2_with fail
 rw[←HA.out,←HX.out]
 refine hN.mono ?_
 rintro e w1 ⟨r,rfl,hR1,hg1⟩
 have hB1:=rByte_any w1 r wa.heap.size _ _ hR1
 rw[show ((UInt8.ofNat 1).toNat:Int)=1 from rfl] at hB1
 have hrx:x<wa.heap.size:=hX.lt
 have hr0:wa.heap.size≤r:=hR1.1
 obtain⟨B,HBB⟩:∃ B,Hid (B=wa.heap.size):=⟨_,rfl⟩
 rw[←HBB.out] at hB1 hrx hr0
 go_wp2_with fail
 refine hB1.mono ?_
 rintro e w2 ⟨rfl,hR2,ho2⟩
 have hX2:Blk w2 x 32 #[.int .i64 0,.int .i64 0,.int .i64 0,.int .i64 0,.int .i64 0,.slice none 0 0,.string ⟨#[]⟩,.int .i64 0,.int .i64 0]:=Only.blk ho2 (hX.grow hg1) (by omega)
 have hY0:=Blk.made w2 32 #[.int .i64 1,.int .i64 0,.int .i64 0,.int .i64 0,.int .i64 0,.slice none 0 0,.string ⟨#[]⟩,.int .i64 0,.int .i64 0]
 have hga:=grow_alloc w2 (.cells #[.int .i64 1,.int .i64 0,.int .i64 0,.int .i64 0,.int .i64 0,.slice none 0 0,.string ⟨#[]⟩,.int .i64 0,.int .i64 0] 32)
 have hrl2:=hR2.lt
 obtain⟨y,HY⟩:∃ y:Nat,Hid (y=w2.heap.size):=⟨_,rfl⟩
 obtain⟨w3,HW3⟩:∃ w3:World,Hid (w3=w2.alloc (.cells #[.int .i64 1,.int .i64 0,.int .i64 0,.int .i64 0,.int .i64 0,.slice none 0 0,.string ⟨#[]⟩,.int .i64 0,.int .i64 0] 32)):=⟨_,rfl⟩
 rw[←HW3.out] at hY0 hga
 rw[←HY.out] at hY0
 have hyr:y≠r:=by have:=HY.out;omega
 have hyx:y≠x:=by have:=HY.out;have:=hX2.lt;omega
 have hBy:B≤y:=by have:=HY.out;omega
 have hR3:=hR2.grow hga
 have hX3:=hX2.grow hga
 have hC4:=rCount_any w3 r B F 8 _ (by omega) (by omega) hR3
 go_wp2_with fail
 rw[←HW3.out,←HY.out]
 refine hC4.mono ?_
 rintro e w4 ⟨rfl,hR4,ho4⟩
 have hY4:Blk w4 y 32 #[.int .i64 1,.int .i64 0,.int .i64 0,.int .i64 0,.int .i64 0,.slice none 0 0,.string ⟨#[]⟩,.int .i64 0,.int .i64 0]:=Only.blk ho4 hY0 hyr
 have hX4:Blk w4 x 32 #[.int .i64 0,.int .i64 0,.int .i64 0,.int .i64 0,.int .i64 0,.slice none 0 0,.string ⟨#[]⟩,.int .i64 0,.int .i64 0]:=Only.blk ho4 hX3 (by omega)
 have hC5:=rInt_any w4 r B G _ (by omega) hR4
 go_wp2_with fail
 refine hC5.mono ?_
 rintro e w5 ⟨rfl,hR5,ho5⟩
 have hY5:Blk w5 y 32 #[.int .i64 1,.int .i64 0,.int .i64 0,.int .i64 0,.int .i64 0,.slice none 0 0,.string ⟨#[]⟩,.int .i64 0,.int .i64 0]:=Only.blk ho5 hY4 hyr
 have hX5:Blk w5 x 32 #[.int .i64 0,.int .i64 0,.int .i64 0,.int .i64 0,.int .i64 0,.slice none 0 0,.string ⟨#[]⟩,.int .i64 0,.int .i64 0]:=Only.blk ho5 hX4 (by omega)
 have hY6:Blk ((w5.setCell ⟨y,7,none⟩ (.int .i64 (F:Int))).setCell ⟨y,8,none⟩ (.int .i64 (G:Int))) y 32 #[.int .i64 1,.int .i64 0,.int .i64 0,.int .i64 0,.int .i64 0,.slice none 0 0,.string ⟨#[]⟩,.int .i64 (F:Int),.int .i64 (G:Int)]:=(hY5.put 7 _).put 8 _
 have hX6:Blk ((w5.setCell ⟨y,7,none⟩ (.int .i64 (F:Int))).setCell ⟨y,8,none⟩ (.int .i64 (G:Int))) x 32 #[.int .i64 0,.int .i64 0,.int .i64 0,.int .i64 0,.int .i64 0,.slice none 0 0,.string ⟨#[]⟩,.int .i64 0,.int .i64 0]:=(hX5.far (p:=⟨y,7,none⟩) hyx.symm _).far (p:=⟨y,8,none⟩) hyx.symm _
 have hR6:=(hR5.put hyr hBy 7 (.int .i64 (F:Int))).put hyr hBy 8 (.int .i64 (G:Int))
 have a0:=hY5.cell 0
 have a1:=hY5.cell 1
 have a2:=hY5.cell 2
 have a3:=hY5.cell 3
 have a4:=hY5.cell 4
 have a5:=hY5.cell 5
 have a6:=hY5.cell 6
 have a7:=hY5.cell 7
 have a8:=hY5.cell 8
 have af7:=hY5.frozen 7
 have af8:=hY5.frozen 8
 have b8:=(hY5.put 7 (.int .i64 (F:Int))).cell 8
 have bf8:=(hY5.put 7 (.int .i64 (F:Int))).frozen 8
 have d0:=hY6.cell 0
 have hC7:=rCount_any _ r B AG 8 _ (by omega) (by omega) hR6
 go_wp2_with fail
 clear a0 a1 a2 a3 a4 a5 a6 a7 a8 af7 af8 b8 bf8 d0
 refine hC7.mono ?_
 rintro e w7 ⟨rfl,hR7,ho7⟩
 have hY7:=Only.blk ho7 hY6 hyr
 have hX7:=Only.blk ho7 hX6 (by omega)
 have hC8:=rCount_any w7 r B SH 4 _ (by omega) (by omega) hR7
 go_wp2_with fail
 refine hC8.mono ?_
 rintro e w8 ⟨rfl,hR8,ho8⟩
 have hY8:=Only.blk ho8 hY7 hyr
 have hX8:=Only.blk ho8 hX7 (by omega)
 have hY9:Blk (((w8.setCell ⟨y,1,none⟩ (.int .i64 (AG:Int))).setCell ⟨y,2,none⟩ (.int .i64 (SH:Int))).setCell ⟨y,3,none⟩ (.int .i64 0)) y 32 #[.int .i64 1,.int .i64 (AG:Int),.int .i64 (SH:Int),.int .i64 0,.int .i64 0,.slice none 0 0,.string ⟨#[]⟩,.int .i64 (F:Int),.int .i64 (G:Int)]:=((hY8.put 1 _).put 2 _).put 3 _
 have hX9:=((hX8.far (p:=⟨y,1,none⟩) hyx.symm (.int .i64 (AG:Int))).far (p:=⟨y,2,none⟩) hyx.symm (.int .i64 (SH:Int))).far (p:=⟨y,3,none⟩) hyx.symm (.int .i64 0)
 have hR9:=((hR8.put hyr hBy 1 (.int .i64 (AG:Int))).put hyr hBy 2 (.int .i64 (SH:Int))).put hyr hBy 3 (.int .i64 0)
 have a0:=hY8.cell 0
 have a1:=hY8.cell 1
 have a2:=hY8.cell 2
 have a3:=hY8.cell 3
 have a4:=hY8.cell 4
 have a5:=hY8.cell 5
 have a6:=hY8.cell 6
 have a7:=hY8.cell 7
 have a8:=hY8.cell 8
 have af1:=hY8.frozen 1
 have af2:=hY8.frozen 2
 have af3:=hY8.frozen 3
 have hCa:=rInt_any _ r B SQ _ (by omega) hR9
 go_wp2_with fail
 clear a0 a1 a2 a3 a4 a5 a6 a7 a8 af1 af2 af3
 refine hCa.mono ?_
 rintro e w10 ⟨rfl,hR10,ho10⟩
 have hY10:=Only.blk ho10 hY9 hyr
 have hX10:=Only.blk ho10 hX9 (by omega)
 have hCb:=rInt_any w10 r B EP _ (by omega) hR10
 go_wp2_with fail
 refine hCb.mono ?_
 rintro e w11 ⟨rfl,hR11,ho11⟩
 have hY11:=Only.blk ho11 hY10 hyr
 have hX11:=Only.blk ho11 hX10 (by omega)
 have hY12:Blk ((w11.setCell ⟨y,3,none⟩ (.int .i64 (SQ:Int))).setCell ⟨y,4,none⟩ (.int .i64 (EP:Int))) y 32 #[.int .i64 1,.int .i64 (AG:Int),.int .i64 (SH:Int),.int .i64 (SQ:Int),.int .i64 (EP:Int),.slice none 0 0,.string ⟨#[]⟩,.int .i64 (F:Int),.int .i64 (G:Int)]:=(hY11.put 3 _).put 4 _
 have hX12:=(hX11.far (p:=⟨y,3,none⟩) hyx.symm (.int .i64 (SQ:Int))).far (p:=⟨y,4,none⟩) hyx.symm (.int .i64 (EP:Int))
 have hR12:=(hR11.put hyr hBy 3 (.int .i64 (SQ:Int))).put hyr hBy 4 (.int .i64 (EP:Int))
 have a3:=hY11.cell 3
 have a4:=hY11.cell 4
 have af3:=hY11.frozen 3
 have af4:=hY11.frozen 4
 have hCc:=rCount_any _ r B ds.length 8 _ (by omega) (by omega) hR12
 go_wp2_with fail
 clear a3 a4 af3 af4
 refine hCc.mono ?_
 rintro e w13 ⟨rfl,hR13,ho13⟩
 have hY13:=Only.blk ho13 hY12 hyr
 have hX13:=Only.blk ho13 hX12 (by omega)
 have hG:=eGet_any w13 r B ds [] hR13 hsm (by omega)
 go_wp2_with fail
 refine hG.mono ?_
 rintro e w14 ⟨A2,c2,rfl,hR14,hd14,hn2,hm2,ho14⟩
 have hY14:=Only.blk ho14 hY13 hyr
 have hX14:=Only.blk ho14 hX13 (by omega)
 have hY15:Blk (w14.setCell ⟨y,5,none⟩ (.slice A2 ds.length c2)) y 32 #[.int .i64 1,.int .i64 (AG:Int),.int .i64 (SH:Int),.int .i64 (SQ:Int),.int .i64 (EP:Int),.slice A2 ds.length c2,.string ⟨#[]⟩,.int .i64 (F:Int),.int .i64 (G:Int)]:=hY14.put 5 _
 have hX15:=hX14.far (p:=⟨y,5,none⟩) hyx.symm (.slice A2 ds.length c2)
 have hR15:=hR14.put hyr hBy 5 (.slice A2 ds.length c2)
 have hd15:DIn (w14.setCell ⟨y,5,none⟩ (.slice A2 ds.length c2)) (New w13 w14) A2 ds.length ds:=In.just hd14 (just_at w14 y 5 _) (fun b hb e=>by have:=hb.1;have:=hY13.lt;omega)
 have hDn:=rDone_any _ r B hR15
 have hRt:=hRt _ _ A2 c2 hd15
 have a5:=hY14.cell 5
 have af5:=hY14.frozen 5
 have b0:=hY15.cell 0
 have b1:=hY15.cell 1
 have b2:=hY15.cell 2
 have b3:=hY15.cell 3
 have b4:=hY15.cell 4
 have b5:=hY15.cell 5
 have b6:=hY15.cell 6
 have b7:=hY15.cell 7
 have b8:=hY15.cell 8
 go_wp2_with fail
 clear a5 af5
 refine hDn.mono ?_
 rintro e w16 ⟨rfl,rfl⟩
 go_wp2_with fail
 refine hRt.mono ?_
 rintro e w17 ⟨rfl,hg17⟩
 have hY17:=hY15.grow hg17
 have hX17:=hX15.grow hg17
 clear b0 b1 b2 b3 b4 b5 b6 b7 b8
 have b0:=hY17.cell 0
 have b1:=hY17.cell 1
 have b2:=hY17.cell 2
 have b3:=hY17.cell 3
 have b4:=hY17.cell 4
 have b5:=hY17.cell 5
 have b6:=hY17.cell 6
 have b7:=hY17.cell 7
 have b8:=hY17.cell 8
 have d0:=hX17.cell 0
 have d1:=hX17.cell 1
 have d2:=hX17.cell 2
 have d3:=hX17.cell 3
 have d4:=hX17.cell 4
 have d5:=hX17.cell 5
 have d6:=hX17.cell 6
 have d7:=hX17.cell 7
 have d8:=hX17.cell 8
 have df0:=hX17.frozen 0
 have df1:=hX17.frozen 1
 have df2:=hX17.frozen 2
 have df3:=hX17.frozen 3
 have df4:=hX17.frozen 4
 have df5:=hX17.frozen 5
 have df6:=hX17.frozen 6
 have df7:=hX17.frozen 7
 have df8:=hX17.frozen 8
 go_wp2_with fail
 change bodyPost _ _ _ _ _ (World.setCells w17 x 0 [.int .i64 1,.int .i64 (AG:Int),.int .i64 (SH:Int),.int .i64 (SQ:Int),.int .i64 (EP:Int),.slice A2 ds.length c2,.string ⟨#[]⟩,.int .i64 (F:Int),.int .i64 (G:Int)])
 have hE:=Blk.all hX17 [.int .i64 1,.int .i64 (AG:Int),.int .i64 (SH:Int),.int .i64 (SQ:Int),.int .i64 (EP:Int),.slice A2 ds.length c2,.string ⟨#[]⟩,.int .i64 (F:Int),.int .i64 (G:Int)] rfl
 have hF:∀ i,(World.setCells w17 x 0 [.int .i64 1,.int .i64 (AG:Int),.int .i64 (SH:Int),.int .i64 (SQ:Int),.int .i64 (EP:Int),.slice A2 ds.length c2,.string ⟨#[]⟩,.int .i64 (F:Int),.int .i64 (G:Int)]).cell? ⟨x,i,none⟩=#[.int .i64 1,.int .i64 (AG:Int),.int .i64 (SH:Int),.int .i64 (SQ:Int),.int .i64 (EP:Int),.slice A2 ds.length c2,.string ⟨#[]⟩,.int .i64 (F:Int),.int .i64 (G:Int)][i]?:=hE.cell
 have e0:=hF 0
 have e1:=hF 1
 have e2:=hF 2
 have e3:=hF 3
 have e4:=hF 4
 have e5:=hF 5
 have e6:=hF 6
 have e7:=hF 7
 have e8:=hF 8
 refine bodyPost_ret (v := .tuple #[.agg #[.int .i64 1,.int .i64 (AG:Int),.int .i64 (SH:Int),.int .i64 (SQ:Int),.int .i64 (EP:Int),.slice A2 ds.length c2,.string ⟨#[]⟩,.int .i64 (F:Int),.int .i64 (G:Int)],.int .i64 0]) (by simp[results,Tryz.results182,go_sem,e0,e1,e2,e3,e4,e5,e6,e7,e8]) rfl ?_
 have hwx:w.heap.size≤x:=by have:=HX.out;omega
 have hwB:w.heap.size≤B:=by have:=hg0.size;have:=HBB.out;omega
 have hr:(fun b=>w.heap.size≤b) r:=by show w.heap.size≤r;omega
 have hy:(fun b=>w.heap.size≤b) y:=by show w.heap.size≤y;omega
 have J1:=(((((((((Just.of_grow (V:=fun b=>w.heap.size≤b) (hg0.trans hg1)).trans (Just.of_only ho2 hr)).trans (Just.of_grow hga)).trans (Just.of_only ho4 hr)).trans (Just.of_only ho5 hr)).put hy 7 _).put hy 8 _).trans (Just.of_only ho7 hr)).trans (Just.of_only ho8 hr))
 have J2:=(((((J1.put hy 1 _).put hy 2 _).put hy 3 _).trans (Just.of_only ho10 hr)).trans (Just.of_only ho11 hr))
 have J3:=((((J2.put hy 3 _).put hy 4 _).trans (Just.of_only ho13 hr)).trans (Just.of_only ho14 hr))
 have J4:=((J3.put hy 5 _).trans (Just.of_grow hg17)).trans (Just.of_only (setCells_only x [.int .i64 1,.int .i64 (AG:Int),.int .i64 (SH:Int),.int .i64 (SQ:Int),.int .i64 (EP:Int),.slice A2 ds.length c2,.string ⟨#[]⟩,.int .i64 (F:Int),.int .i64 (G:Int)] 0 w17) (show w.heap.size≤x from hwx))
 refine⟨A2,c2,rfl,⟨In.mono (V:=New w13 w14) (In.just (In.grow hd15 hg17) (setCells_just x [.int .i64 1,.int .i64 (AG:Int),.int .i64 (SH:Int),.int .i64 (SQ:Int),.int .i64 (EP:Int),.slice A2 ds.length c2,.string ⟨#[]⟩,.int .i64 (F:Int),.int .i64 (G:Int)] 0 w17) fun b hb e=>?_) fun b hb=>⟨?_,?_⟩,hn2,hm2,by show ds.length≤1048576;omega⟩,J4.below (B:=w.heap.size) (fun b hb=>hb) (Nat.le_refl _)⟩
 ·have:=hb.1;have:=hX13.lt;omega
 ·have:=hb.1;have:=hX13.lt;have:=J3.size;have:=ho14.size;have h13:=(((J2.put hy 3 _).put hy 4 _).trans (Just.of_only ho13 hr)).size;omega
 ·have:=hb.2;have:=hg17.size;rw[setCells_size];rw[setCell_size] at this;omega
end Go.Proofs.YtmijcbfgfkeodaaGreatDoor
end
section
namespace Go.Hop
open Go.RowKit
section
variable {P:Program} {ops:Array Oper} {rest:List Oper} {o:Oper} {a:Act} {w:World} {Q:Exit→Act→World→Prop}
theorem wpList_load_blk (hw:Region.wanted o (yielded ops a.tmps)=true) (ty:TypeId) (x:Operand) (ho:o.op=.load ty x) (g:Nat) (hx:a.eval x=.pointer (some ⟨g,0,none⟩)) {t:TypeId} {cs:Array Value} (hB:Blk w g t cs) {fs:Array Field} (hu:P.underlying ty=some (.struct fs)) (hi:(P.info? ty).map (·.size)=some cs.size)
 (h:wpList P ops Q rest (a.put o.dst (.agg cs)) w):wpList P ops Q (o :: rest) a w:=by
 unfold wpList
 rw[if_pos hw]
 exact .inl (wp_load_row ty x ho g hx t cs (0,0) _ hB hu rfl hi h)
theorem wpList_store_blk (hw:Region.wanted o (yielded ops a.tmps)=true) (ty:TypeId) (x y:Operand) (ho:o.op=.store ty x y) (g:Nat) (hx:a.eval x=.pointer (some ⟨g,0,none⟩)) (vs:List Value) (hy:a.eval y=.agg vs.toArray) {t:TypeId} {cs:Array Value} (hB:Blk w g t cs) (hl:vs.length=cs.size) (h1:vs.toArray.all (·.oneCell')=true) (hi:(P.info? ty).map (·.size)=some vs.toArray.size)
 (h:wpList P ops Q rest (a.put o.dst undef) (w.setCells g 0 vs)):wpList P ops Q (o :: rest) a w:=by
 unfold wpList
 rw[if_pos hw]
 refine .inl (wp_store_mid ty x y ho g 0 vs.toArray hx hy ?_ hi h1 (by simpa using h))
 intro j hj
 have hj':j<cs.size:=by simp at hj;omega
 refine⟨?_,?_⟩
 ·rw[hB.cell,Array.getElem?_eq_getElem (by omega)];rfl
 ·exact hB.frozen _
theorem wpList_store_part (hw:Region.wanted o (yielded ops a.tmps)=true) (ty:TypeId) (x y:Operand) (ho:o.op=.store ty x y) (g b:Nat) (hx:a.eval x=.pointer (some ⟨g,b,none⟩)) (vs:List Value) (hy:a.eval y=.agg vs.toArray) {t:TypeId} {cs:Array Value} (hB:Blk w g t cs) (hl:b+vs.length≤cs.size) (h1:vs.toArray.all (·.oneCell')=true) (hi:(P.info? ty).map (·.size)=some vs.toArray.size)
 (h:wpList P ops Q rest (a.put o.dst undef) (w.setCells g b vs)):wpList P ops Q (o :: rest) a w:=by
 unfold wpList
 rw[if_pos hw]
 refine .inl (wp_store_mid ty x y ho g b vs.toArray hx hy ?_ hi h1 (by simpa using h))
 intro j hj
 have hj':b+j<cs.size:=by simp at hj;omega
 refine⟨?_,?_⟩
 ·rw[hB.cell,Array.getElem?_eq_getElem hj'];rfl
 ·exact hB.frozen _
theorem Blk.part {w:World} {g:Nat} {t:TypeId} {cs:Array Value} (h:Blk w g t cs) (b:Nat) (vs:List Value) (hl:b+vs.length≤cs.size):Blk (w.setCells g b vs) g t (cs.toList.take b++vs++cs.toList.drop (b+vs.length)).toArray:=by
 obtain⟨cur,h1,h2,h3⟩:=setCells_heap g t (0,0) vs b w cs h hl
 have h4:cur=(cs.toList.take b++vs++cs.toList.drop (b+vs.length)).toArray:=by
  apply Array.ext'
  rw[h3]
 rw[h4] at h1
 exact h1
theorem just_part (g b:Nat) (vs:List Value) (w:World):Just (fun x=>x=g) w (w.setCells g b vs):=Just.of_only (setCells_only g vs b w) rfl
theorem wpList_fill (hw:Region.wanted o (yielded ops a.tmps)=true) (ty:TypeId) (x y:Operand) (ho:o.op=.store ty x y) (g:Nat) (hx:a.eval x=.pointer (some ⟨g,0,none⟩)) (vs:List Value) (hy:a.eval y=.agg vs.toArray) {t:TypeId} {cs:Array Value} (hB:Blk w g t cs) (hl:vs.length=cs.size) (h1:vs.all (fun v=>v.oneCell')=true) (hi:(P.info? ty).map (·.size)=some vs.toArray.size)
 (h:∀ w',Blk w' g t vs.toArray→Just (fun b=>b=g) w w'→w'.heap.size=w.heap.size→wpList P ops Q rest (a.put o.dst undef) w'):wpList P ops Q (o :: rest) a w:=
 wpList_store_blk hw ty x y ho g hx vs hy hB hl (by simpa using h1) hi (h _ (hB.all vs hl) (Just.of_only (setCells_only g vs 0 w) rfl) (setCells_size g vs 0 w))
theorem wpList_part (hw:Region.wanted o (yielded ops a.tmps)=true) (ty:TypeId) (x y:Operand) (ho:o.op=.store ty x y) (g b:Nat) (hx:a.eval x=.pointer (some ⟨g,b,none⟩)) (vs:List Value) (hy:a.eval y=.agg vs.toArray) {t:TypeId} {cs:Array Value} (hB:Blk w g t cs) (hl:b+vs.length≤cs.size) (h1:vs.all (fun v=>v.oneCell')=true) (hi:(P.info? ty).map (·.size)=some vs.toArray.size) {cs':Array Value} (hc:cs'=(cs.toList.take b++vs++cs.toList.drop (b+vs.length)).toArray)
 (h:∀ w',Blk w' g t cs'→Just (fun b=>b=g) w w'→w'.heap.size=w.heap.size→wpList P ops Q rest (a.put o.dst undef) w'):wpList P ops Q (o :: rest) a w:=
 wpList_store_part hw ty x y ho g b hx vs hy hB hl (by simpa using h1) hi (h _ (hc▸hB.part b vs hl) (just_part g b vs w) (setCells_size g vs b w))
theorem wpList_do (hw:Region.wanted o (yielded ops a.tmps)=true) {v:Value} {w':World} (hrun:(execOp a.eval o).run P w=.ok (.value v) w') (h:wpList P ops Q rest (a.put o.dst v) w'):wpList P ops Q (o :: rest) a w:=by
 unfold wpList
 rw[if_pos hw]
 refine .inl ?_
 unfold Oper.wp
 simp only[hrun]
 exact h
theorem wpList_new (hw:Region.wanted o (yielded ops a.tmps)=true) {t:TypeId} {cs:Array Value} (hrun:(execOp a.eval o).run P w=.ok (.value (.pointer (some ⟨w.heap.size,0,none⟩))) (w.alloc (.cells cs t)))
 (h:∀ g w',Blk w' g t cs→Grow w w'→w.heap.size=g→w'.heap.size=g+1→wpList P ops Q rest (a.put o.dst (.pointer (some ⟨g,0,none⟩))) w'):wpList P ops Q (o :: rest) a w:=
 wpList_do hw hrun (h _ _ (Blk.made w t cs) ((Below.refl _ w).alloc (Nat.le_refl _) _) rfl (by simp))
theorem results_blk {fn:Func} {p:Tmp} {ty:TypeId} (h:fn.results=#[.cell p ty]) (tmps:Array Value) (g:Nat) {t:TypeId} {cs:Array Value} (hp:tmps.getD p undef=.pointer (some ⟨g,0,none⟩)) (hB:Blk w g t cs) {fs:Array Field} (hu:P.underlying ty=some (.struct fs)) (hi:(P.info? ty).map (·.size)=some cs.size) :
 (results fn tmps).run P w=.ok (.agg cs) w:=results_cell_row h tmps w g t cs (0,0) _ hp hB hu rfl hi
theorem results_blk_tmp {fn:Func} {p q:Tmp} {ty:TypeId} (h:fn.results=#[.cell p ty,.tmp q]) (tmps:Array Value) (g:Nat) {t:TypeId} {cs:Array Value} (hp:tmps.getD p undef=.pointer (some ⟨g,0,none⟩)) (hB:Blk w g t cs) {fs:Array Field} (hu:P.underlying ty=some (.struct fs)) (hi:(P.info? ty).map (·.size)=some cs.size) :
 (results fn tmps).run P w=.ok (.tuple #[.agg cs,tmps.getD q undef]) w:=by
 have hp':tmps[p]?.getD undef=.pointer (some ⟨g,0,none⟩):=by simpa using hp
 simp[results,h,hp',asAddr,run_loadVar_row w g t ty cs (0,0) _ hB hu rfl hi]
end
end Go.Hop
end
section
namespace Go.Proofs.YtmijcbfgfkeodaaGreatDoor
open Go.RowKit Go.Hop Go.Proofs.YtmijcbfgfkeodaaGreatDoor.V
def askM (e:En) (A:Option Addr) (c:Nat):Array Value:=#[.int .i64 1,.int .i64 e.k,.int .i64 e.ag,.int .i64 e.sh,.int .i64 e.sq,.int .i64 e.ep,.slice A e.ds.length c,.string e.se,.int .i64 e.fr,.int .i64 e.tg,.int .i64 0,.int .i64 0,.int .u64 0,.int .i64 0,.int .i64 0,.slice none 0 0,.int .i64 0,.int .i64 0]
def ansM (tag code:Int) (n:Nat):Array Value:=#[.int .i64 2,.int .i64 0,.int .i64 0,.int .i64 0,.int .i64 0,.int .i64 0,.slice none 0 0,.string ⟨#[]⟩,.int .i64 0,.int .i64 0,.int .i64 tag,.int .i64 code,.int .u64 (n:Int),.int .i64 0,.int .i64 0,.slice none 0 0,.int .i64 0,.int .i64 0]
theorem run_alcM (w:World) (ρ:Operand→Value) (o:Oper) (ho:o.op=.alloc 73):(execOp ρ o).run Tryz.prog w=.ok (.value (.pointer (some ⟨w.heap.size,0,none⟩))) (w.alloc (.cells #[.int .i64 0,.int .i64 0,.int .i64 0,.int .i64 0,.int .i64 0,.int .i64 0,.slice none 0 0,.string ⟨#[]⟩,.int .i64 0,.int .i64 0,.int .i64 0,.int .i64 0,.int .u64 0,.int .i64 0,.int .i64 0,.slice none 0 0,.int .i64 0,.int .i64 0] 73)):=by
 obtain⟨dst,op,ty,pos,after,guard⟩:=o
 simp only at ho
 subst ho
 go_simp
theorem EqualD_nil (w:World):Calls Tryz.prog 325 #[.slice none 0 0,.slice none 0 0] w fun e w'=>e=.returned (.bool true)∧Grow w w':=by
 go_enter Tryz.func325,Tryz.ntmps325
 go_wp2_with fail
 go_loopw [13] (fun i wr=>i=.int .i64 0∧Grow w wr) (fun _ _=>0)
 case atStart=>exact⟨rfl,Grow.refl _⟩
 case round=>
  obtain⟨rfl,hg⟩:=hrel
  go_wp2_with fail
  go_ret
  exact⟨rfl,hg⟩
theorem EqualFunc_nil (w:World):Calls Tryz.prog 326 #[.slice none 0 0,.slice none 0 0,.func (.func 289) #[] #[]] w fun e w'=>e=.returned (.bool true)∧Grow w w':=by
 go_enter Tryz.func326,Tryz.ntmps326
 go_wp2_with fail
 go_loopw [17] (fun i wr=>i=.int .i64 0∧Grow w wr) (fun _ _=>0)
 case atStart=>exact⟨rfl,Grow.refl _⟩
 case round=>
  obtain⟨rfl,hg⟩:=hrel
  go_wp2_with fail
  go_ret
  exact⟨rfl,hg⟩
theorem Rows_nil (w:World):Calls Tryz.prog 290 #[.slice none 0 0,.slice none 0 0] w fun e w'=>e=.returned (.bool true)∧Grow w w':=by
 have hE:=EqualFunc_nil w
 go_enter Tryz.func290,Tryz.ntmps290
 go_wp2_with fail
 refine hE.mono ?_
 rintro e w1 ⟨rfl,hg⟩
 go_wp2_with fail
 go_ret
 exact⟨rfl,hg⟩
theorem Same_zero (w:World):Calls Tryz.prog 289 #[.agg #[.int .i64 0,.int .i64 0,.int .i64 0,.int .i64 0,.int .i64 0,.slice none 0 0,.string ⟨#[]⟩,.int .i64 0,.int .i64 0],.agg #[.int .i64 0,.int .i64 0,.int .i64 0,.int .i64 0,.int .i64 0,.slice none 0 0,.string ⟨#[]⟩,.int .i64 0,.int .i64 0]] w fun e w'=>e=.returned (.bool true)∧Grow w w':=by
 have hE:=EqualD_nil
 have hga:=(grow_alloc w (.cells #[.int .i64 0,.int .i64 0,.int .i64 0,.int .i64 0,.int .i64 0,.slice none 0 0,.string ⟨#[]⟩,.int .i64 0,.int .i64 0] 32)).trans (grow_alloc _ (.cells #[.int .i64 0,.int .i64 0,.int .i64 0,.int .i64 0,.int .i64 0,.slice none 0 0,.string ⟨#[]⟩,.int .i64 0,.int .i64 0] 32))
 have hx:=Blk.made w 32 #[.int .i64 0,.int .i64 0,.int .i64 0,.int .i64 0,.int .i64 0,.slice none 0 0,.string ⟨#[]⟩,.int .i64 0,.int .i64 0]
 have hy:=Blk.made (w.alloc (.cells #[.int .i64 0,.int .i64 0,.int .i64 0,.int .i64 0,.int .i64 0,.slice none 0 0,.string ⟨#[]⟩,.int .i64 0,.int .i64 0] 32)) 32 #[.int .i64 0,.int .i64 0,.int .i64 0,.int .i64 0,.int .i64 0,.slice none 0 0,.string ⟨#[]⟩,.int .i64 0,.int .i64 0]
 have hx:=hx.alloc (.cells #[.int .i64 0,.int .i64 0,.int .i64 0,.int .i64 0,.int .i64 0,.slice none 0 0,.string ⟨#[]⟩,.int .i64 0,.int .i64 0] 32)
 rw[alloc_size] at hy
 go_enter Tryz.func289,Tryz.ntmps289
 go_wp2_with fail
 refine (hE _).mono ?_
 rintro e w1 ⟨rfl,hg⟩
 have hx1:=hx.grow hg
 have hy1:=hy.grow hg
 have a0:=hx1.cell 0
 have a1:=hx1.cell 1
 have a2:=hx1.cell 2
 have a3:=hx1.cell 3
 have a4:=hx1.cell 4
 have a5:=hx1.cell 5
 have a6:=hx1.cell 6
 have a7:=hx1.cell 7
 have a8:=hx1.cell 8
 have b0:=hy1.cell 0
 have b1:=hy1.cell 1
 have b2:=hy1.cell 2
 have b3:=hy1.cell 3
 have b4:=hy1.cell 4
 have b5:=hy1.cell 5
 have b6:=hy1.cell 6
 have b7:=hy1.cell 7
 have b8:=hy1.cell 8
 go_wp2_with fail
 go_ret
 exact⟨rfl,hga.trans hg⟩
theorem mSame_zero (w:World):Calls Tryz.prog 230 #[.agg #[.int .i64 0,.int .i64 0,.int .i64 0,.int .i64 0,.int .i64 0,.int .i64 0,.slice none 0 0,.string ⟨#[]⟩,.int .i64 0,.int .i64 0,.int .i64 0,.int .i64 0,.int .u64 0,.int .i64 0,.int .i64 0,.slice none 0 0,.int .i64 0,.int .i64 0],.agg #[.int .i64 0,.int .i64 0,.int .i64 0,.int .i64 0,.int .i64 0,.int .i64 0,.slice none 0 0,.string ⟨#[]⟩,.int .i64 0,.int .i64 0,.int .i64 0,.int .i64 0,.int .u64 0,.int .i64 0,.int .i64 0,.slice none 0 0,.int .i64 0,.int .i64 0]] w fun e w'=>e=.returned (.bool true)∧Grow w w':=by
 have hga:=(grow_alloc w (.cells #[.int .i64 0,.int .i64 0,.int .i64 0,.int .i64 0,.int .i64 0,.int .i64 0,.slice none 0 0,.string ⟨#[]⟩,.int .i64 0,.int .i64 0,.int .i64 0,.int .i64 0,.int .u64 0,.int .i64 0,.int .i64 0,.slice none 0 0,.int .i64 0,.int .i64 0] 73)).trans (grow_alloc _ (.cells #[.int .i64 0,.int .i64 0,.int .i64 0,.int .i64 0,.int .i64 0,.int .i64 0,.slice none 0 0,.string ⟨#[]⟩,.int .i64 0,.int .i64 0,.int .i64 0,.int .i64 0,.int .u64 0,.int .i64 0,.int .i64 0,.slice none 0 0,.int .i64 0,.int .i64 0] 73))
 have hx:=(Blk.made w 73 #[.int .i64 0,.int .i64 0,.int .i64 0,.int .i64 0,.int .i64 0,.int .i64 0,.slice none 0 0,.string ⟨#[]⟩,.int .i64 0,.int .i64 0,.int .i64 0,.int .i64 0,.int .u64 0,.int .i64 0,.int .i64 0,.slice none 0 0,.int .i64 0,.int .i64 0]).alloc (.cells #[.int .i64 0,.int .i64 0,.int .i64 0,.int .i64 0,.int .i64 0,.int .i64 0,.slice none 0 0,.string ⟨#[]⟩,.int .i64 0,.int .i64 0,.int .i64 0,.int .i64 0,.int .u64 0,.int .i64 0,.int .i64 0,.slice none 0 0,.int .i64 0,.int .i64 0] 73)
 have hy:=Blk.made (w.alloc (.cells #[.int .i64 0,.int .i64 0,.int .i64 0,.int .i64 0,.int .i64 0,.int .i64 0,.slice none 0 0,.string ⟨#[]⟩,.int .i64 0,.int .i64 0,.int .i64 0,.int .i64 0,.int .u64 0,.int .i64 0,.int .i64 0,.slice none 0 0,.int .i64 0,.int .i64 0] 73)) 73 #[.int .i64 0,.int .i64 0,.int .i64 0,.int .i64 0,.int .i64 0,.int .i64 0,.slice none 0 0,.string ⟨#[]⟩,.int .i64 0,.int .i64 0,.int .i64 0,.int .i64 0,.int .u64 0,.int .i64 0,.int .i64 0,.slice none 0 0,.int .i64 0,.int .i64 0]
 rw[alloc_size] at hy
 go_enter Tryz.func230,Tryz.ntmps230
 go_wp2_with fail
 refine (Same_zero _).mono ?_
 rintro e w1 ⟨rfl,hg⟩
 have hx1:=hx.grow hg
 have hy1:=hy.grow hg
 have a0:=hx1.cell 0
 have a1:=hx1.cell 1
 have a2:=hx1.cell 2
 have a3:=hx1.cell 3
 have a4:=hx1.cell 4
 have a5:=hx1.cell 5
 have a6:=hx1.cell 6
 have a7:=hx1.cell 7
 have a8:=hx1.cell 8
 have a9:=hx1.cell 9
 have a10:=hx1.cell 10
 have a11:=hx1.cell 11
 have a12:=hx1.cell 12
 have a13:=hx1.cell 13
 have a14:=hx1.cell 14
 have a15:=hx1.cell 15
 have a16:=hx1.cell 16
 have a17:=hx1.cell 17
 have b0:=hy1.cell 0
 have b1:=hy1.cell 1
 have b2:=hy1.cell 2
 have b3:=hy1.cell 3
 have b4:=hy1.cell 4
 have b5:=hy1.cell 5
 have b6:=hy1.cell 6
 have b7:=hy1.cell 7
 have b8:=hy1.cell 8
 have b9:=hy1.cell 9
 have b10:=hy1.cell 10
 have b11:=hy1.cell 11
 have b12:=hy1.cell 12
 have b13:=hy1.cell 13
 have b14:=hy1.cell 14
 have b15:=hy1.cell 15
 have b16:=hy1.cell 16
 have b17:=hy1.cell 17
 go_wp2_with fail
 refine (Rows_nil _).mono ?_
 rintro e w2 ⟨rfl,hg2⟩
 have hx2:=hx1.grow hg2
 have hy2:=hy1.grow hg2
 clear a0 b0 a1 b1 a2 b2 a3 b3 a4 b4 a5 b5 a6 b6 a7 b7 a8 b8 a9 b9 a10 b10 a11 b11 a12 b12 a13 b13 a14 b14 a15 b15 a16 b16 a17 b17
 have a0:=hx2.cell 0
 have a1:=hx2.cell 1
 have a2:=hx2.cell 2
 have a3:=hx2.cell 3
 have a4:=hx2.cell 4
 have a5:=hx2.cell 5
 have a6:=hx2.cell 6
 have a7:=hx2.cell 7
 have a8:=hx2.cell 8
 have a9:=hx2.cell 9
 have a10:=hx2.cell 10
 have a11:=hx2.cell 11
 have a12:=hx2.cell 12
 have a13:=hx2.cell 13
 have a14:=hx2.cell 14
 have a15:=hx2.cell 15
 have a16:=hx2.cell 16
 have a17:=hx2.cell 17
 have b0:=hy2.cell 0
 have b1:=hy2.cell 1
 have b2:=hy2.cell 2
 have b3:=hy2.cell 3
 have b4:=hy2.cell 4
 have b5:=hy2.cell 5
 have b6:=hy2.cell 6
 have b7:=hy2.cell 7
 have b8:=hy2.cell 8
 have b9:=hy2.cell 9
 have b10:=hy2.cell 10
 have b11:=hy2.cell 11
 have b12:=hy2.cell 12
 have b13:=hy2.cell 13
 have b14:=hy2.cell 14
 have b15:=hy2.cell 15
 have b16:=hy2.cell 16
 have b17:=hy2.cell 17
 go_wp2_with fail
 go_ret
 exact⟨rfl,hga.trans (hg.trans hg2)⟩
theorem zero_ask (w:World) (e:En) (A:Option Addr) (c:Nat):Calls Tryz.prog 174 #[.agg (askM e A c)] w fun en w'=>en=.returned (.bool true)∧Grow w w':=by
 unfold askM
 obtain⟨k,ag,sh,sq,ep,ds,se,fr,tg⟩:=e
 dsimp only
 go_enter Tryz.func174,Tryz.ntmps174
 go_wp2_with (refine wpList_load_blk rfl 73 _ rfl _ rfl (Blk.made w 73 _) Tryz.underlying73 (by kernel_rfl) ?_)
 refine (mSame_zero _).mono ?_
 rintro e w1 ⟨rfl,hg⟩
 go_wp2_with fail
 go_ret
 exact⟨rfl,Below.trans (grow_alloc w _) (hg.mono (by rw[alloc_size];omega))⟩
theorem zero_ans (w:World) (tag code:Int) (n:Nat):Calls Tryz.prog 174 #[.agg (ansM tag code n)] w fun en w'=>en=.returned (.bool true)∧Grow w w':=by
 unfold ansM
 go_enter Tryz.func174,Tryz.ntmps174
 go_wp2_with (refine wpList_load_blk rfl 73 _ rfl _ rfl (Blk.made w 73 _) Tryz.underlying73 (by kernel_rfl) ?_)
 refine (mSame_zero _).mono ?_
 rintro e w1 ⟨rfl,hg⟩
 go_wp2_with fail
 go_ret
 exact⟨rfl,Below.trans (grow_alloc w _) (hg.mono (by rw[alloc_size];omega))⟩
theorem mRight_ask (w:World) (e:En) (V:Nat→Prop) (A:Option Addr) (c:Nat) (hok:e.Ok) (hd:DIn w V A e.ds.length e.ds):Calls Tryz.prog 92 #[.agg (askM e A c)] w fun en w'=>en=.returned (.int .i64 0)∧Grow w w':=by
 have hR:=fun (w1:World) (hg:Grow w w1)=>Right_ok w1 e V A c hok (In.grow hd hg)
 have hZ:=fun (w1:World)=>zero_ask w1 e A c
 unfold askM at hZ ⊢
 obtain⟨k,ag,sh,sq,ep,ds,se,fr,tg⟩:=e
 unfold En.agg at hR
 dsimp only at hZ hR ⊢
 have hX:=Blk.made w 73 #[.int .i64 1,.int .i64 k,.int .i64 ag,.int .i64 sh,.int .i64 sq,.int .i64 ep,.slice A ds.length c,.string se,.int .i64 fr,.int .i64 tg,.int .i64 0,.int .i64 0,.int .u64 0,.int .i64 0,.int .i64 0,.slice none 0 0,.int .i64 0,.int .i64 0]
 obtain⟨x,HX⟩:∃ x:Nat,Hid (x=w.heap.size):=⟨_,rfl⟩
 go_enter Tryz.func92,Tryz.ntmps92
 go_wp2_with (refine wpList_load_blk rfl 73 _ rfl _ rfl (hX) Tryz.underlying73 (by kernel_rfl) ?_)
 refine (hZ _).mono ?_
 rintro e w1 ⟨rfl,hg⟩
 have hX1:=hX.grow hg
 have hga:=(grow_alloc w _).trans hg
 rw[←HX.out] at hX1 ⊢
 have c0:=hX1.cell 0
 have c1:=hX1.cell 1
 have c2:=hX1.cell 2
 have c3:=hX1.cell 3
 have c4:=hX1.cell 4
 have c5:=hX1.cell 5
 have c6:=hX1.cell 6
 have c7:=hX1.cell 7
 have c8:=hX1.cell 8
 have c9:=hX1.cell 9
 have c10:=hX1.cell 10
 have c11:=hX1.cell 11
 have c12:=hX1.cell 12
 have c13:=hX1.cell 13
 have c14:=hX1.cell 14
 have c15:=hX1.cell 15
 have c16:=hX1.cell 16
 have c17:=hX1.cell 17
 have hR:=hR w1 hga
 clear hX hZ hok hd
 go_wp2_with fail
 refine hR.mono ?_
 rintro e w2 ⟨rfl,hg2⟩
 go_wp2_with fail
 go_ret
 exact⟨rfl,hga.trans hg2⟩
theorem mRight_ans (w:World) (tag code:Int) (n:Nat) (ht:0≤tag) (hc:0≤code∧code≤255):Calls Tryz.prog 92 #[.agg (ansM tag code n)] w fun en w'=>en=.returned (.int .i64 0)∧Grow w w':=by
 have hZ:=fun (w1:World)=>zero_ans w1 tag code n
 unfold ansM at hZ ⊢
 have hX:=Blk.made w 73 #[.int .i64 2,.int .i64 0,.int .i64 0,.int .i64 0,.int .i64 0,.int .i64 0,.slice none 0 0,.string ⟨#[]⟩,.int .i64 0,.int .i64 0,.int .i64 tag,.int .i64 code,.int .u64 (n:Int),.int .i64 0,.int .i64 0,.slice none 0 0,.int .i64 0,.int .i64 0]
 obtain⟨x,HX⟩:∃ x:Nat,Hid (x=w.heap.size):=⟨_,rfl⟩
 have d1:decide (tag<0)=false:=decide_eq_false (by omega)
 have d2:decide (code<0)=false:=decide_eq_false (by omega)
 have d3:decide (255<code)=false:=decide_eq_false (by omega)
 go_enter Tryz.func92,Tryz.ntmps92
 go_wp2_with (refine wpList_load_blk rfl 73 _ rfl _ rfl (hX) Tryz.underlying73 (by kernel_rfl) ?_)
 refine (hZ _).mono ?_
 rintro e w1 ⟨rfl,hg⟩
 have hX1:=hX.grow hg
 have hga:=(grow_alloc w _).trans hg
 rw[←HX.out] at hX1 ⊢
 have c0:=hX1.cell 0
 have c1:=hX1.cell 1
 have c2:=hX1.cell 2
 have c3:=hX1.cell 3
 have c4:=hX1.cell 4
 have c5:=hX1.cell 5
 have c6:=hX1.cell 6
 have c7:=hX1.cell 7
 have c8:=hX1.cell 8
 have c9:=hX1.cell 9
 have c10:=hX1.cell 10
 have c11:=hX1.cell 11
 have c12:=hX1.cell 12
 have c13:=hX1.cell 13
 have c14:=hX1.cell 14
 have c15:=hX1.cell 15
 have c16:=hX1.cell 16
 have c17:=hX1.cell 17
 clear hX hZ
 go_wp2_with fail
 go_loopw [79] (fun i wr=>i=.int .i64 0∧Grow w1 wr) (fun _ _=>0)
 case atStart=>exact⟨rfl,Grow.refl _⟩
 case round=>
  obtain⟨rfl,hgr⟩:=hrel
  go_wp2_with fail
  go_ret
  exact⟨rfl,hga.trans hgr⟩
end Go.Proofs.YtmijcbfgfkeodaaGreatDoor
end
section
namespace Go.Proofs.YtmijcbfgfkeodaaGreatDoor.V
open Go.RowKit Go.Hop
def poly:BitVec 32:=0xedb88320#32
def stepT (c:BitVec 32):BitVec 32:=(c >>> 1) ^^^ (if c.getLsbD 0 then poly else 0#32)
def stepN:Nat→BitVec 32→BitVec 32
 | 0,c=>c
 | n+1,c=>stepT (stepN n c)
def next (c:BitVec 32) (b:UInt8):BitVec 32:=stepN 8 (c ^^^ b.toBitVec.setWidth 32)
theorem xor32 (a b:BitVec 32):bits .xor .u32 (a.toNat:Int) (b.toNat:Int)=((a ^^^ b).toNat:Int):=by
 have ha:=a.isLt;have hb:=b.isLt;have hx:=(a ^^^ b).isLt
 show IntKind.u32.wrap ((BitVec.ofInt 32 (a.toNat:Int) ^^^ BitVec.ofInt 32 (b.toNat:Int)).toNat:Int)=_
 rw[BitVec.ofInt_natCast,BitVec.ofInt_natCast,BitVec.ofNat_toNat,BitVec.ofNat_toNat,BitVec.setWidth_eq,BitVec.setWidth_eq,IntKind.wrap_u32']
 omega
theorem and32 (a b:BitVec 32):bits .and .u32 (a.toNat:Int) (b.toNat:Int)=((a &&& b).toNat:Int):=by
 have ha:=a.isLt;have hb:=b.isLt;have hx:=(a &&& b).isLt
 show IntKind.u32.wrap ((BitVec.ofInt 32 (a.toNat:Int) &&& BitVec.ofInt 32 (b.toNat:Int)).toNat:Int)=_
 rw[BitVec.ofInt_natCast,BitVec.ofInt_natCast,BitVec.ofNat_toNat,BitVec.ofNat_toNat,BitVec.setWidth_eq,BitVec.setWidth_eq,IntKind.wrap_u32']
 omega
theorem low32 (x:BitVec 32):bits .and .u32 (x.toNat:Int) 1=if x.getLsbD 0 then 1 else 0:=by
 have h:=and32 x 1#32
 have e:((1#32).toNat:Int)=1:=by decide
 rw[e] at h;rw[h]
 have:(x &&& 1#32)=if x.getLsbD 0 then 1#32 else 0#32:=by
  ext i hi
  by_cases h0:i=0
  ·subst h0;cases h:x[0]<;>simp[h]
  ·have h1:(1#32)[i]=false:=by simp[BitVec.getElem_one,h0]
   simp only[BitVec.getElem_and,h1,Bool.and_false]
   split<;>simp[h0]
 rw[this];split<;>rfl
theorem step32 (x:BitVec 32):bits .xor .u32 (↑x.toNat / 2) (3988292384*bits .and .u32 ↑x.toNat 1 % 4294967296)=((stepT x).toNat:Int):=by
 rw[low32]
 have e:((x.toNat:Int) / (2:Int))=((x >>> 1).toNat:Int):=by
  rw[BitVec.toNat_ushiftRight,Nat.shiftRight_eq_div_pow];omega
 rw[e]
 unfold stepT
 split
 ·exact xor32 (x >>> 1) poly
 ·exact xor32 (x >>> 1) 0#32
set_option maxHeartbeats 400000 in
theorem next_any (c:BitVec 32) (b:UInt8) (w:World) :
 Calls Tryz.prog 292 #[.int .u32 c.toNat,.int .u8 b.toNat] w fun e w'=>e=.returned (.int .u32 (next c b).toNat)∧w=w':=by
 have hb:(b.toNat:Int) % 4294967296=((b.toBitVec.setWidth 32).toNat:Int):=by
  have:=b.toNat_lt
  simp only[BitVec.toNat_setWidth,UInt8.toNat_toBitVec]
  omega
 have hx:=xor32 c (b.toBitVec.setWidth 32)
 rw[←hb] at hx
 have HX:=Lib.hid hx
 clear hb hx
 go_enter Tryz.func292,Tryz.ntmps292
 go_wp2
 go_loop [0,5,10] (fun v _ i=>∃ k:Nat,k≤8∧i=.int .i64 k∧v=.int .u32 (stepN k (c ^^^ b.toBitVec.setWidth 32)).toNat) (fun _ _ i=>8-(intOf i).toNat)
 case atStart=>exact⟨0,by omega,rfl,by rw[HX.out];rfl⟩
 case round=>
  obtain⟨k,hk,rfl,rfl⟩:=hrel
  by_cases h:k<8
  ·have hs0:stepN (k+1) (c ^^^ b.toBitVec.setWidth 32)=stepT (stepN k (c ^^^ b.toBitVec.setWidth 32)):=rfl
   have hs:=Lib.hid hs0
   clear hs0
   generalize stepN k (c ^^^ b.toBitVec.setWidth 32)=x at hs
   go_wp2
   go_round
   case rel=>exact⟨k+1,by omega,by go_num,by rw[step32,hs.out]⟩
   case measure=>simp[intOf];omega
  ·obtain rfl:k=8:=by omega
   go_wp2
   go_ret
   exact⟨rfl,rfl⟩
def run (c:BitVec 32) (l:List UInt8):BitVec 32:=l.foldl next c
theorem run_take (c:BitVec 32) (l:List UInt8) (k:Nat) (h:k<l.length):run c (l.take (k+1))=next (run c (l.take k)) l[k]:=by
 unfold run;rw[List.take_succ_eq_append_getElem h,List.foldl_append];rfl
set_option maxHeartbeats 400000 in
theorem on_any (c:BitVec 32) (A:Option Addr) (n cap:Nat) (l:List UInt8) (w:World) (B:Nat) (h:Bytes w B A n l) (hn:n≤maxLen) :
 Calls Tryz.prog 234 #[.int .u32 c.toNat,.slice A n cap] w fun e w'=>e=.returned (.int .u32 (run c l).toNat)∧w=w':=by
 unfold maxLen at hn
 have hlen:=h.len
 go_enter Tryz.func234,Tryz.ntmps234
 go_wp2
 go_loop [0,6,9] (fun v _ i=>∃ k:Nat,k≤n∧i=.int .i64 k∧v=.int .u32 (run c (l.take k)).toNat) (fun _ _ i=>n-(intOf i).toNat)
 case atStart=>exact⟨0,by omega,rfl,rfl⟩
 case round=>
  obtain⟨k,hk,rfl,rfl⟩:=hrel
  by_cases hlt:k<n
  ·obtain⟨ad,hl,rfl,hc⟩:=h.at_ hlt
   have hs:=Lib.hid (run_take c l k hl)
   go_wp2_with (go_at_call 292;refine (next_any _ _ _).mono ?_;rintro e w' ⟨rfl,rfl⟩)
   go_round
   case rel=>exact⟨k+1,by omega,by go_num,by rw[hs.out]⟩
   case measure=>simp[intOf];omega
  ·obtain rfl:k=n:=by omega
   go_wp2
   go_ret
   exact⟨ret_int (by rw[List.take_of_length_le (by omega)]),rfl⟩
theorem not32 (a:BitVec 32):bits .xor .u32 4294967295 (a.toNat:Int)=((~~~a).toNat:Int):=by
 have h:=xor32 (BitVec.allOnes 32) a
 rw[BitVec.allOnes_xor] at h
 exact h
def ones:BitVec 32:=BitVec.allOnes 32
theorem ones_nat:(4294967295:Int)=(ones.toNat:Int):=by decide
def crc (l:List UInt8):BitVec 32 := ~~~(run ones l)
set_option maxHeartbeats 400000 in
theorem of_any (A:Option Addr) (n cap:Nat) (l:List UInt8) (w:World) (B:Nat) (h:Bytes w B A n l) (hn:n≤maxLen) :
 Calls Tryz.prog 181 #[.slice A n cap] w fun e w'=>e=.returned (.int .u32 (crc l).toNat)∧w=w':=by
 have hc:=on_any ones A n cap l w B h hn
 rw[←ones_nat] at hc
 have HC:=Lib.hid hc
 clear hc
 go_enter Tryz.func181,Tryz.ntmps181
 go_wp2_with (go_at_call 234;refine (HC.out).mono ?_;rintro e w' ⟨rfl,rfl⟩)
 go_ret
 exact⟨ret_int (not32 _),rfl⟩
end Go.Proofs.YtmijcbfgfkeodaaGreatDoor.V
end
