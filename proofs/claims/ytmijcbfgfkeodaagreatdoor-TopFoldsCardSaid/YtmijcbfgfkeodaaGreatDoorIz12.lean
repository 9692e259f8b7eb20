/- En6, En7, Big, Ml1, Ml2, Crc, Crclaw. -/
import Derived.Test.YtmijcbfgfkeodaaGreatDoorIz11
import Derived.Laws.Rows
import Derived.Deep.MidRow
set_option linter.all false
set_option maxRecDepth 100000
set_option maxHeartbeats 2000000
open Go.Value renaming int → ae,slice → ai
open Go.IntKind renaming i64 → af,u64 → ah
open Go.Proofs.Tryz renaming prog → au
open Nat renaming le_refl → aC,le_trans → aH,min_eq_left → bF
open List renaming take_succ_eq_append_getElem → aI,length_take → aK,append_assoc → aM,take_of_length_le → aN,getElem_mem → aO,drop_of_length_le → bD
open Int renaming eq_ofNat_of_zero_le → aW
section
namespace Go.Proofs.YtmijcbfgfkeodaaGreatDoor
open Go.RowKit Go.Hop V
theorem Hm (w:World) (r B:Nat) (s:ByteArray) (t:List UInt8) (hs:s.size<18446744073709551616) (h:fB r B (enc s.size++s.data.toList++t) w) :
 Calls au 183 #[((r:Nat):Value)] w fun e w'=>e=.returned (.string s)∧fB r B t w'∧Only r w w':=by
 have:=qT w r B s.data.toList t hs h
 rwa [Array.toArray_toList] at this
theorem C9 (d:Dl) (l:List Dl):lX (d :: l)=dB d++lX l:=rfl
theorem qV {r:Nat} {w w':World} (h:Only r w w'):Just (fun b=>b=r) w w':=Just.dj h rfl
theorem fB.just {r B:Nat} {l:List UInt8} {w w':World} {U:Nat→Prop} (h:fB r B l w) (hj:Just U w w') (hr:¬ U r) (hB:∀ b,b<B→¬ U b):fB r B l w':=by
 obtain⟨h1,A,n,c,h2,h3,h4⟩:=h
 have:=h2.lt
 exact⟨h1,A,n,c,hj.blk h2 hr,Reads.keep h3 fun p hp=>World.cell?_of_block (hj.block p.block al (hB _ hp)),h4⟩
theorem Ca (w:World) (r B:Nat) (ds:List Dl) (t:List UInt8) (h:fB r B (lX ds++t) w) (hs:∀ d∈ds,Small d) (hn:ds.length≤1048576) :
 Calls au 216 #[((r:Nat):Value),ae af (ds.length:Int)] w fun e w'=>∃ A c,e=.returned (.slice A ds.length c)∧fB r B t w'∧fV w' (New w w') A ds.length ds∧ds.length≤c∧c≤maxLen∧Only r w w':=by
 have hrw:=h.lt
 have hB0:B≤r:=h.1
 obtain⟨n,HN⟩:∃ n,Hid (n=ds.length):=⟨_,rfl⟩
 have hdl:ds.length=n:=HN.out.symm
 rw[←HN.out] at hn ⊢
 go_enter Tryz.func216,Tryz.ntmps216
 go_wp2_with fail
 go_loopw [5,8] (fun v i wr=>∃ k:Nat,k≤n∧i=ae af (k:Int)∧lN 29 2 oH (fun _ _ _=>True) w.heap.size v (ds.take k) wr∧fB r B (lX (ds.drop k)++t) wr∧Only r w wr) (fun _ i _=>n-(intOf i).toNat)
 case atStart=>exact⟨0,by omega,rfl,lN.nil (aC _),h,Only.refl r w⟩
 case round=>
  obtain⟨k,hkn,rfl,hA,hR,ho⟩:=hrel
  obtain⟨A1,c1,hsl⟩:=hA.slice
  rw[aK,bF al] at hsl
  subst hsl
  by_cases hk:k<n
  ·have hkd:k<ds.length:=by omega
   have hsn:ds.take (k+1)=ds.take k++[ds[k]]:=aI hkd
   have hdn:ds.drop k=ds[k] :: ds.drop (k+1):=List.drop_eq_getElem_cons hkd
   have hsm:=hs _ (aO hkd)
   rw[hdn,C9] at hR
   have HS:=Lib.hid hsn
   clear hsn hdn
   generalize ds[k]=y at hR hsm HS
   obtain⟨s,x⟩:=y
   dsimp only[Small] at hsm
   have hR':fB r B (enc s.size++s.data.toList++(enc x++(lX (ds.drop (k+1))++t))) wr:=by simpa only[dB,aM] using hR
   have hT:=Hm wr r B s _ al hR'
   have hdk:decide ((k:Int)<(n:Int))=true:=decide_eq_true al
   go_wp2_with fail
   refine hT.mono ?_
   rintro e w1 ⟨rfl,nJ,ho1⟩
   have hN:=kE w1 r B x _ hsm.2 nJ
   have hA1:=hA.just nh (qV ho1) (fun b hb => .inl al)
   go_wp2_with fail
   refine hN.mono ?_
   rintro e w2 ⟨rfl,hR2,ho2⟩
   have hA2:=hA1.just nh (qV ho2) (fun b hb => .inl al)
   go_wp2_with (at_builtin;refine stay ?_)
   refine bV ?_
   refine tK (b:=(s,x)) vn kU (fun a u hu=>lA [a] u (by simpa [eE] using hu)) aj (.tmp 12) (.tmp 17) aj hA2 (by rw[aK];omega) aj aj ?_
   intro v2 w3 hA3 hj3
   have ho3:Only r w w2:=Only.trans (Only.trans ho ho1) ho2
   have hs3:=ho3.size
   have hrl:=hR2.lt
   have zc:Only r w w3:=⟨hj3.os.trans ho3.os,hj3.tape.trans ho3.tape,hj3.output.trans ho3.output,aH hs3 hj3.size,fun b hb hne=>(hj3.block b al al).trans (ho3.block b hb hne)⟩
   have qQ:=hR2.just hj3 al (fun b hb=>by omega)
   go_wp2_with fail
   go_roundw
   case rel=>exact⟨k+1,by omega,by go_num,by rw[HS.out];exact hA3,qQ,zc⟩
   case measure=>simp[intOf];omega
  ·obtain rfl:k=n:=by omega
   have hdk:decide ((k:Int)<(k:Int))=false:=decide_eq_false al
   have hD:=hA.done qU
   rw[aN al] at hD
   rw[bD al] at hR
   obtain⟨A3,c3,e3,h3,h4,h5,h6⟩:=hD
   rw[hdl] at e3 h3 h5
   injection e3 with e3 e4 e5
   subst e3 e5
   go_wp2_with fail
   go_ret
   exact⟨A1,c1,rfl,hR,h3,h5,h6,ho⟩
theorem fB.put {r B y:Nat} {l:List UInt8} {w:World} (h:fB r B l w) (hy:y≠r) (hB:B≤y) (i:Nat) (u:Value):fB r B l (w.setCell ⟨y,i,none⟩ u):=
 h.just (U:=fun b=>b=y) (fh w y i u) (fun e=>hy e.symm) fun b hb e=>by omega
theorem p_ (b:Nat) (vs:List Value) (o:Nat) (w:World):Just (fun x=>x=b) w (w.setCells b o vs):=Just.dj (dD b vs o w) rfl
theorem Hn (w:World) (e:En) (A:Option Addr) (n c:Nat) (hok:e.Ok) (hr:e.W) (hb:Bytes w w.heap.size A n (lY e)) (hnc:n≤c) (hcm:c≤maxLen) :
 Calls au 182 #[.slice A n c] w fun en w'=>∃ A' c',en=.returned (.tuple #[.agg (e.agg A' c'),ae af 0])∧fY w' (New w w') ⟨e,A',c'⟩∧Grow w w':=by
 have hok':=hok
 obtain⟨⟨hfr,Bb⟩,_⟩:=id hok
 have hsm:=s5 hr
 obtain⟨k,ag,sh,sq,ep,ds,se,fr,tg⟩:=e
 obtain⟨h1,h2,h3,h4,h5,h6,h7,_⟩:=hr
 simp only at h1 h2 h3 h4 h5 h6 h7 hfr Bb hsm
 subst h1 h2
 obtain⟨F,rfl⟩:=aW hfr.1
 obtain⟨G,rfl⟩:=aW Bb.1
 obtain⟨AG,rfl⟩:=aW h3.1
 obtain⟨SH,rfl⟩:=aW h4.1
 obtain⟨SQ,rfl⟩:=aW (show 0≤sq by omega)
 obtain⟨EP,rfl⟩:=aW (show 0≤ep by omega)
 have hl:lY ⟨1,(AG:Int),(SH:Int),(SQ:Int),(EP:Int),ds,⟨#[]⟩,(F:Int),(G:Int)⟩=UInt8.ofNat 1 :: (enc F++(enc G++(enc AG++(enc SH++(enc SQ++(enc EP++(enc ds.length++(lX ds++[])))))))):=by
  unfold lY
  rw[if_neg (show ¬ (1:Int)=2 by decide)]
  simp
 rw[hl] at hb
 clear hl
 have gN:=fun (w1:World) (V:Nat→Prop) (A:Option Addr) (c:Nat) (hd:fV w1 V A ds.length ds)=>f8 w1 _ V A c hok' hd
 unfold En.agg at gN ⊢
 dsimp only at gN ⊢
 clear hok hok'
 have hg0:=bN w (.cells #[ae af 0,ae af 0,ae af 0,ae af 0,ae af 0,ai none 0 0,.string ⟨#[]⟩,ae af 0,ae af 0] 32)
 have hX:=ct.made w 32 #[ae af 0,ae af 0,ae af 0,ae af 0,ae af 0,ai none 0 0,.string ⟨#[]⟩,ae af 0,ae af 0]
 obtain⟨x,HX⟩:∃ x:Nat,Hid (x=w.heap.size):=⟨_,rfl⟩
 obtain⟨wa,HA⟩:∃ wa:World,Hid (wa=w.alloc (.cells #[ae af 0,ae af 0,ae af 0,ae af 0,ae af 0,ai none 0 0,.string ⟨#[]⟩,ae af 0,ae af 0] 32)):=⟨_,rfl⟩
 rw[←HA.out] at hX hg0
 rw[←HX.out] at hX
 have hN:=pd wa A n c _ ((Reads.below hb hg0).more hg0.size) hnc hcm
 go_enter Tryz.func182,Tryz.ntmps182
 go_wp2_with fail
 rw[←HA.out,←HX.out]
 refine hN.mono ?_
 rintro e w1 ⟨r,rfl,nJ,hg1⟩
 have hB1:=ng w1 r wa.heap.size _ _ nJ
 rw[show ((UInt8.ofNat 1).toNat:Int)=1 from rfl] at hB1
 have hrx:x<wa.heap.size:=hX.lt
 have hr0:wa.heap.size≤r:=nJ.1
 obtain⟨B,P1⟩:∃ B,Hid (B=wa.heap.size):=⟨_,rfl⟩
 rw[←P1.out] at hB1 hrx hr0
 go_wp2_with fail
 refine hB1.mono ?_
 rintro e w2 ⟨rfl,hR2,ho2⟩
 have hX2:ct w2 x 32 #[ae af 0,ae af 0,ae af 0,ae af 0,ae af 0,ai none 0 0,.string ⟨#[]⟩,ae af 0,ae af 0]:=Only.blk ho2 (hX.grow hg1) al
 have hY0:=ct.made w2 32 #[ae af 1,ae af 0,ae af 0,ae af 0,ae af 0,ai none 0 0,.string ⟨#[]⟩,ae af 0,ae af 0]
 have hga:=bN w2 (.cells #[ae af 1,ae af 0,ae af 0,ae af 0,ae af 0,ai none 0 0,.string ⟨#[]⟩,ae af 0,ae af 0] 32)
 have hrl2:=hR2.lt
 obtain⟨y,HY⟩:∃ y:Nat,Hid (y=w2.heap.size):=⟨_,rfl⟩
 obtain⟨w3,HW3⟩:∃ w3:World,Hid (w3=w2.alloc (.cells #[ae af 1,ae af 0,ae af 0,ae af 0,ae af 0,ai none 0 0,.string ⟨#[]⟩,ae af 0,ae af 0] 32)):=⟨_,rfl⟩
 rw[←HW3.out] at hY0 hga
 rw[←HY.out] at hY0
 have nL:y≠r:=by have:=HY.out;omega
 have hyx:y≠x:=by have:=HY.out;have:=hX2.lt;omega
 have du:B≤y:=by have:=HY.out;omega
 have qQ:=hR2.grow hga
 have qW:=hX2.grow hga
 have Mu:=iD w3 r B F 8 _ al al qQ
 go_wp2_with fail
 rw[←HW3.out,←HY.out]
 refine Mu.mono ?_
 rintro e w4 ⟨rfl,vU,zc⟩
 have qX:ct w4 y 32 #[ae af 1,ae af 0,ae af 0,ae af 0,ae af 0,ai none 0 0,.string ⟨#[]⟩,ae af 0,ae af 0]:=Only.blk zc hY0 nL
 have vV:ct w4 x 32 #[ae af 0,ae af 0,ae af 0,ae af 0,ae af 0,ai none 0 0,.string ⟨#[]⟩,ae af 0,ae af 0]:=Only.blk zc qW al
 have Qu:=kF w4 r B G _ al vU
 go_wp2_with fail
 refine Qu.mono ?_
 rintro e w5 ⟨rfl,xZ,Mv⟩
 have kX:ct w5 y 32 #[ae af 1,ae af 0,ae af 0,ae af 0,ae af 0,ai none 0 0,.string ⟨#[]⟩,ae af 0,ae af 0]:=Only.blk Mv qX nL
 have zd:ct w5 x 32 #[ae af 0,ae af 0,ae af 0,ae af 0,ae af 0,ai none 0 0,.string ⟨#[]⟩,ae af 0,ae af 0]:=Only.blk Mv vV al
 have pT:ct ((w5.setCell ⟨y,7,none⟩ (ae af (F:Int))).setCell ⟨y,8,none⟩ (ae af (G:Int))) y 32 #[ae af 1,ae af 0,ae af 0,ae af 0,ae af 0,ai none 0 0,.string ⟨#[]⟩,ae af (F:Int),ae af (G:Int)]:=(kX.put 7 _).put 8 _
 have Mw:ct ((w5.setCell ⟨y,7,none⟩ (ae af (F:Int))).setCell ⟨y,8,none⟩ (ae af (G:Int))) x 32 #[ae af 0,ae af 0,ae af 0,ae af 0,ae af 0,ai none 0 0,.string ⟨#[]⟩,ae af 0,ae af 0]:=(zd.far (p:=⟨y,7,none⟩) hyx.symm _).far (p:=⟨y,8,none⟩) hyx.symm _
 have JG:=(xZ.put nL du 7 (ae af (F:Int))).put nL du 8 (ae af (G:Int))
 have a0:=kX.cell 0
 have a1:=kX.cell 1
 have a2:=kX.cell 2
 have a3:=kX.cell 3
 have a4:=kX.cell 4
 have a5:=kX.cell 5
 have a6:=kX.cell 6
 have a7:=kX.cell 7
 have a8:=kX.cell 8
 have Qv:=kX.frozen 7
 have Qw:=kX.frozen 8
 have b8:=(kX.put 7 (ae af (F:Int))).cell 8
 have Qx:=(kX.put 7 (ae af (F:Int))).frozen 8
 have d0:=pT.cell 0
 have Qy:=iD _ r B AG 8 _ al al JG
 go_wp2_with fail
 clear a0 a1 a2 a3 a4 a5 a6 a7 a8 Qv Qw b8 Qx d0
 refine Qy.mono ?_
 rintro e w7 ⟨rfl,Qz,Mx⟩
 have Cb:=Only.blk Mx pT nL
 have Ki:=Only.blk Mx Mw al
 have QA:=iD w7 r B SH 4 _ al al Qz
 go_wp2_with fail
 refine QA.mono ?_
 rintro e w8 ⟨rfl,QB,My⟩
 have zf:=Only.blk My Cb nL
 have Kj:=Only.blk My Ki al
 have QC:ct (((w8.setCell ⟨y,1,none⟩ (ae af (AG:Int))).setCell ⟨y,2,none⟩ (ae af (SH:Int))).setCell ⟨y,3,none⟩ (ae af 0)) y 32 #[ae af 1,ae af (AG:Int),ae af (SH:Int),ae af 0,ae af 0,ai none 0 0,.string ⟨#[]⟩,ae af (F:Int),ae af (G:Int)]:=((zf.put 1 _).put 2 _).put 3 _
 have QD:=((Kj.far (p:=⟨y,1,none⟩) hyx.symm (ae af (AG:Int))).far (p:=⟨y,2,none⟩) hyx.symm (ae af (SH:Int))).far (p:=⟨y,3,none⟩) hyx.symm (ae af 0)
 have Mz:=((QB.put nL du 1 (ae af (AG:Int))).put nL du 2 (ae af (SH:Int))).put nL du 3 (ae af 0)
 have a0:=zf.cell 0
 have a1:=zf.cell 1
 have a2:=zf.cell 2
 have a3:=zf.cell 3
 have a4:=zf.cell 4
 have a5:=zf.cell 5
 have a6:=zf.cell 6
 have a7:=zf.cell 7
 have a8:=zf.cell 8
 have af1:=zf.frozen 1
 have MA:=zf.frozen 2
 have MB:=zf.frozen 3
 have QE:=kF _ r B SQ _ al Mz
 go_wp2_with fail
 clear a0 a1 a2 a3 a4 a5 a6 a7 a8 af1 MA MB
 refine QE.mono ?_
 rintro e Cc ⟨rfl,s6,Ho⟩
 have MC:=Only.blk Ho QC nL
 have MD:=Only.blk Ho QD al
 have QF:=kF Cc r B EP _ al s6
 go_wp2_with fail
 refine QF.mono ?_
 rintro e JH ⟨rfl,Hp,Hq⟩
 have Cd:=Only.blk Hq MC nL
 have ME:=Only.blk Hq MD al
 have MF:ct ((JH.setCell ⟨y,3,none⟩ (ae af (SQ:Int))).setCell ⟨y,4,none⟩ (ae af (EP:Int))) y 32 #[ae af 1,ae af (AG:Int),ae af (SH:Int),ae af (SQ:Int),ae af (EP:Int),ai none 0 0,.string ⟨#[]⟩,ae af (F:Int),ae af (G:Int)]:=(Cd.put 3 _).put 4 _
 have F3:=(ME.far (p:=⟨y,3,none⟩) hyx.symm (ae af (SQ:Int))).far (p:=⟨y,4,none⟩) hyx.symm (ae af (EP:Int))
 have MG:=(Hp.put nL du 3 (ae af (SQ:Int))).put nL du 4 (ae af (EP:Int))
 have a3:=Cd.cell 3
 have a4:=Cd.cell 4
 have MB:=Cd.frozen 3
 have QG:=Cd.frozen 4
 have QH:=iD _ r B ds.length 8 _ al al MG
 go_wp2_with fail
 clear a3 a4 MB QG
 refine QH.mono ?_
 rintro e MH ⟨rfl,MI,F4⟩
 have Kk:=Only.blk F4 MF nL
 have Hr:=Only.blk F4 F3 al
 have hG:=Ca MH r B ds [] MI hsm al
 go_wp2_with fail
 refine hG.mono ?_
 rintro e Kl ⟨A2,c2,rfl,MJ,MK,hn2,hm2,F5⟩
 have Hs:=Only.blk F5 Kk nL
 have ML:=Only.blk F5 Hr al
 have q7:ct (Kl.setCell ⟨y,5,none⟩ (.slice A2 ds.length c2)) y 32 #[ae af 1,ae af (AG:Int),ae af (SH:Int),ae af (SQ:Int),ae af (EP:Int),.slice A2 ds.length c2,.string ⟨#[]⟩,ae af (F:Int),ae af (G:Int)]:=Hs.put 5 _
 have MM:=ML.far (p:=⟨y,5,none⟩) hyx.symm (.slice A2 ds.length c2)
 have MN:=MJ.put nL du 5 (.slice A2 ds.length c2)
 have Km:fV (Kl.setCell ⟨y,5,none⟩ (.slice A2 ds.length c2)) (New MH Kl) A2 ds.length ds:=In.just MK (fh Kl y 5 _) (fun b hb e=>by have:=hb.1;have:=Kk.lt;omega)
 have hDn:=nd _ r B MN
 have gN:=gN _ _ A2 c2 Km
 have a5:=Hs.cell 5
 have QI:=Hs.frozen 5
 have b0:=q7.cell 0
 have b1:=q7.cell 1
 have b2:=q7.cell 2
 have b3:=q7.cell 3
 have b4:=q7.cell 4
 have b5:=q7.cell 5
 have b6:=q7.cell 6
 have b7:=q7.cell 7
 have b8:=q7.cell 8
 go_wp2_with fail
 clear a5 QI
 refine hDn.mono ?_
 rintro e w16 ⟨rfl,rfl⟩
 go_wp2_with fail
 refine gN.mono ?_
 rintro e LU ⟨rfl,vW⟩
 have s8:=q7.grow vW
 have jN:=MM.grow vW
 clear b0 b1 b2 b3 b4 b5 b6 b7 b8
 have b0:=s8.cell 0
 have b1:=s8.cell 1
 have b2:=s8.cell 2
 have b3:=s8.cell 3
 have b4:=s8.cell 4
 have b5:=s8.cell 5
 have b6:=s8.cell 6
 have b7:=s8.cell 7
 have b8:=s8.cell 8
 have d0:=jN.cell 0
 have d1:=jN.cell 1
 have d2:=jN.cell 2
 have d3:=jN.cell 3
 have d4:=jN.cell 4
 have d5:=jN.cell 5
 have d6:=jN.cell 6
 have d7:=jN.cell 7
 have d8:=jN.cell 8
 have df0:=jN.frozen 0
 have df1:=jN.frozen 1
 have df2:=jN.frozen 2
 have df3:=jN.frozen 3
 have df4:=jN.frozen 4
 have df5:=jN.frozen 5
 have df6:=jN.frozen 6
 have df7:=jN.frozen 7
 have df8:=jN.frozen 8
 go_wp2_with fail
 change bodyPost _ _ _ _ _ (World.setCells LU x 0 [ae af 1,ae af (AG:Int),ae af (SH:Int),ae af (SQ:Int),ae af (EP:Int),.slice A2 ds.length c2,.string ⟨#[]⟩,ae af (F:Int),ae af (G:Int)])
 have hE:=ct.all jN [ae af 1,ae af (AG:Int),ae af (SH:Int),ae af (SQ:Int),ae af (EP:Int),.slice A2 ds.length c2,.string ⟨#[]⟩,ae af (F:Int),ae af (G:Int)] rfl
 have hF:∀ i,(World.setCells LU x 0 [ae af 1,ae af (AG:Int),ae af (SH:Int),ae af (SQ:Int),ae af (EP:Int),.slice A2 ds.length c2,.string ⟨#[]⟩,ae af (F:Int),ae af (G:Int)]).cell? ⟨x,i,none⟩=#[ae af 1,ae af (AG:Int),ae af (SH:Int),ae af (SQ:Int),ae af (EP:Int),.slice A2 ds.length c2,.string ⟨#[]⟩,ae af (F:Int),ae af (G:Int)][i]?:=hE.cell
 have e0:=hF 0
 have e1:=hF 1
 have e2:=hF 2
 have e3:=hF 3
 have e4:=hF 4
 have e5:=hF 5
 have e6:=hF 6
 have e7:=hF 7
 have e8:=hF 8
 refine bodyPost_ret (v := .tuple #[.agg #[ae af 1,ae af (AG:Int),ae af (SH:Int),ae af (SQ:Int),ae af (EP:Int),.slice A2 ds.length c2,.string ⟨#[]⟩,ae af (F:Int),ae af (G:Int)],ae af 0]) (by simp[results,Tryz.results182,go_sem,e0,e1,e2,e3,e4,e5,e6,e7,e8]) rfl ?_
 have hwx:w.heap.size≤x:=by have:=HX.out;omega
 have hwB:w.heap.size≤B:=by have:=hg0.size;have:=P1.out;omega
 have hr:(fun b=>w.heap.size≤b) r:=by show w.heap.size≤r;omega
 have hy:(fun b=>w.heap.size≤b) y:=by show w.heap.size≤y;omega
 have J1:=(((((((((Just.bJ (V:=fun b=>w.heap.size≤b) (hg0.trans hg1)).trans (Just.dj ho2 hr)).trans (Just.bJ hga)).trans (Just.dj zc hr)).trans (Just.dj Mv hr)).put hy 7 _).put hy 8 _).trans (Just.dj Mx hr)).trans (Just.dj My hr))
 have J2:=(((((J1.put hy 1 _).put hy 2 _).put hy 3 _).trans (Just.dj Ho hr)).trans (Just.dj Hq hr))
 have J3:=((((J2.put hy 3 _).put hy 4 _).trans (Just.dj F4 hr)).trans (Just.dj F5 hr))
 have J4:=((J3.put hy 5 _).trans (Just.bJ vW)).trans (Just.dj (dD x [ae af 1,ae af (AG:Int),ae af (SH:Int),ae af (SQ:Int),ae af (EP:Int),.slice A2 ds.length c2,.string ⟨#[]⟩,ae af (F:Int),ae af (G:Int)] 0 LU) (show w.heap.size≤x from hwx))
 refine⟨A2,c2,rfl,⟨In.mono (V:=New MH Kl) (In.just (In.grow Km vW) (p_ x [ae af 1,ae af (AG:Int),ae af (SH:Int),ae af (SQ:Int),ae af (EP:Int),.slice A2 ds.length c2,.string ⟨#[]⟩,ae af (F:Int),ae af (G:Int)] 0 LU) fun b hb e=>?_) fun b hb=>⟨?_,?_⟩,hn2,hm2,by show ds.length≤1048576;omega⟩,J4.below (B:=w.heap.size) (fun b hb=>hb) (aC _)⟩
 ·have:=hb.1;have:=Hr.lt;omega
 ·have:=hb.1;have:=Hr.lt;have:=J3.size;have:=F5.size;have h13:=(((J2.put hy 3 _).put hy 4 _).trans (Just.dj F4 hr)).size;omega
 ·have:=hb.2;have:=vW.size;rw[setCells_size];rw[dw] at this;omega
end Go.Proofs.YtmijcbfgfkeodaaGreatDoor
end
section
namespace Go.Hop
open Go.RowKit
section
variable {P:Program} {ops:Array Oper} {rest:List Oper} {o:Oper} {a:Act} {w:World} {Q:Exit→Act→World→Prop}
theorem bY (hw:Region.wanted o (yielded ops a.tmps)=true) (ty:TypeId) (x:Operand) (ho:o.op=.load ty x) (g:Nat) (hx:a.eval x=((g:Nat):Value)) {t:TypeId} {cs:Array Value} (hB:ct w g t cs) {fs:Array Field} (hu:P.underlying ty=some (.struct fs)) (hi:(P.info? ty).map (·.size)=some cs.size)
 (h:wpList P ops Q rest (a.put o.dst (.agg cs)) w):wpList P ops Q (o :: rest) a w:=by
 unfold wpList
 rw[if_pos hw]
 exact .inl (wp_load_row ty x ho g hx t cs (0,0) _ hB hu rfl hi h)
theorem nj (hw:Region.wanted o (yielded ops a.tmps)=true) (ty:TypeId) (x y:Operand) (ho:o.op=.store ty x y) (g:Nat) (hx:a.eval x=((g:Nat):Value)) (vs:List Value) (hy:a.eval y=.agg vs.toArray) {t:TypeId} {cs:Array Value} (hB:ct w g t cs) (hl:vs.length=cs.size) (h1:vs.toArray.all (·.oneCell')=true) (hi:(P.info? ty).map (·.size)=some vs.toArray.size)
 (h:wpList P ops Q rest (a.put o.dst undef) (w.setCells g 0 vs)):wpList P ops Q (o :: rest) a w:=by
 unfold wpList
 rw[if_pos hw]
 refine .inl (wp_store_mid ty x y ho g 0 vs.toArray hx hy ?_ hi h1 (by simpa using h))
 intro j hj
 have hj':j<cs.size:=by simp at hj;omega
 refine⟨?_,?_⟩
 ·rw[hB.cell,Array.getElem?_eq_getElem al];rfl
 ·exact hB.frozen _
theorem ml (hw:Region.wanted o (yielded ops a.tmps)=true) (ty:TypeId) (x y:Operand) (ho:o.op=.store ty x y) (g b:Nat) (hx:a.eval x=.pointer (some ⟨g,b,none⟩)) (vs:List Value) (hy:a.eval y=.agg vs.toArray) {t:TypeId} {cs:Array Value} (hB:ct w g t cs) (hl:b+vs.length≤cs.size) (h1:vs.toArray.all (·.oneCell')=true) (hi:(P.info? ty).map (·.size)=some vs.toArray.size)
 (h:wpList P ops Q rest (a.put o.dst undef) (w.setCells g b vs)):wpList P ops Q (o :: rest) a w:=by
 unfold wpList
 rw[if_pos hw]
 refine .inl (wp_store_mid ty x y ho g b vs.toArray hx hy ?_ hi h1 (by simpa using h))
 intro j hj
 have hj':b+j<cs.size:=by simp at hj;omega
 refine⟨?_,?_⟩
 ·rw[hB.cell,Array.getElem?_eq_getElem hj'];rfl
 ·exact hB.frozen _
theorem ct.part {w:World} {g:Nat} {t:TypeId} {cs:Array Value} (h:ct w g t cs) (b:Nat) (vs:List Value) (hl:b+vs.length≤cs.size):ct (w.setCells g b vs) g t (cs.toList.take b++vs++cs.toList.drop (b+vs.length)).toArray:=by
 obtain⟨cur,h1,h2,h3⟩:=eV g t (0,0) vs b w cs h hl
 have h4:cur=(cs.toList.take b++vs++cs.toList.drop (b+vs.length)).toArray:=by
  apply Array.ext'
  rw[h3]
 rw[h4] at h1
 exact h1
theorem kY (g b:Nat) (vs:List Value) (w:World):Just (fun x=>x=g) w (w.setCells g b vs):=Just.dj (dD g vs b w) rfl
theorem ch (hw:Region.wanted o (yielded ops a.tmps)=true) (ty:TypeId) (x y:Operand) (ho:o.op=.store ty x y) (g:Nat) (hx:a.eval x=((g:Nat):Value)) (vs:List Value) (hy:a.eval y=.agg vs.toArray) {t:TypeId} {cs:Array Value} (hB:ct w g t cs) (hl:vs.length=cs.size) (h1:vs.all (fun v=>v.oneCell')=true) (hi:(P.info? ty).map (·.size)=some vs.toArray.size)
 (h:∀ w',ct w' g t vs.toArray→Just (fun b=>b=g) w w'→w'.heap.size=w.heap.size→wpList P ops Q rest (a.put o.dst undef) w'):wpList P ops Q (o :: rest) a w:=
 nj hw ty x y ho g hx vs hy hB hl (by simpa using h1) hi (h _ (hB.all vs hl) (Just.dj (dD g vs 0 w) rfl) (setCells_size g vs 0 w))
theorem kH (hw:Region.wanted o (yielded ops a.tmps)=true) (ty:TypeId) (x y:Operand) (ho:o.op=.store ty x y) (g b:Nat) (hx:a.eval x=.pointer (some ⟨g,b,none⟩)) (vs:List Value) (hy:a.eval y=.agg vs.toArray) {t:TypeId} {cs:Array Value} (hB:ct w g t cs) (hl:b+vs.length≤cs.size) (h1:vs.all (fun v=>v.oneCell')=true) (hi:(P.info? ty).map (·.size)=some vs.toArray.size) {cs':Array Value} (hc:cs'=(cs.toList.take b++vs++cs.toList.drop (b+vs.length)).toArray)
 (h:∀ w',ct w' g t cs'→Just (fun b=>b=g) w w'→w'.heap.size=w.heap.size→wpList P ops Q rest (a.put o.dst undef) w'):wpList P ops Q (o :: rest) a w:=
 ml hw ty x y ho g b hx vs hy hB hl (by simpa using h1) hi (h _ (hc▸hB.part b vs hl) (kY g b vs w) (setCells_size g vs b w))
theorem zg (hw:Region.wanted o (yielded ops a.tmps)=true) {v:Value} {w':World} (hrun:(execOp a.eval o).run P w=.ok (.value v) w') (h:wpList P ops Q rest (a.put o.dst v) w'):wpList P ops Q (o :: rest) a w:=by
 unfold wpList
 rw[if_pos hw]
 refine .inl ?_
 unfold Oper.wp
 simp only[hrun]
 exact h
theorem cK (hw:Region.wanted o (yielded ops a.tmps)=true) {t:TypeId} {cs:Array Value} (hrun:(execOp a.eval o).run P w=.ok (.value (.pointer (some ⟨w.heap.size,0,none⟩))) (w.alloc (.cells cs t)))
 (h:∀ g w',ct w' g t cs→Grow w w'→w.heap.size=g→w'.heap.size=g+1→wpList P ops Q rest (a.put o.dst (((g:Nat):Value))) w'):wpList P ops Q (o :: rest) a w:=
 zg hw hrun (h _ _ (ct.made w t cs) ((Below.refl _ w).alloc (aC _) _) rfl (by simp))
theorem dr {fn:Func} {p:Tmp} {ty:TypeId} (h:fn.results=#[.cell p ty]) (tmps:Array Value) (g:Nat) {t:TypeId} {cs:Array Value} (hp:tmps.getD p undef=((g:Nat):Value)) (hB:ct w g t cs) {fs:Array Field} (hu:P.underlying ty=some (.struct fs)) (hi:(P.info? ty).map (·.size)=some cs.size) :
 (results fn tmps).run P w=.ok (.agg cs) w:=results_cell_row h tmps w g t cs (0,0) _ hp hB hu rfl hi
theorem ft {fn:Func} {p q:Tmp} {ty:TypeId} (h:fn.results=#[.cell p ty,.tmp q]) (tmps:Array Value) (g:Nat) {t:TypeId} {cs:Array Value} (hp:tmps.getD p undef=((g:Nat):Value)) (hB:ct w g t cs) {fs:Array Field} (hu:P.underlying ty=some (.struct fs)) (hi:(P.info? ty).map (·.size)=some cs.size) :
 (results fn tmps).run P w=.ok (.tuple #[.agg cs,tmps.getD q undef]) w:=by
 have hp':tmps[p]?.getD undef=((g:Nat):Value):=by simpa using hp
 simp[results,h,hp',asAddr,run_loadVar_row w g t ty cs (0,0) _ hB hu rfl hi]
end
end Go.Hop
end
section
namespace Go.Proofs.YtmijcbfgfkeodaaGreatDoor
open Go.RowKit Go.Hop V
def i5 (e:En) (A:Option Addr) (c:Nat):Array Value:=#[ae af 1,ae af e.k,ae af e.ag,ae af e.sh,ae af e.sq,ae af e.ep,.slice A e.ds.length c,.string e.se,ae af e.fr,ae af e.tg,ae af 0,ae af 0,ae ah 0,ae af 0,ae af 0,ai none 0 0,ae af 0,ae af 0]
def eW (tag code:Int) (n:Nat):Array Value:=#[ae af 2,ae af 0,ae af 0,ae af 0,ae af 0,ae af 0,ai none 0 0,.string ⟨#[]⟩,ae af 0,ae af 0,ae af tag,ae af code,ae ah (n:Int),ae af 0,ae af 0,ai none 0 0,ae af 0,ae af 0]
theorem fQ (w:World) (ρ:Operand→Value) (o:Oper) (ho:o.op=.alloc 73):(execOp ρ o).run au w=.ok (.value (.pointer (some ⟨w.heap.size,0,none⟩))) (w.alloc (.cells #[ae af 0,ae af 0,ae af 0,ae af 0,ae af 0,ae af 0,ai none 0 0,.string ⟨#[]⟩,ae af 0,ae af 0,ae af 0,ae af 0,ae ah 0,ae af 0,ae af 0,ai none 0 0,ae af 0,ae af 0] 73)):=by
 obtain⟨dst,op,ty,pos,after,guard⟩:=o
 simp only at ho
 subst ho
 go_simp
theorem vX (w:World):Calls au 325 #[ai none 0 0,ai none 0 0] w fun e w'=>e=.returned (.bool true)∧Grow w w':=by
 go_enter Tryz.func325,Tryz.ntmps325
 go_wp2_with fail
 go_loopw [13] (fun i wr=>i=ae af 0∧Grow w wr) (fun _ _=>0)
 case atStart=>exact⟨rfl,Grow.refl _⟩
 case round=>
  obtain⟨rfl,hg⟩:=hrel
  go_wp2_with fail
  go_ret
  exact⟨rfl,hg⟩
theorem q8 (w:World):Calls au 326 #[ai none 0 0,ai none 0 0,.func (.func 289) #[] #[]] w fun e w'=>e=.returned (.bool true)∧Grow w w':=by
 go_enter Tryz.func326,Tryz.ntmps326
 go_wp2_with fail
 go_loopw [17] (fun i wr=>i=ae af 0∧Grow w wr) (fun _ _=>0)
 case atStart=>exact⟨rfl,Grow.refl _⟩
 case round=>
  obtain⟨rfl,hg⟩:=hrel
  go_wp2_with fail
  go_ret
  exact⟨rfl,hg⟩
theorem Ce (w:World):Calls au 290 #[ai none 0 0,ai none 0 0] w fun e w'=>e=.returned (.bool true)∧Grow w w':=by
 have hE:=q8 w
 go_enter Tryz.func290,Tryz.ntmps290
 go_wp2_with fail
 refine hE.mono ?_
 rintro e w1 ⟨rfl,hg⟩
 go_wp2_with fail
 go_ret
 exact⟨rfl,hg⟩
theorem zh (w:World):Calls au 289 #[.agg #[ae af 0,ae af 0,ae af 0,ae af 0,ae af 0,ai none 0 0,.string ⟨#[]⟩,ae af 0,ae af 0],.agg #[ae af 0,ae af 0,ae af 0,ae af 0,ae af 0,ai none 0 0,.string ⟨#[]⟩,ae af 0,ae af 0]] w fun e w'=>e=.returned (.bool true)∧Grow w w':=by
 have hE:=vX
 have hga:=(bN w (.cells #[ae af 0,ae af 0,ae af 0,ae af 0,ae af 0,ai none 0 0,.string ⟨#[]⟩,ae af 0,ae af 0] 32)).trans (bN _ (.cells #[ae af 0,ae af 0,ae af 0,ae af 0,ae af 0,ai none 0 0,.string ⟨#[]⟩,ae af 0,ae af 0] 32))
 have hx:=ct.made w 32 #[ae af 0,ae af 0,ae af 0,ae af 0,ae af 0,ai none 0 0,.string ⟨#[]⟩,ae af 0,ae af 0]
 have hy:=ct.made (w.alloc (.cells #[ae af 0,ae af 0,ae af 0,ae af 0,ae af 0,ai none 0 0,.string ⟨#[]⟩,ae af 0,ae af 0] 32)) 32 #[ae af 0,ae af 0,ae af 0,ae af 0,ae af 0,ai none 0 0,.string ⟨#[]⟩,ae af 0,ae af 0]
 have hx:=hx.alloc (.cells #[ae af 0,ae af 0,ae af 0,ae af 0,ae af 0,ai none 0 0,.string ⟨#[]⟩,ae af 0,ae af 0] 32)
 rw[di] at hy
 go_enter Tryz.func289,Tryz.ntmps289
 go_wp2_with fail
 refine (hE _).mono ?_
 rintro e w1 ⟨rfl,hg⟩
 have hx1:=hx.grow hg
 have hy1:=hy.grow hg
 have a0:=hx1.cell 0
 have a1:=hx1.cell 1
 have a2:=hx1.cell 2
 have a3:=hx1.cell 3
 have a4:=hx1.cell 4
 have a5:=hx1.cell 5
 have a6:=hx1.cell 6
 have a7:=hx1.cell 7
 have a8:=hx1.cell 8
 have b0:=hy1.cell 0
 have b1:=hy1.cell 1
 have b2:=hy1.cell 2
 have b3:=hy1.cell 3
 have b4:=hy1.cell 4
 have b5:=hy1.cell 5
 have b6:=hy1.cell 6
 have b7:=hy1.cell 7
 have b8:=hy1.cell 8
 go_wp2_with fail
 go_ret
 exact⟨rfl,hga.trans hg⟩
theorem pe (w:World):Calls au 230 #[.agg #[ae af 0,ae af 0,ae af 0,ae af 0,ae af 0,ae af 0,ai none 0 0,.string ⟨#[]⟩,ae af 0,ae af 0,ae af 0,ae af 0,ae ah 0,ae af 0,ae af 0,ai none 0 0,ae af 0,ae af 0],.agg #[ae af 0,ae af 0,ae af 0,ae af 0,ae af 0,ae af 0,ai none 0 0,.string ⟨#[]⟩,ae af 0,ae af 0,ae af 0,ae af 0,ae ah 0,ae af 0,ae af 0,ai none 0 0,ae af 0,ae af 0]] w fun e w'=>e=.returned (.bool true)∧Grow w w':=by
 have hga:=(bN w (.cells #[ae af 0,ae af 0,ae af 0,ae af 0,ae af 0,ae af 0,ai none 0 0,.string ⟨#[]⟩,ae af 0,ae af 0,ae af 0,ae af 0,ae ah 0,ae af 0,ae af 0,ai none 0 0,ae af 0,ae af 0] 73)).trans (bN _ (.cells #[ae af 0,ae af 0,ae af 0,ae af 0,ae af 0,ae af 0,ai none 0 0,.string ⟨#[]⟩,ae af 0,ae af 0,ae af 0,ae af 0,ae ah 0,ae af 0,ae af 0,ai none 0 0,ae af 0,ae af 0] 73))
 have hx:=(ct.made w 73 #[ae af 0,ae af 0,ae af 0,ae af 0,ae af 0,ae af 0,ai none 0 0,.string ⟨#[]⟩,ae af 0,ae af 0,ae af 0,ae af 0,ae ah 0,ae af 0,ae af 0,ai none 0 0,ae af 0,ae af 0]).alloc (.cells #[ae af 0,ae af 0,ae af 0,ae af 0,ae af 0,ae af 0,ai none 0 0,.string ⟨#[]⟩,ae af 0,ae af 0,ae af 0,ae af 0,ae ah 0,ae af 0,ae af 0,ai none 0 0,ae af 0,ae af 0] 73)
 have hy:=ct.made (w.alloc (.cells #[ae af 0,ae af 0,ae af 0,ae af 0,ae af 0,ae af 0,ai none 0 0,.string ⟨#[]⟩,ae af 0,ae af 0,ae af 0,ae af 0,ae ah 0,ae af 0,ae af 0,ai none 0 0,ae af 0,ae af 0] 73)) 73 #[ae af 0,ae af 0,ae af 0,ae af 0,ae af 0,ae af 0,ai none 0 0,.string ⟨#[]⟩,ae af 0,ae af 0,ae af 0,ae af 0,ae ah 0,ae af 0,ae af 0,ai none 0 0,ae af 0,ae af 0]
 rw[di] at hy
 go_enter Tryz.func230,Tryz.ntmps230
 go_wp2_with fail
 refine (zh _).mono ?_
 rintro e w1 ⟨rfl,hg⟩
 have hx1:=hx.grow hg
 have hy1:=hy.grow hg
 have a0:=hx1.cell 0
 have a1:=hx1.cell 1
 have a2:=hx1.cell 2
 have a3:=hx1.cell 3
 have a4:=hx1.cell 4
 have a5:=hx1.cell 5
 have a6:=hx1.cell 6
 have a7:=hx1.cell 7
 have a8:=hx1.cell 8
 have a9:=hx1.cell 9
 have MO:=hx1.cell 10
 have P2:=hx1.cell 11
 have a12:=hx1.cell 12
 have P3:=hx1.cell 13
 have P4:=hx1.cell 14
 have P5:=hx1.cell 15
 have a16:=hx1.cell 16
 have a17:=hx1.cell 17
 have b0:=hy1.cell 0
 have b1:=hy1.cell 1
 have b2:=hy1.cell 2
 have b3:=hy1.cell 3
 have b4:=hy1.cell 4
 have b5:=hy1.cell 5
 have b6:=hy1.cell 6
 have b7:=hy1.cell 7
 have b8:=hy1.cell 8
 have b9:=hy1.cell 9
 have b10:=hy1.cell 10
 have b11:=hy1.cell 11
 have b12:=hy1.cell 12
 have b13:=hy1.cell 13
 have b14:=hy1.cell 14
 have b15:=hy1.cell 15
 have b16:=hy1.cell 16
 have b17:=hy1.cell 17
 go_wp2_with fail
 refine (Ce _).mono ?_
 rintro e w2 ⟨rfl,hg2⟩
 have hx2:=hx1.grow hg2
 have hy2:=hy1.grow hg2
 clear a0 b0 a1 b1 a2 b2 a3 b3 a4 b4 a5 b5 a6 b6 a7 b7 a8 b8 a9 b9 MO b10 P2 b11 a12 b12 P3 b13 P4 b14 P5 b15 a16 b16 a17 b17
 have a0:=hx2.cell 0
 have a1:=hx2.cell 1
 have a2:=hx2.cell 2
 have a3:=hx2.cell 3
 have a4:=hx2.cell 4
 have a5:=hx2.cell 5
 have a6:=hx2.cell 6
 have a7:=hx2.cell 7
 have a8:=hx2.cell 8
 have a9:=hx2.cell 9
 have MO:=hx2.cell 10
 have P2:=hx2.cell 11
 have a12:=hx2.cell 12
 have P3:=hx2.cell 13
 have P4:=hx2.cell 14
 have P5:=hx2.cell 15
 have a16:=hx2.cell 16
 have a17:=hx2.cell 17
 have b0:=hy2.cell 0
 have b1:=hy2.cell 1
 have b2:=hy2.cell 2
 have b3:=hy2.cell 3
 have b4:=hy2.cell 4
 have b5:=hy2.cell 5
 have b6:=hy2.cell 6
 have b7:=hy2.cell 7
 have b8:=hy2.cell 8
 have b9:=hy2.cell 9
 have b10:=hy2.cell 10
 have b11:=hy2.cell 11
 have b12:=hy2.cell 12
 have b13:=hy2.cell 13
 have b14:=hy2.cell 14
 have b15:=hy2.cell 15
 have b16:=hy2.cell 16
 have b17:=hy2.cell 17
 go_wp2_with fail
 go_ret
 exact⟨rfl,hga.trans (hg.trans hg2)⟩
theorem Cf (w:World) (e:En) (A:Option Addr) (c:Nat):Calls au 174 #[.agg (i5 e A c)] w fun en w'=>en=.returned (.bool true)∧Grow w w':=by
 unfold i5
 obtain⟨k,ag,sh,sq,ep,ds,se,fr,tg⟩:=e
 dsimp only
 go_enter Tryz.func174,Tryz.ntmps174
 go_wp2_with (refine bY rfl 73 _ rfl _ rfl (ct.made w 73 _) Tryz.underlying73 am ?_)
 refine (pe _).mono ?_
 rintro e w1 ⟨rfl,hg⟩
 go_wp2_with fail
 go_ret
 exact⟨rfl,Below.trans (bN w _) (hg.mono (by rw[di];omega))⟩
theorem Cg (w:World) (tag code:Int) (n:Nat):Calls au 174 #[.agg (eW tag code n)] w fun en w'=>en=.returned (.bool true)∧Grow w w':=by
 unfold eW
 go_enter Tryz.func174,Tryz.ntmps174
 go_wp2_with (refine bY rfl 73 _ rfl _ rfl (ct.made w 73 _) Tryz.underlying73 am ?_)
 refine (pe _).mono ?_
 rintro e w1 ⟨rfl,hg⟩
 go_wp2_with fail
 go_ret
 exact⟨rfl,Below.trans (bN w _) (hg.mono (by rw[di];omega))⟩
theorem lO (w:World) (e:En) (V:Nat→Prop) (A:Option Addr) (c:Nat) (hok:e.Ok) (hd:fV w V A e.ds.length e.ds):Calls au 92 #[.agg (i5 e A c)] w fun en w'=>en=.returned (ae af 0)∧Grow w w':=by
 have hR:=fun (w1:World) (hg:Grow w w1)=>f8 w1 e V A c hok (In.grow hd hg)
 have hZ:=fun (w1:World)=>Cf w1 e A c
 unfold i5 at hZ ⊢
 obtain⟨k,ag,sh,sq,ep,ds,se,fr,tg⟩:=e
 unfold En.agg at hR
 dsimp only at hZ hR ⊢
 have hX:=ct.made w 73 #[ae af 1,ae af k,ae af ag,ae af sh,ae af sq,ae af ep,.slice A ds.length c,.string se,ae af fr,ae af tg,ae af 0,ae af 0,ae ah 0,ae af 0,ae af 0,ai none 0 0,ae af 0,ae af 0]
 obtain⟨x,HX⟩:∃ x:Nat,Hid (x=w.heap.size):=⟨_,rfl⟩
 go_enter Tryz.func92,Tryz.ntmps92
 go_wp2_with (refine bY rfl 73 _ rfl _ rfl (hX) Tryz.underlying73 am ?_)
 refine (hZ _).mono ?_
 rintro e w1 ⟨rfl,hg⟩
 have hX1:=hX.grow hg
 have hga:=(bN w _).trans hg
 rw[←HX.out] at hX1 ⊢
 have c0:=hX1.cell 0
 have c1:=hX1.cell 1
 have c2:=hX1.cell 2
 have c3:=hX1.cell 3
 have c4:=hX1.cell 4
 have c5:=hX1.cell 5
 have c6:=hX1.cell 6
 have c7:=hX1.cell 7
 have c8:=hX1.cell 8
 have c9:=hX1.cell 9
 have c10:=hX1.cell 10
 have c11:=hX1.cell 11
 have c12:=hX1.cell 12
 have c13:=hX1.cell 13
 have c14:=hX1.cell 14
 have c15:=hX1.cell 15
 have c16:=hX1.cell 16
 have c17:=hX1.cell 17
 have hR:=hR w1 hga
 clear hX hZ hok hd
 go_wp2_with fail
 refine hR.mono ?_
 rintro e w2 ⟨rfl,hg2⟩
 go_wp2_with fail
 go_ret
 exact⟨rfl,hga.trans hg2⟩
theorem lP (w:World) (tag code:Int) (n:Nat) (ht:0≤tag) (hc:0≤code∧code≤255):Calls au 92 #[.agg (eW tag code n)] w fun en w'=>en=.returned (ae af 0)∧Grow w w':=by
 have hZ:=fun (w1:World)=>Cg w1 tag code n
 unfold eW at hZ ⊢
 have hX:=ct.made w 73 #[ae af 2,ae af 0,ae af 0,ae af 0,ae af 0,ae af 0,ai none 0 0,.string ⟨#[]⟩,ae af 0,ae af 0,ae af tag,ae af code,ae ah (n:Int),ae af 0,ae af 0,ai none 0 0,ae af 0,ae af 0]
 obtain⟨x,HX⟩:∃ x:Nat,Hid (x=w.heap.size):=⟨_,rfl⟩
 have d1:decide (tag<0)=false:=decide_eq_false al
 have d2:decide (code<0)=false:=decide_eq_false al
 have d3:decide (255<code)=false:=decide_eq_false al
 go_enter Tryz.func92,Tryz.ntmps92
 go_wp2_with (refine bY rfl 73 _ rfl _ rfl (hX) Tryz.underlying73 am ?_)
 refine (hZ _).mono ?_
 rintro e w1 ⟨rfl,hg⟩
 have hX1:=hX.grow hg
 have hga:=(bN w _).trans hg
 rw[←HX.out] at hX1 ⊢
 have c0:=hX1.cell 0
 have c1:=hX1.cell 1
 have c2:=hX1.cell 2
 have c3:=hX1.cell 3
 have c4:=hX1.cell 4
 have c5:=hX1.cell 5
 have c6:=hX1.cell 6
 have c7:=hX1.cell 7
 have c8:=hX1.cell 8
 have c9:=hX1.cell 9
 have c10:=hX1.cell 10
 have c11:=hX1.cell 11
 have c12:=hX1.cell 12
 have c13:=hX1.cell 13
 have c14:=hX1.cell 14
 have c15:=hX1.cell 15
 have c16:=hX1.cell 16
 have c17:=hX1.cell 17
 clear hX hZ
 go_wp2_with fail
 go_loopw [79] (fun i wr=>i=ae af 0∧Grow w1 wr) (fun _ _=>0)
 case atStart=>exact⟨rfl,Grow.refl _⟩
 case round=>
  obtain⟨rfl,hgr⟩:=hrel
  go_wp2_with fail
  go_ret
  exact⟨rfl,hga.trans hgr⟩
end Go.Proofs.YtmijcbfgfkeodaaGreatDoor
end
section
namespace Go.Proofs.YtmijcbfgfkeodaaGreatDoor.V
open Go.RowKit Go.Hop
def poly:BitVec 32:=0xedb88320#32
def stepT (c:BitVec 32):BitVec 32:=(c >>> 1) ^^^ (if c.getLsbD 0 then poly else 0#32)
def qY:Nat→BitVec 32→BitVec 32
 | 0,c=>c
 | n+1,c=>stepT (qY n c)
def next (c:BitVec 32) (b:UInt8):BitVec 32:=qY 8 (c ^^^ b.toBitVec.setWidth 32)
theorem yc (a b:BitVec 32):bits .xor .u32 (a.toNat:Int) (b.toNat:Int)=((a ^^^ b).toNat:Int):=by
 have ha:=a.isLt;have hb:=b.isLt;have hx:=(a ^^^ b).isLt
 show IntKind.u32.wrap ((BitVec.ofInt 32 (a.toNat:Int) ^^^ BitVec.ofInt 32 (b.toNat:Int)).toNat:Int)=_
 rw[BitVec.ofInt_natCast,BitVec.ofInt_natCast,BitVec.ofNat_toNat,BitVec.ofNat_toNat,BitVec.setWidth_eq,BitVec.setWidth_eq,IntKind.wrap_u32']
 omega
theorem Kn (a b:BitVec 32):bits .and .u32 (a.toNat:Int) (b.toNat:Int)=((a &&& b).toNat:Int):=by
 have ha:=a.isLt;have hb:=b.isLt;have hx:=(a &&& b).isLt
 show IntKind.u32.wrap ((BitVec.ofInt 32 (a.toNat:Int) &&& BitVec.ofInt 32 (b.toNat:Int)).toNat:Int)=_
 rw[BitVec.ofInt_natCast,BitVec.ofInt_natCast,BitVec.ofNat_toNat,BitVec.ofNat_toNat,BitVec.setWidth_eq,BitVec.setWidth_eq,IntKind.wrap_u32']
 omega
theorem Ko (x:BitVec 32):bits .and .u32 (x.toNat:Int) 1=if x.getLsbD 0 then 1 else 0:=by
 have h:=Kn x 1#32
 have e:((1#32).toNat:Int)=1:=by decide
 rw[e] at h;rw[h]
 have:(x &&& 1#32)=if x.getLsbD 0 then 1#32 else 0#32:=by
  ext i hi
  by_cases h0:i=0
  ·subst h0;cases h:x[0]<;>simp[h]
  ·have h1:(1#32)[i]=false:=by simp[BitVec.getElem_one,h0]
   simp only[BitVec.getElem_and,h1,Bool.and_false]
   split<;>simp[h0]
 rw[this];split<;>rfl
theorem Ht (x:BitVec 32):bits .xor .u32 (↑x.toNat / 2) (3988292384*bits .and .u32 ↑x.toNat 1 % 4294967296)=((stepT x).toNat:Int):=by
 rw[Ko]
 have e:((x.toNat:Int) / (2:Int))=((x >>> 1).toNat:Int):=by
  rw[BitVec.toNat_ushiftRight,Nat.shiftRight_eq_div_pow];omega
 rw[e]
 unfold stepT
 split
 ·exact yc (x >>> 1) poly
 ·exact yc (x >>> 1) 0#32
theorem Ch (c:BitVec 32) (b:UInt8) (w:World) :
 Calls au 292 #[.int .u32 c.toNat,.int .u8 b.toNat] w fun e w'=>e=.returned (.int .u32 (next c b).toNat)∧w=w':=by
 have hb:(b.toNat:Int) % 4294967296=((b.toBitVec.setWidth 32).toNat:Int):=by
  have:=b.toNat_lt
  simp only[BitVec.toNat_setWidth,UInt8.toNat_toBitVec]
  omega
 have hx:=yc c (b.toBitVec.setWidth 32)
 rw[←hb] at hx
 have HX:=Lib.hid hx
 clear hb hx
 go_enter Tryz.func292,Tryz.ntmps292
 go_wp2
 go_loop [0,5,10] (fun v _ i=>∃ k:Nat,k≤8∧i=ae af k∧v=.int .u32 (qY k (c ^^^ b.toBitVec.setWidth 32)).toNat) (fun _ _ i=>8-(intOf i).toNat)
 case atStart=>exact⟨0,by omega,rfl,by rw[HX.out];rfl⟩
 case round=>
  obtain⟨k,hk,rfl,rfl⟩:=hrel
  by_cases h:k<8
  ·have hs0:qY (k+1) (c ^^^ b.toBitVec.setWidth 32)=stepT (qY k (c ^^^ b.toBitVec.setWidth 32)):=rfl
   have hs:=Lib.hid hs0
   clear hs0
   generalize qY k (c ^^^ b.toBitVec.setWidth 32)=x at hs
   go_wp2
   go_round
   case rel=>exact⟨k+1,by omega,by go_num,by rw[Ht,hs.out]⟩
   case measure=>simp[intOf];omega
  ·obtain rfl:k=8:=by omega
   go_wp2
   go_ret
   exact⟨rfl,rfl⟩
def run (c:BitVec 32) (l:List UInt8):BitVec 32:=l.foldl next c
theorem Ci (c:BitVec 32) (l:List UInt8) (k:Nat) (h:k<l.length):run c (l.take (k+1))=next (run c (l.take k)) l[k]:=by
 unfold run;rw[aI h,List.foldl_append];rfl
theorem Hu (c:BitVec 32) (A:Option Addr) (n cap:Nat) (l:List UInt8) (w:World) (B:Nat) (h:Bytes w B A n l) (hn:n≤maxLen) :
 Calls au 234 #[.int .u32 c.toNat,.slice A n cap] w fun e w'=>e=.returned (.int .u32 (run c l).toNat)∧w=w':=by
 unfold maxLen at hn
 have hlen:=h.len
 go_enter Tryz.func234,Tryz.ntmps234
 go_wp2
 go_loop [0,6,9] (fun v _ i=>∃ k:Nat,k≤n∧i=ae af k∧v=.int .u32 (run c (l.take k)).toNat) (fun _ _ i=>n-(intOf i).toNat)
 case atStart=>exact⟨0,by omega,rfl,rfl⟩
 case round=>
  obtain⟨k,hk,rfl,rfl⟩:=hrel
  by_cases hlt:k<n
  ·obtain⟨ad,hl,rfl,hc⟩:=h.at_ hlt
   have hs:=Lib.hid (Ci c l k hl)
   go_wp2_with (go_at_call 292;refine (Ch _ _ _).mono ?_;rintro e w' ⟨rfl,rfl⟩)
   go_round
   case rel=>exact⟨k+1,by omega,by go_num,by rw[hs.out]⟩
   case measure=>simp[intOf];omega
  ·obtain rfl:k=n:=by omega
   go_wp2
   go_ret
   exact⟨gu (by rw[aN al]),rfl⟩
theorem Kp (a:BitVec 32):bits .xor .u32 4294967295 (a.toNat:Int)=((~~~a).toNat:Int):=by
 have h:=yc (BitVec.allOnes 32) a
 rw[BitVec.allOnes_xor] at h
 exact h
def ones:BitVec 32:=BitVec.allOnes 32
theorem Cj:(4294967295:Int)=(ones.toNat:Int):=by decide
def crc (l:List UInt8):BitVec 32 := ~~~(run ones l)
theorem vY (A:Option Addr) (n cap:Nat) (l:List UInt8) (w:World) (B:Nat) (h:Bytes w B A n l) (hn:n≤maxLen) :
 Calls au 181 #[.slice A n cap] w fun e w'=>e=.returned (.int .u32 (crc l).toNat)∧w=w':=by
 have hc:=Hu ones A n cap l w B h hn
 rw[←Cj] at hc
 have HC:=Lib.hid hc
 clear hc
 go_enter Tryz.func181,Tryz.ntmps181
 go_wp2_with (go_at_call 234;refine (HC.out).mono ?_;rintro e w' ⟨rfl,rfl⟩)
 go_ret
 exact⟨gu (Kp _),rfl⟩
end Go.Proofs.YtmijcbfgfkeodaaGreatDoor.V
end
