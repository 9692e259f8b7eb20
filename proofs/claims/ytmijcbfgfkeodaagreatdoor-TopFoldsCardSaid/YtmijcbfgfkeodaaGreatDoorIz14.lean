/- Fread, Ml6, Le, Le2, Le3, Frread. -/
import Derived.Test.YtmijcbfgfkeodaaGreatDoorIz13
set_option linter.all false
set_option maxRecDepth 100000
set_option maxHeartbeats 2000000
open Go.Value renaming int → ae,slice → ai
open Go.IntKind renaming i64 → af,u64 → ah
open Go.Proofs.Tryz renaming prog → au
open List renaming setIfInBounds_toArray → aw,drop_succ_cons → ax,set_cons_zero → ay,set_cons_succ → az,drop_zero → aB,not_mem_nil → aE,mem_cons → aF,take_succ_eq_append_getElem → aI,length_take → aK,nil_append → aR,length_drop → bh
open Nat renaming le_refl → aC,le_trans → aH,zero_add → a_,mul_one → bC
open Int renaming toNat_natCast → bv
section
namespace Go.Proofs.YtmijcbfgfkeodaaGreatDoor.V
open Go.RowKit Go.Hop
theorem sb (a:Addr) (i:Nat) (h:i≠0):a.add i=⟨a.block,a.off+i,none⟩:=by unfold Addr.add;rw[if_neg h]
theorem MU (a b:Nat) (ha:a<4294967296) (hb:b<4294967296):bits .or .u32 (a:Int) (b:Int)=((a ||| b:Nat):Int):=by
 have hab:a ||| b<2 ^ 32:=Nat.or_lt_two_pow ha hb
 show IntKind.u32.wrap ((BitVec.ofInt 32 (a:Int) ||| BitVec.ofInt 32 (b:Int)).toNat:Int)=_
 rw[BitVec.ofInt_natCast,BitVec.ofInt_natCast,BitVec.toNat_or,BitVec.toNat_ofNat,BitVec.toNat_ofNat,Nat.mod_eq_of_lt ha,Nat.mod_eq_of_lt hb,IntKind.wrap_u32']
 omega
theorem le_step (pre:List UInt8) (b:UInt8) (j:Nat) (hj:pre.length=j) (hj3:j≤3) :
 bits .or .u32 (s9 pre:Int) ((b.toNat:Int) % 4294967296*((256 ^ j:Nat):Int) % 4294967296)=(s9 (pre++[b]):Int):=by
 have h1:=Cl pre
 have hb:=b.toNat_lt
 rw[hj] at h1
 have h2:256 ^ j≤256 ^ 3:=Nat.pow_le_pow_right ak hj3
 have h3:b.toNat*256 ^ j≤255*256 ^ 3:=Nat.mul_le_mul al h2
 have e:(b.toNat:Int) % 4294967296*((256 ^ j:Nat):Int) % 4294967296=((b.toNat*256 ^ j:Nat):Int):=by
  rw[Int.emod_eq_of_lt (a:=(b.toNat:Int)) al al,←Int.natCast_mul]
  exact Int.emod_eq_of_lt al al
 rw[e,MU _ _ al al,tN,hj]
 congr 1
 have e8:256 ^ j=2 ^ (8*j):=by rw[Nat.pow_mul]
 rw[e8] at h1 ⊢
 rw[Nat.or_comm,Nat.mul_comm b.toNat,←Nat.two_pow_add_eq_or_of_lt h1]
 omega
theorem mn (w:World) (A:Option Addr) (n c:Nat) (l:List UInt8) (hb:Bytes w w.heap.size A n l) (hnc:n≤c) (hcm:c≤maxLen) :
 Calls au 101 #[.slice A n c] w fun e w'=>∃ (x:List UInt8) (k:Nat) (ok:Bool) (v:Value),gO l x k ok∧e=.returned (.tuple #[v,ae af (k:Int),.bool ok])∧Own w' (New w w') 5 1 v x.length (gn x)∧Grow w w':=by
 have hlen:=hb.len
 go_enter Tryz.func101,Tryz.ntmps101
 go_wp2_with fail
 go_at_call 179
 refine (m0 w _ A n c l hb (aH hnc hcm)).mono ?_
 rintro e w' ⟨m,k,hG,rfl,rfl⟩
 unfold maxLen at hcm
 rcases hG with ⟨hm,hE,hk⟩|⟨hno,rfl,rfl⟩
 ·have hk10:=cZ hm
  have hk1:=m8 m
  have hkl:=hE.length_le
  have HK:=Lib.hid hk
  have hk0:((k:Int) == 0)=false:=beq_eq_false_iff_ne.2 al
  have hk':1≤k∧k≤10∧k≤n:=by omega
  clear hk
  by_cases QJ:65536<m
  ·have MV:decide ((65536:Int)<(m:Int))=true:=decide_eq_true al
   go_wp2_with fail
   refine bodyPost_ret (v := .tuple #[ai none 0 0,ae af 0,.bool false]) (by simp[results,Tryz.results101,go_sem]) rfl ⟨[],0,false,_,gO.none (vZ hE QJ),rfl,Own.nil,Grow.refl _⟩
  ·have MV:decide ((65536:Int)<(m:Int))=false:=decide_eq_false al
   have hwm:IntKind.i64.wrap (m:Int)=(m:Int):=by rw[IntKind.wrap_i64];omega
   by_cases hsh:n<k+4+m
   ·have hsh':decide ((n:Int)<(k:Int)+4+(m:Int))=true:=decide_eq_true al
    go_wp2_with fail
    refine bodyPost_ret (v := .tuple #[ai none 0 0,ae af 0,.bool false]) (by simp[results,Tryz.results101,go_sem]) rfl ⟨[],0,false,_,gO.none (wh hE (by rw[hlen,←HK.out];exact hsh)),rfl,Own.nil,Grow.refl _⟩
   ·have hsh':decide ((n:Int)<(k:Int)+4+(m:Int))=false:=decide_eq_false al
    go_wp2_with fail
    go_loopw [7,32] (fun s i wr=>∃ j:Nat,j≤4∧i=ae af (j:Int)∧s=.int .u32 (s9 (((l.drop k).take 4).take j):Int)∧w=wr) (fun _ i _=>4-(intOf i).toNat)
    case atStart=>exact⟨0,by omega,rfl,rfl,rfl⟩
    case round=>
     obtain⟨j,ko,rfl,rfl,rfl⟩:=hrel
     by_cases hj:j<4
     ·obtain⟨ad,hl,rfl,hc⟩:=hb.at_ (k:=k+j) al
      have Qg:IntKind.i64.wrap ((k:Int)+(j:Int))=(k:Int)+(j:Int):=by rw[IntKind.wrap_i64];omega
      have HT:=Lib.hid (show ((l.drop k).take 4).take (j+1)=((l.drop k).take 4).take j++[l[k+j]] by
       have h1:j<((l.drop k).take 4).length:=by rw[aK,bh];omega
       rw[aI h1,List.getElem_take,List.getElem_drop])
      have hpl:(((l.drop k).take 4).take j).length=j:=by rw[aK,aK,bh];omega
      have HS:=Lib.hid (le_step (((l.drop k).take 4).take j) l[k+j] j hpl al)
      generalize l[k+j]=bl at hc HT HS
      clear hpl
      rcases (show j=0∨j=1∨j=2∨j=3 by omega) with rfl|rfl|rfl|rfl
      ·have hc0:w.cell? (ad.add k)=some (.int .u8 (bl.toNat:Int)):=hc
       go_wp2_with fail
       go_roundw
       case rel=>exact⟨1,by omega,by go_num,by
        have h:=HS.out
        rw[←HT.out] at h
        rw[←h]
        rw[show ((256 ^ 0:Nat):Int)=1 from rfl,Int.mul_one,Int.emod_emod]
        rfl,by trivial⟩
       case measure=>simp[intOf]
      ·have hc0:w.cell? ⟨ad.block,ad.off+(k+1),none⟩=some (.int .u8 (bl.toNat:Int)):=by rw[←sb ad (k+1) al];exact hc
       go_wp2_with fail
       go_roundw
       case rel=>exact⟨2,by omega,by go_num,by
        have h:=HS.out
        rw[←HT.out] at h
        rw[←h]
        rfl,by trivial⟩
       case measure=>simp[intOf]
      ·have hc0:w.cell? ⟨ad.block,ad.off+(k+2),none⟩=some (.int .u8 (bl.toNat:Int)):=by rw[←sb ad (k+2) al];exact hc
       go_wp2_with fail
       go_roundw
       case rel=>exact⟨3,by omega,by go_num,by
        have h:=HS.out
        rw[←HT.out] at h
        rw[←h]
        rfl,by trivial⟩
       case measure=>simp[intOf]
      ·have hc0:w.cell? ⟨ad.block,ad.off+(k+3),none⟩=some (.int .u8 (bl.toNat:Int)):=by rw[←sb ad (k+3) al];exact hc
       go_wp2_with fail
       go_roundw
       case rel=>exact⟨4,by omega,by go_num,by
        have h:=HS.out
        rw[←HT.out] at h
        rw[←h]
        rfl,by trivial⟩
       case measure=>simp[intOf]
     ·obtain rfl:j=4:=by omega
      rw[show ((l.drop k).take 4).take 4=(l.drop k).take 4 by rw[List.take_take];rfl]
      have hs4:((l.drop k).take 4).length=4:=by rw[aK,bh];omega
      have hxl:((l.drop (k+4)).take m).length=m:=by rw[aK,bh];omega
      have hR:=(Reads.cut hb (k:=k+4) (cap:=c) al hnc).take (k:=m) al
      rw[bC] at hR
      have LV:Bytes w w.heap.size (if c=k+4 then A else A.map (·.add (k+4))) m ((l.drop (k+4)).take m):=by
       unfold Bytes;rw[oZ,ma,bC (k+4)];exact hR
      by_cases hck:c=k+4
      ·rw[if_pos hck] at LV
       have hX:=LV
       go_wp2_with fail
       refine (fF w A m _ ((l.drop (k+4)).take m) hX al).mono ?_
       rintro e w1 ⟨v1,rfl,fW,hg1⟩
       obtain⟨A1,c1,rfl,nJ,hn1,hm1⟩:=fW.reads
       have hof:=vY A1 m c1 ((l.drop (k+4)).take m) w1 w1.heap.size nJ (by unfold maxLen;omega)
       by_cases hs:s9 ((l.drop k).take 4)=(crc ((l.drop (k+4)).take m)).toNat
       ·have hsI:((((crc ((l.drop (k+4)).take m)).toNat:Int) == (s9 ((l.drop k).take 4):Int)))=true:=beq_iff_eq.2 al
        have hy:=tM hE HK.out al al ((om _ _ hs4).1 hs)
        go_wp2_with fail
        refine hof.mono ?_
        rintro e w1' ⟨rfl,rfl⟩
        clear hof
        go_wp2_with fail
        refine bodyPost_ret (v := .tuple #[.slice A1 m c1,ae af ((k:Int)+4+(m:Int)),.bool true]) (by simp[results,Tryz.results101,go_sem]) rfl ⟨_,k+4+m,true,_,hy,by push_cast;rfl,by rw[hxl];exact fW,hg1⟩
       ·have hsI:((((crc ((l.drop (k+4)).take m)).toNat:Int) == (s9 ((l.drop k).take 4):Int)))=false:=beq_eq_false_iff_ne.2 al
        have hno:=ye hE HK.out al (fun h=>hs ((om _ _ hs4).2 h))
        go_wp2_with fail
        refine hof.mono ?_
        rintro e w1' ⟨rfl,rfl⟩
        clear hof
        go_wp2_with fail
        refine bodyPost_ret (v := .tuple #[ai none 0 0,ae af 0,.bool false]) (by simp[results,Tryz.results101,go_sem]) rfl ⟨[],0,false,_,gO.none hno,rfl,Own.nil,hg1⟩
      ·rw[if_neg hck] at LV
       have hX:Bytes w w.heap.size (A.map fun x=>⟨x.block,x.off+(k+3+1),none⟩) m ((l.drop (k+4)).take m):=by
        rwa [show (fun a:Addr=>a.add (k+4))=fun x=>(⟨x.block,x.off+(k+3+1),none⟩:Addr) from funext fun x=>sb x (k+4) al] at LV
       go_wp2_with fail
       refine (fF w _ m _ ((l.drop (k+4)).take m) hX al).mono ?_
       rintro e w1 ⟨v1,rfl,fW,hg1⟩
       obtain⟨A1,c1,rfl,nJ,hn1,hm1⟩:=fW.reads
       have hof:=vY A1 m c1 ((l.drop (k+4)).take m) w1 w1.heap.size nJ (by unfold maxLen;omega)
       by_cases hs:s9 ((l.drop k).take 4)=(crc ((l.drop (k+4)).take m)).toNat
       ·have hsI:((((crc ((l.drop (k+4)).take m)).toNat:Int) == (s9 ((l.drop k).take 4):Int)))=true:=beq_iff_eq.2 al
        have hy:=tM hE HK.out al al ((om _ _ hs4).1 hs)
        go_wp2_with fail
        refine hof.mono ?_
        rintro e w1' ⟨rfl,rfl⟩
        clear hof
        go_wp2_with fail
        refine bodyPost_ret (v := .tuple #[.slice A1 m c1,ae af ((k:Int)+4+(m:Int)),.bool true]) (by simp[results,Tryz.results101,go_sem]) rfl ⟨_,k+4+m,true,_,hy,by push_cast;rfl,by rw[hxl];exact fW,hg1⟩
       ·have hsI:((((crc ((l.drop (k+4)).take m)).toNat:Int) == (s9 ((l.drop k).take 4):Int)))=false:=beq_eq_false_iff_ne.2 al
        have hno:=ye hE HK.out al (fun h=>hs ((om _ _ hs4).2 h))
        go_wp2_with fail
        refine hof.mono ?_
        rintro e w1' ⟨rfl,rfl⟩
        clear hof
        go_wp2_with fail
        refine bodyPost_ret (v := .tuple #[ai none 0 0,ae af 0,.bool false]) (by simp[results,Tryz.results101,go_sem]) rfl ⟨[],0,false,_,gO.none hno,rfl,Own.nil,hg1⟩
 ·go_wp2_with fail
  refine bodyPost_ret (v := .tuple #[ai none 0 0,ae af 0,.bool false]) (by simp[results,Tryz.results101,go_sem]) rfl ⟨[],0,false,_,gO.none (Ck hno),rfl,Own.nil,Grow.refl _⟩
end Go.Proofs.YtmijcbfgfkeodaaGreatDoor.V
end
section
namespace Go.Proofs.YtmijcbfgfkeodaaGreatDoor
open Go.RowKit Go.Hop V
theorem Cq (w:World) (r B:Nat) (TG CO n:Nat) (ht:TG≤9223372036854775807) (hc:CO≤255) (hn:n<18446744073709551616) (h:fB r B (enc TG++(enc CO++(enc n++[]))) w) :
 Calls au 103 #[((r:Nat):Value),ae af 2] w fun en w'=>en=.returned (.tuple #[.agg (eW (TG:Int) (CO:Int) n),.bool true])∧fB r B [] w'∧Only r w w':=by
 unfold eW
 have hrw:=h.lt
 have hB0:=h.1
 go_enter Tryz.func103,Tryz.ntmps103
 go_wp2_with (refine cK rfl (fQ _ _ _ rfl) ?_;intro x wx hX hgx hsx hzx;refine stay ?_)
 refine bV ?_
 go_wp2_with (refine cK rfl (fQ _ _ _ rfl) ?_;intro y wy hY oo hsy hzy;refine stay ?_)
 refine bV ?_
 refine ch rfl 73 _ _ rfl _ rfl [ae af 2,ae af 0,ae af 0,ae af 0,ae af 0,ae af 0,ai none 0 0,.string ⟨#[]⟩,ae af 0,ae af 0,ae af 0,ae af 0,ae ah 0,ae af 0,ae af 0,ai none 0 0,ae af 0,ae af 0] rfl (hY) rfl rfl am ?_
 intro wa MP hja hsa
 have MQ:=hja.blk (hX.grow oo) al
 have hga:Grow w wa:=Below.trans (hgx.trans oo) (hja.below (B:=w.heap.size) (fun b hb=>by rw[hb];omega) (hgx.trans oo).size)
 have hT:=kF wa r B TG _ ht (h.grow hga)
 have zj:x≠r:=by omega
 have nL:y≠r:=by omega
 have hBx:B≤x:=by omega
 clear hX hY
 go_wp2_with fail
 refine hT.mono ?_
 rintro e w1 ⟨rfl,nJ,ho1⟩
 have hX1:=Only.blk ho1 MQ zj
 have kf:=Only.blk ho1 MP nL
 have Er:=iD w1 r B CO 255 _ hc al nJ
 go_wp2_with fail
 refine Er.mono ?_
 rintro e w2 ⟨rfl,hR2,ho2⟩
 have hX2:=Only.blk ho2 hX1 zj
 have hY2:=Only.blk ho2 kf nL
 have EN:=kE w2 r B n _ hn hR2
 go_wp2_with fail
 refine EN.mono ?_
 rintro e w3 ⟨rfl,qQ,ho3⟩
 have qW:=Only.blk ho3 hX2 zj
 have kg:=Only.blk ho3 hY2 nL
 have vV:=((qW.far (p:=⟨y,10,none⟩) (show x≠y by omega) (ae af (TG:Int))).far (p:=⟨y,11,none⟩) (show x≠y by omega) (ae af (CO:Int))).far (p:=⟨y,12,none⟩) (show x≠y by omega) (ae ah (n:Int))
 have qX:ct (((w3.setCell ⟨y,10,none⟩ (ae af (TG:Int))).setCell ⟨y,11,none⟩ (ae af (CO:Int))).setCell ⟨y,12,none⟩ (ae ah (n:Int))) y 73 #[ae af 2,ae af 0,ae af 0,ae af 0,ae af 0,ae af 0,ai none 0 0,.string ⟨#[]⟩,ae af 0,ae af 0,ae af (TG:Int),ae af (CO:Int),ae ah (n:Int),ae af 0,ae af 0,ai none 0 0,ae af 0,ae af 0]:=((kg.put 10 _).put 11 _).put 12 _
 have MO:=kg.cell 10
 have af10:=kg.frozen 10
 have b11:=(kg.put 10 (ae af (TG:Int))).cell 11
 have bf11:=(kg.put 10 (ae af (TG:Int))).frozen 11
 have d12:=((kg.put 10 (ae af (TG:Int))).put 11 (ae af (CO:Int))).cell 12
 have df12:=((kg.put 10 (ae af (TG:Int))).put 11 (ae af (CO:Int))).frozen 12
 go_wp2_with (first|(refine bY rfl 73 _ rfl _ rfl (qX) Tryz.underlying73 am ?_)|(refine ch rfl 73 _ _ rfl _ rfl [ae af 2,ae af 0,ae af 0,ae af 0,ae af 0,ae af 0,ai none 0 0,.string ⟨#[]⟩,ae af 0,ae af 0,ae af (TG:Int),ae af (CO:Int),ae ah (n:Int),ae af 0,ae af 0,ai none 0 0,ae af 0,ae af 0] rfl (vV) rfl rfl am ?_;intro w5 zd dY hs5;refine stay ?_))
 refine bV ?_
 go_wp2_with fail
 refine bodyPost_ret (ft rfl _ x rfl zd Tryz.underlying73 am) rfl ?_
 have hy:y=r∨w.heap.size≤y := .inr al
 have J:=(((((((Just.bJ (V:=fun b=>b=r∨w.heap.size≤b) hga).trans (Just.dj ho1 (.inl rfl))).trans (Just.dj ho2 (.inl rfl))).trans (Just.dj ho3 (.inl rfl))).put hy 10 (ae af (TG:Int))).put hy 11 (ae af (CO:Int))).put hy 12 (ae ah (n:Int))).trans (dY.imp fun b hb => .inr al)
 exact⟨rfl,(((qQ.put nL al 10 _).put nL al 11 _).put nL al 12 _).just dY (fun e=>zj e.symm) (fun b hb=>by omega),yg J⟩
theorem tP (x:List UInt8) (h:x.length≤65536):gO (frame x) x (frame x).length true := .inl ⟨rfl,h,List.prefix_refl _,rfl⟩
theorem zk (w:World) (e:En) (A:Option Addr) (n c:Nat) (hok:e.Ok) (hw:e.W) (hb:Bytes w w.heap.size A n (frame (dV e))) (hnc:n≤c) (hcm:c≤maxLen) :
 Calls au 36 #[.slice A n c] w fun en w'=>∃ A' c',en=.returned (.tuple #[.agg (i5 e A' c'),ae af 0])∧fY w' (New w w') ⟨e,A',c'⟩∧Grow w w':=by
 have hln:=pg hok
 have sc:=fun (w1:World) (r B:Nat) (h:fB r B (enc (lY e).length++lY e++[]) w1)=>Cp w1 r B e hok hw h
 have gN:=fun (w1:World) (V:Nat→Prop) (A:Option Addr) (c:Nat) (hd:fV w1 V A e.ds.length e.ds)=>lO w1 e V A c hok hd
 have hL:dV e=UInt8.ofNat 1 :: (enc (lY e).length++lY e++[]):=by unfold dV;simp
 obtain⟨LR,Kr⟩:∃ LR:List UInt8,Hid (LR=enc (lY e).length++lY e++[]):=⟨_,Lib.hid rfl⟩
 rw[←Kr.out] at hL
 obtain⟨LB,Et⟩:∃ LB:List UInt8,Hid (LB=dV e):=⟨_,rfl⟩
 rw[←Et.out] at hL hln hb
 clear hok hw
 have hlen:=hb.len
 have HL:=Lib.hid hL
 clear hL
 go_enter Tryz.func36,Tryz.ntmps36
 go_wp2_with (refine cK rfl (fQ _ _ _ rfl) ?_;intro x wx hX hgx hsx hzx;refine stay ?_)
 refine bV ?_
 have hF:=mn wx A n c _ ((Reads.below hb hgx).more hgx.size) hnc hcm
 go_wp2_with fail
 refine hF.mono ?_
 rintro e1 w1 ⟨xs,k,ok,v1,hI,rfl,fW,hg1⟩
 obtain⟨rfl,rfl,rfl⟩:=hI.one (tP _ al)
 rw[hlen]
 obtain⟨A1,c1,rfl,hb1,hn1,hm1⟩:=fW.reads
 have MW:=pd w1 A1 _ c1 xs hb1 hn1 hm1
 have hX1:=hX.grow hg1
 go_wp2_with fail
 refine MW.mono ?_
 rintro e1 w2 ⟨r,rfl,hR2,hg2⟩
 rw[HL.out] at hR2
 have Be:=ng w2 r w1.heap.size _ _ hR2
 rw[show ((UInt8.ofNat 1).toNat:Int)=1 from rfl] at Be
 have hX2:=hX1.grow hg2
 have hr0:w1.heap.size≤r:=hR2.1
 have zj:x≠r:=by have:=hX1.lt;omega
 go_wp2_with fail
 refine Be.mono ?_
 rintro e1 w3 ⟨rfl,qQ,ho3⟩
 rw[Kr.out] at qQ
 have qW:=Only.blk ho3 hX2 zj
 have sc:=sc w3 r w1.heap.size qQ
 unfold i5 at sc gN
 go_wp2_with fail
 refine sc.mono ?_
 rintro e1 w4 ⟨A2,c2,rfl,hel,vU,zc⟩
 have vV:=Only.blk zc qW zj
 go_wp2_with (refine cK rfl (fQ _ _ _ rfl) ?_;intro y wy hY oo hsy hzy;refine stay ?_)
 refine bV ?_
 refine ch rfl 73 _ _ rfl _ rfl [ae af 1,ae af e.k,ae af e.ag,ae af e.sh,ae af e.sq,ae af e.ep,.slice A2 e.ds.length c2,.string e.se,ae af e.fr,ae af e.tg,ae af 0,ae af 0,ae ah 0,ae af 0,ae af 0,ai none 0 0,ae af 0,ae af 0] rfl (hY) rfl rfl am ?_
 intro w5 kX dY hs5
 have zd:=dY.blk (vV.grow oo) (by have:=vV.lt;omega)
 have hxl:=vV.lt
 have hr4:=vU.lt
 have xZ:=(vU.grow oo).just dY al (fun b hb=>by omega)
 have hDn:=nd w5 r w1.heap.size xZ
 have Ks:=In.just (In.grow hel.1 oo) dY fun b hb e=>by have:=hb.2;omega
 have gN:=gN w5 _ A2 c2 Ks
 go_wp2_with (refine bY rfl 73 _ rfl _ rfl (kX) Tryz.underlying73 am ?_)
 refine hDn.mono ?_
 rintro e1 w6 ⟨rfl,rfl⟩
 go_wp2_with (refine bY rfl 73 _ rfl _ rfl (kX) Tryz.underlying73 am ?_)
 refine gN.mono ?_
 rintro e1 w7 ⟨rfl,o1⟩
 have Ki:=zd.grow o1
 have Cb:=kX.grow o1
 go_wp2_with (first|(refine bY rfl 73 _ rfl _ rfl (Cb) Tryz.underlying73 am ?_)|(refine ch rfl 73 _ _ rfl _ rfl [ae af 1,ae af e.k,ae af e.ag,ae af e.sh,ae af e.sq,ae af e.ep,.slice A2 e.ds.length c2,.string e.se,ae af e.fr,ae af e.tg,ae af 0,ae af 0,ae ah 0,ae af 0,ae af 0,ai none 0 0,ae af 0,ae af 0] rfl (Ki) rfl rfl am ?_;intro w8 Kj Gm QK;refine stay ?_))
 refine bV ?_
 go_wp2_with fail
 refine bodyPost_ret (ft rfl _ x rfl Kj Tryz.underlying73 am) rfl ?_
 have s3:=ho3.size
 have s4:=zc.size
 have s7:=o1.size
 have hs1:=hg1.size
 have hs2:=hg2.size
 have hsx:=hgx.size
 have hsy:=oo.size
 have hrU:(fun b=>w.heap.size≤b) r:=by show w.heap.size≤r;omega
 have J:=((((((Just.bJ (V:=fun b=>w.heap.size≤b) (hgx.trans (hg1.trans hg2))).trans (Just.dj ho3 hrU)).trans (Just.dj zc hrU)).trans (Just.bJ oo)).trans (dY.imp fun b hb=>by omega)).trans (Just.bJ o1)).trans (Gm.imp fun b hb=>by omega)
 have hG:=J.below (B:=w.heap.size) (fun b hb=>hb) (aC _)
 exact⟨A2,c2,rfl,⟨In.mono (V:=New w3 w4) (In.just (In.grow Ks o1) Gm fun b hb e=>by have:=hb.1;have:=qW.lt;omega) fun b hb=>⟨by have:=hb.1;omega,by have:=hb.2;omega⟩,hel.2⟩,hG⟩
theorem zl (w:World) (TG CO n0:Nat) (A:Option Addr) (n c:Nat) (ht:TG≤9223372036854775807) (hc:CO≤255) (hn:n0<18446744073709551616) (hb:Bytes w w.heap.size A n (frame (dZ (TG:Int) (CO:Int) n0))) (hnc:n≤c) (hcm:c≤maxLen) :
 Calls au 36 #[.slice A n c] w fun en w'=>en=.returned (.tuple #[.agg (eW (TG:Int) (CO:Int) n0),ae af 0])∧Grow w w':=by
 have hln:=pi (tag:=(TG:Int)) (code:=(CO:Int)) (n:=n0) al al hn
 have sc:=fun (w1:World) (r B:Nat) (h:fB r B (enc TG++(enc CO++(enc n0++[]))) w1)=>Cq w1 r B TG CO n0 ht hc hn h
 have gN:=fun (w1:World)=>lP w1 (TG:Int) (CO:Int) n0 al al
 have hL:dZ (TG:Int) (CO:Int) n0=UInt8.ofNat 2 :: (enc TG++(enc CO++(enc n0++[]))):=by unfold dZ;rw[bv,bv];simp
 obtain⟨LR,Kr⟩:∃ LR:List UInt8,Hid (LR=enc TG++(enc CO++(enc n0++[]))):=⟨_,Lib.hid rfl⟩
 rw[←Kr.out] at hL
 obtain⟨LB,Et⟩:∃ LB,Hid (LB=dZ (TG:Int) (CO:Int) n0):=⟨_,rfl⟩
 rw[←Et.out] at hL hln hb
 have hlen:=hb.len
 have HL:=Lib.hid hL
 clear hL
 go_enter Tryz.func36,Tryz.ntmps36
 go_wp2_with (refine cK rfl (fQ _ _ _ rfl) ?_;intro x wx hX hgx hsx hzx;refine stay ?_)
 refine bV ?_
 have hF:=mn wx A n c _ ((Reads.below hb hgx).more hgx.size) hnc hcm
 go_wp2_with fail
 refine hF.mono ?_
 rintro e1 w1 ⟨xs,k,ok,v1,hI,rfl,fW,hg1⟩
 obtain⟨rfl,rfl,rfl⟩:=hI.one (tP _ al)
 rw[hlen]
 obtain⟨A1,c1,rfl,hb1,hn1,hm1⟩:=fW.reads
 have MW:=pd w1 A1 _ c1 xs hb1 hn1 hm1
 have hX1:=hX.grow hg1
 go_wp2_with fail
 refine MW.mono ?_
 rintro e1 w2 ⟨r,rfl,hR2,hg2⟩
 rw[HL.out] at hR2
 have Be:=ng w2 r w1.heap.size _ _ hR2
 rw[show ((UInt8.ofNat 2).toNat:Int)=2 from rfl] at Be
 have hX2:=hX1.grow hg2
 have hr0:w1.heap.size≤r:=hR2.1
 have zj:x≠r:=by have:=hX1.lt;omega
 go_wp2_with fail
 refine Be.mono ?_
 rintro e1 w3 ⟨rfl,qQ,ho3⟩
 rw[Kr.out] at qQ
 have qW:=Only.blk ho3 hX2 zj
 have sc:=sc w3 r w1.heap.size qQ
 unfold eW at sc gN
 go_wp2_with fail
 refine sc.mono ?_
 rintro e1 w4 ⟨rfl,vU,zc⟩
 have vV:=Only.blk zc qW zj
 go_wp2_with (refine cK rfl (fQ _ _ _ rfl) ?_;intro y wy hY oo hsy hzy;refine stay ?_)
 refine bV ?_
 refine ch rfl 73 _ _ rfl _ rfl [ae af 2,ae af 0,ae af 0,ae af 0,ae af 0,ae af 0,ai none 0 0,.string ⟨#[]⟩,ae af 0,ae af 0,ae af (TG:Int),ae af (CO:Int),ae ah (n0:Int),ae af 0,ae af 0,ai none 0 0,ae af 0,ae af 0] rfl (hY) rfl rfl am ?_
 intro w5 kX dY hs5
 have zd:=dY.blk (vV.grow oo) (by have:=vV.lt;omega)
 have hxl:=vV.lt
 have hr4:=vU.lt
 have xZ:=(vU.grow oo).just dY al (fun b hb=>by omega)
 have hDn:=nd w5 r w1.heap.size xZ
 have gN:=gN w5
 go_wp2_with (refine bY rfl 73 _ rfl _ rfl (kX) Tryz.underlying73 am ?_)
 refine hDn.mono ?_
 rintro e1 w6 ⟨rfl,rfl⟩
 go_wp2_with (refine bY rfl 73 _ rfl _ rfl (kX) Tryz.underlying73 am ?_)
 refine gN.mono ?_
 rintro e1 w7 ⟨rfl,o1⟩
 have Ki:=zd.grow o1
 have Cb:=kX.grow o1
 go_wp2_with (first|(refine bY rfl 73 _ rfl _ rfl (Cb) Tryz.underlying73 am ?_)|(refine ch rfl 73 _ _ rfl _ rfl [ae af 2,ae af 0,ae af 0,ae af 0,ae af 0,ae af 0,ai none 0 0,.string ⟨#[]⟩,ae af 0,ae af 0,ae af (TG:Int),ae af (CO:Int),ae ah (n0:Int),ae af 0,ae af 0,ai none 0 0,ae af 0,ae af 0] rfl (Ki) rfl rfl am ?_;intro w8 Kj Gm QK;refine stay ?_))
 refine bV ?_
 go_wp2_with fail
 refine bodyPost_ret (ft rfl _ x rfl Kj Tryz.underlying73 am) rfl ?_
 have s3:=ho3.size
 have s4:=zc.size
 have s7:=o1.size
 have hs1:=hg1.size
 have hs2:=hg2.size
 have hsx:=hgx.size
 have hsy:=oo.size
 have hrU:(fun b=>w.heap.size≤b) r:=by show w.heap.size≤r;omega
 have J:=((((((Just.bJ (V:=fun b=>w.heap.size≤b) (hgx.trans (hg1.trans hg2))).trans (Just.dj ho3 hrU)).trans (Just.dj zc hrU)).trans (Just.bJ oo)).trans (dY.imp fun b hb=>by omega)).trans (Just.bJ o1)).trans (Gm.imp fun b hb=>by omega)
 have hG:=J.below (B:=w.heap.size) (fun b hb=>hb) (aC _)
 exact⟨rfl,hG⟩
end Go.Proofs.YtmijcbfgfkeodaaGreatDoor
end
section
namespace Go.Proofs.YtmijcbfgfkeodaaGreatDoor
open Go.RowKit Go.Hop
theorem Cr:(Tryz.prog.info? 3).map (fun i=>(i.zero,i.size,i.bytes))=some (some (ae af 0),1,8):=by kernel_rfl
theorem MX:Elem au 38 3 1 8 (ae af 0):=⟨Tryz.underlying38,info_parts Cr,rfl,by decide,by decide⟩
theorem wo (w:World) (g b c:Nat) (m:Int) (hc:w.cell? ⟨g,b,none⟩=some (ae af m)) :
 Calls au 232 #[.slice (some ⟨g,b,none⟩) 1 c] w fun e w'=>∃ g' c',e=.returned (.slice (some ⟨g',0,none⟩) 1 c')∧w'.cell? ⟨g',0,none⟩=some (ae af m)∧Grow w w':=by
 have hgl:g<w.heap.size:=World.block_lt_of_cell? w ⟨g,b,none⟩ (by rw[hc])
 have hnil:=fun (w':World)=>Lib.run_eql_slice_nil (P:=au) w' 38 3 (some ⟨g,b,none⟩) 1 c 0 0 Tryz.underlying38
 have hrd:Reads w w.heap.size 1 (some ⟨g,b,none⟩) 1 [ae af m]:=⟨rfl,fun _=>⟨_,rfl,hgl,fun j u hu=>by
  match j,hu with
  | 0,hu=>simp at hu;subst hu;exact hc⟩⟩
 go_enter Tryz.func232,Tryz.ntmps232
 go_wp2_with (at_builtin;refine stay ?_)
 refine bV ?_
 refine cR (V:=fun b=>b=w.heap.size) MX _ rfl (.tmp 5) (.tmp 6) rfl (.slice (some ⟨w.heap.size,0,none⟩) 0 0) 0 [] rfl (fO w _ _) w.heap.size (some ⟨g,b,none⟩) 1 c [ae af m] rfl (Reads.alloc hrd (aC _) _) (by simp[Value.oneCell']) al ?_
 intro v1 w1 fW hj1
 simp only[a_,aR] at fW
 obtain⟨fW,hg1⟩:=i_ fW hj1
 obtain⟨_,h0|⟨g',cap,cur,rfl,hV,hg',_,_,_,htk⟩⟩:=fW
 ·exact absurd h0.2 al
 have hcell:w1.cell? ⟨g',0,none⟩=some (ae af m):=by
  rw[cell_of_row _ _ _ _ _ _ hg',←Array.getElem?_toList]
  have:=congrArg (fun l=>l[0]?) htk
  simpa [List.getElem?_take] using this
 go_wp2_with fail
 go_ret
 exact⟨g',cap,rfl,hcell,hg1⟩
theorem zm (w:World):Calls au 266 #[ae ah 1] w fun e w'=>∃ l:Int,e=.returned (ae af l)∧w=w':=by
 go_enter Tryz.func266,Tryz.ntmps266
 go_wp2_with fail
 go_ret
 exact⟨_,rfl,rfl⟩
theorem yh (w:World):Calls au 208 #[ae ah 1] w fun e w'=>∃ l:Int,e=.returned (ae af l)∧w=w':=by
 have hL:=zm w
 go_enter Tryz.func208,Tryz.ntmps208
 go_wp2_with fail
 refine hL.mono ?_
 rintro e w1 ⟨l,rfl,rfl⟩
 go_wp2_with fail
 go_ret
 exact⟨l,rfl,rfl⟩
theorem Cs (w:World) (A:Option Addr) (c:Nat):Calls au 327 #[.slice A 1 c,ae af 0,ae af 1] w fun e w'=>e=.returned (.tuple #[])∧w=w':=by
 go_enter Tryz.func327,Tryz.ntmps327
 go_wp2_with fail
 go_loopw [6] (fun i wr=>i=ae af 1∧w=wr) (fun _ _=>0)
 case atStart=>exact⟨rfl,rfl⟩
 case round=>
  obtain⟨rfl,rfl⟩:=hrel
  go_wp2_with fail
  go_end0
  exact⟨rfl,rfl⟩
theorem Ct (w:World) (A:Option Addr) (c:Nat) (l:Int):Calls au 291 #[.slice A 1 c,ae af 0,ae af 1,ae af l] w fun e w'=>e=.returned (.tuple #[])∧w=w':=by
 have hI:=Cs w A c
 go_enter Tryz.func291,Tryz.ntmps291
 go_wp2_with fail
 go_loopw [1,2] (fun a b wr=>a=ae af 0∧b=ae af 1∧w=wr) (fun _ _ _=>0)
 case atStart=>exact⟨rfl,rfl,rfl⟩
 case round=>
  obtain⟨rfl,rfl,rfl⟩:=hrel
  go_wp2_with fail
  refine hI.mono ?_
  rintro e w1 ⟨rfl,rfl⟩
  go_wp2_with fail
  refine bodyPost_ret (results_none rfl _ _ _) rfl ?_
  exact⟨rfl,rfl⟩
theorem zn (w:World) (A:Option Addr) (c:Nat):Calls au 233 #[.slice A 1 c] w fun e w'=>e=.returned (.tuple #[])∧w=w':=by
 have hL:=yh w
 have hP:=Ct w A c
 go_enter Tryz.func233,Tryz.ntmps233
 go_wp2_with fail
 refine hL.mono ?_
 rintro e w1 ⟨l,rfl,rfl⟩
 go_wp2_with fail
 refine (hP l).mono ?_
 rintro e w1 ⟨rfl,rfl⟩
 go_wp2_with fail
 go_end0
 exact⟨rfl,rfl⟩
theorem pj (w:World):Calls au 165 #[ae af 1] w fun e w'=>e=.returned (.bool true)∧w=w':=by
 go_enter Tryz.func165,Tryz.ntmps165
 go_wp2_with fail
 go_ret
 exact⟨rfl,rfl⟩
theorem zo (w:World) (t:Int) (h0:0≤t) (h1:t≤1099511627776):Calls au 82 #[ae af t,ae af 0,ae af 1] w fun e w'=>e=.returned (ae af (t+1))∧w=w':=by
 have hL:=pj w
 have d0:decide (t<0)=false:=decide_eq_false al
 have d1:decide (1099511627776<t)=false:=decide_eq_false al
 have hw:IntKind.i64.wrap (t+1)=t+1:=by rw[IntKind.wrap_i64];omega
 go_enter Tryz.func82,Tryz.ntmps82
 go_wp2_with fail
 refine hL.mono ?_
 rintro e w1 ⟨rfl,rfl⟩
 go_wp2_with fail
 go_loopw [7] (fun v wr=>v=ae af (t+1)∧w=wr) (fun _ _=>0)
 case atStart=>exact⟨rfl,rfl⟩
 case round=>
  obtain⟨rfl,rfl⟩:=hrel
  have hm:(t+1).tmod 1=0:=Int.tmod_one _
  go_wp2_with fail
  go_ret
  exact⟨rfl,rfl⟩
def kI (t:Int) (p:Bool) (a had:Int) (best:Value) (n:Int):Array Value:=#[ae af t,ae af 1,.bool p,.bool false,.bool false,.bool false,.bool false,.bool false,.bool false,.bool false,ae af a,ae af 0,ae af 0,ae af 0,ae af 0,ae af 0,ae af 0,ae af 0,ae af had,best,ae af n]
theorem Cu (w:World) (t:Int):Calls au 86 #[ae af t,ae af 1] w fun e w'=>∃ v,e=.returned (((v:Nat):Value))∧Cell v 265 (kI t false 0 0 (ai none 0 0) 0) w' (New w w')∧Grow w w':=by
 have hL:=pj w
 unfold kI
 go_enter Tryz.func86,Tryz.ntmps86
 go_wp2_with fail
 refine hL.mono ?_
 rintro e w1 ⟨rfl,rfl⟩
 go_wp2_with fail
 go_ret
 exact⟨_,rfl,⟨⟨aC _,by simp⟩,ct.made w _ _⟩,bN w _⟩
def cI (v:Nat) (t:Int) (p:Bool) (a had n:Int):cg:=fun w V=>∃ A:Option Addr,Cell v 265 (kI t p a had (.slice A 0 0) n) w V
theorem cI.framed (v:Nat) (t:Int) (p:Bool) (a had n:Int):Framed (cI v t p a had n):=fun w w' V ⟨A,h⟩ hk=>⟨A,Cell.framed v _ _ w w' V h hk⟩
theorem tQ (w:World) (v:Nat) (t a had n:Int) (p:Bool) (best:Value) (hB:ct w v 265 (kI t p a had best n)):Calls au 167 #[((v:Nat):Value),ae af 0] w fun e w'=>e=.returned (.bool true)∧w=w':=by
 unfold kI at hB
 have c1:=hB.cell 1
 go_enter Tryz.func167,Tryz.ntmps167
 go_wp2_with fail
 go_ret
 exact⟨rfl,rfl⟩
theorem r6 (w:World) (v:Nat) (t a had n:Int) (p:Bool) (V:Nat→Prop) (h:cI v t p a had n w V):Calls au 95 #[((v:Nat):Value)] w fun e w'=>e=.returned (ae af t)∧w=w':=by
 obtain⟨A,hv,hB⟩:=h
 unfold kI at hB
 have c0:=hB.cell 0
 go_enter Tryz.func95,Tryz.ntmps95
 go_wp2_with fail
 go_ret
 exact⟨rfl,rfl⟩
theorem zp (w:World) (v:Nat) (t a had n:Int) (p:Bool) (V:Nat→Prop) (h:cI v t p a had n w V):Calls au 169 #[((v:Nat):Value)] w fun e w'=>∃ A',e=.returned (.slice A' 0 0)∧Grow w w':=by
 obtain⟨A,hv,hB⟩:=h
 unfold kI at hB
 have c19:=hB.cell 19
 have hC:=iG w (fun _=>True) A 0 [] lh.nil (by simp)
 go_enter Tryz.func169,Tryz.ntmps169
 go_wp2_with fail
 refine hC.mono ?_
 rintro e w1 ⟨u,rfl,_,⟨A',rfl⟩,hg⟩
 go_wp2_with fail
 go_ret
 exact⟨A',rfl,hg⟩
theorem Kt (w:World) (v:Nat) (t a had:Int) (p:Bool) (best:Value) (hB:ct w v 265 (kI t p a had best 0)):Calls au 96 #[((v:Nat):Value)] w fun e w'=>e=.returned (.bool false)∧Grow w w':=by
 unfold kI at hB
 go_enter Tryz.func96,Tryz.ntmps96
 go_wp2_with fail
 refine bL 11 13 [] rfl rfl am am am ?_ ?_
 ·intro x hx φ he
  cases hx
 intro ops' A' K' T hops hA' hK hT
 refine bP 3 (((v:Nat):Value)) ?_
 refine bQ 4 (.tmp 3) (((v:Nat):Value)) (((v:Nat):Value)) ?_
 refine bQ 5 (.tmp 4) (((v:Nat):Value)) (.pointer (some ⟨v,20,none⟩)) ?_
 refine bI 6 (.tmp 5) (.pointer (some ⟨v,20,none⟩)) (ae af 0) (fun ρ h1 kk w1 (hg:Grow _ w1) hb hf=>by have c:=(hB.grow hg).cell 20;go_simp) ?_
 refine cm 7 (.const (ae af 2)) (.tmp 6) (ae af 2) (ae af 0) (ae af 0) (fun ρ h1 h2 kk w1 (hg:Grow _ w1) hb hf=>by go_simp;try rfl) ?_
 refine bP 8 (((v:Nat):Value)) ?_
 refine bQ 9 (.tmp 8) (((v:Nat):Value)) (((v:Nat):Value)) ?_
 refine bQ 10 (.tmp 9) (((v:Nat):Value)) (.pointer (some ⟨v,1,none⟩)) ?_
 refine bI 11 (.tmp 10) (.pointer (some ⟨v,1,none⟩)) (ae af 1) (fun ρ h1 kk w1 (hg:Grow _ w1) hb hf=>by have c:=(hB.grow hg).cell 1;go_simp) ?_
 refine cm 12 (.tmp 7) (.tmp 11) (ae af 0) (ae af 1) (.bool false) (fun ρ h1 h2 kk w1 (hg:Grow _ w1) hb hf=>by go_simp;try rfl) ?_
 refine bP 2 (.bool false) ?_
 refine ce (fun _ _ w1 (hg:Grow _ w1) _ bR=>hT _ _ ?_)
 clear hops hA' hK hT
 simp only[cj,Act.put,aw,ay,az,ax,aB]
 go_wp2_with fail
 go_ret
 exact⟨rfl,hg⟩
theorem Ku (w:World) (v:Nat) (t a had:Int) (p:Bool) (best:Value) (hB:ct w v 265 (kI t p a had best 1)):Calls au 96 #[((v:Nat):Value)] w fun e w'=>e=.returned (.bool true)∧Grow w w':=by
 unfold kI at hB
 go_enter Tryz.func96,Tryz.ntmps96
 go_wp2_with fail
 refine bL 11 13 [] rfl rfl am am am ?_ ?_
 ·intro x hx φ he
  cases hx
 intro ops' A' K' T hops hA' hK hT
 refine bP 3 (((v:Nat):Value)) ?_
 refine bQ 4 (.tmp 3) (((v:Nat):Value)) (((v:Nat):Value)) ?_
 refine bQ 5 (.tmp 4) (((v:Nat):Value)) (.pointer (some ⟨v,20,none⟩)) ?_
 refine bI 6 (.tmp 5) (.pointer (some ⟨v,20,none⟩)) (ae af 1) (fun ρ h1 kk w1 (hg:Grow _ w1) hb hf=>by have c:=(hB.grow hg).cell 20;go_simp) ?_
 refine cm 7 (.const (ae af 2)) (.tmp 6) (ae af 2) (ae af 1) (ae af 2) (fun ρ h1 h2 kk w1 (hg:Grow _ w1) hb hf=>by go_simp;try rfl) ?_
 refine bP 8 (((v:Nat):Value)) ?_
 refine bQ 9 (.tmp 8) (((v:Nat):Value)) (((v:Nat):Value)) ?_
 refine bQ 10 (.tmp 9) (((v:Nat):Value)) (.pointer (some ⟨v,1,none⟩)) ?_
 refine bI 11 (.tmp 10) (.pointer (some ⟨v,1,none⟩)) (ae af 1) (fun ρ h1 kk w1 (hg:Grow _ w1) hb hf=>by have c:=(hB.grow hg).cell 1;go_simp) ?_
 refine cm 12 (.tmp 7) (.tmp 11) (ae af 2) (ae af 1) (.bool true) (fun ρ h1 h2 kk w1 (hg:Grow _ w1) hb hf=>by go_simp;try rfl) ?_
 refine bP 2 (.bool true) ?_
 refine ce (fun _ _ w1 (hg:Grow _ w1) _ bR=>hT _ _ ?_)
 clear hops hA' hK hT
 simp only[cj,Act.put,aw,ay,az,ax,aB]
 go_wp2_with fail
 go_ret
 exact⟨rfl,hg⟩
theorem sd (w:World) (v:Nat) (t had:Int) (A:Option Addr) (c:Nat) :
 Turns au 87 #[((v:Nat):Value),ae af 0,ae af had,.slice A 0 c] (fun e=>e=.returned (.bool true)) (cI v t false 0 0 0) (cI v t true 0 had 1) w:=by
 rintro V ⟨A0,hv,hB⟩ hV
 have hN:=tQ w v t 0 0 0 false _ hB
 have hW:=Kt w v t 0 0 false _ hB
 have hvl:=hB.lt
 have hB':ct w v 265 #[ae af t,ae af 1,.bool false,.bool false,.bool false,.bool false,.bool false,.bool false,.bool false,.bool false,ae af 0,ae af 0,ae af 0,ae af 0,ae af 0,ae af 0,ae af 0,ae af 0,ae af 0,.slice A0 0 0,ae af 0]:=hB
 have c2:=hB'.cell 2
 go_enter Tryz.func87,Tryz.ntmps87
 go_wp2_with fail
 refine hN.mono ?_
 rintro e w1 ⟨rfl,rfl⟩
 go_wp2_with fail
 refine hW.mono ?_
 rintro e w1 ⟨rfl,hg1⟩
 have hB1:=hB'.grow hg1
 have hB2:ct ((w1.setCell ⟨v,2,none⟩ (.bool true)).setCell ⟨v,20,none⟩ (ae af 1)) v 265 #[ae af t,ae af 1,.bool true,.bool false,.bool false,.bool false,.bool false,.bool false,.bool false,.bool false,ae af 0,ae af 0,ae af 0,ae af 0,ae af 0,ae af 0,ae af 0,ae af 0,ae af 0,.slice A0 0 0,ae af 1]:=(hB1.put 2 _).put 20 _
 have a2:=hB1.cell 2
 have MA:=hB1.frozen 2
 have b20:=(hB1.put 2 (.bool true)).cell 20
 have MY:=(hB1.put 2 (.bool true)).frozen 20
 have QL:=hB2.cell 20
 have hC:=fun w2=>iG w2 (fun _=>True) A c [] lh.nil (by simp)
 go_wp2_with fail
 refine (hC _).mono ?_
 rintro e w2 ⟨u,rfl,_,⟨A',rfl⟩,hg2⟩
 have hB3:=hB2.grow hg2
 have hB4:ct ((w2.setCell ⟨v,18,none⟩ (ae af had)).setCell ⟨v,19,none⟩ (.slice A' 0 0)) v 265 #[ae af t,ae af 1,.bool true,.bool false,.bool false,.bool false,.bool false,.bool false,.bool false,.bool false,ae af 0,ae af 0,ae af 0,ae af 0,ae af 0,ae af 0,ae af 0,ae af 0,ae af had,.slice A' 0 0,ae af 1]:=(hB3.put 18 _).put 19 _
 have hW2:=Ku _ v t 0 had true _ hB4
 clear a2 MA b20 MY QL
 have a18:=hB3.cell 18
 have af18:=hB3.frozen 18
 have b19:=(hB3.put 18 (ae af had)).cell 19
 have bf19:=(hB3.put 18 (ae af had)).frozen 19
 go_wp2_with fail
 refine hW2.mono ?_
 rintro e w5 ⟨rfl,hg5⟩
 go_wp2_with fail
 go_ret
 have J:=(((((((Just.bJ (V:=V) hg1).put hv 2 (.bool true)).put hv 20 (ae af 1)).trans (Just.bJ hg2)).put hv 18 (ae af had)).put hv 19 (.slice A' 0 0)).trans (Just.bJ hg5))
 exact⟨rfl,⟨A',.inl hv,hB4.grow hg5⟩,J⟩
def tR (m:Int) (u:Value) (w:World):Prop:=∃ g c,u=.slice (some ⟨g,0,none⟩) 1 c∧w.cell? ⟨g,0,none⟩=some (ae af m)
theorem qa (m:Int):dv (tR m):=fun u w w' ⟨g,c,e,h⟩ hg=>⟨g,c,e,(hg.cell (show g<w.heap.size from World.block_lt_of_cell? w ⟨g,0,none⟩ (by rw[h]))).trans h⟩
theorem ls (w:World) (v:Nat) (t a had m:Int) (ham:a≤m) :
 Turns au 177 #[((v:Nat):Value),ae af 0,ae af m] (fun e=>e=.returned (ae af m)) (cI v t true a had 1) (cI v t true m had 1) w:=by
 rintro V ⟨A0,hv,hB0⟩ hV
 have hN:=tQ w v t a had 1 true _ hB0
 have hvl:=hB0.lt
 have hB:ct w v 265 #[ae af t,ae af 1,.bool true,.bool false,.bool false,.bool false,.bool false,.bool false,.bool false,.bool false,ae af a,ae af 0,ae af 0,ae af 0,ae af 0,ae af 0,ae af 0,ae af 0,ae af had,.slice A0 0 0,ae af 1]:=hB0
 have hmx:∀ ts t w,(Builtin.max_ ts t #[ae af a,ae af m]).run au w=.ok (ae af m) w:=fun ts t w=>by rw[run_max_int2];congr 2;split<;>omega
 have MZ:∀ (vs:Array Value) (w:World),(callFunc 232 vs).run au w=.ok (.enter 232 vs) w:=fun vs w=>by go_simp
 go_enter Tryz.func177,Tryz.ntmps177
 go_wp2_with fail
 refine hN.mono ?_
 rintro e w1 ⟨rfl,rfl⟩
 go_wp2_with fail
 refine bL 13 44 [] rfl rfl am am am ?_ ?_
 ·intro x hx φ he
  cases hx
 intro ops' A' K' T hops hA' hK hT
 refine bP 11 (((v:Nat):Value)) ?_
 refine bP 12 (ae af 0) ?_
 refine bP 13 (((v:Nat):Value)) ?_
 refine bP 14 (ae af 0) ?_
 refine bQ 15 (.tmp 13) (((v:Nat):Value)) (((v:Nat):Value)) ?_
 refine bQ 16 (.tmp 15) (((v:Nat):Value)) (.pointer (some ⟨v,10,none⟩)) ?_
 refine cm 17 (.tmp 16) (.tmp 14) (.pointer (some ⟨v,10,none⟩)) (ae af 0) (.pointer (some ⟨v,10,none⟩)) (fun ρ h1 h2 kk w1 (hg:Grow _ w1) hb hf=>by go_simp) ?_
 refine bI 18 (.tmp 17) (.pointer (some ⟨v,10,none⟩)) (ae af a) (fun ρ h1 kk w1 (hg:Grow _ w1) hb hf=>by have c:=(hB.grow hg).cell 10;go_simp) ?_
 refine bP 19 (ae af m) ?_
 refine cm 20 (.tmp 18) (.tmp 19) (ae af a) (ae af m) (ae af m) (fun ρ h1 h2 kk w1 (hg:Grow _ w1) hb hf=>by go_simp) ?_
 refine bQ 21 (.tmp 11) (((v:Nat):Value)) (((v:Nat):Value)) ?_
 refine bQ 22 (.tmp 21) (((v:Nat):Value)) (.pointer (some ⟨v,10,none⟩)) ?_
 refine cm 23 (.tmp 22) (.tmp 12) (.pointer (some ⟨v,10,none⟩)) (ae af 0) (.pointer (some ⟨v,10,none⟩)) (fun ρ h1 h2 kk w1 (hg:Grow _ w1) hb hf=>by go_simp) ?_
 refine ce (fun _ _ w1 (hg:Grow _ w1) _ bR=>hT _ _ ?_)
 clear hops hA' hK hT
 simp only[cj,Act.put,aw,ay,az,ax,aB]
 have hB1:=hB.grow hg
 have c10:=hB1.cell 10
 have f10:=hB1.frozen 10
 have hB2:ct (w1.setCell ⟨v,10,none⟩ (ae af m)) v 265 #[ae af t,ae af 1,.bool true,.bool false,.bool false,.bool false,.bool false,.bool false,.bool false,.bool false,ae af m,ae af 0,ae af 0,ae af 0,ae af 0,ae af 0,ae af 0,ae af 0,ae af had,.slice A0 0 0,ae af 1]:=hB1.put 10 _
 have J1:=(Just.bJ (V:=V) hg).put hv 10 (ae af m)
 go_wp2_with fail
 obtain⟨w2,HW2⟩:∃ w2,Hid (w2=w1.setCell ⟨v,10,none⟩ (ae af m)):=⟨_,rfl⟩
 rw[←HW2.out] at hB2 J1 ⊢
 clear c10 f10 hg hB1
 refine bL 10 44 [(8,.inr (fun _=>tR m))] rfl rfl am am am ?_ ?_
 ·intro x hx φ he
  simp only[aF,aE,or_false] at hx
  rcases hx with rfl<;>cases he
  all_goals first|exact ca (cn _)|exact ca (qa _)
 intro ops' A' K' T hops hA' hK hT
 refine bP 24 (((v:Nat):Value)) ?_
 refine bQ 25 (.tmp 24) (((v:Nat):Value)) (((v:Nat):Value)) ?_
 refine bQ 26 (.tmp 25) (((v:Nat):Value)) (.pointer (some ⟨v,10,none⟩)) ?_
 refine bP 27 (((v:Nat):Value)) ?_
 refine bQ 28 (.tmp 27) (((v:Nat):Value)) (((v:Nat):Value)) ?_
 refine bQ 29 (.tmp 28) (((v:Nat):Value)) (.pointer (some ⟨v,1,none⟩)) ?_
 refine bI 30 (.tmp 29) (.pointer (some ⟨v,1,none⟩)) (ae af 1) (fun ρ h1 kk w1 (hg:Grow _ w1) hb hf=>by have c:=(hB2.grow hg).cell 1;go_simp) ?_
 refine cm 31 (.tmp 26) (.tmp 30) (.pointer (some ⟨v,10,none⟩)) (ae af 1) (.slice (some ⟨v,10,none⟩) 1 8) (fun ρ h1 h2 kk w1 (hg:Grow _ w1) hb hf=>by go_simp) ?_
 refine cH 32 aj ak (bO aj) (fun _=>tR m) (by rw[hK.out];rfl) 232 _ _ aj [.slice (some ⟨v,10,none⟩) 1 8] aj MZ (fun kk w1 (hg:Grow _ w1) hb hf=>cr (φ:=fun _=>tR m) aj (by exact (wo w1 v 10 8 m ((hB2.grow hg).cell 10)).mono fun _ _ ⟨g,c,he,h1,h2⟩=>⟨_,he,h2,g,c,rfl,h1⟩)) (fun v32=>?_)
 refine bP 7 (v32) ?_
 refine ce (fun _ _ w1 (hg:Grow _ w1) _ bR=>hT _ _ ?_)
 clear hops hA' hK hT
 simp only[cj,Act.put,aw,ay,az,ax,aB]
 obtain⟨g,c,rfl,hc⟩:tR m v32 w1:=bR.1
 clear bR
 have hS:=zn w1 (some ⟨g,0,none⟩) c
 have hB3:=hB2.grow hg
 have c1:=hB3.cell 1
 go_wp2_with fail
 refine hS.mono ?_
 rintro e w4 ⟨rfl,rfl⟩
 go_wp2_with fail
 go_ret
 exact⟨rfl,⟨A0,.inl hv,hB3⟩,J1.trans (Just.bJ hg)⟩
end Go.Proofs.YtmijcbfgfkeodaaGreatDoor
end
