/- Ml5, Fread, Ml6, Le, Le2. -/
import Derived.Test.YtmijcbfgfkeodaaGreatDoorGz10
import Derived.Lib.ConvBytes
set_option linter.all false
set_option maxRecDepth 100000
section
namespace Go.Proofs.YtmijcbfgfkeodaaGreatDoor
open Go.RowKit Go.Hop Go.Proofs.YtmijcbfgfkeodaaGreatDoor.V
theorem bytesWorld_grow (w:World) (e:TypeId) (s:ByteArray):Grow w (Lib.bytesWorld w e s):=
 ⟨rfl,rfl,rfl,by rw[Lib.bytesWorld_size];omega,fun i hi=>Lib.bytesWorld_at_old w e s i hi⟩
theorem bytesWorld_is (w:World) (e:TypeId) (s:ByteArray) (hs:s.size≤1099511627776):IsBytes s.data.toList (.slice (some ⟨w.heap.size,0,none⟩) s.size (grownCap w s.size 0 e)) (Lib.bytesWorld w e s):=by
 refine⟨_,_,_,rfl,⟨by simp[u8s],fun _=>⟨_,rfl,by rw[Lib.bytesWorld_size];simp,fun j u hu=>?_⟩⟩,grownCap_ge w s.size 0 e,grownCap_le_maxLen w s.size 0 e (by unfold maxLen;omega)⟩
 obtain⟨hj,rfl⟩:=u8s_get hu
 have hadd:(⟨w.heap.size,0,none⟩:Addr).add j=⟨w.heap.size,j,none⟩:=by unfold Addr.add;split<;>simp_all
 rw[hadd,Lib.bytesWorld_cell w e s j hj]
 have hj':j<s.data.size:=by simpa using hj
 simp[List.getD,Array.getElem?_eq_getElem hj']
theorem only_of {r:Nat} {w w':World} (J:Just (fun b=>b=r∨w.heap.size≤b) w w'):Only r w w':=
 ⟨J.os,J.tape,J.output,J.size,fun b hb hne=>J.block b hb fun h=>h.elim (fun e=>hne (by rw[e])) (fun e=>by omega)⟩
theorem read_ask (w:World) (r B:Nat) (e:En) (hok:e.Ok) (hw:e.W) (h:RdAt r B (enc (enB e).length++enB e++[]) w) :
 Calls Tryz.prog 103 #[.pointer (some ⟨r,0,none⟩),.int .i64 1] w fun en w'=>∃ A' c',en=.returned (.tuple #[.agg (askM e A' c'),.bool true])∧ElIn w' (New w w') ⟨e,A',c'⟩∧RdAt r B [] w'∧Only r w w':=by
 have hlen:=enB_len hok
 have hER:=fun (w1:World) (A:Option Addr) (n c:Nat) (hb:Bytes w1 w1.heap.size A n (enB e)) (h1:n≤c) (h2:c≤maxLen)=>Read_w w1 e A n c hok hw hb h1 h2
 obtain⟨bs,HB⟩:∃ bs,Hid (bs=enB e):=⟨_,rfl⟩
 rw[←HB.out] at h hlen
 rw[←HB.out] at hER
 clear hok hw
 obtain⟨k,ag,sh,sq,ep,ds,se,fr,tg⟩:=e
 unfold askM
 unfold En.agg at hER
 dsimp only at hER ⊢
 have hrw:=h.lt
 have hB0:=h.1
 go_enter Tryz.func103,Tryz.ntmps103
 go_wp2_with (refine wpList_new rfl (run_alcM _ _ _ rfl) ?_;intro x wx hX hgx hsx hzx;refine stay ?_)
 refine stay_out ?_
 go_wp2_with (refine wpList_new rfl (run_alcM _ _ _ rfl) ?_;intro y wy hY hgy hsy hzy;refine stay ?_)
 refine stay_out ?_
 refine wpList_fill rfl 73 _ _ rfl _ rfl [.int .i64 1,.int .i64 0,.int .i64 0,.int .i64 0,.int .i64 0,.int .i64 0,.slice none 0 0,.string ⟨#[]⟩,.int .i64 0,.int .i64 0,.int .i64 0,.int .i64 0,.int .u64 0,.int .i64 0,.int .i64 0,.slice none 0 0,.int .i64 0,.int .i64 0] rfl (hY) rfl rfl (by kernel_rfl) ?_
 intro wa hYa hja hsa
 have hXa:=hja.blk (hX.grow hgy) (by omega)
 have hga:Grow w wa:=Below.trans (hgx.trans hgy) (hja.below (B:=w.heap.size) (fun b hb=>by rw[hb];omega) (hgx.trans hgy).size)
 have hT:=rText_any wa r B bs [] (by omega) (h.grow hga)
 have hxr:x≠r:=by omega
 have hyr:y≠r:=by omega
 have hBx:B≤x:=by omega
 clear hX hY
 go_wp2_with fail
 refine hT.mono ?_
 rintro e w1 ⟨rfl,hR1,ho1⟩
 have hX1:=Only.blk ho1 hXa hxr
 have hY1:=Only.blk ho1 hYa hyr
 have hcv:=Lib.run_convert_string_bytes (P:=Tryz.prog) w1 9 65 5 ⟨bs.toArray⟩ (u := .string) Tryz.underlying9 Tryz.underlying65 Tryz.underlying5
 have hgc:=bytesWorld_grow w1 5 ⟨bs.toArray⟩
 have hic:=bytesWorld_is w1 5 ⟨bs.toArray⟩ (by show bs.toArray.size≤_;simp;omega)
 obtain⟨Ac,nc,cc,hsl,hbc,hncc,hcmc⟩:=hic
 rw[hsl] at hcv
 clear hsl
 obtain⟨wc,HC⟩:∃ wc,Hid (wc=Lib.bytesWorld w1 5 ⟨bs.toArray⟩):=⟨_,rfl⟩
 rw[←HC.out] at hcv hgc hbc
 have hE:=hER wc Ac nc cc hbc hncc hcmc
 clear hER
 go_wp2_with fail
 refine hE.mono ?_
 rintro e w2 ⟨A2,c2,rfl,hel,hg2⟩
 have hg12:=hgc.trans hg2
 have hg3:=grow_alloc w2 (.cells #[.int .i64 k,.int .i64 ag,.int .i64 sh,.int .i64 sq,.int .i64 ep,.slice A2 ds.length c2,.string se,.int .i64 fr,.int .i64 tg] 32)
 have hX3:=(hX1.grow hg12).grow hg3
 have hY3:=(hY1.grow hg12).grow hg3
 have hR3:=(hR1.grow hg12).grow hg3
 clear hcv
 go_wp2_with (refine wpList_part rfl 32 _ _ rfl (y) 1 rfl [.int .i64 k,.int .i64 ag,.int .i64 sh,.int .i64 sq,.int .i64 ep,.slice A2 ds.length c2,.string se,.int .i64 fr,.int .i64 tg] rfl (hY3) (Nat.le_of_ble_eq_true rfl) rfl (by kernel_rfl) (cs':=#[.int .i64 1,.int .i64 k,.int .i64 ag,.int .i64 sh,.int .i64 sq,.int .i64 ep,.slice A2 ds.length c2,.string se,.int .i64 fr,.int .i64 tg,.int .i64 0,.int .i64 0,.int .u64 0,.int .i64 0,.int .i64 0,.slice none 0 0,.int .i64 0,.int .i64 0]) rfl ?_;intro w4 hY4 hj4 hs4;refine stay ?_)
 refine stay_out ?_
 have hX4:=hj4.blk hX3 (by omega)
 go_wp2_with (first|(refine wpList_load_blk rfl 73 _ rfl _ rfl (hY4) Tryz.underlying73 (by kernel_rfl) ?_)|(refine wpList_fill rfl 73 _ _ rfl _ rfl [.int .i64 1,.int .i64 k,.int .i64 ag,.int .i64 sh,.int .i64 sq,.int .i64 ep,.slice A2 ds.length c2,.string se,.int .i64 fr,.int .i64 tg,.int .i64 0,.int .i64 0,.int .u64 0,.int .i64 0,.int .i64 0,.slice none 0 0,.int .i64 0,.int .i64 0] rfl (hX4) rfl rfl (by kernel_rfl) ?_;intro w5 hX5 hj5 hs5;refine stay ?_))
 refine stay_out ?_
 go_wp2_with fail
 refine bodyPost_ret (results_blk_tmp rfl _ x rfl hX5 Tryz.underlying73 (by kernel_rfl)) rfl ?_
 have hx1:=hX1.lt
 have hy1:=hY1.lt
 have s1:=hgc.size
 have J:=((((Just.of_grow (V:=fun b=>b=r∨w.heap.size≤b) hga).trans (Just.of_only ho1 (.inl rfl))).trans (Just.of_grow (hg12.trans hg3))).trans (hj4.imp fun b hb => .inr (by omega))).trans (hj5.imp fun b hb => .inr (by omega))
 refine⟨A2,c2,rfl,⟨In.mono (V:=New wc w2) (In.just (In.just (In.grow hel.1 hg3) hj4 fun b hb e=>by have:=hb.1;omega) hj5 fun b hb e=>by have:=hb.1;omega) fun b hb=>⟨by have:=hb.1;have:=ho1.size;have:=hga.size;omega,by have h2:=hb.2;have h3:=hg3.size;omega⟩,hel.2⟩,?_,only_of J⟩
 exact (hR3.just hj4 (fun e=>hyr e.symm) (fun b hb=>by omega)).just hj5 (fun e=>hxr e.symm) (fun b hb=>by omega)
end Go.Proofs.YtmijcbfgfkeodaaGreatDoor
end
section
namespace Go.Proofs.YtmijcbfgfkeodaaGreatDoor.V
open Go.RowKit Go.Hop
theorem add_ne (a:Addr) (i:Nat) (h:i≠0):a.add i=⟨a.block,a.off+i,none⟩:=by unfold Addr.add;rw[if_neg h]
theorem or32 (a b:Nat) (ha:a<4294967296) (hb:b<4294967296):bits .or .u32 (a:Int) (b:Int)=((a ||| b:Nat):Int):=by
 have hab:a ||| b<2 ^ 32:=Nat.or_lt_two_pow ha hb
 show IntKind.u32.wrap ((BitVec.ofInt 32 (a:Int) ||| BitVec.ofInt 32 (b:Int)).toNat:Int)=_
 rw[BitVec.ofInt_natCast,BitVec.ofInt_natCast,BitVec.toNat_or,BitVec.toNat_ofNat,BitVec.toNat_ofNat,Nat.mod_eq_of_lt ha,Nat.mod_eq_of_lt hb,IntKind.wrap_u32']
 omega
theorem le_step (pre:List UInt8) (b:UInt8) (j:Nat) (hj:pre.length=j) (hj3:j≤3) :
 bits .or .u32 (leN pre:Int) ((b.toNat:Int) % 4294967296*((256 ^ j:Nat):Int) % 4294967296)=(leN (pre++[b]):Int):=by
 have h1:=leN_lt pre
 have hb:=b.toNat_lt
 rw[hj] at h1
 have h2:256 ^ j≤256 ^ 3:=Nat.pow_le_pow_right (by decide) hj3
 have h3:b.toNat*256 ^ j≤255*256 ^ 3:=Nat.mul_le_mul (by omega) h2
 have e:(b.toNat:Int) % 4294967296*((256 ^ j:Nat):Int) % 4294967296=((b.toNat*256 ^ j:Nat):Int):=by
  rw[Int.emod_eq_of_lt (a:=(b.toNat:Int)) (by omega) (by omega),←Int.natCast_mul]
  exact Int.emod_eq_of_lt (by omega) (by omega)
 rw[e,or32 _ _ (by omega) (by omega),leN_snoc,hj]
 congr 1
 have e8:256 ^ j=2 ^ (8*j):=by rw[Nat.pow_mul]
 rw[e8] at h1 ⊢
 rw[Nat.or_comm,Nat.mul_comm b.toNat,←Nat.two_pow_add_eq_or_of_lt h1]
 omega
theorem Read_any (w:World) (A:Option Addr) (n c:Nat) (l:List UInt8) (hb:Bytes w w.heap.size A n l) (hnc:n≤c) (hcm:c≤maxLen) :
 Calls Tryz.prog 101 #[.slice A n c] w fun e w'=>∃ (x:List UInt8) (k:Nat) (ok:Bool) (v:Value),ReadIs l x k ok∧e=.returned (.tuple #[v,.int .i64 (k:Int),.bool ok])∧Own w' (New w w') 5 1 v x.length (u8s x)∧Grow w w':=by
 have hlen:=hb.len
 go_enter Tryz.func101,Tryz.ntmps101
 go_wp2_with fail
 go_at_call 179
 refine (Get_any w _ A n c l hb (Nat.le_trans hnc hcm)).mono ?_
 rintro e w' ⟨m,k,hG,rfl,rfl⟩
 unfold maxLen at hcm
 rcases hG with ⟨hm,hE,hk⟩|⟨hno,rfl,rfl⟩
 ·have hk10:=enc_ten hm
  have hk1:=enc_pos m
  have hkl:=hE.length_le
  have HK:=Lib.hid hk
  have hk0:((k:Int) == 0)=false:=beq_eq_false_iff_ne.2 (by omega)
  have hk':1≤k∧k≤10∧k≤n:=by omega
  clear hk
  by_cases hm6:65536<m
  ·have hm6':decide ((65536:Int)<(m:Int))=true:=decide_eq_true (by omega)
   go_wp2_with fail
   refine bodyPost_ret (v := .tuple #[.slice none 0 0,.int .i64 0,.bool false]) (by simp[results,Tryz.results101,go_sem]) rfl ⟨[],0,false,_,ReadIs.none (none_long' hE hm6),rfl,Own.nil,Grow.refl _⟩
  ·have hm6':decide ((65536:Int)<(m:Int))=false:=decide_eq_false (by omega)
   have hwm:IntKind.i64.wrap (m:Int)=(m:Int):=by rw[IntKind.wrap_i64];omega
   by_cases hsh:n<k+4+m
   ·have hsh':decide ((n:Int)<(k:Int)+4+(m:Int))=true:=decide_eq_true (by omega)
    go_wp2_with fail
    refine bodyPost_ret (v := .tuple #[.slice none 0 0,.int .i64 0,.bool false]) (by simp[results,Tryz.results101,go_sem]) rfl ⟨[],0,false,_,ReadIs.none (none_short hE (by rw[hlen,←HK.out];exact hsh)),rfl,Own.nil,Grow.refl _⟩
   ·have hsh':decide ((n:Int)<(k:Int)+4+(m:Int))=false:=decide_eq_false (by omega)
    go_wp2_with fail
    go_loopw [7,32] (fun s i wr=>∃ j:Nat,j≤4∧i=.int .i64 (j:Int)∧s=.int .u32 (leN (((l.drop k).take 4).take j):Int)∧w=wr) (fun _ i _=>4-(intOf i).toNat)
    case atStart=>exact⟨0,by omega,rfl,rfl,rfl⟩
    case round=>
     obtain⟨j,hj4,rfl,rfl,rfl⟩:=hrel
     by_cases hj:j<4
     ·obtain⟨ad,hl,rfl,hc⟩:=hb.at_ (k:=k+j) (by omega)
      have hwj:IntKind.i64.wrap ((k:Int)+(j:Int))=(k:Int)+(j:Int):=by rw[IntKind.wrap_i64];omega
      have HT:=Lib.hid (show ((l.drop k).take 4).take (j+1)=((l.drop k).take 4).take j++[l[k+j]] by
       have h1:j<((l.drop k).take 4).length:=by rw[List.length_take,List.length_drop];omega
       rw[List.take_succ_eq_append_getElem h1,List.getElem_take,List.getElem_drop])
      have hpl:(((l.drop k).take 4).take j).length=j:=by rw[List.length_take,List.length_take,List.length_drop];omega
      have HS:=Lib.hid (le_step (((l.drop k).take 4).take j) l[k+j] j hpl (by omega))
      generalize l[k+j]=bl at hc HT HS
      clear hpl
      rcases (show j=0∨j=1∨j=2∨j=3 by omega) with rfl|rfl|rfl|rfl
      ·have hc0:w.cell? (ad.add k)=some (.int .u8 (bl.toNat:Int)):=hc
       go_wp2_with fail
       go_roundw
       case rel=>exact⟨1,by omega,by go_num,by
        have h:=HS.out
        rw[←HT.out] at h
        rw[←h]
        rw[show ((256 ^ 0:Nat):Int)=1 from rfl,Int.mul_one,Int.emod_emod]
        rfl,by trivial⟩
       case measure=>simp[intOf]
      ·have hc0:w.cell? ⟨ad.block,ad.off+(k+1),none⟩=some (.int .u8 (bl.toNat:Int)):=by rw[←add_ne ad (k+1) (by omega)];exact hc
       go_wp2_with fail
       go_roundw
       case rel=>exact⟨2,by omega,by go_num,by
        have h:=HS.out
        rw[←HT.out] at h
        rw[←h]
        rfl,by trivial⟩
       case measure=>simp[intOf]
      ·have hc0:w.cell? ⟨ad.block,ad.off+(k+2),none⟩=some (.int .u8 (bl.toNat:Int)):=by rw[←add_ne ad (k+2) (by omega)];exact hc
       go_wp2_with fail
       go_roundw
       case rel=>exact⟨3,by omega,by go_num,by
        have h:=HS.out
        rw[←HT.out] at h
        rw[←h]
        rfl,by trivial⟩
       case measure=>simp[intOf]
      ·have hc0:w.cell? ⟨ad.block,ad.off+(k+3),none⟩=some (.int .u8 (bl.toNat:Int)):=by rw[←add_ne ad (k+3) (by omega)];exact hc
       go_wp2_with fail
       go_roundw
       case rel=>exact⟨4,by omega,by go_num,by
        have h:=HS.out
        rw[←HT.out] at h
        rw[←h]
        rfl,by trivial⟩
       case measure=>simp[intOf]
     ·obtain rfl:j=4:=by omega
      rw[show ((l.drop k).take 4).take 4=(l.drop k).take 4 by rw[List.take_take];rfl]
      have hs4:((l.drop k).take 4).length=4:=by rw[List.length_take,List.length_drop];omega
      have hxl:((l.drop (k+4)).take m).length=m:=by rw[List.length_take,List.length_drop];omega
      have hR:=(Reads.cut hb (k:=k+4) (cap:=c) (by omega) hnc).take (k:=m) (by omega)
      rw[Nat.mul_one] at hR
      have hX':Bytes w w.heap.size (if c=k+4 then A else A.map (·.add (k+4))) m ((l.drop (k+4)).take m):=by
       unfold Bytes;rw[u8s_take,u8s_drop,Nat.mul_one (k+4)];exact hR
      by_cases hck:c=k+4
      ·rw[if_pos hck] at hX'
       have hX:=hX'
       go_wp2_with fail
       refine (clone_any w A m _ ((l.drop (k+4)).take m) hX (by omega)).mono ?_
       rintro e w1 ⟨v1,rfl,hO1,hg1⟩
       obtain⟨A1,c1,rfl,hR1,hn1,hm1⟩:=hO1.reads
       have hof:=of_any A1 m c1 ((l.drop (k+4)).take m) w1 w1.heap.size hR1 (by unfold maxLen;omega)
       by_cases hs:leN ((l.drop k).take 4)=(crc ((l.drop (k+4)).take m)).toNat
       ·have hsI:((((crc ((l.drop (k+4)).take m)).toNat:Int) == (leN ((l.drop k).take 4):Int)))=true:=beq_iff_eq.2 (by omega)
        have hy:=read_yes hE HK.out (by omega) (by omega) ((leN_sum _ _ hs4).1 hs)
        go_wp2_with fail
        refine hof.mono ?_
        rintro e w1' ⟨rfl,rfl⟩
        clear hof
        go_wp2_with fail
        refine bodyPost_ret (v := .tuple #[.slice A1 m c1,.int .i64 ((k:Int)+4+(m:Int)),.bool true]) (by simp[results,Tryz.results101,go_sem]) rfl ⟨_,k+4+m,true,_,hy,by push_cast;rfl,by rw[hxl];exact hO1,hg1⟩
       ·have hsI:((((crc ((l.drop (k+4)).take m)).toNat:Int) == (leN ((l.drop k).take 4):Int)))=false:=beq_eq_false_iff_ne.2 (by omega)
        have hno:=read_no hE HK.out (by omega) (fun h=>hs ((leN_sum _ _ hs4).2 h))
        go_wp2_with fail
        refine hof.mono ?_
        rintro e w1' ⟨rfl,rfl⟩
        clear hof
        go_wp2_with fail
        refine bodyPost_ret (v := .tuple #[.slice none 0 0,.int .i64 0,.bool false]) (by simp[results,Tryz.results101,go_sem]) rfl ⟨[],0,false,_,ReadIs.none hno,rfl,Own.nil,hg1⟩
      ·rw[if_neg hck] at hX'
       have hX:Bytes w w.heap.size (A.map fun x=>⟨x.block,x.off+(k+3+1),none⟩) m ((l.drop (k+4)).take m):=by
        rwa [show (fun a:Addr=>a.add (k+4))=fun x=>(⟨x.block,x.off+(k+3+1),none⟩:Addr) from funext fun x=>add_ne x (k+4) (by omega)] at hX'
       go_wp2_with fail
       refine (clone_any w _ m _ ((l.drop (k+4)).take m) hX (by omega)).mono ?_
       rintro e w1 ⟨v1,rfl,hO1,hg1⟩
       obtain⟨A1,c1,rfl,hR1,hn1,hm1⟩:=hO1.reads
       have hof:=of_any A1 m c1 ((l.drop (k+4)).take m) w1 w1.heap.size hR1 (by unfold maxLen;omega)
       by_cases hs:leN ((l.drop k).take 4)=(crc ((l.drop (k+4)).take m)).toNat
       ·have hsI:((((crc ((l.drop (k+4)).take m)).toNat:Int) == (leN ((l.drop k).take 4):Int)))=true:=beq_iff_eq.2 (by omega)
        have hy:=read_yes hE HK.out (by omega) (by omega) ((leN_sum _ _ hs4).1 hs)
        go_wp2_with fail
        refine hof.mono ?_
        rintro e w1' ⟨rfl,rfl⟩
        clear hof
        go_wp2_with fail
        refine bodyPost_ret (v := .tuple #[.slice A1 m c1,.int .i64 ((k:Int)+4+(m:Int)),.bool true]) (by simp[results,Tryz.results101,go_sem]) rfl ⟨_,k+4+m,true,_,hy,by push_cast;rfl,by rw[hxl];exact hO1,hg1⟩
       ·have hsI:((((crc ((l.drop (k+4)).take m)).toNat:Int) == (leN ((l.drop k).take 4):Int)))=false:=beq_eq_false_iff_ne.2 (by omega)
        have hno:=read_no hE HK.out (by omega) (fun h=>hs ((leN_sum _ _ hs4).2 h))
        go_wp2_with fail
        refine hof.mono ?_
        rintro e w1' ⟨rfl,rfl⟩
        clear hof
        go_wp2_with fail
        refine bodyPost_ret (v := .tuple #[.slice none 0 0,.int .i64 0,.bool false]) (by simp[results,Tryz.results101,go_sem]) rfl ⟨[],0,false,_,ReadIs.none hno,rfl,Own.nil,hg1⟩
 ·go_wp2_with fail
  refine bodyPost_ret (v := .tuple #[.slice none 0 0,.int .i64 0,.bool false]) (by simp[results,Tryz.results101,go_sem]) rfl ⟨[],0,false,_,ReadIs.none (none_get hno),rfl,Own.nil,Grow.refl _⟩
end Go.Proofs.YtmijcbfgfkeodaaGreatDoor.V
end
section
namespace Go.Proofs.YtmijcbfgfkeodaaGreatDoor
open Go.RowKit Go.Hop Go.Proofs.YtmijcbfgfkeodaaGreatDoor.V
set_option maxHeartbeats 2000000 in
theorem read_ans (w:World) (r B:Nat) (TG CO n:Nat) (ht:TG≤9223372036854775807) (hc:CO≤255) (hn:n<18446744073709551616) (h:RdAt r B (enc TG++(enc CO++(enc n++[]))) w) :
 Calls Tryz.prog 103 #[.pointer (some ⟨r,0,none⟩),.int .i64 2] w fun en w'=>en=.returned (.tuple #[.agg (ansM (TG:Int) (CO:Int) n),.bool true])∧RdAt r B [] w'∧Only r w w':=by
 unfold ansM
 have hrw:=h.lt
 have hB0:=h.1
 go_enter Tryz.func103,Tryz.ntmps103
 go_wp2_with (refine wpList_new rfl (run_alcM _ _ _ rfl) ?_;intro x wx hX hgx hsx hzx;refine stay ?_)
 refine stay_out ?_
 go_wp2_with (refine wpList_new rfl (run_alcM _ _ _ rfl) ?_;intro y wy hY hgy hsy hzy;refine stay ?_)
 refine stay_out ?_
 refine wpList_fill rfl 73 _ _ rfl _ rfl [.int .i64 2,.int .i64 0,.int .i64 0,.int .i64 0,.int .i64 0,.int .i64 0,.slice none 0 0,.string ⟨#[]⟩,.int .i64 0,.int .i64 0,.int .i64 0,.int .i64 0,.int .u64 0,.int .i64 0,.int .i64 0,.slice none 0 0,.int .i64 0,.int .i64 0] rfl (hY) rfl rfl (by kernel_rfl) ?_
 intro wa hYa hja hsa
 have hXa:=hja.blk (hX.grow hgy) (by omega)
 have hga:Grow w wa:=Below.trans (hgx.trans hgy) (hja.below (B:=w.heap.size) (fun b hb=>by rw[hb];omega) (hgx.trans hgy).size)
 have hT:=rInt_any wa r B TG _ ht (h.grow hga)
 have hxr:x≠r:=by omega
 have hyr:y≠r:=by omega
 have hBx:B≤x:=by omega
 clear hX hY
 go_wp2_with fail
 refine hT.mono ?_
 rintro e w1 ⟨rfl,hR1,ho1⟩
 have hX1:=Only.blk ho1 hXa hxr
 have hY1:=Only.blk ho1 hYa hyr
 have hT2:=rCount_any w1 r B CO 255 _ hc (by omega) hR1
 go_wp2_with fail
 refine hT2.mono ?_
 rintro e w2 ⟨rfl,hR2,ho2⟩
 have hX2:=Only.blk ho2 hX1 hxr
 have hY2:=Only.blk ho2 hY1 hyr
 have hT3:=rNumber_any w2 r B n _ hn hR2
 go_wp2_with fail
 refine hT3.mono ?_
 rintro e w3 ⟨rfl,hR3,ho3⟩
 have hX3:=Only.blk ho3 hX2 hxr
 have hY3:=Only.blk ho3 hY2 hyr
 have hX4:=((hX3.far (p:=⟨y,10,none⟩) (show x≠y by omega) (.int .i64 (TG:Int))).far (p:=⟨y,11,none⟩) (show x≠y by omega) (.int .i64 (CO:Int))).far (p:=⟨y,12,none⟩) (show x≠y by omega) (.int .u64 (n:Int))
 have hY4:Blk (((w3.setCell ⟨y,10,none⟩ (.int .i64 (TG:Int))).setCell ⟨y,11,none⟩ (.int .i64 (CO:Int))).setCell ⟨y,12,none⟩ (.int .u64 (n:Int))) y 73 #[.int .i64 2,.int .i64 0,.int .i64 0,.int .i64 0,.int .i64 0,.int .i64 0,.slice none 0 0,.string ⟨#[]⟩,.int .i64 0,.int .i64 0,.int .i64 (TG:Int),.int .i64 (CO:Int),.int .u64 (n:Int),.int .i64 0,.int .i64 0,.slice none 0 0,.int .i64 0,.int .i64 0]:=((hY3.put 10 _).put 11 _).put 12 _
 have a10:=hY3.cell 10
 have af10:=hY3.frozen 10
 have b11:=(hY3.put 10 (.int .i64 (TG:Int))).cell 11
 have bf11:=(hY3.put 10 (.int .i64 (TG:Int))).frozen 11
 have d12:=((hY3.put 10 (.int .i64 (TG:Int))).put 11 (.int .i64 (CO:Int))).cell 12
 have df12:=((hY3.put 10 (.int .i64 (TG:Int))).put 11 (.int .i64 (CO:Int))).frozen 12
 go_wp2_with (first|(refine wpList_load_blk rfl 73 _ rfl _ rfl (hY4) Tryz.underlying73 (by kernel_rfl) ?_)|(refine wpList_fill rfl 73 _ _ rfl _ rfl [.int .i64 2,.int .i64 0,.int .i64 0,.int .i64 0,.int .i64 0,.int .i64 0,.slice none 0 0,.string ⟨#[]⟩,.int .i64 0,.int .i64 0,.int .i64 (TG:Int),.int .i64 (CO:Int),.int .u64 (n:Int),.int .i64 0,.int .i64 0,.slice none 0 0,.int .i64 0,.int .i64 0] rfl (hX4) rfl rfl (by kernel_rfl) ?_;intro w5 hX5 hj5 hs5;refine stay ?_))
 refine stay_out ?_
 go_wp2_with fail
 refine bodyPost_ret (results_blk_tmp rfl _ x rfl hX5 Tryz.underlying73 (by kernel_rfl)) rfl ?_
 have hy:y=r∨w.heap.size≤y := .inr (by omega)
 have J:=(((((((Just.of_grow (V:=fun b=>b=r∨w.heap.size≤b) hga).trans (Just.of_only ho1 (.inl rfl))).trans (Just.of_only ho2 (.inl rfl))).trans (Just.of_only ho3 (.inl rfl))).put hy 10 (.int .i64 (TG:Int))).put hy 11 (.int .i64 (CO:Int))).put hy 12 (.int .u64 (n:Int))).trans (hj5.imp fun b hb => .inr (by omega))
 exact⟨rfl,(((hR3.put hyr (by omega) 10 _).put hyr (by omega) 11 _).put hyr (by omega) 12 _).just hj5 (fun e=>hxr e.symm) (fun b hb=>by omega),only_of J⟩
theorem frame_is (x:List UInt8) (h:x.length≤65536):ReadIs (frame x) x (frame x).length true := .inl ⟨rfl,h,List.prefix_refl _,rfl⟩
theorem mRead_ask (w:World) (e:En) (A:Option Addr) (n c:Nat) (hok:e.Ok) (hw:e.W) (hb:Bytes w w.heap.size A n (frame (askB e))) (hnc:n≤c) (hcm:c≤maxLen) :
 Calls Tryz.prog 36 #[.slice A n c] w fun en w'=>∃ A' c',en=.returned (.tuple #[.agg (askM e A' c'),.int .i64 0])∧ElIn w' (New w w') ⟨e,A',c'⟩∧Grow w w':=by
 have hln:=askB_len hok
 have hRd:=fun (w1:World) (r B:Nat) (h:RdAt r B (enc (enB e).length++enB e++[]) w1)=>read_ask w1 r B e hok hw h
 have hRt:=fun (w1:World) (V:Nat→Prop) (A:Option Addr) (c:Nat) (hd:DIn w1 V A e.ds.length e.ds)=>mRight_ask w1 e V A c hok hd
 have hL:askB e=UInt8.ofNat 1 :: (enc (enB e).length++enB e++[]):=by unfold askB;simp
 obtain⟨LR,HLR⟩:∃ LR:List UInt8,Hid (LR=enc (enB e).length++enB e++[]):=⟨_,Lib.hid rfl⟩
 rw[←HLR.out] at hL
 obtain⟨LB,HLB⟩:∃ LB:List UInt8,Hid (LB=askB e):=⟨_,rfl⟩
 rw[←HLB.out] at hL hln hb
 clear hok hw
 have hlen:=hb.len
 have HL:=Lib.hid hL
 clear hL
 go_enter Tryz.func36,Tryz.ntmps36
 go_wp2_with (refine wpList_new rfl (run_alcM _ _ _ rfl) ?_;intro x wx hX hgx hsx hzx;refine stay ?_)
 refine stay_out ?_
 have hF:=Read_any wx A n c _ ((Reads.below hb hgx).more hgx.size) hnc hcm
 go_wp2_with fail
 refine hF.mono ?_
 rintro e1 w1 ⟨xs,k,ok,v1,hI,rfl,hO1,hg1⟩
 obtain⟨rfl,rfl,rfl⟩:=hI.one (frame_is _ (by omega))
 rw[hlen]
 obtain⟨A1,c1,rfl,hb1,hn1,hm1⟩:=hO1.reads
 have hRN:=rNew_any w1 A1 _ c1 xs hb1 hn1 hm1
 have hX1:=hX.grow hg1
 go_wp2_with fail
 refine hRN.mono ?_
 rintro e1 w2 ⟨r,rfl,hR2,hg2⟩
 rw[HL.out] at hR2
 have hBt:=rByte_any w2 r w1.heap.size _ _ hR2
 rw[show ((UInt8.ofNat 1).toNat:Int)=1 from rfl] at hBt
 have hX2:=hX1.grow hg2
 have hr0:w1.heap.size≤r:=hR2.1
 have hxr:x≠r:=by have:=hX1.lt;omega
 go_wp2_with fail
 refine hBt.mono ?_
 rintro e1 w3 ⟨rfl,hR3,ho3⟩
 rw[HLR.out] at hR3
 have hX3:=Only.blk ho3 hX2 hxr
 have hRd:=hRd w3 r w1.heap.size hR3
 unfold askM at hRd hRt
 go_wp2_with fail
 refine hRd.mono ?_
 rintro e1 w4 ⟨A2,c2,rfl,hel,hR4,ho4⟩
 have hX4:=Only.blk ho4 hX3 hxr
 go_wp2_with (refine wpList_new rfl (run_alcM _ _ _ rfl) ?_;intro y wy hY hgy hsy hzy;refine stay ?_)
 refine stay_out ?_
 refine wpList_fill rfl 73 _ _ rfl _ rfl [.int .i64 1,.int .i64 e.k,.int .i64 e.ag,.int .i64 e.sh,.int .i64 e.sq,.int .i64 e.ep,.slice A2 e.ds.length c2,.string e.se,.int .i64 e.fr,.int .i64 e.tg,.int .i64 0,.int .i64 0,.int .u64 0,.int .i64 0,.int .i64 0,.slice none 0 0,.int .i64 0,.int .i64 0] rfl (hY) rfl rfl (by kernel_rfl) ?_
 intro w5 hY5 hj5 hs5
 have hX5:=hj5.blk (hX4.grow hgy) (by have:=hX4.lt;omega)
 have hxl:=hX4.lt
 have hr4:=hR4.lt
 have hR5:=(hR4.grow hgy).just hj5 (by omega) (fun b hb=>by omega)
 have hDn:=rDone_any w5 r w1.heap.size hR5
 have hel5:=In.just (In.grow hel.1 hgy) hj5 fun b hb e=>by have:=hb.2;omega
 have hRt:=hRt w5 _ A2 c2 hel5
 go_wp2_with (refine wpList_load_blk rfl 73 _ rfl _ rfl (hY5) Tryz.underlying73 (by kernel_rfl) ?_)
 refine hDn.mono ?_
 rintro e1 w6 ⟨rfl,rfl⟩
 go_wp2_with (refine wpList_load_blk rfl 73 _ rfl _ rfl (hY5) Tryz.underlying73 (by kernel_rfl) ?_)
 refine hRt.mono ?_
 rintro e1 w7 ⟨rfl,hg7⟩
 have hX7:=hX5.grow hg7
 have hY7:=hY5.grow hg7
 go_wp2_with (first|(refine wpList_load_blk rfl 73 _ rfl _ rfl (hY7) Tryz.underlying73 (by kernel_rfl) ?_)|(refine wpList_fill rfl 73 _ _ rfl _ rfl [.int .i64 1,.int .i64 e.k,.int .i64 e.ag,.int .i64 e.sh,.int .i64 e.sq,.int .i64 e.ep,.slice A2 e.ds.length c2,.string e.se,.int .i64 e.fr,.int .i64 e.tg,.int .i64 0,.int .i64 0,.int .u64 0,.int .i64 0,.int .i64 0,.slice none 0 0,.int .i64 0,.int .i64 0] rfl (hX7) rfl rfl (by kernel_rfl) ?_;intro w8 hX8 hj8 hs8;refine stay ?_))
 refine stay_out ?_
 go_wp2_with fail
 refine bodyPost_ret (results_blk_tmp rfl _ x rfl hX8 Tryz.underlying73 (by kernel_rfl)) rfl ?_
 have s3:=ho3.size
 have s4:=ho4.size
 have s7:=hg7.size
 have hs1:=hg1.size
 have hs2:=hg2.size
 have hsx:=hgx.size
 have hsy:=hgy.size
 have hrU:(fun b=>w.heap.size≤b) r:=by show w.heap.size≤r;omega
 have J:=((((((Just.of_grow (V:=fun b=>w.heap.size≤b) (hgx.trans (hg1.trans hg2))).trans (Just.of_only ho3 hrU)).trans (Just.of_only ho4 hrU)).trans (Just.of_grow hgy)).trans (hj5.imp fun b hb=>by omega)).trans (Just.of_grow hg7)).trans (hj8.imp fun b hb=>by omega)
 have hG:=J.below (B:=w.heap.size) (fun b hb=>hb) (Nat.le_refl _)
 exact⟨A2,c2,rfl,⟨In.mono (V:=New w3 w4) (In.just (In.grow hel5 hg7) hj8 fun b hb e=>by have:=hb.1;have:=hX3.lt;omega) fun b hb=>⟨by have:=hb.1;omega,by have:=hb.2;omega⟩,hel.2⟩,hG⟩
theorem mRead_ans (w:World) (TG CO n0:Nat) (A:Option Addr) (n c:Nat) (ht:TG≤9223372036854775807) (hc:CO≤255) (hn:n0<18446744073709551616) (hb:Bytes w w.heap.size A n (frame (ansB (TG:Int) (CO:Int) n0))) (hnc:n≤c) (hcm:c≤maxLen) :
 Calls Tryz.prog 36 #[.slice A n c] w fun en w'=>en=.returned (.tuple #[.agg (ansM (TG:Int) (CO:Int) n0),.int .i64 0])∧Grow w w':=by
 have hln:=ansB_len (tag:=(TG:Int)) (code:=(CO:Int)) (n:=n0) (by omega) (by omega) hn
 have hRd:=fun (w1:World) (r B:Nat) (h:RdAt r B (enc TG++(enc CO++(enc n0++[]))) w1)=>read_ans w1 r B TG CO n0 ht hc hn h
 have hRt:=fun (w1:World)=>mRight_ans w1 (TG:Int) (CO:Int) n0 (by omega) (by omega)
 have hL:ansB (TG:Int) (CO:Int) n0=UInt8.ofNat 2 :: (enc TG++(enc CO++(enc n0++[]))):=by unfold ansB;rw[Int.toNat_natCast,Int.toNat_natCast];simp
 obtain⟨LR,HLR⟩:∃ LR:List UInt8,Hid (LR=enc TG++(enc CO++(enc n0++[]))):=⟨_,Lib.hid rfl⟩
 rw[←HLR.out] at hL
 obtain⟨LB,HLB⟩:∃ LB,Hid (LB=ansB (TG:Int) (CO:Int) n0):=⟨_,rfl⟩
 rw[←HLB.out] at hL hln hb
 have hlen:=hb.len
 have HL:=Lib.hid hL
 clear hL
 go_enter Tryz.func36,Tryz.ntmps36
 go_wp2_with (refine wpList_new rfl (run_alcM _ _ _ rfl) ?_;intro x wx hX hgx hsx hzx;refine stay ?_)
 refine stay_out ?_
 have hF:=Read_any wx A n c _ ((Reads.below hb hgx).more hgx.size) hnc hcm
 go_wp2_with fail
 refine hF.mono ?_
 rintro e1 w1 ⟨xs,k,ok,v1,hI,rfl,hO1,hg1⟩
 obtain⟨rfl,rfl,rfl⟩:=hI.one (frame_is _ (by omega))
 rw[hlen]
 obtain⟨A1,c1,rfl,hb1,hn1,hm1⟩:=hO1.reads
 have hRN:=rNew_any w1 A1 _ c1 xs hb1 hn1 hm1
 have hX1:=hX.grow hg1
 go_wp2_with fail
 refine hRN.mono ?_
 rintro e1 w2 ⟨r,rfl,hR2,hg2⟩
 rw[HL.out] at hR2
 have hBt:=rByte_any w2 r w1.heap.size _ _ hR2
 rw[show ((UInt8.ofNat 2).toNat:Int)=2 from rfl] at hBt
 have hX2:=hX1.grow hg2
 have hr0:w1.heap.size≤r:=hR2.1
 have hxr:x≠r:=by have:=hX1.lt;omega
 go_wp2_with fail
 refine hBt.mono ?_
 rintro e1 w3 ⟨rfl,hR3,ho3⟩
 rw[HLR.out] at hR3
 have hX3:=Only.blk ho3 hX2 hxr
 have hRd:=hRd w3 r w1.heap.size hR3
 unfold ansM at hRd hRt
 go_wp2_with fail
 refine hRd.mono ?_
 rintro e1 w4 ⟨rfl,hR4,ho4⟩
 have hX4:=Only.blk ho4 hX3 hxr
 go_wp2_with (refine wpList_new rfl (run_alcM _ _ _ rfl) ?_;intro y wy hY hgy hsy hzy;refine stay ?_)
 refine stay_out ?_
 refine wpList_fill rfl 73 _ _ rfl _ rfl [.int .i64 2,.int .i64 0,.int .i64 0,.int .i64 0,.int .i64 0,.int .i64 0,.slice none 0 0,.string ⟨#[]⟩,.int .i64 0,.int .i64 0,.int .i64 (TG:Int),.int .i64 (CO:Int),.int .u64 (n0:Int),.int .i64 0,.int .i64 0,.slice none 0 0,.int .i64 0,.int .i64 0] rfl (hY) rfl rfl (by kernel_rfl) ?_
 intro w5 hY5 hj5 hs5
 have hX5:=hj5.blk (hX4.grow hgy) (by have:=hX4.lt;omega)
 have hxl:=hX4.lt
 have hr4:=hR4.lt
 have hR5:=(hR4.grow hgy).just hj5 (by omega) (fun b hb=>by omega)
 have hDn:=rDone_any w5 r w1.heap.size hR5
 have hRt:=hRt w5
 go_wp2_with (refine wpList_load_blk rfl 73 _ rfl _ rfl (hY5) Tryz.underlying73 (by kernel_rfl) ?_)
 refine hDn.mono ?_
 rintro e1 w6 ⟨rfl,rfl⟩
 go_wp2_with (refine wpList_load_blk rfl 73 _ rfl _ rfl (hY5) Tryz.underlying73 (by kernel_rfl) ?_)
 refine hRt.mono ?_
 rintro e1 w7 ⟨rfl,hg7⟩
 have hX7:=hX5.grow hg7
 have hY7:=hY5.grow hg7
 go_wp2_with (first|(refine wpList_load_blk rfl 73 _ rfl _ rfl (hY7) Tryz.underlying73 (by kernel_rfl) ?_)|(refine wpList_fill rfl 73 _ _ rfl _ rfl [.int .i64 2,.int .i64 0,.int .i64 0,.int .i64 0,.int .i64 0,.int .i64 0,.slice none 0 0,.string ⟨#[]⟩,.int .i64 0,.int .i64 0,.int .i64 (TG:Int),.int .i64 (CO:Int),.int .u64 (n0:Int),.int .i64 0,.int .i64 0,.slice none 0 0,.int .i64 0,.int .i64 0] rfl (hX7) rfl rfl (by kernel_rfl) ?_;intro w8 hX8 hj8 hs8;refine stay ?_))
 refine stay_out ?_
 go_wp2_with fail
 refine bodyPost_ret (results_blk_tmp rfl _ x rfl hX8 Tryz.underlying73 (by kernel_rfl)) rfl ?_
 have s3:=ho3.size
 have s4:=ho4.size
 have s7:=hg7.size
 have hs1:=hg1.size
 have hs2:=hg2.size
 have hsx:=hgx.size
 have hsy:=hgy.size
 have hrU:(fun b=>w.heap.size≤b) r:=by show w.heap.size≤r;omega
 have J:=((((((Just.of_grow (V:=fun b=>w.heap.size≤b) (hgx.trans (hg1.trans hg2))).trans (Just.of_only ho3 hrU)).trans (Just.of_only ho4 hrU)).trans (Just.of_grow hgy)).trans (hj5.imp fun b hb=>by omega)).trans (Just.of_grow hg7)).trans (hj8.imp fun b hb=>by omega)
 have hG:=J.below (B:=w.heap.size) (fun b hb=>hb) (Nat.le_refl _)
 exact⟨rfl,hG⟩
end Go.Proofs.YtmijcbfgfkeodaaGreatDoor
end
section
namespace Go.Proofs.YtmijcbfgfkeodaaGreatDoor
open Go.RowKit Go.Hop
theorem int_info:(Tryz.prog.info? 3).map (fun i=>(i.zero,i.size,i.bytes))=some (some (.int .i64 0),1,8):=by kernel_rfl
theorem intE:Elem Tryz.prog 38 3 1 8 (.int .i64 0):=⟨Tryz.underlying38,info_parts int_info,rfl,by decide,by decide⟩
theorem cloneI_one (w:World) (g b c:Nat) (m:Int) (hc:w.cell? ⟨g,b,none⟩=some (.int .i64 m)) :
 Calls Tryz.prog 232 #[.slice (some ⟨g,b,none⟩) 1 c] w fun e w'=>∃ g' c',e=.returned (.slice (some ⟨g',0,none⟩) 1 c')∧w'.cell? ⟨g',0,none⟩=some (.int .i64 m)∧Grow w w':=by
 have hgl:g<w.heap.size:=World.block_lt_of_cell? w ⟨g,b,none⟩ (by rw[hc])
 have hnil:=fun (w':World)=>Lib.run_eql_slice_nil (P:=Tryz.prog) w' 38 3 (some ⟨g,b,none⟩) 1 c 0 0 Tryz.underlying38
 have hrd:Reads w w.heap.size 1 (some ⟨g,b,none⟩) 1 [.int .i64 m]:=⟨rfl,fun _=>⟨_,rfl,hgl,fun j u hu=>by
  match j,hu with
  | 0,hu=>simp at hu;subst hu;exact hc⟩⟩
 go_enter Tryz.func232,Tryz.ntmps232
 go_wp2_with (at_builtin;refine stay ?_)
 refine stay_out ?_
 refine wpList_own (V:=fun b=>b=w.heap.size) intE _ rfl (.tmp 5) (.tmp 6) rfl (.slice (some ⟨w.heap.size,0,none⟩) 0 0) 0 [] rfl (made_own w _ _) w.heap.size (some ⟨g,b,none⟩) 1 c [.int .i64 m] rfl (Reads.alloc hrd (Nat.le_refl _) _) (by simp[Value.oneCell']) (by omega) ?_
 intro v1 w1 hO1 hj1
 simp only[Nat.zero_add,List.nil_append] at hO1
 obtain⟨hO1,hg1⟩:=own_new hO1 hj1
 obtain⟨_,h0|⟨g',cap,cur,rfl,hV,hg',_,_,_,htk⟩⟩:=hO1
 ·exact absurd h0.2 (by omega)
 have hcell:w1.cell? ⟨g',0,none⟩=some (.int .i64 m):=by
  rw[cell_of_row _ _ _ _ _ _ hg',←Array.getElem?_toList]
  have:=congrArg (fun l=>l[0]?) htk
  simpa [List.getElem?_take] using this
 go_wp2_with fail
 go_ret
 exact⟨g',cap,rfl,hcell,hg1⟩
theorem len64_one (w:World):Calls Tryz.prog 266 #[.int .u64 1] w fun e w'=>∃ l:Int,e=.returned (.int .i64 l)∧w=w':=by
 go_enter Tryz.func266,Tryz.ntmps266
 go_wp2_with fail
 go_ret
 exact⟨_,rfl,rfl⟩
theorem len_one (w:World):Calls Tryz.prog 208 #[.int .u64 1] w fun e w'=>∃ l:Int,e=.returned (.int .i64 l)∧w=w':=by
 have hL:=len64_one w
 go_enter Tryz.func208,Tryz.ntmps208
 go_wp2_with fail
 refine hL.mono ?_
 rintro e w1 ⟨l,rfl,rfl⟩
 go_wp2_with fail
 go_ret
 exact⟨l,rfl,rfl⟩
theorem insI_one (w:World) (A:Option Addr) (c:Nat):Calls Tryz.prog 327 #[.slice A 1 c,.int .i64 0,.int .i64 1] w fun e w'=>e=.returned (.tuple #[])∧w=w':=by
 go_enter Tryz.func327,Tryz.ntmps327
 go_wp2_with fail
 go_loopw [6] (fun i wr=>i=.int .i64 1∧w=wr) (fun _ _=>0)
 case atStart=>exact⟨rfl,rfl⟩
 case round=>
  obtain⟨rfl,rfl⟩:=hrel
  go_wp2_with fail
  go_end0
  exact⟨rfl,rfl⟩
theorem pdqI_one (w:World) (A:Option Addr) (c:Nat) (l:Int):Calls Tryz.prog 291 #[.slice A 1 c,.int .i64 0,.int .i64 1,.int .i64 l] w fun e w'=>e=.returned (.tuple #[])∧w=w':=by
 have hI:=insI_one w A c
 go_enter Tryz.func291,Tryz.ntmps291
 go_wp2_with fail
 go_loopw [1,2] (fun a b wr=>a=.int .i64 0∧b=.int .i64 1∧w=wr) (fun _ _ _=>0)
 case atStart=>exact⟨rfl,rfl,rfl⟩
 case round=>
  obtain⟨rfl,rfl,rfl⟩:=hrel
  go_wp2_with fail
  refine hI.mono ?_
  rintro e w1 ⟨rfl,rfl⟩
  go_wp2_with fail
  refine bodyPost_ret (results_none rfl _ _ _) rfl ?_
  exact⟨rfl,rfl⟩
theorem sortI_one (w:World) (A:Option Addr) (c:Nat):Calls Tryz.prog 233 #[.slice A 1 c] w fun e w'=>e=.returned (.tuple #[])∧w=w':=by
 have hL:=len_one w
 have hP:=pdqI_one w A c
 go_enter Tryz.func233,Tryz.ntmps233
 go_wp2_with fail
 refine hL.mono ?_
 rintro e w1 ⟨l,rfl,rfl⟩
 go_wp2_with fail
 refine (hP l).mono ?_
 rintro e w1 ⟨rfl,rfl⟩
 go_wp2_with fail
 go_end0
 exact⟨rfl,rfl⟩
theorem lright_one (w:World):Calls Tryz.prog 165 #[.int .i64 1] w fun e w'=>e=.returned (.bool true)∧w=w':=by
 go_enter Tryz.func165,Tryz.ntmps165
 go_wp2_with fail
 go_ret
 exact⟨rfl,rfl⟩
theorem lTerm_one (w:World) (t:Int) (h0:0≤t) (h1:t≤1099511627776):Calls Tryz.prog 82 #[.int .i64 t,.int .i64 0,.int .i64 1] w fun e w'=>e=.returned (.int .i64 (t+1))∧w=w':=by
 have hL:=lright_one w
 have d0:decide (t<0)=false:=decide_eq_false (by omega)
 have d1:decide (1099511627776<t)=false:=decide_eq_false (by omega)
 have hw:IntKind.i64.wrap (t+1)=t+1:=by rw[IntKind.wrap_i64];omega
 go_enter Tryz.func82,Tryz.ntmps82
 go_wp2_with fail
 refine hL.mono ?_
 rintro e w1 ⟨rfl,rfl⟩
 go_wp2_with fail
 go_loopw [7] (fun v wr=>v=.int .i64 (t+1)∧w=wr) (fun _ _=>0)
 case atStart=>exact⟨rfl,rfl⟩
 case round=>
  obtain⟨rfl,rfl⟩:=hrel
  have hm:(t+1).tmod 1=0:=Int.tmod_one _
  go_wp2_with fail
  go_ret
  exact⟨rfl,rfl⟩
def voteC (t:Int) (p:Bool) (a had:Int) (best:Value) (n:Int):Array Value:=#[.int .i64 t,.int .i64 1,.bool p,.bool false,.bool false,.bool false,.bool false,.bool false,.bool false,.bool false,.int .i64 a,.int .i64 0,.int .i64 0,.int .i64 0,.int .i64 0,.int .i64 0,.int .i64 0,.int .i64 0,.int .i64 had,best,.int .i64 n]
theorem lNew_one (w:World) (t:Int):Calls Tryz.prog 86 #[.int .i64 t,.int .i64 1] w fun e w'=>∃ v,e=.returned (.pointer (some ⟨v,0,none⟩))∧Cell v 265 (voteC t false 0 0 (.slice none 0 0) 0) w' (New w w')∧Grow w w':=by
 have hL:=lright_one w
 unfold voteC
 go_enter Tryz.func86,Tryz.ntmps86
 go_wp2_with fail
 refine hL.mono ?_
 rintro e w1 ⟨rfl,rfl⟩
 go_wp2_with fail
 go_ret
 exact⟨_,rfl,⟨⟨Nat.le_refl _,by simp⟩,Blk.made w _ _⟩,grow_alloc w _⟩
def VoteAt (v:Nat) (t:Int) (p:Bool) (a had n:Int):Thing:=fun w V=>∃ A:Option Addr,Cell v 265 (voteC t p a had (.slice A 0 0) n) w V
theorem VoteAt.framed (v:Nat) (t:Int) (p:Bool) (a had n:Int):Framed (VoteAt v t p a had n):=fun w w' V ⟨A,h⟩ hk=>⟨A,Cell.framed v _ _ w w' V h hk⟩
theorem node_one (w:World) (v:Nat) (t a had n:Int) (p:Bool) (best:Value) (hB:Blk w v 265 (voteC t p a had best n)):Calls Tryz.prog 167 #[.pointer (some ⟨v,0,none⟩),.int .i64 0] w fun e w'=>e=.returned (.bool true)∧w=w':=by
 unfold voteC at hB
 have c1:=hB.cell 1
 go_enter Tryz.func167,Tryz.ntmps167
 go_wp2_with fail
 go_ret
 exact⟨rfl,rfl⟩
theorem vTerm_any (w:World) (v:Nat) (t a had n:Int) (p:Bool) (V:Nat→Prop) (h:VoteAt v t p a had n w V):Calls Tryz.prog 95 #[.pointer (some ⟨v,0,none⟩)] w fun e w'=>e=.returned (.int .i64 t)∧w=w':=by
 obtain⟨A,hv,hB⟩:=h
 unfold voteC at hB
 have c0:=hB.cell 0
 go_enter Tryz.func95,Tryz.ntmps95
 go_wp2_with fail
 go_ret
 exact⟨rfl,rfl⟩
theorem vBest_any (w:World) (v:Nat) (t a had n:Int) (p:Bool) (V:Nat→Prop) (h:VoteAt v t p a had n w V):Calls Tryz.prog 169 #[.pointer (some ⟨v,0,none⟩)] w fun e w'=>∃ A',e=.returned (.slice A' 0 0)∧Grow w w':=by
 obtain⟨A,hv,hB⟩:=h
 unfold voteC at hB
 have c19:=hB.cell 19
 have hC:=Copies_any w (fun _=>True) A 0 [] Ens.nil (by simp)
 go_enter Tryz.func169,Tryz.ntmps169
 go_wp2_with fail
 refine hC.mono ?_
 rintro e w1 ⟨u,rfl,_,⟨A',rfl⟩,hg⟩
 go_wp2_with fail
 go_ret
 exact⟨A',rfl,hg⟩
theorem won_0 (w:World) (v:Nat) (t a had:Int) (p:Bool) (best:Value) (hB:Blk w v 265 (voteC t p a had best 0)):Calls Tryz.prog 96 #[.pointer (some ⟨v,0,none⟩)] w fun e w'=>e=.returned (.bool false)∧Grow w w':=by
 unfold voteC at hB
 go_enter Tryz.func96,Tryz.ntmps96
 go_wp2_with fail
 refine wp_region_flow 11 13 [] rfl rfl (by kernel_rfl) (by kernel_rfl) (by kernel_rfl) ?_ ?_
 ·intro x hx φ he
  cases hx
 intro ops' A' K' T hops hA' hK hT
 refine fl_mvN 3 (.pointer (some ⟨v,0,none⟩)) ?_
 refine fl_op1G 4 (.tmp 3) (.pointer (some ⟨v,0,none⟩)) (.pointer (some ⟨v,0,none⟩)) ?_
 refine fl_op1G 5 (.tmp 4) (.pointer (some ⟨v,0,none⟩)) (.pointer (some ⟨v,20,none⟩)) ?_
 refine fl_op1N 6 (.tmp 5) (.pointer (some ⟨v,20,none⟩)) (.int .i64 0) (fun ρ h1 kk w1 (hg:Grow _ w1) hb hf=>by have c:=(hB.grow hg).cell 20;go_simp) ?_
 refine fl_op2N 7 (.const (.int .i64 2)) (.tmp 6) (.int .i64 2) (.int .i64 0) (.int .i64 0) (fun ρ h1 h2 kk w1 (hg:Grow _ w1) hb hf=>by go_simp;try rfl) ?_
 refine fl_mvN 8 (.pointer (some ⟨v,0,none⟩)) ?_
 refine fl_op1G 9 (.tmp 8) (.pointer (some ⟨v,0,none⟩)) (.pointer (some ⟨v,0,none⟩)) ?_
 refine fl_op1G 10 (.tmp 9) (.pointer (some ⟨v,0,none⟩)) (.pointer (some ⟨v,1,none⟩)) ?_
 refine fl_op1N 11 (.tmp 10) (.pointer (some ⟨v,1,none⟩)) (.int .i64 1) (fun ρ h1 kk w1 (hg:Grow _ w1) hb hf=>by have c:=(hB.grow hg).cell 1;go_simp) ?_
 refine fl_op2N 12 (.tmp 7) (.tmp 11) (.int .i64 0) (.int .i64 1) (.bool false) (fun ρ h1 h2 kk w1 (hg:Grow _ w1) hb hf=>by go_simp;try rfl) ?_
 refine fl_mvN 2 (.bool false) ?_
 refine fl_end (fun _ _ w1 (hg:Grow _ w1) _ hfacts=>hT _ _ ?_)
 clear hops hA' hK hT
 simp only[putsL,Act.put,List.setIfInBounds_toArray,List.set_cons_zero,List.set_cons_succ,List.drop_succ_cons,List.drop_zero]
 go_wp2_with fail
 go_ret
 exact⟨rfl,hg⟩
theorem won_1 (w:World) (v:Nat) (t a had:Int) (p:Bool) (best:Value) (hB:Blk w v 265 (voteC t p a had best 1)):Calls Tryz.prog 96 #[.pointer (some ⟨v,0,none⟩)] w fun e w'=>e=.returned (.bool true)∧Grow w w':=by
 unfold voteC at hB
 go_enter Tryz.func96,Tryz.ntmps96
 go_wp2_with fail
 refine wp_region_flow 11 13 [] rfl rfl (by kernel_rfl) (by kernel_rfl) (by kernel_rfl) ?_ ?_
 ·intro x hx φ he
  cases hx
 intro ops' A' K' T hops hA' hK hT
 refine fl_mvN 3 (.pointer (some ⟨v,0,none⟩)) ?_
 refine fl_op1G 4 (.tmp 3) (.pointer (some ⟨v,0,none⟩)) (.pointer (some ⟨v,0,none⟩)) ?_
 refine fl_op1G 5 (.tmp 4) (.pointer (some ⟨v,0,none⟩)) (.pointer (some ⟨v,20,none⟩)) ?_
 refine fl_op1N 6 (.tmp 5) (.pointer (some ⟨v,20,none⟩)) (.int .i64 1) (fun ρ h1 kk w1 (hg:Grow _ w1) hb hf=>by have c:=(hB.grow hg).cell 20;go_simp) ?_
 refine fl_op2N 7 (.const (.int .i64 2)) (.tmp 6) (.int .i64 2) (.int .i64 1) (.int .i64 2) (fun ρ h1 h2 kk w1 (hg:Grow _ w1) hb hf=>by go_simp;try rfl) ?_
 refine fl_mvN 8 (.pointer (some ⟨v,0,none⟩)) ?_
 refine fl_op1G 9 (.tmp 8) (.pointer (some ⟨v,0,none⟩)) (.pointer (some ⟨v,0,none⟩)) ?_
 refine fl_op1G 10 (.tmp 9) (.pointer (some ⟨v,0,none⟩)) (.pointer (some ⟨v,1,none⟩)) ?_
 refine fl_op1N 11 (.tmp 10) (.pointer (some ⟨v,1,none⟩)) (.int .i64 1) (fun ρ h1 kk w1 (hg:Grow _ w1) hb hf=>by have c:=(hB.grow hg).cell 1;go_simp) ?_
 refine fl_op2N 12 (.tmp 7) (.tmp 11) (.int .i64 2) (.int .i64 1) (.bool true) (fun ρ h1 h2 kk w1 (hg:Grow _ w1) hb hf=>by go_simp;try rfl) ?_
 refine fl_mvN 2 (.bool true) ?_
 refine fl_end (fun _ _ w1 (hg:Grow _ w1) _ hfacts=>hT _ _ ?_)
 clear hops hA' hK hT
 simp only[putsL,Act.put,List.setIfInBounds_toArray,List.set_cons_zero,List.set_cons_succ,List.drop_succ_cons,List.drop_zero]
 go_wp2_with fail
 go_ret
 exact⟨rfl,hg⟩
theorem vPromise_one (w:World) (v:Nat) (t had:Int) (A:Option Addr) (c:Nat) :
 Turns Tryz.prog 87 #[.pointer (some ⟨v,0,none⟩),.int .i64 0,.int .i64 had,.slice A 0 c] (fun e=>e=.returned (.bool true)) (VoteAt v t false 0 0 0) (VoteAt v t true 0 had 1) w:=by
 rintro V ⟨A0,hv,hB⟩ hV
 have hN:=node_one w v t 0 0 0 false _ hB
 have hW:=won_0 w v t 0 0 false _ hB
 have hvl:=hB.lt
 have hB':Blk w v 265 #[.int .i64 t,.int .i64 1,.bool false,.bool false,.bool false,.bool false,.bool false,.bool false,.bool false,.bool false,.int .i64 0,.int .i64 0,.int .i64 0,.int .i64 0,.int .i64 0,.int .i64 0,.int .i64 0,.int .i64 0,.int .i64 0,.slice A0 0 0,.int .i64 0]:=hB
 have c2:=hB'.cell 2
 go_enter Tryz.func87,Tryz.ntmps87
 go_wp2_with fail
 refine hN.mono ?_
 rintro e w1 ⟨rfl,rfl⟩
 go_wp2_with fail
 refine hW.mono ?_
 rintro e w1 ⟨rfl,hg1⟩
 have hB1:=hB'.grow hg1
 have hB2:Blk ((w1.setCell ⟨v,2,none⟩ (.bool true)).setCell ⟨v,20,none⟩ (.int .i64 1)) v 265 #[.int .i64 t,.int .i64 1,.bool true,.bool false,.bool false,.bool false,.bool false,.bool false,.bool false,.bool false,.int .i64 0,.int .i64 0,.int .i64 0,.int .i64 0,.int .i64 0,.int .i64 0,.int .i64 0,.int .i64 0,.int .i64 0,.slice A0 0 0,.int .i64 1]:=(hB1.put 2 _).put 20 _
 have a2:=hB1.cell 2
 have af2:=hB1.frozen 2
 have b20:=(hB1.put 2 (.bool true)).cell 20
 have bf20:=(hB1.put 2 (.bool true)).frozen 20
 have d20:=hB2.cell 20
 have hC:=fun w2=>Copies_any w2 (fun _=>True) A c [] Ens.nil (by simp)
 go_wp2_with fail
 refine (hC _).mono ?_
 rintro e w2 ⟨u,rfl,_,⟨A',rfl⟩,hg2⟩
 have hB3:=hB2.grow hg2
 have hB4:Blk ((w2.setCell ⟨v,18,none⟩ (.int .i64 had)).setCell ⟨v,19,none⟩ (.slice A' 0 0)) v 265 #[.int .i64 t,.int .i64 1,.bool true,.bool false,.bool false,.bool false,.bool false,.bool false,.bool false,.bool false,.int .i64 0,.int .i64 0,.int .i64 0,.int .i64 0,.int .i64 0,.int .i64 0,.int .i64 0,.int .i64 0,.int .i64 had,.slice A' 0 0,.int .i64 1]:=(hB3.put 18 _).put 19 _
 have hW2:=won_1 _ v t 0 had true _ hB4
 clear a2 af2 b20 bf20 d20
 have a18:=hB3.cell 18
 have af18:=hB3.frozen 18
 have b19:=(hB3.put 18 (.int .i64 had)).cell 19
 have bf19:=(hB3.put 18 (.int .i64 had)).frozen 19
 go_wp2_with fail
 refine hW2.mono ?_
 rintro e w5 ⟨rfl,hg5⟩
 go_wp2_with fail
 go_ret
 have J:=(((((((Just.of_grow (V:=V) hg1).put hv 2 (.bool true)).put hv 20 (.int .i64 1)).trans (Just.of_grow hg2)).put hv 18 (.int .i64 had)).put hv 19 (.slice A' 0 0)).trans (Just.of_grow hg5))
 exact⟨rfl,⟨A',.inl hv,hB4.grow hg5⟩,J⟩
end Go.Proofs.YtmijcbfgfkeodaaGreatDoor
end
