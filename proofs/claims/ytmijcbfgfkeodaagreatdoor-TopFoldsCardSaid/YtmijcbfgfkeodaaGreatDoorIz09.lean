/- Vget, Str, Vref, Vrget, Vcut, Vcut2, Sep. -/
import Derived.Test.YtmijcbfgfkeodaaGreatDoorIz08
import Derived.Lib.AppendStr
set_option linter.all false
set_option maxRecDepth 100000
set_option maxHeartbeats 2000000
open Go.Value renaming int → ae,slice → ai
open Go.IntKind renaming i64 → af,u64 → ah
open Go.Proofs.Tryz renaming prog → au
open Nat renaming lt_of_lt_of_le → aA,le_refl → aC,le_trans → aH,eq_zero_or_pos → bj,mul_le_mul_right → bm,lt_or_ge → bn,mul_one → bC
open List renaming length_append → aD,eq_nil_of_length_eq_zero → aJ,length_take → aK,append_assoc → aM,append_nil → bf,map_cons → bg,length_drop → bh,mem_of_mem_eraseIdx → bo,prefix_append → br,size_toArray → bH
open Array renaming length_toList → bG
section
namespace Go.Proofs.YtmijcbfgfkeodaaGreatDoor.V
open Go.RowKit Go.Hop
theorem mY:∀ x:Nat,x<256→bits .andNot .u64 (x:Int) 128=((x % 128:Nat):Int):=by decide +kernel
theorem EY (i:Nat):(2:Int) ^ (i*7)=((128 ^ i:Nat):Int):=by
 rw[Nat.mul_comm,Int.pow_mul];push_cast;rfl
theorem vK (p i:Nat) (h:p*128 ^ i<18446744073709551616):IntKind.u64.wrap ((p:Int)*2 ^ (i*7))=((p*128 ^ i:Nat):Int):=by
 rw[EY,←Int.natCast_mul,wrap_u64];omega
theorem vL (p i:Nat):((p*128 ^ i:Nat):Int) / 2 ^ (i*7)=(p:Int):=by
 rw[EY,←Int.natCast_ediv,Nat.mul_div_cancel _ (Nat.pow_pos al)]
theorem rZ (p i:Nat) (h:¬ p*128 ^ i<18446744073709551616) (hi:i≤9) (hp:p<128):∃ q d:Nat,IntKind.u64.wrap ((p:Int)*2 ^ (i*7))=(q:Int)∧(q:Int) / 2 ^ (i*7)=(d:Int)∧d≠p:=by
 have h9:i=9:=by
  rcases bn i 9 with h1|h1
  ·exfalso
   have:128 ^ i≤128 ^ 8:=Nat.pow_le_pow_right al al
   have h2:p*128 ^ i≤127*128 ^ 8:=Nat.mul_le_mul al this
   omega
  ·omega
 subst h9
 refine⟨p*128 ^ 9 % 18446744073709551616,p % 2,?_,?_,by omega⟩
 ·rw[EY,←Int.natCast_mul,wrap_u64];omega
 ·rw[EY];omega
theorem Hd (a b:Nat) (ha:a<18446744073709551616) (hb:b<18446744073709551616):bits .or .u64 (a:Int) (b:Int)=((a ||| b:Nat):Int):=by
 show IntKind.u64.wrap ((BitVec.ofInt 64 (a:Int) ||| BitVec.ofInt 64 (b:Int)).toNat:Nat)=_
 rw[BitVec.toNat_or,BitVec.toNat_ofInt,BitVec.toNat_ofInt,wrap_u64]
 rw[show ((a:Int) % ((2 ^ 64:Nat):Int)).toNat=a by omega,show ((b:Int) % ((2 ^ 64:Nat):Int)).toNat=b by omega]
 have:=Nat.or_lt_two_pow (n:=64) ha hb
 omega
theorem xW (a p i:Nat) (ha:a<128 ^ i) (h:p*128 ^ i<18446744073709551616) (hi:i≤9):a+p*128 ^ i<18446744073709551616:=by
 have h64:(18446744073709551616:Nat)=2 ^ (64-7*i)*128 ^ i:=by
  rw[show (128:Nat)=2 ^ 7 by rfl,←Nat.pow_mul,←Nat.pow_add,show 64-7*i+7*i=64 by omega]
 rw[h64] at h ⊢
 have hp:p<2 ^ (64-7*i):=Nat.lt_of_mul_lt_mul_right h
 calc a+p*128 ^ i<128 ^ i+p*128 ^ i:=by omega
  _=(p+1)*128 ^ i:=by rw[Nat.add_mul];omega
  _≤2 ^ (64-7*i)*128 ^ i:=bm _ hp
theorem C0 (a p i:Nat) (ha:a<128 ^ i) (h:p*128 ^ i<18446744073709551616) (hi:i≤9) (_hp:p<128):bits .or .u64 (a:Int) ((p*128 ^ i:Nat):Int)=((a+p*128 ^ i:Nat):Int):=by
 have h1:=xW a p i ha h hi
 rw[Hd a _ al h]
 have Kf:(128:Nat) ^ i=2 ^ (7*i):=by rw[Nat.pow_mul]
 rw[Kf] at ha ⊢
 have:=Nat.two_pow_add_eq_or_of_lt ha p
 rw[Nat.mul_comm p,Nat.or_comm,←this,Nat.add_comm]
theorem za (w:World) (B:Nat) (A:Option Addr) (n c:Nat) (l:List UInt8) (hb:Bytes w B A n l) (hnm:n≤maxLen) (hn:n<10) :
 Calls au 179 #[.slice A n c] w fun e w'=>∃ v k:Nat,fp l v k∧e=.returned (.tuple #[ae ah (v:Int),ae af (k:Int)])∧w=w':=by
 have hlen:=hb.len
 unfold maxLen at hnm
 go_enter Tryz.func179,Tryz.ntmps179
 go_wp2_with fail
 go_loopw [4,11] (fun av iv wr=>∃ i:Nat,i≤n∧iv=ae af i∧av=ae ah (val (l.take i):Int)∧Hi l i∧wr=w) (fun _ iv _=>n-(intOf iv).toNat)
 case atStart=>exact⟨0,by omega,rfl,rfl,fun j hj h=>by omega,rfl⟩
 case round=>
  obtain⟨i,hin,rfl,rfl,hhi,rfl⟩:=hrel
  by_cases hi:i<n
  ·obtain⟨ad,hil,rfl,hcell⟩:=hb.at_ (show i<n by omega)
   have hc:=l[i].toNat_lt
   obtain⟨x,HX⟩:∃ x:Nat,Hid (x=l[i].toNat):=⟨l[i].toNat,rfl⟩
   rw[←HX.out] at hcell hc
   have Kg:=mY x al
   obtain⟨p,xX⟩:∃ p:Nat,Hid (p=x % 128):=⟨_,rfl⟩
   have hp:p<128:=by have:=xX.out;omega
   rw[←xX.out] at Kg
   have hv:=gU l i hil
   rw[←HX.out,←xX.out] at hv
   have hvl:=kC l i
   obtain⟨a,HA⟩:∃ a:Nat,Hid (a=val (l.take i)):=⟨_,rfl⟩
   obtain⟨b,HB⟩:∃ b:Nat,Hid (b=val (l.take (i+1))):=⟨_,rfl⟩
   rw[←HA.out] at hv hvl
   rw[←HB.out] at hv
   rw[←HA.out]
   have qR:=Lib.hid hhi
   clear hhi
   by_cases hov:p*128 ^ i<18446744073709551616
   ·have ew:=vK p i hov
    obtain⟨q,HQ⟩:∃ q:Nat,Hid (q=p*128 ^ i):=⟨_,rfl⟩
    have ed:=vL p i
    rw[←HQ.out] at ew ed hv hov
    have eo:bits .or .u64 (a:Int) (q:Int)=(b:Int):=by
     rw[hv,HQ.out]
     exact C0 a p i hvl (by rw[←HQ.out];exact hov) (show i≤9 by omega) hp
    have hbl:b<18446744073709551616:=by
     have:=xW a p i hvl (by rw[←HQ.out];exact hov) (show i≤9 by omega)
     rw[←HQ.out] at this
     omega
    clear hv hvl
    by_cases hx:128≤x
    ·go_wp2_with fail
     go_roundw
     case rel=>exact⟨i+1,by omega,by go_num,by rw[HB.out],rU hil qR.out (by rw[←HX.out];exact hx),trivial⟩
     case measure=>simp[intOf];omega
    ·by_cases hz:x≤0∧0<i
     ·obtain⟨hz,h0⟩:=hz
      have hz':l[i]=0:=by
       have:=HX.out
       apply UInt8.toNat_inj.1
       rw[←this,show x=0 by omega];rfl
      go_wp2_with fail
      go_ret2
      exact⟨0,0,fp.none (kD hil qR.out hz' h0),rfl,rfl⟩
     ·have hG:fp l b (i+1):=by
       rw[HB.out]
       refine mX hil qR.out (by rw[←HX.out];omega) ?_ (by rw[←HB.out];exact hbl)
       by_cases h0:i=0
       ·exact .inr h0
       ·refine .inl fun e=>hz ⟨?_,by omega⟩
        have:x=0:=by rw[HX.out,e];rfl
        omega
      by_cases hx0:x≤0
      ·have hi0:i≤0:=by omega
       clear hz
       go_wp2_with fail
       go_ret2
       exact⟨b,i+1,hG,by push_cast;rfl,rfl⟩
      ·clear hz
       go_wp2_with fail
       go_ret2
       exact⟨b,i+1,hG,by push_cast;rfl,rfl⟩
   ·obtain⟨q,d,ew,ed,hd⟩:=rZ p i al al hp
    go_wp2_with fail
    go_ret2
    refine⟨0,0,fp.none (lH hil qR.out ?_),rfl,rfl⟩
    rw[←HX.out,←xX.out];omega
  ·have hi':i=n:=by omega
   have qR:=Lib.hid hhi
   clear hhi
   obtain⟨a,HA⟩:∃ a:Nat,Hid (a=val (l.take i)):=⟨_,rfl⟩
   rw[←HA.out]
   subst hi'
   go_wp2_with fail
   go_ret2
   exact⟨0,0,fp.none (mW qR.out al),rfl,rfl⟩
theorem C1 (w:World) (B:Nat) (A:Option Addr) (n c:Nat) (l:List UInt8) (hb:Bytes w B A n l) (hnm:n≤maxLen) (hn:10<n) :
 Calls au 179 #[.slice A n c] w fun e w'=>∃ v k:Nat,fp l v k∧e=.returned (.tuple #[ae ah (v:Int),ae af (k:Int)])∧w=w':=by
 have hlen:=hb.len
 unfold maxLen at hnm
 go_enter Tryz.func179,Tryz.ntmps179
 go_wp2_with fail
 go_loopw [4,11] (fun av iv wr=>∃ i:Nat,i≤10∧iv=ae af i∧av=ae ah (val (l.take i):Int)∧Hi l i∧wr=w) (fun _ iv _=>10-(intOf iv).toNat)
 case atStart=>exact⟨0,by omega,rfl,rfl,fun j hj h=>by omega,rfl⟩
 case round=>
  obtain⟨i,hin,rfl,rfl,hhi,rfl⟩:=hrel
  by_cases hi:i<10
  ·obtain⟨ad,hil,rfl,hcell⟩:=hb.at_ (show i<n by omega)
   have hc:=l[i].toNat_lt
   obtain⟨x,HX⟩:∃ x:Nat,Hid (x=l[i].toNat):=⟨l[i].toNat,rfl⟩
   rw[←HX.out] at hcell hc
   have Kg:=mY x al
   obtain⟨p,xX⟩:∃ p:Nat,Hid (p=x % 128):=⟨_,rfl⟩
   have hp:p<128:=by have:=xX.out;omega
   rw[←xX.out] at Kg
   have hv:=gU l i hil
   rw[←HX.out,←xX.out] at hv
   have hvl:=kC l i
   obtain⟨a,HA⟩:∃ a:Nat,Hid (a=val (l.take i)):=⟨_,rfl⟩
   obtain⟨b,HB⟩:∃ b:Nat,Hid (b=val (l.take (i+1))):=⟨_,rfl⟩
   rw[←HA.out] at hv hvl
   rw[←HB.out] at hv
   rw[←HA.out]
   have qR:=Lib.hid hhi
   clear hhi
   by_cases hov:p*128 ^ i<18446744073709551616
   ·have ew:=vK p i hov
    obtain⟨q,HQ⟩:∃ q:Nat,Hid (q=p*128 ^ i):=⟨_,rfl⟩
    have ed:=vL p i
    rw[←HQ.out] at ew ed hv hov
    have eo:bits .or .u64 (a:Int) (q:Int)=(b:Int):=by
     rw[hv,HQ.out]
     exact C0 a p i hvl (by rw[←HQ.out];exact hov) (show i≤9 by omega) hp
    have hbl:b<18446744073709551616:=by
     have:=xW a p i hvl (by rw[←HQ.out];exact hov) (show i≤9 by omega)
     rw[←HQ.out] at this
     omega
    clear hv hvl
    by_cases hx:128≤x
    ·go_wp2_with fail
     go_roundw
     case rel=>exact⟨i+1,by omega,by go_num,by rw[HB.out],rU hil qR.out (by rw[←HX.out];exact hx),trivial⟩
     case measure=>simp[intOf];omega
    ·by_cases hz:x≤0∧0<i
     ·obtain⟨hz,h0⟩:=hz
      have hz':l[i]=0:=by
       have:=HX.out
       apply UInt8.toNat_inj.1
       rw[←this,show x=0 by omega];rfl
      go_wp2_with fail
      go_ret2
      exact⟨0,0,fp.none (kD hil qR.out hz' h0),rfl,rfl⟩
     ·have hG:fp l b (i+1):=by
       rw[HB.out]
       refine mX hil qR.out (by rw[←HX.out];omega) ?_ (by rw[←HB.out];exact hbl)
       by_cases h0:i=0
       ·exact .inr h0
       ·refine .inl fun e=>hz ⟨?_,by omega⟩
        have:x=0:=by rw[HX.out,e];rfl
        omega
      by_cases hx0:x≤0
      ·have hi0:i≤0:=by omega
       clear hz
       go_wp2_with fail
       go_ret2
       exact⟨b,i+1,hG,by push_cast;rfl,rfl⟩
      ·clear hz
       go_wp2_with fail
       go_ret2
       exact⟨b,i+1,hG,by push_cast;rfl,rfl⟩
   ·obtain⟨q,d,ew,ed,hd⟩:=rZ p i al al hp
    go_wp2_with fail
    go_ret2
    refine⟨0,0,fp.none (lH hil qR.out ?_),rfl,rfl⟩
    rw[←HX.out,←xX.out];omega
  ·have hi':i=10:=by omega
   have qR:=Lib.hid hhi
   clear hhi
   obtain⟨a,HA⟩:∃ a:Nat,Hid (a=val (l.take i)):=⟨_,rfl⟩
   rw[←HA.out]
   subst hi'
   go_wp2_with fail
   go_ret2
   exact⟨0,0,fp.none (mW qR.out al),rfl,rfl⟩
theorem EZ (w:World) (B:Nat) (A:Option Addr) (n c:Nat) (l:List UInt8) (hb:Bytes w B A n l) (hnm:n≤maxLen) (hn:n=10) :
 Calls au 179 #[.slice A n c] w fun e w'=>∃ v k:Nat,fp l v k∧e=.returned (.tuple #[ae ah (v:Int),ae af (k:Int)])∧w=w':=by
 have hlen:=hb.len
 subst hn
 clear hnm
 go_enter Tryz.func179,Tryz.ntmps179
 go_wp2_with fail
 go_loopw [4,11] (fun av iv wr=>∃ i:Nat,i≤10∧iv=ae af i∧av=ae ah (val (l.take i):Int)∧Hi l i∧wr=w) (fun _ iv _=>10-(intOf iv).toNat)
 case atStart=>exact⟨0,by omega,rfl,rfl,fun j hj h=>by omega,rfl⟩
 case round=>
  obtain⟨i,hin,rfl,rfl,hhi,rfl⟩:=hrel
  by_cases hi:i<10
  ·obtain⟨ad,hil,rfl,hcell⟩:=hb.at_ (show i<10 by omega)
   have hc:=l[i].toNat_lt
   obtain⟨x,HX⟩:∃ x:Nat,Hid (x=l[i].toNat):=⟨l[i].toNat,rfl⟩
   rw[←HX.out] at hcell hc
   have Kg:=mY x al
   obtain⟨p,xX⟩:∃ p:Nat,Hid (p=x % 128):=⟨_,rfl⟩
   have hp:p<128:=by have:=xX.out;omega
   rw[←xX.out] at Kg
   have hv:=gU l i hil
   rw[←HX.out,←xX.out] at hv
   have hvl:=kC l i
   obtain⟨a,HA⟩:∃ a:Nat,Hid (a=val (l.take i)):=⟨_,rfl⟩
   obtain⟨b,HB⟩:∃ b:Nat,Hid (b=val (l.take (i+1))):=⟨_,rfl⟩
   rw[←HA.out] at hv hvl
   rw[←HB.out] at hv
   rw[←HA.out]
   have qR:=Lib.hid hhi
   clear hhi
   by_cases hov:p*128 ^ i<18446744073709551616
   ·have ew:=vK p i hov
    obtain⟨q,HQ⟩:∃ q:Nat,Hid (q=p*128 ^ i):=⟨_,rfl⟩
    have ed:=vL p i
    rw[←HQ.out] at ew ed hv hov
    have eo:bits .or .u64 (a:Int) (q:Int)=(b:Int):=by
     rw[hv,HQ.out]
     exact C0 a p i hvl (by rw[←HQ.out];exact hov) (show i≤9 by omega) hp
    have hbl:b<18446744073709551616:=by
     have:=xW a p i hvl (by rw[←HQ.out];exact hov) (show i≤9 by omega)
     rw[←HQ.out] at this
     omega
    clear hv hvl
    by_cases hx:128≤x
    ·go_wp2_with fail
     go_roundw
     case rel=>exact⟨i+1,by omega,by go_num,by rw[HB.out],rU hil qR.out (by rw[←HX.out];exact hx),trivial⟩
     case measure=>simp[intOf];omega
    ·by_cases hz:x≤0∧0<i
     ·obtain⟨hz,h0⟩:=hz
      have hz':l[i]=0:=by
       have:=HX.out
       apply UInt8.toNat_inj.1
       rw[←this,show x=0 by omega];rfl
      go_wp2_with fail
      go_ret2
      exact⟨0,0,fp.none (kD hil qR.out hz' h0),rfl,rfl⟩
     ·have hG:fp l b (i+1):=by
       rw[HB.out]
       refine mX hil qR.out (by rw[←HX.out];omega) ?_ (by rw[←HB.out];exact hbl)
       by_cases h0:i=0
       ·exact .inr h0
       ·refine .inl fun e=>hz ⟨?_,by omega⟩
        have:x=0:=by rw[HX.out,e];rfl
        omega
      by_cases hx0:x≤0
      ·have hi0:i≤0:=by omega
       clear hz
       go_wp2_with fail
       go_ret2
       exact⟨b,i+1,hG,by push_cast;rfl,rfl⟩
      ·clear hz
       go_wp2_with fail
       go_ret2
       exact⟨b,i+1,hG,by push_cast;rfl,rfl⟩
   ·obtain⟨q,d,ew,ed,hd⟩:=rZ p i al al hp
    go_wp2_with fail
    go_ret2
    refine⟨0,0,fp.none (lH hil qR.out ?_),rfl,rfl⟩
    rw[←HX.out,←xX.out];omega
  ·have hi':i=10:=by omega
   have qR:=Lib.hid hhi
   clear hhi
   obtain⟨a,HA⟩:∃ a:Nat,Hid (a=val (l.take i)):=⟨_,rfl⟩
   rw[←HA.out]
   subst hi'
   go_wp2_with fail
   go_ret2
   exact⟨0,0,fp.none (mW qR.out al),rfl,rfl⟩
theorem m0 (w:World) (B:Nat) (A:Option Addr) (n c:Nat) (l:List UInt8) (hb:Bytes w B A n l) (hnm:n≤maxLen) :
 Calls au 179 #[.slice A n c] w fun e w'=>∃ v k:Nat,fp l v k∧e=.returned (.tuple #[ae ah (v:Int),ae af (k:Int)])∧w=w':=by
 by_cases h:n<10
 ·exact za w B A n c l hb hnm h
 ·by_cases h':10<n
  ·exact C1 w B A n c l hb hnm h'
  ·exact EZ w B A n c l hb hnm al
end Go.Proofs.YtmijcbfgfkeodaaGreatDoor.V
end
section
namespace Go.Hop
open Go.RowKit Go.Lib
theorem r_ (s:ByteArray):strCells s=gn s.data.toList:=by unfold strCells gn;rfl
section
variable {P:Program} {t e u:TypeId} {V:Nat→Prop}
theorem lJ (E:Elem P t e 1 1 (.int .u8 0)) (hu:P.underlying u=some .string) (w:World) (ty:Nat) (v:Value) (n:Nat) (xs:List Value) (hown:Own w V e 1 v n xs) (s:ByteArray)
 (hbytes:n+s.size≤140737488355328) :
 ∃ v' w',(Builtin.append_ #[t,u] ty #[v,.string s]).run P w=.ok v' w'∧Own w' (Ext V w w') e 1 v' (n+s.size) (xs++gn s.data.toList)∧Just V w w':=by
 obtain⟨i,hi,hz,hs,hb⟩:=E.info
 have hsrc:Src P i.size u (.string s) s.size (gn s.data.toList) w:=by rw[hs];exact Src.ofString w hu s
 have hxl:xs.length=n:=by have:=hown.1;omega
 have hnl:(gn s.data.toList).length=s.size:=by have:=hsrc.newsLen;rw[hs] at this;omega
 have grow:∀ (ao:Option Addr) (cap:Nat),v=.slice ao n cap→cap<n+s.size→(Builtin.firstCells i.size n (.slice ao n cap)).run P w.drew=.ok xs.toArray w.drew→
  ∃ v' w',(Builtin.append_ #[t,u] ty #[v,.string s]).run P w=.ok v' w'∧Own w' (Ext V w w') e 1 v' (n+s.size) (xs++gn s.data.toList)∧Just V w w':=by
  rintro ao cap rfl hg hold
  have h63:n+s.size≤maxLen:=by simp only[maxLen];omega
  have hrun:=run_append_grow_src (P:=P) w t u ty e i (.int .u8 0) E.und hi hz ao n cap xs hold (.string s) s.size (gn s.data.toList) hsrc hg al (growslice_fits hg (by rw[hb];omega))
  have hge:=grownCap_ge w (n+s.size) cap e
  have hcm:grownCap w (n+s.size) cap e≤maxLen:=grownCap_le_maxLen w (n+s.size) cap e h63
  refine⟨_,_,hrun,⟨by rw[aD];omega,.inr ⟨w.heap.size,_,_,rfl,.inr ⟨aC _,by simp⟩,heap_alloc_new w.drew _,hge,hcm,.inl ?_,?_⟩⟩,⟨rfl,rfl,rfl,by simp,fun k hk _=>heap_alloc_old w.drew _ hk⟩⟩
  ·have hz1:(Value.int IntKind.u8 0).cells.size=1:=rfl
   simp only[Array.size_append,bH,size_zeroCells,hz1,aD,hxl,hnl]
   omega
  ·have hl:(xs++gn s.data.toList).length=(n+s.size)*1:=by rw[aD];omega
   rw[Array.toList_append,List.toList_toArray,←hl]
   exact List.take_left
 by_cases hm:s.size=0
 ·have hn:gn s.data.toList=[]:=aJ al
  rw[hn,hm] at hsrc
  obtain⟨A,c,rfl,_,hnc,_⟩:=hown.reads
  refine⟨_,w,run_append_nothing (P:=P) w t u ty e i E.und hi A n c hnc (.string s) hsrc,?_,Just.bJ (Grow.refl w)⟩
  rw[hn,hm,bf]
  exact hown.mono fun b hb => .inl hb
 ·rcases hown.2 with ⟨hv,h0⟩|⟨g,cap,cur,hv,hV,hg,hnc,hcm,hsz,htk⟩
  ·subst h0
   obtain rfl:xs=[]:=aJ hxl
   exact grow none 0 hv al (run_firstCells_none (P:=P) w.drew i.size 0 0 0)
  ·by_cases hroom:n+s.size≤cap
   ·have hcs:cur.size=cap:=by
     rcases hsz with h|⟨h,_⟩
     ·omega
     ·omega
    have hr:=run_append_room_string (P:=P) w t u ty e i E.und hu hi hs g n cap cur hg s hroom al
    subst hv
    refine⟨_,_,hr,⟨by rw[aD];omega,.inr ⟨g,cap,_,rfl,.inl hV,setRow_heap w g cur _ e _ hg,hroom,hcm,.inl ?_,?_⟩⟩,⟨rfl,rfl,rfl,by simp,fun k _ hk=>setRow_other w g k _ (fun e=>hk (by rw[e];exact hV))⟩⟩
    ·simp only[bH,aD,aK,bh,bG,strCells_length]
     omega
    ·have ht':cur.toList.take n=xs:=by simpa using htk
     have hl:(xs++strCells s).length=(n+s.size)*1:=by rw[aD,hxl,strCells_length,bC]
     rw[List.toList_toArray,ht',←hl,r_]
     exact List.take_left
   ·refine grow (some ⟨g,0,none⟩) cap hv al ?_
    obtain⟨A',c',hv',hrd,_,_⟩:=hown.reads
    refine run_firstCells_some (P:=P) w.drew i.size n ⟨g,0,none⟩ n cap xs (by rw[hs];exact hown.1) fun j u' hu'=>?_
    have hn0:0<n:=by
     rcases bj n with h0|h0
     ·rw[aJ (show xs.length=0 by omega)] at hu';simp at hu'
     ·exact h0
    obtain⟨Jv,e',_,hc'⟩:=hrd.2 hn0
    rw[hv] at hv'
    injection hv' with hv'
    rw[←hv'] at e';injection e' with e'
    rw[e'];exact hc' j u' hu'
theorem p9 (E:Elem P t e 1 1 (.int .u8 0)) (hu:P.underlying u=some .string) (w:World) {ops:Array Oper} {rest:List Oper} {o:Oper} {a:Act} {Q:Exit→Act→World→Prop} (hw:Region.wanted o (yielded ops a.tmps)=true) (s x:Operand)
 (ho:o.op=.call { callee := .builtin .append,args:=#[s,x],argTypes:=#[t,u] })
 (v:Value) (n:Nat) (xs:List Value) (hs:a.eval s=v) (hown:Own w V e 1 v n xs)
 (str:ByteArray) (hx:a.eval x=.string str) (hbytes:n+str.size≤140737488355328)
 (h:∀ v' w',Own w' (Ext V w w') e 1 v' (n+str.size) (xs++gn str.data.toList)→Just V w w'→wpList P ops Q rest (a.put o.dst v') w') :
 wpList P ops Q (o :: rest) a w:=by
 obtain⟨v',w',hrun,h2,h3⟩:=lJ E hu w o.type v n xs hown str hbytes
 unfold wpList
 rw[if_pos hw]
 refine .inl ?_
 unfold Oper.wp execOp
 simp only[ho,resolve,invoke,builtin,Sem.run_bind,Sem.run_pure,Result.andThen_ok,List.map_toArray,bg,List.map_nil,hs,hx,hrun]
 exact h v' w' h2 h3
end
end Go.Hop
end
section
namespace Go.Proofs.YtmijcbfgfkeodaaGreatDoor.V
open Go.RowKit Go.Hop
theorem oV (w:World) (A:Option Addr) (n c:Nat) (l:List UInt8) (hb:Bytes w w.heap.size A n l) (hn:n≤1099511627776) (s:ByteArray) (hs:s.size≤1099511627776) :
 Calls au 221 #[.slice A n c,.string s] w fun e w'=>∃ v,e=.returned v∧Own w' (New w w') 5 1 v (n+(enc s.size).length+s.size) (gn (l++enc s.size++s.data.toList))∧Grow w w':=by
 have hlen:=cZ (n:=s.size) al
 have HLen:=Lib.hid hlen
 clear hlen
 go_enter Tryz.func221,Tryz.ntmps221
 go_wp2_with (first
  | (go_at_call 219;refine (rX _ A n c l hb hn s.size al).mono ?_;rintro e w1 ⟨v1,rfl,fW,hg1⟩)
  | (at_builtin;refine stay ?_))
 refine bV ?_
 refine p9 z8 Tryz.underlying9 _ rfl (.tmp 9) (.tmp 10) rfl v1 _ _ rfl fW s rfl (by have:=HLen.out;omega) ?_
 intro v2 w2 hO2 hj2
 rw[←ff] at hO2
 obtain⟨hO2,hg2⟩:=tC hg1 hO2 hj2
 clear hj2 fW
 go_wp2_with (go_at_call 163;refine (tD _ _ _ _ _ hO2).mono ?_;rintro e w4 ⟨v4,rfl,rfl,hO4⟩)
 go_ret
 exact⟨v4,rfl,hO4,hg2⟩
def lr (l t:List UInt8) (k:Nat):Prop:=(t.length<18446744073709551616∧enc t.length++t <+: l∧k=(enc t.length).length+t.length)∨((∀ t':List UInt8,t'.length<18446744073709551616→¬ (enc t'.length++t') <+: l)∧t=[]∧k=0)
theorem lr.none {l:List UInt8} (h:∀ t':List UInt8,t'.length<18446744073709551616→¬ (enc t'.length++t') <+: l):lr l [] 0 := .inr ⟨h,rfl,rfl⟩
theorem vM {t t' l:List UInt8} (h1:enc t.length++t <+: l) (h2:enc t'.length++t' <+: l):t=t':=by
 have he:=fX ((br _ _).trans h1) ((br _ _).trans h2)
 rw[←he] at h2
 obtain⟨r,rfl⟩:=h1
 rw[aM] at h2
 have h3:=(List.prefix_append_right_inj _).1 h2
 have h4:t <+: t++r:=br _ _
 exact List.IsPrefix.eq_of_length (List.prefix_of_prefix_length_le h4 h3 al) he
theorem lr.one {l t t':List UInt8} {k k':Nat} (h:lr l t k) (h':lr l t' k'):t=t'∧k=k':=by
 rcases h with ⟨h1,h2,h3⟩|⟨h1,h2,h3⟩<;>rcases h' with ⟨g1,g2,g3⟩|⟨g1,g2,g3⟩
 ·have:=vM h2 g2
  subst this
  exact⟨rfl,by omega⟩
 ·exact absurd h2 (g1 _ h1)
 ·exact absurd g2 (h1 _ g1)
 ·exact⟨by rw[h2,g2],by omega⟩
theorem C2 {l:List UInt8} {v k:Nat} (hv:v<18446744073709551616) (hE:enc v <+: l) (hk:k=(enc v).length) (hl:v≤l.length-k):lr l ((l.drop k).take v) (k+v):=by
 obtain⟨r,rfl⟩:=hE
 subst hk
 rw[List.drop_left']
 ·rw[aD,Nat.add_sub_cancel_left] at hl
  have hlen:(r.take v).length=v:=by rw[aK];omega
  refine .inl ⟨by rw[hlen];exact hv,?_,by rw[hlen]⟩
  rw[hlen]
  exact (List.prefix_append_right_inj _).2 (List.take_prefix _ _)
 ·rfl
end Go.Proofs.YtmijcbfgfkeodaaGreatDoor.V
end
section
namespace Go.Proofs.YtmijcbfgfkeodaaGreatDoor.Vc
open Go.RowKit Go.Hop V
theorem og (w:World) (B:Nat) (A:Option Addr) (n c:Nat) (l:List UInt8) (hb:Bytes w B A n l) (HB0:B≤w.heap.size) (hnc:n≤c) (hnm:c≤maxLen) :
 Calls au 235 #[.slice A n c] w fun e w'=>∃ (t:List UInt8) (k:Nat),lr l t k∧e=.returned (.tuple #[.string ⟨t.toArray⟩,ae af (k:Int)])∧Grow w w':=by
 have hlen:=hb.len
 unfold maxLen at hnm
 go_enter Tryz.func235,Tryz.ntmps235
 go_wp2_with fail
 go_at_call 179
 refine (m0 w B A n c l hb (by unfold maxLen;omega)).mono ?_
 rintro e w1 ⟨v,k,hG,rfl,rfl⟩
 obtain⟨hv,hk10,hkl⟩:=hG.lt
 by_cases hk:k≤0
 ·go_wp2_with fail
  go_ret2
  exact⟨[],0,lr.none (fun t ht hp=>by
   rcases hG with ⟨_,_,h3⟩|⟨h1,_,_⟩
   ·have:=m8 v;omega
   ·exact h1 _ ht ((br _ _).trans hp)),rfl,Grow.refl _⟩
 ·have hE:enc v <+: l∧k=(enc v).length:=by
   rcases hG with ⟨_,h2,h3⟩|⟨_,_,h3⟩
   ·exact⟨h2,h3⟩
   ·omega
  obtain⟨hE,OX⟩:=hE
  have OY:=Lib.hid OX
  clear OX
  have hgr:(n:Int)-(k:Int)<(v:Int)∨(v:Int)≤(n:Int)-(k:Int):=by omega
  have hwn:IntKind.u64.wrap ((n:Int)-(k:Int))=(n:Int)-(k:Int):=by rw[wrap_u64];omega
  have hw64:wrap64 ((n:Int)-(k:Int))=(n:Int)-(k:Int):=by unfold wrap64;omega
  have hkb:((k:Int) == 0)=false:=by rw[beq_eq_false_iff_ne];omega
  by_cases hvn:(n:Int)-(k:Int)<(v:Int)
  ·clear hgr
   go_wp2_with fail
   go_ret2
   exact⟨[],0,lr.none (fun t ht hp=>by
    have h1:=fX hE ((br _ _).trans hp)
    have h2:=hp.length_le
    rw[aD,←h1,←OY.out] at h2
    omega),rfl,Grow.refl _⟩
  ·clear hgr
   have hvn':(v:Int)≤(n:Int)-(k:Int):=by omega
   have hwv:IntKind.i64.wrap (v:Int)=(v:Int):=by rw[IntKind.wrap_i64];omega
   have hR:=(Reads.cut hb (k:=k) (cap:=c) al hnc).take (k:=v) al
   rw[bC] at hR
   have hR':Bytes w B (if c=k then A else A.map (·.add k)) v ((l.drop k).take v):=by
    unfold Bytes;rw[oZ,ma,bC k];exact hR
   have hkv:(k:Int)+(v:Int)≤(c:Int):=by omega
   have hfin:=C2 hv hE OY.out (show v≤l.length-k by omega)
   by_cases hck:c=k
   ·rw[if_pos hck] at hR'
    obtain rfl:k=c:=hck.symm
    obtain rfl:v=0:=by omega
    have hR':Bytes w B A 0 []:=hR'
    have cv:=fun c'=>o_ w (c:=c') hR'
    go_wp2_with fail
    go_ret2
    exact⟨_,_,hfin,by push_cast;rfl,Grow.refl _⟩
   ·rw[if_neg hck] at hR'
    have cv:=fun c'=>o_ w (c:=c') hR'
    go_wp2_with fail
    go_ret2
    exact⟨_,_,hfin,by push_cast;rfl,Grow.refl _⟩
end Go.Proofs.YtmijcbfgfkeodaaGreatDoor.Vc
end
section
namespace Go.Hop
open Go.RowKit
def Sep (S R:cg):cg:=fun w V=>∃ V1 V2:Nat→Prop,S w V1∧R w V2∧(∀ b,V1 b→V b)∧(∀ b,V2 b→V b)∧∀ b,V1 b→¬ V2 b
def cW:cg:=fun _ _=>True
def Many:List cg→cg
 | []=>cW
 | S :: l=>Sep S (Many l)
def Cell (x:Nat) (t:TypeId) (cs:Array Value):cg:=fun w V=>V x∧ct w x t cs
def bM (l:List cg):Prop:=∀ S∈l,Framed S
section
variable {S S' R R':cg} {l l':List cg} {w w':World} {V V':Nat→Prop}
theorem Cell.framed (x:Nat) (t:TypeId) (cs:Array Value):Framed (Cell x t cs):=fun _ _ _ h hk=>⟨h.1,(hk x h.1).trans h.2⟩
theorem cW.framed:Framed cW:=fun _ _ _ _ _=>trivial
theorem Sep.framed (h1:Framed S) (h2:Framed R):Framed (Sep S R):=fun w w' V ⟨V1,V2,a,b,c,d,e⟩ hk=>⟨V1,V2,h1 w w' V1 a fun x hx=>hk x (c x hx),h2 w w' V2 b fun x hx=>hk x (d x hx),c,d,e⟩
theorem Many.framed:∀ (l:List cg),bM l→Framed (Many l)
 | [],_=>cW.framed
 | S :: l,h=>Sep.framed (h S (by simp)) (Many.framed l fun R hR=>h R (by simp[hR]))
theorem bM.nil:bM []:=fun S h=>by simp at h
theorem bM.cons (h:Framed S) (hl:bM l):bM (S :: l):=fun R hR=>by
 rcases List.mem_cons.1 hR with rfl|hR
 ·exact h
 ·exact hl R hR
theorem Sep.wide (h:Sep S R w V) (hV:∀ b,V b→V' b):Sep S R w V':=by
 obtain⟨V1,V2,a,b,c,d,e⟩:=h
 exact⟨V1,V2,a,b,fun x hx=>hV x (c x hx),fun x hx=>hV x (d x hx),e⟩
theorem Sep.swap (h:Sep S R w V):Sep R S w V:=by
 obtain⟨V1,V2,a,b,c,d,e⟩:=h
 exact⟨V2,V1,b,a,d,c,fun x h2 h1=>e x h1 h2⟩
theorem Sep.assoc {Q:cg} (h:Sep (Sep S R) Q w V):Sep S (Sep R Q) w V:=by
 obtain⟨V1,V2,⟨U1,U2,a,b,c,d,e⟩,q,f,g,i⟩:=h
 exact⟨U1,fun x=>U2 x∨V2 x,a,⟨U2,V2,b,q,fun x hx => .inl hx,fun x hx => .inr hx,fun x hx=>i x (d x hx)⟩,fun x hx=>f x (c x hx),fun x hx=>hx.elim (fun hx=>f x (d x hx)) (g x),fun x hx hy=>hy.elim (e x hx) (i x (c x hx))⟩
theorem Sep.vN {Q:cg} (h:Sep S (Sep R Q) w V):Sep (Sep S R) Q w V:=by
 have h1:=h.swap
 have h2:Sep R (Sep Q S) w V:=Sep.assoc h1
 have h3:Sep Q (Sep S R) w V:=Sep.assoc h2.swap
 exact h3.swap
theorem Sep.imp (h:Sep S R w V) (hS:∀ U,S w U→S' w U) (hR:∀ U,R w U→R' w U):Sep S' R' w V:=by
 obtain⟨V1,V2,a,b,c,d,e⟩:=h
 exact⟨V1,V2,hS _ a,hR _ b,c,d,e⟩
theorem Sep.fst (h:Sep S R w V):∃ U:Nat→Prop,S w U∧∀ b,U b→V b:=by
 obtain⟨V1,V2,a,b,c,d,e⟩:=h
 exact⟨V1,a,c⟩
theorem Sep.snd (h:Sep S R w V):∃ U:Nat→Prop,R w U∧∀ b,U b→V b:=h.swap.fst
theorem Many.perm (hp:l.Perm l'):∀ {V:Nat→Prop},Many l w V→Many l' w V:=by
 induction hp with
 | nil=>exact fun h=>h
 | cons S _ ih=>intro V h;obtain⟨V1,V2,a,b,c,d,e⟩:=h;exact⟨V1,V2,a,ih b,c,d,e⟩
 | swap S R l=>
   intro V h
   have h1:Sep (Sep R S) (Many l) w V:=Sep.vN h
   exact Sep.assoc (h1.imp (fun U hU=>hU.swap) (fun U hU=>hU))
 | trans _ _ ih1 ih2=>exact fun h=>ih2 (ih1 h)
theorem Many.app:∀ (l:List cg) {l':List cg} {V:Nat→Prop},Many (l++l') w V→Sep (Many l) (Many l') w V
 | [],l',V,h=>⟨fun _=>False,V,trivial,h,fun _ h=>h.elim,fun _ h=>h,fun _ h _=>h⟩
 | S :: l,l',V,h=>Sep.vN (S:=S) (R:=Many l) (by
     obtain⟨V1,V2,a,b,c,d,e⟩:=h
     exact⟨V1,V2,a,Many.app l b,c,d,e⟩)
theorem Many.flat:∀ (l:List cg) {l':List cg} {V:Nat→Prop},Sep (Many l) (Many l') w V→Many (l++l') w V
 | [],l',V,h=>by
   obtain⟨V1,V2,_,b,_,d,_⟩:=h
   cases l' with
   | nil=>trivial
   | cons S l'=>exact Sep.wide b d
 | S :: l,l',V,h=>by
   obtain⟨V1,V2,a,b,c,d,e⟩:=Sep.assoc (S:=S) (R:=Many l) h
   exact⟨V1,V2,a,Many.flat l b,c,d,e⟩
theorem Many.pick:∀ (l:List cg) (i:Nat) (S:cg),l[i]?=some S→∀ {V:Nat→Prop},Many l w V→Sep S (Many (l.eraseIdx i)) w V
 | S :: l,0,S',h,V,hM=>by cases h;exact hM
 | S :: l,i+1,S',h,V,hM=>by
   obtain⟨V1,V2,a,b,c,d,e⟩:=hM
   have hp:=Many.pick l i S' (by simpa using h) b
   have h1:Sep (Sep S' (Many (l.eraseIdx i))) S w V:=⟨V2,V1,hp,a,d,c,fun x h2 h1=>e x h1 h2⟩
   exact (Sep.assoc h1).imp (fun U hU=>hU) (fun U hU=>hU.swap)
theorem Many.i4:∀ (l:List cg) (i:Nat) (S S':cg),l[i]?=some S→∀ {V:Nat→Prop},Sep S' (Many (l.eraseIdx i)) w V→Many (l.set i S') w V
 | S :: l,0,_,S',_,V,hM=>hM
 | S :: l,i+1,S0,S',h,V,hM=>by
   have h1:Sep S' (Sep S (Many (l.eraseIdx i))) w V:=hM
   have h2:Sep S (Sep S' (Many (l.eraseIdx i))) w V:=Sep.assoc ((Sep.vN h1).imp (fun U hU=>hU.swap) (fun U hU=>hU))
   exact h2.imp (fun U hU=>hU) (fun U hU=>Many.i4 l i S0 S' (by simpa using h) hU)
end
def C3 {ι:Type} (Pr:Program) (f:FuncId) (args:Array Value) (C:ι→Ending→Prop) (S:cg) (S':ι→cg) (w:World):Prop:=
 ∀ V:Nat→Prop,S w V→(∀ b,V b→b<w.heap.size)→Calls Pr f args w fun e w'=>∃ i,C i e∧S' i w' (Ext V w w')∧Just V w w'
section
variable {Pr:Program} {f:FuncId} {args:Array Value} {C:Ending→Prop} {S S' R R':cg} {l l':List cg} {w w':World} {P V:Nat→Prop}
theorem pa (h:Sep S R w V) (hR:Framed R) (hV:∀ b,V b→b<w.heap.size) (hc:∀ U:Nat→Prop,S w U→(∀ b,U b→b<w.heap.size)→(∀ b,U b→V b)→Calls Pr f args w fun e w'=>C e∧S' w' (Ext U w w')∧Just U w w') :
 Calls Pr f args w fun e w'=>C e∧Sep S' R w' (Ext V w w')∧Just V w w':=by
 obtain⟨V1,V2,a,b,c,d,e⟩:=h
 refine (hc V1 a (fun x hx=>hV x (c x hx)) c).mono fun en w' ⟨he,hs,hj⟩=>⟨he,⟨Ext V1 w w',V2,hs,hR w w' V2 b fun x hx=>hj.block x (hV x (d x hx)) (fun h1=>e x h1 hx),fun x hx=>?_,fun x hx => .inl (d x hx),fun x hx h2=>?_⟩,hj.imp fun x hx=>c x hx⟩
 ·rcases hx with hx|hx
  ·exact .inl (c x hx)
  ·exact .inr hx
 ·rcases hx with hx|hx
  ·exact e x hx h2
  ·have:=hV x (d x h2);have:=hx.1;omega
theorem tF {ι:Type} {C:ι→Ending→Prop} {S':ι→cg} (h:Sep S R w V) (hR:Framed R) (hV:∀ b,V b→b<w.heap.size) (hc:C3 Pr f args C S S' w) :
 Calls Pr f args w fun e w'=>∃ i,C i e∧Sep (S' i) R w' (Ext V w w')∧Just V w w':=by
 obtain⟨V1,V2,a,b,c,d,e⟩:=h
 refine (hc V1 a (fun x hx=>hV x (c x hx))).mono fun en w' ⟨i,he,hs,hj⟩=>⟨i,he,⟨Ext V1 w w',V2,hs,hR w w' V2 b fun x hx=>hj.block x (hV x (d x hx)) (fun h1=>e x h1 hx),fun x hx=>?_,fun x hx => .inl (d x hx),fun x hx h2=>?_⟩,hj.imp fun x hx=>c x hx⟩
 ·rcases hx with hx|hx
  ·exact .inl (c x hx)
  ·exact .inr hx
 ·rcases hx with hx|hx
  ·exact e x hx h2
  ·have:=hV x (d x h2);have:=hx.1;omega
theorem Solo.at_ (i:Nat) (hi:l[i]?=some S) (hF:bM l) (h:Solo P (Many l) w) (hc:Turns Pr f args C S S' w):Calls Pr f args w fun e w'=>C e∧Just P w w'∧Solo P (Many (l.set i S')) w':=by
 refine Solo.call h fun V hM hV=>?_
 exact (pa (Many.pick l i S hi hM) (Many.framed _ fun R hR=>hF R (bo hR)) hV fun U hU oi _=>hc U hU oi).mono fun e w' ⟨a,b,c⟩=>⟨a,Many.i4 l i S S' hi b,c⟩
theorem Solo.Qo {ι:Type} {C:ι→Ending→Prop} {S':ι→cg} (i:Nat) (hi:l[i]?=some S) (hF:bM l) (h:Solo P (Many l) w) (hc:C3 Pr f args C S S' w):Calls Pr f args w fun e w'=>∃ k,C k e∧Just P w w'∧Solo P (Many (l.set i (S' k))) w':=by
 refine Solo.Ka h fun V hM hV=>?_
 exact (tF (Many.pick l i S hi hM) (Many.framed _ fun R hR=>hF R (bo hR)) hV hc).mono fun e w' ⟨k,a,b,c⟩=>⟨k,a,Many.i4 l i S (S' k) hi b,c⟩
theorem Solo.see (i:Nat) (hi:l[i]?=some S) (h:Solo P (Many l) w):∃ U:Nat→Prop,S w U∧∀ b,U b→P b∧b<w.heap.size:=by
 obtain⟨_,V,hM,hV⟩:=h
 obtain⟨U,hU,hs⟩:=(Many.pick l i S hi hM).fst
 exact⟨U,hU,fun b hb=>hV b (hs b hb)⟩
theorem Solo.grows (h:Solo P (Many l) w) (hF:bM l) (hg:Grow w w'):Solo P (Many l) w':=h.grow (Many.framed l hF) hg
def cB (V:Nat→Prop) (w:World) (b:Nat):Prop:=V b∨w.heap.size≤b
theorem Solo.begin_ (h:S w V) (hV:∀ b,V b→b<w.heap.size):Solo (cB V w) S w:=⟨fun _ hb => .inr hb,V,h,fun b hb=>⟨.inl hb,hV b hb⟩⟩
theorem Solo.end_ (hW:∀ (U U':Nat→Prop),(∀ b,U b→U' b)→S w' U→S w' U') (h:Solo (cB V w) S w') (hj:Just (cB V w) w w') (hV:∀ b,V b→b<w.heap.size):S w' (Ext V w w')∧Just V w w':=by
 obtain⟨_,U,hS,hU⟩:=h
 refine⟨hW U _ (fun b hb=>?_) hS,⟨hj.os,hj.tape,hj.output,hj.size,fun b hb hv=>hj.block b hb fun hl=>?_⟩⟩
 ·obtain⟨h1,h2⟩:=hU b hb
  rcases h1 with h1|h1
  ·exact .inl h1
  ·exact .inr ⟨h1,h2⟩
 ·rcases hl with hl|hl
  ·exact hv hl
  ·omega
def E_ (S:cg):Prop:=∀ (w:World) (U U':Nat→Prop),(∀ b,U b→U' b)→S w U→S w U'
theorem Many.wide (l:List cg):E_ (Many l):=fun w U U' h hs=>by
 cases l with
 | nil=>trivial
 | cons S l=>exact Sep.wide hs h
theorem Solo.done (h:Solo (cB V w) (Many l) w') (hj:Just (cB V w) w w') (hV:∀ b,V b→b<w.heap.size):Many l w' (Ext V w w')∧Just V w w':=h.end_ (fun U U' hu=>Many.wide l w' U U' hu) hj hV
theorem Solo.blk {x:Nat} {t:TypeId} {cs:Array Value} (i:Nat) (hi:l[i]?=some (Cell x t cs)) (h:Solo P (Many l) w):ct w x t cs:=by
 obtain⟨U,hU,_⟩:=h.see i hi
 exact hU.2
theorem Solo.ig {x:Nat} {t:TypeId} {cs:Array Value} (i:Nat) (hi:l[i]?=some (Cell x t cs)) (h:Solo P (Many l) w):P x∧x<w.heap.size:=by
 obtain⟨U,hU,h2⟩:=h.see i hi
 exact h2 x hU.1
theorem Solo.turned {x:Nat} {t:TypeId} {cs cs':Array Value} (i:Nat) (hi:l[i]?=some (Cell x t cs)) (hF:bM l) (h:Solo P (Many l) w) (hj:Just (fun b=>b=x) w w') (hB:ct w' x t cs'):Solo P (Many (l.set i (Cell x t cs'))) w':=by
 obtain⟨h0,V,hM,hV⟩:=h
 obtain⟨V1,V2,a,b,c,d,e⟩:=Many.pick l i _ hi hM
 refine⟨fun y hy=>h0 y (aH hj.size hy),V,Many.i4 l i (Cell x t cs) _ hi ⟨V1,V2,⟨a.1,hB⟩,?_,c,d,e⟩,fun y hy=>⟨(hV y hy).1,aA (hV y hy).2 hj.size⟩⟩
 exact Many.framed _ (fun R hR=>hF R (bo hR)) w w' V2 b fun y hy=>hj.block y (hV y (d y hy)).2 fun hxy=>e x a.1 (by rw[←hxy];exact hy)
theorem Solo.puts {x:Nat} {t:TypeId} {cs:Array Value} (i:Nat) (hi:l[i]?=some (Cell x t cs)) (hF:bM l) (h:Solo P (Many l) w) (k:Nat) (u:Value):Solo P (Many (l.set i (Cell x t (cs.setIfInBounds k u)))) (w.setCell ⟨x,k,none⟩ u):=
 h.turned i hi hF (fh w x k u) ((h.blk i hi).put k u)
theorem Solo.join {R:cg} (h:Solo P (Many l) w) (hF:bM l) (hg:Grow w w') {U:Nat→Prop} (hR:R w' U) (hU:∀ b,U b→w.heap.size≤b∧b<w'.heap.size):Solo P (Many (R :: l)) w':=by
 obtain⟨h0,V,hM,hV⟩:=h
 refine⟨fun b hb=>h0 b (aH hg.size hb),fun b=>V b∨U b,⟨U,V,hR,Many.framed l hF w w' V hM fun b hb=>hg.block b (hV b hb).2,fun b hb => .inr hb,fun b hb => .inl hb,fun b hb hv=>?_⟩,fun b hb=>?_⟩
 ·have:=(hV b hv).2;have:=(hU b hb).1;omega
 ·rcases hb with hb|hb
  ·exact⟨(hV b hb).1,aA (hV b hb).2 hg.size⟩
  ·exact⟨h0 b (hU b hb).1,(hU b hb).2⟩
theorem Solo.perm (hp:l.Perm l') (h:Solo P (Many l) w):Solo P (Many l') w:=h.turn fun _ hV=>Many.perm hp hV
theorem Solo.drop1 (h:Solo P (Many (S :: l)) w):Solo P (Many l) w:=h.turn fun V hV=>by
 obtain⟨U,hU,hs⟩:=Sep.snd hV
 exact Many.wide l w U V hs hU
theorem Solo.flat (h:Solo P (Many (Many l :: l')) w):Solo P (Many (l++l')) w:=h.turn fun _ hV=>Many.flat l hV
theorem Solo.eG (h:Solo P (Many (l++l')) w):Solo P (Many (Many l :: l')) w:=h.turn fun _ hV=>Many.app l hV
theorem Solo.map (i:Nat) (hi:l[i]?=some S) (h:Solo P (Many l) w) (hS:∀ U,S w U→S' w U):Solo P (Many (l.set i S')) w:=h.turn fun _ hV=>Many.i4 l i S S' hi ((Many.pick l i S hi hV).imp hS fun _ h=>h)
end
end Go.Hop
end
