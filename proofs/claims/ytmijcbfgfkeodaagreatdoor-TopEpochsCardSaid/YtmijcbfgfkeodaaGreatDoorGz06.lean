/- Bts, Vput, Vget, Str, Vref, Vrget, Vcut, Vcut2. -/
import Derived.Lib.SlBytesConst
import Derived.Test.YtmijcbfgfkeodaaGreatDoorGz05
import Derived.Lib.AppendStr
set_option linter.all false
set_option maxRecDepth 100000
section
namespace Go.Proofs.YtmijcbfgfkeodaaGreatDoor.V
open Go.RowKit Go.Hop
theorem u8_info:(Tryz.prog.info? 5).map (fun i=>(i.zero,i.size,i.bytes))=some (some (.int .u8 0),1,1):=by kernel_rfl
theorem info_parts {e size bytes:Nat} {z:Value} (h:(Tryz.prog.info? e).map (fun i=>(i.zero,i.size,i.bytes))=some (some z,size,bytes)):∃ i,Tryz.prog.info? e=some i∧i.zero=some z∧i.size=size∧i.bytes=bytes:=by
 cases hi:Tryz.prog.info? e with
 | none=>rw[hi] at h;cases h
 | some i=>rw[hi] at h;injection h with h;injection h with h1 h2;injection h2 with h2 h3;exact⟨i,rfl,h1,h2,h3⟩
theorem u8E:Elem Tryz.prog 65 5 1 1 (.int .u8 0):=⟨Tryz.underlying65,info_parts u8_info,rfl,by decide,by decide⟩
def New (w w':World) (b:Nat):Prop:=w.heap.size≤b∧b<w'.heap.size
theorem u8s_take (l:List UInt8) (k:Nat):u8s (l.take k)=(u8s l).take (k*1):=by unfold u8s;rw[List.map_take,Nat.mul_one]
theorem u8s_drop (l:List UInt8) (k:Nat):u8s (l.drop k)=(u8s l).drop (k*1):=by unfold u8s;rw[List.map_drop,Nat.mul_one]
theorem conv_is (w:World) {u:Value} {l:List UInt8} (h:IsBytes l u w):(convert 65 9 u).run Tryz.prog w=.ok (.string ⟨l.toArray⟩) w:=run_conv_is 65 9 5 Tryz.underlying65 Tryz.underlying5 Tryz.underlying9 w h
theorem conv_bytes (w:World) {B:Nat} {A:Option Addr} {n c:Nat} {l:List UInt8} (h:Bytes w B A n l):(convert 65 9 (.slice A n c)).run Tryz.prog w=.ok (.string ⟨l.toArray⟩) w:=run_conv_bytes 65 9 5 Tryz.underlying65 Tryz.underlying5 Tryz.underlying9 w h
theorem made_own (w:World):Own (w.alloc (.cells #[] 5)) (fun b=>b=w.heap.size) 5 1 (.slice (some ⟨w.heap.size,0,none⟩) 0 0) 0 []:=
 Own.of_row (World.ownsRow_made w #[] 0 (Nat.le_refl _) (by decide) rfl) (fun g hg=>by injection hg with hg;exact hg.symm)
theorem own_new {w w1:World} {v:Value} {n:Nat} {xs:List Value} (hO:Own w1 (Ext (fun b=>b=w.heap.size) (w.alloc (.cells #[] 5)) w1) 5 1 v n xs) (hj:Just (fun b=>b=w.heap.size) (w.alloc (.cells #[] 5)) w1):Own w1 (New w w1) 5 1 v n xs∧Grow w w1:=by
 have hs:w.heap.size<w1.heap.size:=by have:=hj.size;simp at this;omega
 refine⟨hO.mono (fun b hb=>?_),((Below.refl w.heap.size w).alloc (Nat.le_refl _) (.cells #[] 5)).trans (hj.below (B:=w.heap.size) (fun b hb=>by rw[hb];exact Nat.le_refl _) (by simp))⟩
 rcases hb with rfl|⟨h1,h2⟩
 ·exact⟨Nat.le_refl _,hs⟩
 ·simp at h1;exact⟨by omega,h2⟩
theorem own_more {w w1 w2:World} {e size n:Nat} {v:Value} {xs:List Value} (hg:Grow w w1) (hO:Own w2 (Ext (New w w1) w1 w2) e size v n xs) (hj:Just (New w w1) w1 w2):Own w2 (New w w2) e size v n xs∧Grow w w2:=by
 have h1:=hg.size
 have h2:=hj.size
 refine⟨hO.mono fun b hb=>?_,Below.trans hg (hj.below (B:=w.heap.size) (fun b hb=>hb.1) h1)⟩
 rcases hb with hb|hb
 ·exact⟨hb.1,by have:=hb.2;omega⟩
 ·exact⟨by have:=hb.1;omega,hb.2⟩
theorem own_more1 {w w1 w2:World} {e size n:Nat} {v:Value} {xs:List Value} {o:Obj} (hg:Grow w w1) (hO:Own w2 (Ext (New w w1) (w1.alloc o) w2) e size v n xs) (hj:Just (New w w1) (w1.alloc o) w2):Own w2 (New w w2) e size v n xs∧Grow w w2:=by
 have h1:=hg.size
 have h2:=hj.size
 simp at h2
 refine⟨hO.mono fun b hb=>?_,Below.trans hg (Below.trans ((Below.refl w1.heap.size w1).alloc (Nat.le_refl _) o |>.mono h1) (hj.below (B:=w.heap.size) (fun b hb=>hb.1) (by simp;omega)))⟩
 rcases hb with hb|hb
 ·exact⟨hb.1,by have:=hb.2;omega⟩
 ·have:=hb.1;simp at this;exact⟨by omega,hb.2⟩
theorem own_alloc {w w1:World} {e size n:Nat} {v:Value} {xs:List Value} (hO:Own w1 (New w w1) e size v n xs) (o:Obj):Own (w1.alloc o) (New w w1) e size v n xs:=
 hO.grow (fun b hb=>hb.2) ((Below.refl w1.heap.size w1).alloc (Nat.le_refl _) o)
theorem clone_any (w:World) (A:Option Addr) (n c:Nat) (l:List UInt8) (h:Bytes w w.heap.size A n l) (hn:n≤140737488355328) :
 Calls Tryz.prog 180 #[.slice A n c] w fun e w'=>∃ v,e=.returned v∧Own w' (New w w') 5 1 v n (u8s l)∧Grow w w':=by
 have hnil:=fun (w':World)=>Lib.run_eql_slice_nil (P:=Tryz.prog) w' 65 5 A n c 0 0 Tryz.underlying65
 cases A with
 | none=>
   have hn0:n=0:=by
    rcases Nat.eq_zero_or_pos n with h0|h0
    ·exact h0
    ·obtain⟨_,e,_⟩:=h.2 h0;cases e
   subst hn0
   obtain rfl:l=[]:=List.eq_nil_of_length_eq_zero h.len
   go_enter Tryz.func180,Tryz.ntmps180
   go_wp2_with fail
   go_ret
   exact⟨_,rfl,Own.nil,Grow.refl _⟩
 | some ad=>
   go_enter Tryz.func180,Tryz.ntmps180
   go_wp2_with (at_builtin;refine stay ?_)
   refine stay_out ?_
   refine wpList_own (V:=fun b=>b=w.heap.size) u8E _ rfl (.tmp 5) (.tmp 6) rfl (.slice (some ⟨w.heap.size,0,none⟩) 0 0) 0 [] rfl (made_own w) w.heap.size (some ad) n c (u8s l) rfl (Reads.alloc h (Nat.le_refl _) _) u8s_one (by omega) ?_
   intro v1 w1 hO1 hj1
   simp only[Nat.zero_add,List.nil_append] at hO1
   obtain⟨hO1,hg1⟩:=own_new hO1 hj1
   go_wp2_with fail
   go_ret
   exact⟨v1,rfl,hO1,hg1⟩
theorem clip_any (w:World) (A:Option Addr) (n c:Nat) (hn:n≤c) :
 Calls Tryz.prog 163 #[.slice A n c] w fun e w'=>e=.returned (.slice A n n)∧w=w':=by
 go_enter Tryz.func163,Tryz.ntmps163
 go_wp2_with fail
 go_ret
 exact⟨rfl,rfl⟩
theorem clip_own (w:World) (V:Nat→Prop) (v:Value) (n:Nat) (l:List UInt8) (h:Own w V 5 1 v n (u8s l)) :
 Calls Tryz.prog 163 #[v] w fun e w'=>∃ v',e=.returned v'∧w=w'∧Own w V 5 1 v' n (u8s l):=by
 obtain⟨A,c,rfl,hR,hn,hm⟩:=h.reads
 refine (clip_any w A n c hn).mono fun e w' ⟨he,hw⟩=>⟨_,he,hw,?_⟩
 have:=h.cut (Nat.le_refl n)
 rwa [List.take_of_length_le (by rw[h.1];omega)] at this
theorem or128_small:∀ x:Nat,x<256→bits .or .u8 (x:Int) 128=((x % 128+128:Nat):Int):=by decide +kernel
theorem or128 (m:Nat):bits .or .u8 ((m:Int) % 256) 128=((m % 128+128:Nat):Int):=by
 have:=or128_small (m % 256) (by omega)
 rw[show ((m % 256:Nat):Int)=(m:Int) % 256 by omega] at this
 rw[this]
 omega
theorem _root_.Go.Hop.Reads.cells_eq {w:World} {B size n:Nat} {A:Option Addr} {xs ys:List Value} (h:Reads w B size A n xs) (e:ys=xs):Reads w B size A n ys:=e▸h
theorem Put_any (w:World) (A:Option Addr) (n c:Nat) (l:List UInt8) (hb:Bytes w w.heap.size A n l) (hn:n≤1099511627776) (m:Nat) (hm:m<18446744073709551616) :
 Calls Tryz.prog 219 #[.slice A n c,.int .u64 (m:Int)] w fun e w'=>∃ v,e=.returned v∧Own w' (New w w') 5 1 v (n+(enc m).length) (u8s (l++enc m))∧Grow w w':=by
 have hlen:=enc_ten hm
 go_enter Tryz.func219,Tryz.ntmps219
 go_wp2_with (go_at_call 180;refine (clone_any _ A n c l hb (by omega)).mono ?_;rintro e w1 ⟨v1,rfl,hO1,hg1⟩)
 go_loopw [1,5] (fun mv v wr=>∃ (pre:List UInt8) (m':Nat),mv=.int .u64 (m':Int)∧m'<18446744073709551616∧pre++enc m'=enc m∧Own wr (New w wr) 5 1 v (n+pre.length) (u8s (l++pre))∧Grow w wr) (fun mv _ _=>(intOf mv).toNat)
 case atStart=>exact⟨[],m,rfl,hm,rfl,by simpa using hO1,hg1⟩
 case round=>
  obtain⟨pre,m',rfl,hm',hpre,hO,hg⟩:=hrel
  obtain⟨A1,c1,rfl,hR1,hn1,hm1⟩:=hO.reads
  have hpl:pre.length≤10:=by have:=congrArg List.length hpre;rw[List.length_append] at this;omega
  have HP:=Lib.hid hpre
  clear hpre
  by_cases hgo:128≤m'
  ·have eor:=or128 m'
   go_wp2_with (at_builtin;refine stay ?_)
   refine stay_out ?_
   refine wpList_own (V:=New w wr) u8E _ rfl (.tmp 10) (.tmp 14) rfl (.slice A1 (n+pre.length) c1) (n+pre.length) (u8s (l++pre)) rfl (own_alloc hO _) (wr.heap.size+1) (some ⟨wr.heap.size,0,none⟩) 1 1 (u8s [UInt8.ofNat (m' % 128+128)]) rfl (reads_laid wr _ 5 _ rfl _ rfl |>.cells_eq (by simp only[u8s,List.map_cons,List.map_nil];rw[of_nat (by omega)];push_cast;rfl)) u8s_one (by omega) ?_
   intro v3 w3 hO3 hj3
   rw[←u8s_append,List.append_assoc] at hO3
   obtain⟨hO3,hg3⟩:=own_more1 hg hO3 hj3
   clear hj3 hO hR1
   go_wp2_with fail
   go_roundw
   case rel=>exact⟨pre++[UInt8.ofNat (m' % 128+128)],m' / 128,by go_num,by omega,by rw[List.append_assoc,List.singleton_append,←enc_more hgo];exact HP.out,by rw[List.length_append,←Nat.add_assoc];exact hO3,hg3⟩
   case measure=>simp[intOf];omega
  ·go_wp2_with (at_builtin;refine stay ?_)
   refine stay_out ?_
   refine wpList_own (V:=New w wr) u8E _ rfl (.tmp 18) (.tmp 21) rfl (.slice A1 (n+pre.length) c1) (n+pre.length) (u8s (l++pre)) rfl (own_alloc hO _) (wr.heap.size+1) (some ⟨wr.heap.size,0,none⟩) 1 1 (u8s [UInt8.ofNat m']) rfl (reads_laid wr _ 5 _ rfl _ rfl |>.cells_eq (by simp only[u8s,List.map_cons,List.map_nil];rw[of_nat (by omega)])) u8s_one (by omega) ?_
   intro v3 w3 hO3 hj3
   rw[←u8s_append,List.append_assoc] at hO3
   obtain⟨hO3,hg3⟩:=own_more1 hg hO3 hj3
   have hP:=HP.out
   rw[enc_small (by omega)] at hP
   rw[hP] at hO3
   have hL:=congrArg List.length hP
   rw[List.length_append,List.length_singleton] at hL
   have hL':n+pre.length+1=n+(enc m).length:=by omega
   rw[hL'] at hO3
   clear hj3 hO hR1 hP hL hL'
   obtain⟨A3,c3,rfl,hR3,hn3,hm3⟩:=hO3.reads
   go_wp2_with (go_at_call 163;refine (clip_own _ _ _ _ _ hO3).mono ?_;rintro e w4 ⟨v4,rfl,rfl,hO4⟩)
   go_ret
   exact⟨v4,rfl,hO4,hg3⟩
theorem andNot128:∀ x:Nat,x<256→bits .andNot .u64 (x:Int) 128=((x % 128:Nat):Int):=by decide +kernel
theorem pow7 (i:Nat):(2:Int) ^ (i*7)=((128 ^ i:Nat):Int):=by
 rw[Nat.mul_comm,Int.pow_mul];push_cast;rfl
theorem shl_in (p i:Nat) (h:p*128 ^ i<18446744073709551616):IntKind.u64.wrap ((p:Int)*2 ^ (i*7))=((p*128 ^ i:Nat):Int):=by
 rw[pow7,←Int.natCast_mul,wrap_u64];omega
theorem shr_in (p i:Nat):((p*128 ^ i:Nat):Int) / 2 ^ (i*7)=(p:Int):=by
 rw[pow7,←Int.natCast_ediv,Nat.mul_div_cancel _ (Nat.pow_pos (by omega))]
theorem shl_out (p i:Nat) (h:¬ p*128 ^ i<18446744073709551616) (hi:i≤9) (hp:p<128):∃ q d:Nat,IntKind.u64.wrap ((p:Int)*2 ^ (i*7))=(q:Int)∧(q:Int) / 2 ^ (i*7)=(d:Int)∧d≠p:=by
 have h9:i=9:=by
  rcases Nat.lt_or_ge i 9 with h1|h1
  ·exfalso
   have:128 ^ i≤128 ^ 8:=Nat.pow_le_pow_right (by omega) (by omega)
   have h2:p*128 ^ i≤127*128 ^ 8:=Nat.mul_le_mul (by omega) this
   omega
  ·omega
 subst h9
 refine⟨p*128 ^ 9 % 18446744073709551616,p % 2,?_,?_,by omega⟩
 ·rw[pow7,←Int.natCast_mul,wrap_u64];omega
 ·rw[pow7];omega
theorem or_nat (a b:Nat) (ha:a<18446744073709551616) (hb:b<18446744073709551616):bits .or .u64 (a:Int) (b:Int)=((a ||| b:Nat):Int):=by
 show IntKind.u64.wrap ((BitVec.ofInt 64 (a:Int) ||| BitVec.ofInt 64 (b:Int)).toNat:Nat)=_
 rw[BitVec.toNat_or,BitVec.toNat_ofInt,BitVec.toNat_ofInt,wrap_u64]
 rw[show ((a:Int) % ((2 ^ 64:Nat):Int)).toNat=a by omega,show ((b:Int) % ((2 ^ 64:Nat):Int)).toNat=b by omega]
 have:=Nat.or_lt_two_pow (n:=64) ha hb
 omega
theorem or_lt (a p i:Nat) (ha:a<128 ^ i) (h:p*128 ^ i<18446744073709551616) (hi:i≤9):a+p*128 ^ i<18446744073709551616:=by
 have h64:(18446744073709551616:Nat)=2 ^ (64-7*i)*128 ^ i:=by
  rw[show (128:Nat)=2 ^ 7 by rfl,←Nat.pow_mul,←Nat.pow_add,show 64-7*i+7*i=64 by omega]
 rw[h64] at h ⊢
 have hp:p<2 ^ (64-7*i):=Nat.lt_of_mul_lt_mul_right h
 calc a+p*128 ^ i<128 ^ i+p*128 ^ i:=by omega
  _=(p+1)*128 ^ i:=by rw[Nat.add_mul];omega
  _≤2 ^ (64-7*i)*128 ^ i:=Nat.mul_le_mul_right _ hp
theorem or_in (a p i:Nat) (ha:a<128 ^ i) (h:p*128 ^ i<18446744073709551616) (hi:i≤9) (_hp:p<128):bits .or .u64 (a:Int) ((p*128 ^ i:Nat):Int)=((a+p*128 ^ i:Nat):Int):=by
 have h1:=or_lt a p i ha h hi
 rw[or_nat a _ (by omega) h]
 have hpow:(128:Nat) ^ i=2 ^ (7*i):=by rw[Nat.pow_mul]
 rw[hpow] at ha ⊢
 have:=Nat.two_pow_add_eq_or_of_lt ha p
 rw[Nat.mul_comm p,Nat.or_comm,←this,Nat.add_comm]
set_option maxHeartbeats 1000000 in
theorem Get_short (w:World) (B:Nat) (A:Option Addr) (n c:Nat) (l:List UInt8) (hb:Bytes w B A n l) (hnm:n≤maxLen) (hn:n<10) :
 Calls Tryz.prog 179 #[.slice A n c] w fun e w'=>∃ v k:Nat,GetIs l v k∧e=.returned (.tuple #[.int .u64 (v:Int),.int .i64 (k:Int)])∧w=w':=by
 have hlen:=hb.len
 unfold maxLen at hnm
 go_enter Tryz.func179,Tryz.ntmps179
 go_wp2_with fail
 go_loopw [4,11] (fun av iv wr=>∃ i:Nat,i≤n∧iv=.int .i64 i∧av=.int .u64 (val (l.take i):Int)∧Hi l i∧wr=w) (fun _ iv _=>n-(intOf iv).toNat)
 case atStart=>exact⟨0,by omega,rfl,rfl,fun j hj h=>by omega,rfl⟩
 case round=>
  obtain⟨i,hin,rfl,rfl,hhi,rfl⟩:=hrel
  by_cases hi:i<n
  ·obtain⟨ad,hil,rfl,hcell⟩:=hb.at_ (show i<n by omega)
   have hc:=l[i].toNat_lt
   obtain⟨x,HX⟩:∃ x:Nat,Hid (x=l[i].toNat):=⟨l[i].toNat,rfl⟩
   rw[←HX.out] at hcell hc
   have ean:=andNot128 x (by omega)
   obtain⟨p,HPX⟩:∃ p:Nat,Hid (p=x % 128):=⟨_,rfl⟩
   have hp:p<128:=by have:=HPX.out;omega
   rw[←HPX.out] at ean
   have hv:=val_take_succ l i hil
   rw[←HX.out,←HPX.out] at hv
   have hvl:=val_take_lt l i
   obtain⟨a,HA⟩:∃ a:Nat,Hid (a=val (l.take i)):=⟨_,rfl⟩
   obtain⟨b,HB⟩:∃ b:Nat,Hid (b=val (l.take (i+1))):=⟨_,rfl⟩
   rw[←HA.out] at hv hvl
   rw[←HB.out] at hv
   rw[←HA.out]
   have HHI:=Lib.hid hhi
   clear hhi
   by_cases hov:p*128 ^ i<18446744073709551616
   ·have ew:=shl_in p i hov
    obtain⟨q,HQ⟩:∃ q:Nat,Hid (q=p*128 ^ i):=⟨_,rfl⟩
    have ed:=shr_in p i
    rw[←HQ.out] at ew ed hv hov
    have eo:bits .or .u64 (a:Int) (q:Int)=(b:Int):=by
     rw[hv,HQ.out]
     exact or_in a p i hvl (by rw[←HQ.out];exact hov) (show i≤9 by omega) hp
    have hbl:b<18446744073709551616:=by
     have:=or_lt a p i hvl (by rw[←HQ.out];exact hov) (show i≤9 by omega)
     rw[←HQ.out] at this
     omega
    clear hv hvl
    by_cases hx:128≤x
    ·go_wp2_with fail
     go_roundw
     case rel=>exact⟨i+1,by omega,by go_num,by rw[HB.out],hi_succ hil HHI.out (by rw[←HX.out];exact hx),trivial⟩
     case measure=>simp[intOf];omega
    ·by_cases hz:x≤0∧0<i
     ·obtain⟨hz,h0⟩:=hz
      have hz':l[i]=0:=by
       have:=HX.out
       apply UInt8.toNat_inj.1
       rw[←this,show x=0 by omega];rfl
      go_wp2_with fail
      go_ret2
      exact⟨0,0,GetIs.none (none_nought hil HHI.out hz' h0),rfl,rfl⟩
     ·have hG:GetIs l b (i+1):=by
       rw[HB.out]
       refine some_here hil HHI.out (by rw[←HX.out];omega) ?_ (by rw[←HB.out];exact hbl)
       by_cases h0:i=0
       ·exact .inr h0
       ·refine .inl fun e=>hz ⟨?_,by omega⟩
        have:x=0:=by rw[HX.out,e];rfl
        omega
      by_cases hx0:x≤0
      ·have hi0:i≤0:=by omega
       clear hz
       go_wp2_with fail
       go_ret2
       exact⟨b,i+1,hG,by push_cast;rfl,rfl⟩
      ·clear hz
       go_wp2_with fail
       go_ret2
       exact⟨b,i+1,hG,by push_cast;rfl,rfl⟩
   ·obtain⟨q,d,ew,ed,hd⟩:=shl_out p i (by omega) (by omega) hp
    go_wp2_with fail
    go_ret2
    refine⟨0,0,GetIs.none (none_great hil HHI.out ?_),rfl,rfl⟩
    rw[←HX.out,←HPX.out];omega
  ·have hi':i=n:=by omega
   have HHI:=Lib.hid hhi
   clear hhi
   obtain⟨a,HA⟩:∃ a:Nat,Hid (a=val (l.take i)):=⟨_,rfl⟩
   rw[←HA.out]
   subst hi'
   go_wp2_with fail
   go_ret2
   exact⟨0,0,GetIs.none (none_long HHI.out (by omega)),rfl,rfl⟩
set_option maxHeartbeats 1000000 in
theorem Get_long (w:World) (B:Nat) (A:Option Addr) (n c:Nat) (l:List UInt8) (hb:Bytes w B A n l) (hnm:n≤maxLen) (hn:10<n) :
 Calls Tryz.prog 179 #[.slice A n c] w fun e w'=>∃ v k:Nat,GetIs l v k∧e=.returned (.tuple #[.int .u64 (v:Int),.int .i64 (k:Int)])∧w=w':=by
 have hlen:=hb.len
 unfold maxLen at hnm
 go_enter Tryz.func179,Tryz.ntmps179
 go_wp2_with fail
 go_loopw [4,11] (fun av iv wr=>∃ i:Nat,i≤10∧iv=.int .i64 i∧av=.int .u64 (val (l.take i):Int)∧Hi l i∧wr=w) (fun _ iv _=>10-(intOf iv).toNat)
 case atStart=>exact⟨0,by omega,rfl,rfl,fun j hj h=>by omega,rfl⟩
 case round=>
  obtain⟨i,hin,rfl,rfl,hhi,rfl⟩:=hrel
  by_cases hi:i<10
  ·obtain⟨ad,hil,rfl,hcell⟩:=hb.at_ (show i<n by omega)
   have hc:=l[i].toNat_lt
   obtain⟨x,HX⟩:∃ x:Nat,Hid (x=l[i].toNat):=⟨l[i].toNat,rfl⟩
   rw[←HX.out] at hcell hc
   have ean:=andNot128 x (by omega)
   obtain⟨p,HPX⟩:∃ p:Nat,Hid (p=x % 128):=⟨_,rfl⟩
   have hp:p<128:=by have:=HPX.out;omega
   rw[←HPX.out] at ean
   have hv:=val_take_succ l i hil
   rw[←HX.out,←HPX.out] at hv
   have hvl:=val_take_lt l i
   obtain⟨a,HA⟩:∃ a:Nat,Hid (a=val (l.take i)):=⟨_,rfl⟩
   obtain⟨b,HB⟩:∃ b:Nat,Hid (b=val (l.take (i+1))):=⟨_,rfl⟩
   rw[←HA.out] at hv hvl
   rw[←HB.out] at hv
   rw[←HA.out]
   have HHI:=Lib.hid hhi
   clear hhi
   by_cases hov:p*128 ^ i<18446744073709551616
   ·have ew:=shl_in p i hov
    obtain⟨q,HQ⟩:∃ q:Nat,Hid (q=p*128 ^ i):=⟨_,rfl⟩
    have ed:=shr_in p i
    rw[←HQ.out] at ew ed hv hov
    have eo:bits .or .u64 (a:Int) (q:Int)=(b:Int):=by
     rw[hv,HQ.out]
     exact or_in a p i hvl (by rw[←HQ.out];exact hov) (show i≤9 by omega) hp
    have hbl:b<18446744073709551616:=by
     have:=or_lt a p i hvl (by rw[←HQ.out];exact hov) (show i≤9 by omega)
     rw[←HQ.out] at this
     omega
    clear hv hvl
    by_cases hx:128≤x
    ·go_wp2_with fail
     go_roundw
     case rel=>exact⟨i+1,by omega,by go_num,by rw[HB.out],hi_succ hil HHI.out (by rw[←HX.out];exact hx),trivial⟩
     case measure=>simp[intOf];omega
    ·by_cases hz:x≤0∧0<i
     ·obtain⟨hz,h0⟩:=hz
      have hz':l[i]=0:=by
       have:=HX.out
       apply UInt8.toNat_inj.1
       rw[←this,show x=0 by omega];rfl
      go_wp2_with fail
      go_ret2
      exact⟨0,0,GetIs.none (none_nought hil HHI.out hz' h0),rfl,rfl⟩
     ·have hG:GetIs l b (i+1):=by
       rw[HB.out]
       refine some_here hil HHI.out (by rw[←HX.out];omega) ?_ (by rw[←HB.out];exact hbl)
       by_cases h0:i=0
       ·exact .inr h0
       ·refine .inl fun e=>hz ⟨?_,by omega⟩
        have:x=0:=by rw[HX.out,e];rfl
        omega
      by_cases hx0:x≤0
      ·have hi0:i≤0:=by omega
       clear hz
       go_wp2_with fail
       go_ret2
       exact⟨b,i+1,hG,by push_cast;rfl,rfl⟩
      ·clear hz
       go_wp2_with fail
       go_ret2
       exact⟨b,i+1,hG,by push_cast;rfl,rfl⟩
   ·obtain⟨q,d,ew,ed,hd⟩:=shl_out p i (by omega) (by omega) hp
    go_wp2_with fail
    go_ret2
    refine⟨0,0,GetIs.none (none_great hil HHI.out ?_),rfl,rfl⟩
    rw[←HX.out,←HPX.out];omega
  ·have hi':i=10:=by omega
   have HHI:=Lib.hid hhi
   clear hhi
   obtain⟨a,HA⟩:∃ a:Nat,Hid (a=val (l.take i)):=⟨_,rfl⟩
   rw[←HA.out]
   subst hi'
   go_wp2_with fail
   go_ret2
   exact⟨0,0,GetIs.none (none_long HHI.out (by omega)),rfl,rfl⟩
set_option maxHeartbeats 1000000 in
theorem Get_ten (w:World) (B:Nat) (A:Option Addr) (n c:Nat) (l:List UInt8) (hb:Bytes w B A n l) (hnm:n≤maxLen) (hn:n=10) :
 Calls Tryz.prog 179 #[.slice A n c] w fun e w'=>∃ v k:Nat,GetIs l v k∧e=.returned (.tuple #[.int .u64 (v:Int),.int .i64 (k:Int)])∧w=w':=by
 have hlen:=hb.len
 subst hn
 clear hnm
 go_enter Tryz.func179,Tryz.ntmps179
 go_wp2_with fail
 go_loopw [4,11] (fun av iv wr=>∃ i:Nat,i≤10∧iv=.int .i64 i∧av=.int .u64 (val (l.take i):Int)∧Hi l i∧wr=w) (fun _ iv _=>10-(intOf iv).toNat)
 case atStart=>exact⟨0,by omega,rfl,rfl,fun j hj h=>by omega,rfl⟩
 case round=>
  obtain⟨i,hin,rfl,rfl,hhi,rfl⟩:=hrel
  by_cases hi:i<10
  ·obtain⟨ad,hil,rfl,hcell⟩:=hb.at_ (show i<10 by omega)
   have hc:=l[i].toNat_lt
   obtain⟨x,HX⟩:∃ x:Nat,Hid (x=l[i].toNat):=⟨l[i].toNat,rfl⟩
   rw[←HX.out] at hcell hc
   have ean:=andNot128 x (by omega)
   obtain⟨p,HPX⟩:∃ p:Nat,Hid (p=x % 128):=⟨_,rfl⟩
   have hp:p<128:=by have:=HPX.out;omega
   rw[←HPX.out] at ean
   have hv:=val_take_succ l i hil
   rw[←HX.out,←HPX.out] at hv
   have hvl:=val_take_lt l i
   obtain⟨a,HA⟩:∃ a:Nat,Hid (a=val (l.take i)):=⟨_,rfl⟩
   obtain⟨b,HB⟩:∃ b:Nat,Hid (b=val (l.take (i+1))):=⟨_,rfl⟩
   rw[←HA.out] at hv hvl
   rw[←HB.out] at hv
   rw[←HA.out]
   have HHI:=Lib.hid hhi
   clear hhi
   by_cases hov:p*128 ^ i<18446744073709551616
   ·have ew:=shl_in p i hov
    obtain⟨q,HQ⟩:∃ q:Nat,Hid (q=p*128 ^ i):=⟨_,rfl⟩
    have ed:=shr_in p i
    rw[←HQ.out] at ew ed hv hov
    have eo:bits .or .u64 (a:Int) (q:Int)=(b:Int):=by
     rw[hv,HQ.out]
     exact or_in a p i hvl (by rw[←HQ.out];exact hov) (show i≤9 by omega) hp
    have hbl:b<18446744073709551616:=by
     have:=or_lt a p i hvl (by rw[←HQ.out];exact hov) (show i≤9 by omega)
     rw[←HQ.out] at this
     omega
    clear hv hvl
    by_cases hx:128≤x
    ·go_wp2_with fail
     go_roundw
     case rel=>exact⟨i+1,by omega,by go_num,by rw[HB.out],hi_succ hil HHI.out (by rw[←HX.out];exact hx),trivial⟩
     case measure=>simp[intOf];omega
    ·by_cases hz:x≤0∧0<i
     ·obtain⟨hz,h0⟩:=hz
      have hz':l[i]=0:=by
       have:=HX.out
       apply UInt8.toNat_inj.1
       rw[←this,show x=0 by omega];rfl
      go_wp2_with fail
      go_ret2
      exact⟨0,0,GetIs.none (none_nought hil HHI.out hz' h0),rfl,rfl⟩
     ·have hG:GetIs l b (i+1):=by
       rw[HB.out]
       refine some_here hil HHI.out (by rw[←HX.out];omega) ?_ (by rw[←HB.out];exact hbl)
       by_cases h0:i=0
       ·exact .inr h0
       ·refine .inl fun e=>hz ⟨?_,by omega⟩
        have:x=0:=by rw[HX.out,e];rfl
        omega
      by_cases hx0:x≤0
      ·have hi0:i≤0:=by omega
       clear hz
       go_wp2_with fail
       go_ret2
       exact⟨b,i+1,hG,by push_cast;rfl,rfl⟩
      ·clear hz
       go_wp2_with fail
       go_ret2
       exact⟨b,i+1,hG,by push_cast;rfl,rfl⟩
   ·obtain⟨q,d,ew,ed,hd⟩:=shl_out p i (by omega) (by omega) hp
    go_wp2_with fail
    go_ret2
    refine⟨0,0,GetIs.none (none_great hil HHI.out ?_),rfl,rfl⟩
    rw[←HX.out,←HPX.out];omega
  ·have hi':i=10:=by omega
   have HHI:=Lib.hid hhi
   clear hhi
   obtain⟨a,HA⟩:∃ a:Nat,Hid (a=val (l.take i)):=⟨_,rfl⟩
   rw[←HA.out]
   subst hi'
   go_wp2_with fail
   go_ret2
   exact⟨0,0,GetIs.none (none_long HHI.out (by omega)),rfl,rfl⟩
theorem Get_any (w:World) (B:Nat) (A:Option Addr) (n c:Nat) (l:List UInt8) (hb:Bytes w B A n l) (hnm:n≤maxLen) :
 Calls Tryz.prog 179 #[.slice A n c] w fun e w'=>∃ v k:Nat,GetIs l v k∧e=.returned (.tuple #[.int .u64 (v:Int),.int .i64 (k:Int)])∧w=w':=by
 by_cases h:n<10
 ·exact Get_short w B A n c l hb hnm h
 ·by_cases h':10<n
  ·exact Get_long w B A n c l hb hnm h'
  ·exact Get_ten w B A n c l hb hnm (by omega)
end Go.Proofs.YtmijcbfgfkeodaaGreatDoor.V
end
section
namespace Go.Hop
open Go.RowKit Go.Lib
theorem strCells_u8s (s:ByteArray):strCells s=u8s s.data.toList:=by unfold strCells u8s;rfl
section
variable {P:Program} {t e u:TypeId} {V:Nat→Prop}
theorem run_append_Own_str (E:Elem P t e 1 1 (.int .u8 0)) (hu:P.underlying u=some .string) (w:World) (ty:Nat) (v:Value) (n:Nat) (xs:List Value) (hown:Own w V e 1 v n xs) (s:ByteArray)
 (hbytes:n+s.size≤140737488355328) :
 ∃ v' w',(Builtin.append_ #[t,u] ty #[v,.string s]).run P w=.ok v' w'∧Own w' (Ext V w w') e 1 v' (n+s.size) (xs++u8s s.data.toList)∧Just V w w':=by
 obtain⟨i,hi,hz,hs,hb⟩:=E.info
 have hsrc:Src P i.size u (.string s) s.size (u8s s.data.toList) w:=by rw[hs];exact Src.ofString w hu s
 have hxl:xs.length=n:=by have:=hown.1;omega
 have hnl:(u8s s.data.toList).length=s.size:=by have:=hsrc.newsLen;rw[hs] at this;omega
 have grow:∀ (ao:Option Addr) (cap:Nat),v=.slice ao n cap→cap<n+s.size→(Builtin.firstCells i.size n (.slice ao n cap)).run P w.drew=.ok xs.toArray w.drew→
  ∃ v' w',(Builtin.append_ #[t,u] ty #[v,.string s]).run P w=.ok v' w'∧Own w' (Ext V w w') e 1 v' (n+s.size) (xs++u8s s.data.toList)∧Just V w w':=by
  rintro ao cap rfl hg hold
  have h63:n+s.size≤maxLen:=by simp only[maxLen];omega
  have hrun:=run_append_grow_src (P:=P) w t u ty e i (.int .u8 0) E.und hi hz ao n cap xs hold (.string s) s.size (u8s s.data.toList) hsrc hg (by omega) (growslice_fits hg (by rw[hb];omega))
  have hge:=grownCap_ge w (n+s.size) cap e
  have hcm:grownCap w (n+s.size) cap e≤maxLen:=grownCap_le_maxLen w (n+s.size) cap e h63
  refine⟨_,_,hrun,⟨by rw[List.length_append];omega,.inr ⟨w.heap.size,_,_,rfl,.inr ⟨Nat.le_refl _,by simp⟩,heap_alloc_new w.drew _,hge,hcm,.inl ?_,?_⟩⟩,⟨rfl,rfl,rfl,by simp,fun k hk _=>heap_alloc_old w.drew _ hk⟩⟩
  ·have hz1:(Value.int IntKind.u8 0).cells.size=1:=rfl
   simp only[Array.size_append,List.size_toArray,size_zeroCells,hz1,List.length_append,hxl,hnl]
   omega
  ·have hl:(xs++u8s s.data.toList).length=(n+s.size)*1:=by rw[List.length_append];omega
   rw[Array.toList_append,List.toList_toArray,←hl]
   exact List.take_left
 by_cases hm:s.size=0
 ·have hn:u8s s.data.toList=[]:=List.eq_nil_of_length_eq_zero (by omega)
  rw[hn,hm] at hsrc
  obtain⟨A,c,rfl,_,hnc,_⟩:=hown.reads
  refine⟨_,w,run_append_nothing (P:=P) w t u ty e i E.und hi A n c hnc (.string s) hsrc,?_,Just.of_grow (Grow.refl w)⟩
  rw[hn,hm,List.append_nil]
  exact hown.mono fun b hb => .inl hb
 ·rcases hown.2 with ⟨hv,h0⟩|⟨g,cap,cur,hv,hV,hg,hnc,hcm,hsz,htk⟩
  ·subst h0
   obtain rfl:xs=[]:=List.eq_nil_of_length_eq_zero hxl
   exact grow none 0 hv (by omega) (run_firstCells_none (P:=P) w.drew i.size 0 0 0)
  ·by_cases hroom:n+s.size≤cap
   ·have hcs:cur.size=cap:=by
     rcases hsz with h|⟨h,_⟩
     ·omega
     ·omega
    have hr:=run_append_room_string (P:=P) w t u ty e i E.und hu hi hs g n cap cur hg s hroom (by omega)
    subst hv
    refine⟨_,_,hr,⟨by rw[List.length_append];omega,.inr ⟨g,cap,_,rfl,.inl hV,setRow_heap w g cur _ e _ hg,hroom,hcm,.inl ?_,?_⟩⟩,⟨rfl,rfl,rfl,by simp,fun k _ hk=>setRow_other w g k _ (fun e=>hk (by rw[e];exact hV))⟩⟩
    ·simp only[List.size_toArray,List.length_append,List.length_take,List.length_drop,Array.length_toList,strCells_length]
     omega
    ·have ht':cur.toList.take n=xs:=by simpa using htk
     have hl:(xs++strCells s).length=(n+s.size)*1:=by rw[List.length_append,hxl,strCells_length,Nat.mul_one]
     rw[List.toList_toArray,ht',←hl,strCells_u8s]
     exact List.take_left
   ·refine grow (some ⟨g,0,none⟩) cap hv (by omega) ?_
    obtain⟨A',c',hv',hrd,_,_⟩:=hown.reads
    refine run_firstCells_some (P:=P) w.drew i.size n ⟨g,0,none⟩ n cap xs (by rw[hs];exact hown.1) fun j u' hu'=>?_
    have hn0:0<n:=by
     rcases Nat.eq_zero_or_pos n with h0|h0
     ·rw[List.eq_nil_of_length_eq_zero (show xs.length=0 by omega)] at hu';simp at hu'
     ·exact h0
    obtain⟨ad',e',_,hc'⟩:=hrd.2 hn0
    rw[hv] at hv'
    injection hv' with hv'
    rw[←hv'] at e';injection e' with e'
    rw[e'];exact hc' j u' hu'
theorem wpList_own_str (E:Elem P t e 1 1 (.int .u8 0)) (hu:P.underlying u=some .string) (w:World) {ops:Array Oper} {rest:List Oper} {o:Oper} {a:Act} {Q:Exit→Act→World→Prop} (hw:Region.wanted o (yielded ops a.tmps)=true) (s x:Operand)
 (ho:o.op=.call { callee := .builtin .append,args:=#[s,x],argTypes:=#[t,u] })
 (v:Value) (n:Nat) (xs:List Value) (hs:a.eval s=v) (hown:Own w V e 1 v n xs)
 (str:ByteArray) (hx:a.eval x=.string str) (hbytes:n+str.size≤140737488355328)
 (h:∀ v' w',Own w' (Ext V w w') e 1 v' (n+str.size) (xs++u8s str.data.toList)→Just V w w'→wpList P ops Q rest (a.put o.dst v') w') :
 wpList P ops Q (o :: rest) a w:=by
 obtain⟨v',w',hrun,h2,h3⟩:=run_append_Own_str E hu w o.type v n xs hown str hbytes
 unfold wpList
 rw[if_pos hw]
 refine .inl ?_
 unfold Oper.wp execOp
 simp only[ho,resolve,invoke,builtin,Sem.run_bind,Sem.run_pure,Result.andThen_ok,List.map_toArray,List.map_cons,List.map_nil,hs,hx,hrun]
 exact h v' w' h2 h3
end
end Go.Hop
end
section
namespace Go.Proofs.YtmijcbfgfkeodaaGreatDoor.V
open Go.RowKit Go.Hop
theorem Text_any (w:World) (A:Option Addr) (n c:Nat) (l:List UInt8) (hb:Bytes w w.heap.size A n l) (hn:n≤1099511627776) (s:ByteArray) (hs:s.size≤1099511627776) :
 Calls Tryz.prog 221 #[.slice A n c,.string s] w fun e w'=>∃ v,e=.returned v∧Own w' (New w w') 5 1 v (n+(enc s.size).length+s.size) (u8s (l++enc s.size++s.data.toList))∧Grow w w':=by
 have hlen:=enc_ten (n:=s.size) (by omega)
 have HLen:=Lib.hid hlen
 clear hlen
 go_enter Tryz.func221,Tryz.ntmps221
 go_wp2_with (first
  | (go_at_call 219;refine (Put_any _ A n c l hb hn s.size (by omega)).mono ?_;rintro e w1 ⟨v1,rfl,hO1,hg1⟩)
  | (at_builtin;refine stay ?_))
 refine stay_out ?_
 refine wpList_own_str u8E Tryz.underlying9 _ rfl (.tmp 9) (.tmp 10) rfl v1 _ _ rfl hO1 s rfl (by have:=HLen.out;omega) ?_
 intro v2 w2 hO2 hj2
 rw[←u8s_append] at hO2
 obtain⟨hO2,hg2⟩:=own_more hg1 hO2 hj2
 clear hj2 hO1
 go_wp2_with (go_at_call 163;refine (clip_own _ _ _ _ _ hO2).mono ?_;rintro e w4 ⟨v4,rfl,rfl,hO4⟩)
 go_ret
 exact⟨v4,rfl,hO4,hg2⟩
def CutIs (l t:List UInt8) (k:Nat):Prop:=(t.length<18446744073709551616∧enc t.length++t <+: l∧k=(enc t.length).length+t.length)∨((∀ t':List UInt8,t'.length<18446744073709551616→¬ (enc t'.length++t') <+: l)∧t=[]∧k=0)
theorem CutIs.none {l:List UInt8} (h:∀ t':List UInt8,t'.length<18446744073709551616→¬ (enc t'.length++t') <+: l):CutIs l [] 0 := .inr ⟨h,rfl,rfl⟩
theorem cut_prefix {t t' l:List UInt8} (h1:enc t.length++t <+: l) (h2:enc t'.length++t' <+: l):t=t':=by
 have he:=enc_prefix ((List.prefix_append _ _).trans h1) ((List.prefix_append _ _).trans h2)
 rw[←he] at h2
 obtain⟨r,rfl⟩:=h1
 rw[List.append_assoc] at h2
 have h3:=(List.prefix_append_right_inj _).1 h2
 have h4:t <+: t++r:=List.prefix_append _ _
 exact List.IsPrefix.eq_of_length (List.prefix_of_prefix_length_le h4 h3 (by omega)) he
theorem CutIs.one {l t t':List UInt8} {k k':Nat} (h:CutIs l t k) (h':CutIs l t' k'):t=t'∧k=k':=by
 rcases h with ⟨h1,h2,h3⟩|⟨h1,h2,h3⟩<;>rcases h' with ⟨g1,g2,g3⟩|⟨g1,g2,g3⟩
 ·have:=cut_prefix h2 g2
  subst this
  exact⟨rfl,by omega⟩
 ·exact absurd h2 (g1 _ h1)
 ·exact absurd g2 (h1 _ g1)
 ·exact⟨by rw[h2,g2],by omega⟩
theorem cut_here {l:List UInt8} {v k:Nat} (hv:v<18446744073709551616) (hE:enc v <+: l) (hk:k=(enc v).length) (hl:v≤l.length-k):CutIs l ((l.drop k).take v) (k+v):=by
 obtain⟨r,rfl⟩:=hE
 subst hk
 rw[List.drop_left']
 ·rw[List.length_append,Nat.add_sub_cancel_left] at hl
  have hlen:(r.take v).length=v:=by rw[List.length_take];omega
  refine .inl ⟨by rw[hlen];exact hv,?_,by rw[hlen]⟩
  rw[hlen]
  exact (List.prefix_append_right_inj _).2 (List.take_prefix _ _)
 ·rfl
end Go.Proofs.YtmijcbfgfkeodaaGreatDoor.V
end
section
namespace Go.Proofs.YtmijcbfgfkeodaaGreatDoor.Vc
open Go.RowKit Go.Hop Go.Proofs.YtmijcbfgfkeodaaGreatDoor.V
theorem Cut_any (w:World) (B:Nat) (A:Option Addr) (n c:Nat) (l:List UInt8) (hb:Bytes w B A n l) (HB0:B≤w.heap.size) (hnc:n≤c) (hnm:c≤maxLen) :
 Calls Tryz.prog 235 #[.slice A n c] w fun e w'=>∃ (t:List UInt8) (k:Nat),CutIs l t k∧e=.returned (.tuple #[.string ⟨t.toArray⟩,.int .i64 (k:Int)])∧Grow w w':=by
 have hlen:=hb.len
 unfold maxLen at hnm
 go_enter Tryz.func235,Tryz.ntmps235
 go_wp2_with fail
 go_at_call 179
 refine (Get_any w B A n c l hb (by unfold maxLen;omega)).mono ?_
 rintro e w1 ⟨v,k,hG,rfl,rfl⟩
 obtain⟨hv,hk10,hkl⟩:=hG.lt
 by_cases hk:k≤0
 ·go_wp2_with fail
  go_ret2
  exact⟨[],0,CutIs.none (fun t ht hp=>by
   rcases hG with ⟨_,_,h3⟩|⟨h1,_,_⟩
   ·have:=enc_pos v;omega
   ·exact h1 _ ht ((List.prefix_append _ _).trans hp)),rfl,Grow.refl _⟩
 ·have hE:enc v <+: l∧k=(enc v).length:=by
   rcases hG with ⟨_,h2,h3⟩|⟨_,_,h3⟩
   ·exact⟨h2,h3⟩
   ·omega
  obtain⟨hE,hkE⟩:=hE
  have HKE:=Lib.hid hkE
  clear hkE
  have hgr:(n:Int)-(k:Int)<(v:Int)∨(v:Int)≤(n:Int)-(k:Int):=by omega
  have hwn:IntKind.u64.wrap ((n:Int)-(k:Int))=(n:Int)-(k:Int):=by rw[wrap_u64];omega
  have hw64:wrap64 ((n:Int)-(k:Int))=(n:Int)-(k:Int):=by unfold wrap64;omega
  have hkb:((k:Int) == 0)=false:=by rw[beq_eq_false_iff_ne];omega
  by_cases hvn:(n:Int)-(k:Int)<(v:Int)
  ·clear hgr
   go_wp2_with fail
   go_ret2
   exact⟨[],0,CutIs.none (fun t ht hp=>by
    have h1:=enc_prefix hE ((List.prefix_append _ _).trans hp)
    have h2:=hp.length_le
    rw[List.length_append,←h1,←HKE.out] at h2
    omega),rfl,Grow.refl _⟩
  ·clear hgr
   have hvn':(v:Int)≤(n:Int)-(k:Int):=by omega
   have hwv:IntKind.i64.wrap (v:Int)=(v:Int):=by rw[IntKind.wrap_i64];omega
   have hR:=(Reads.cut hb (k:=k) (cap:=c) (by omega) hnc).take (k:=v) (by omega)
   rw[Nat.mul_one] at hR
   have hR':Bytes w B (if c=k then A else A.map (·.add k)) v ((l.drop k).take v):=by
    unfold Bytes;rw[u8s_take,u8s_drop,Nat.mul_one k];exact hR
   have hkv:(k:Int)+(v:Int)≤(c:Int):=by omega
   have hfin:=cut_here hv hE HKE.out (show v≤l.length-k by omega)
   by_cases hck:c=k
   ·rw[if_pos hck] at hR'
    obtain rfl:k=c:=hck.symm
    obtain rfl:v=0:=by omega
    have hR':Bytes w B A 0 []:=hR'
    have cv:=fun c'=>conv_bytes w (c:=c') hR'
    go_wp2_with fail
    go_ret2
    exact⟨_,_,hfin,by push_cast;rfl,Grow.refl _⟩
   ·rw[if_neg hck] at hR'
    have cv:=fun c'=>conv_bytes w (c:=c') hR'
    go_wp2_with fail
    go_ret2
    exact⟨_,_,hfin,by push_cast;rfl,Grow.refl _⟩
end Go.Proofs.YtmijcbfgfkeodaaGreatDoor.Vc
end
