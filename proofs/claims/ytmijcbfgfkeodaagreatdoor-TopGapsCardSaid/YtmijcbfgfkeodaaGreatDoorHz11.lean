/- Fplain, Cat, Fbytes, Ml3, Ml4, Ml5. -/
import Derived.Test.YtmijcbfgfkeodaaGreatDoorHz10
import Derived.Lib.AppendZeros
import Derived.Lib.ConvBytes
set_option linter.all false
set_option maxRecDepth 100000
section
namespace Go.Proofs.YtmijcbfgfkeodaaGreatDoor.V
open Go.RowKit Go.Hop
def tb (t:BitVec 32) (i:Nat):UInt8:=⟨(t >>> (8*i)).setWidth 8⟩
theorem tb_nat (c:BitVec 32) (i:Nat):(tb c i).toNat=c.toNat / 2 ^ (8*i) % 256:=by
 show ((c >>> (8*i)).setWidth 8).toNat=_
 rw[BitVec.toNat_setWidth,BitVec.toNat_ushiftRight,Nat.shiftRight_eq_div_pow]
def sum4 (c:BitVec 32):List UInt8:=[tb c 0,tb c 1,tb c 2,tb c 3]
theorem sum4_len (c:BitVec 32):(sum4 c).length=4:=rfl
def frame (l:List UInt8):List UInt8:=enc l.length++(sum4 (crc l)++l)
theorem frame_len (l:List UInt8):(frame l).length=(enc l.length).length+4+l.length:=by
 unfold frame;rw[List.length_append,List.length_append,sum4_len];omega
theorem frame_enc {l r:List UInt8} (h:frame l <+: r):enc l.length <+: r:=(List.prefix_append _ _).trans h
theorem frame_one {l l' r:List UInt8} (h:frame l <+: r) (h':frame l' <+: r):l=l':=by
 have he:=enc_prefix (frame_enc h) (frame_enc h')
 obtain⟨s,rfl⟩:=h
 unfold frame at h'
 rw[←he] at h'
 rw[List.append_assoc] at h'
 have h2:=(List.prefix_append_right_inj _).1 h'
 obtain⟨t,ht⟩:=h2
 rw[List.append_assoc,List.append_assoc] at ht
 have h3:sum4 (crc l')=sum4 (crc l):=(List.append_inj ht rfl).1
 have h4:l'++t=l++s:=(List.append_inj ht rfl).2
 exact ((List.append_inj h4 he.symm).1).symm
def ReadIs (l x:List UInt8) (k:Nat) (ok:Bool):Prop:=
 (ok=true∧x.length≤65536∧frame x <+: l∧k=(frame x).length)∨(ok=false∧(∀ y:List UInt8,y.length≤65536→¬ frame y <+: l)∧x=[]∧k=0)
theorem ReadIs.none {l:List UInt8} (h:∀ y:List UInt8,y.length≤65536→¬ frame y <+: l):ReadIs l [] 0 false := .inr ⟨rfl,h,rfl,rfl⟩
theorem ReadIs.one {l x x':List UInt8} {k k':Nat} {ok ok':Bool} (h:ReadIs l x k ok) (h':ReadIs l x' k' ok'):x=x'∧k=k'∧ok=ok':=by
 rcases h with ⟨a1,a2,a3,a4⟩|⟨a1,a2,a3,a4⟩<;>rcases h' with ⟨b1,b2,b3,b4⟩|⟨b1,b2,b3,b4⟩
 ·have:=frame_one a3 b3
  subst this
  exact⟨rfl,by omega,by rw[a1,b1]⟩
 ·exact absurd a3 (b2 _ a2)
 ·exact absurd b3 (a2 _ b2)
 ·exact⟨by rw[a3,b3],by omega,by rw[a1,b1]⟩
theorem none_get {l:List UInt8} (h:∀ m,m<18446744073709551616→¬ enc m <+: l):∀ y:List UInt8,y.length≤65536→¬ frame y <+: l:=
 fun y hy hp=>h y.length (by omega) (frame_enc hp)
theorem none_long' {l:List UInt8} {n:Nat} (h:enc n <+: l) (hn:65536<n):∀ y:List UInt8,y.length≤65536→¬ frame y <+: l:=fun y hy hp=>by
 have:=enc_prefix h (frame_enc hp);omega
theorem none_short {l:List UInt8} {n:Nat} (h:enc n <+: l) (hn:l.length<(enc n).length+4+n):∀ y:List UInt8,y.length≤65536→¬ frame y <+: l:=fun y hy hp=>by
 have he:=enc_prefix h (frame_enc hp)
 have h1:=hp.length_le
 rw[frame_len,←he] at h1
 omega
theorem body_at {l:List UInt8} {n k:Nat} (h:enc n <+: l) (hk:k=(enc n).length) (hn:k+4+n≤l.length) :
 ∃ s x r:List UInt8,l=enc n++(s++(x++r))∧s=(l.drop k).take 4∧x=(l.drop (k+4)).take n∧s.length=4∧x.length=n:=by
 obtain⟨t,rfl⟩:=h
 subst hk
 rw[List.length_append] at hn
 refine⟨t.take 4,(t.drop 4).take n,(t.drop 4).drop n,?_,?_,?_,by rw[List.length_take];omega,by rw[List.length_take,List.length_drop];omega⟩
 ·rw[List.take_append_drop,List.take_append_drop]
 ·rw[List.drop_left'];rfl
 ·rw[←List.drop_drop,List.drop_left'];rfl
theorem read_yes {l:List UInt8} {n k:Nat} (h:enc n <+: l) (hk:k=(enc n).length) (hn:k+4+n≤l.length) (h6:n≤65536) (hs:(l.drop k).take 4=sum4 (crc ((l.drop (k+4)).take n))) :
 ReadIs l ((l.drop (k+4)).take n) (k+4+n) true:=by
 obtain⟨s,x,r,hl,h1,h2,h3,h4⟩:=body_at h hk hn
 rw[←h2]
 rw[←h1,←h2] at hs
 refine .inl ⟨rfl,by omega,⟨r,?_⟩,by rw[frame_len,h4,←hk]⟩
 unfold frame
 rw[hl,h4,hs,List.append_assoc,List.append_assoc]
theorem read_no {l:List UInt8} {n k:Nat} (h:enc n <+: l) (hk:k=(enc n).length) (hn:k+4+n≤l.length) (hs:(l.drop k).take 4≠sum4 (crc ((l.drop (k+4)).take n))) :
 ∀ y:List UInt8,y.length≤65536→¬ frame y <+: l:=fun y hy hp=>by
 have he:=enc_prefix h (frame_enc hp)
 obtain⟨s,x,r,hl,h1,h2,h3,h4⟩:=body_at h hk hn
 rw[←h1,←h2] at hs
 obtain⟨t,ht⟩:=hp
 unfold frame at ht
 rw[←he,hl,List.append_assoc,List.append_assoc] at ht
 have h5:=(List.append_inj ht rfl).2
 have h6:=List.append_inj h5 (by rw[sum4_len,h3])
 have h7:=(List.append_inj h6.2 (by rw[h4,he])).1
 exact hs (by rw[←h6.1,h7])
def leN:List UInt8→Nat
 | []=>0
 | b :: r=>b.toNat+256*leN r
theorem leN_lt:∀ l:List UInt8,leN l<256 ^ l.length
 | []=>by decide
 | b :: r=>by
   have:=leN_lt r
   have hb:=b.toNat_lt
   show b.toNat+256*leN r<256 ^ (r.length+1)
   rw[Nat.pow_succ];omega
theorem leN_snoc:∀ (l:List UInt8) (b:UInt8),leN (l++[b])=leN l+b.toNat*256 ^ l.length
 | [],b=>by simp[leN]
 | a :: r,b=>by
   show a.toNat+256*leN (r++[b])=a.toNat+256*leN r+b.toNat*256 ^ (r.length+1)
   rw[leN_snoc r b,Nat.pow_succ,Nat.mul_add,←Nat.mul_assoc 256,Nat.mul_comm 256 b.toNat,Nat.mul_assoc b.toNat,Nat.mul_comm 256 (256 ^ r.length)];omega
theorem leN_sum (s:List UInt8) (c:BitVec 32) (h:s.length=4):leN s=c.toNat↔s=sum4 c:=by
 match s,h with
 | [b0,b1,b2,b3],_=>
   have h0:=tb_nat c 0
   have h1:=tb_nat c 1
   have h2:=tb_nat c 2
   have h3:=tb_nat c 3
   have hc:=c.isLt
   have g0:=b0.toNat_lt
   have g1:=b1.toNat_lt
   have g2:=b2.toNat_lt
   have g3:=b3.toNat_lt
   simp only[leN,Nat.mul_zero,Nat.add_zero,Nat.pow_zero,Nat.div_one,Nat.reduceMul,Nat.reducePow] at h0 h1 h2 h3 hc ⊢
   unfold sum4
   constructor
   ·intro he
    rw[show b0=tb c 0 from UInt8.toNat_inj.1 (by omega),show b1=tb c 1 from UInt8.toNat_inj.1 (by omega),show b2=tb c 2 from UInt8.toNat_inj.1 (by omega),show b3=tb c 3 from UInt8.toNat_inj.1 (by omega)]
   ·intro he
    injection he with e0 he
    injection he with e1 he
    injection he with e2 he
    injection he with e3 _
    rw[e0,e1,e2,e3]
    omega
theorem grow_any (w:World) (n:Nat) (hn:n≤140737488355328) :
 Calls Tryz.prog 287 #[.slice none 0 0,.int .i64 (n:Int)] w fun e w'=>∃ v,e=.returned v∧Own w' (New w w') 5 1 v 0 []∧Grow w w':=by
 rcases Nat.eq_zero_or_pos n with h0|h0
 ·subst h0
  go_enter Tryz.func287,Tryz.ntmps287
  go_wp2_with fail
  go_ret
  exact⟨_,rfl,Own.nil,Grow.refl _⟩
 ·have hpos:(0:Int)<(n:Int):=by omega
  have hneg:¬ (n:Int)<0:=by omega
  obtain⟨i,hi,hz,hs,hb⟩:=u8E.info
  go_enter Tryz.func287,Tryz.ntmps287
  go_wp2_with (at_builtin;refine Lib.wpList_append_run _ rfl _ _ _ _ rfl _ _ rfl rfl _ _ (Lib.run_append_nil_zeros _ 65 3 _ 5 i (.int .u8 0) .i64 .i64 Tryz.underlying65 Tryz.underlying3 hi hz n h0 (by omega) (by omega) (by rw[hb];omega)) ?_)
  have hge:=grownCap_ge w n 0 5
  have hle:grownCap w n 0 5≤maxLen:=grownCap_le_maxLen w n 0 5 (by unfold maxLen;omega)
  generalize grownCap w n 0 5=cap at hge hle
  have hcs:(Builtin.zeroCells #[Value.int .u8 0] n++Builtin.zeroCells #[Value.int .u8 0] (cap-n)).size=cap:=by
   rw[Array.size_append,size_zeroCells,size_zeroCells,show (#[Value.int .u8 0]:Array Value).size=1 from rfl];omega
  generalize Builtin.zeroCells #[Value.int .u8 0] n++Builtin.zeroCells #[Value.int .u8 0] (cap-n)=cur at hcs
  have hc0:¬ cap<0:=by omega
  go_wp2_with fail
  go_ret
  refine⟨_,rfl,⟨rfl,.inr ⟨w.heap.size,cap,cur,rfl,⟨Nat.le_refl _,by simp⟩,?_,Nat.zero_le _,hle,by omega,by simp⟩⟩,Grow.drew ((Below.refl _ _).alloc (Nat.le_refl _) _)⟩
  exact heap_alloc_new w _
structure Bx where
 A:Option Addr
 m:Nat
 c:Nat
 bs:List UInt8
def Bx.cells (b:Bx):List Value:=[.slice b.A b.m b.c]
theorem bx_len (b:Bx):b.cells.length=1:=rfl
theorem bx_one (b:Bx):∀ u∈b.cells,u.oneCell'=true:=by
 intro u hu
 simp only[Bx.cells,List.mem_cons,List.not_mem_nil,or_false] at hu
 rw[hu];rfl
theorem flat_more {α β:Type} (f:α→List β) (q:List α) {k:Nat} (hk:k<q.length):(q.take (k+1)).flatMap f=(q.take k).flatMap f++f q[k]:=by
 rw[List.take_succ_eq_append_getElem hk,List.flatMap_append,List.flatMap_cons,List.flatMap_nil,List.append_nil]
theorem flat_le {α β:Type} (f:α→List β) (q:List α) (k:Nat):((q.take k).flatMap f).length≤(q.flatMap f).length:=by
 conv=>rhs;rw[←List.take_append_drop k q]
 rw[List.flatMap_append,List.length_append];omega
def blen (q:List Bx):Nat:=(q.flatMap Bx.bs).length
theorem concat_any (w:World) (A:Option Addr) (n c:Nat) (q:List Bx) (hR:Reads w w.heap.size 1 A n (q.flatMap Bx.cells)) (hb:∀ b∈q,Bytes w w.heap.size b.A b.m b.bs) (hT:blen q≤1099511627776) (hn:n≤1099511627776) :
 Calls Tryz.prog 220 #[.slice A n c] w fun e w'=>∃ v,e=.returned v∧Own w' (New w w') 5 1 v (blen q) (u8s (q.flatMap Bx.bs))∧Grow w w':=by
 have hI:In w (fun _=>True) 1 A n (q.flatMap Bx.cells):=Reads.in_ hR (Nat.le_refl _) fun _ _=>trivial
 have hql:q.length=n:=by have:=hR.1;rw[flat_length Bx.cells 1 bx_len] at this;omega
 go_enter Tryz.func220,Tryz.ntmps220
 go_wp2_with fail
 go_loopw [3,11] (fun s i wr=>∃ k:Nat,k≤n∧i=.int .i64 (k:Int)∧s=.int .i64 (blen (q.take k):Int)∧w=wr) (fun _ i _=>n-(intOf i).toNat)
 case atStart=>exact⟨0,by omega,rfl,rfl,rfl⟩
 case round=>
  obtain⟨k,hkn,rfl,rfl,rfl⟩:=hrel
  by_cases hk:k<n
  ·obtain⟨ad,hq,rfl,_,_,e0,_⟩:=hI.rec_ (by omega) bx_len hk
   have e0:=e0 _ rfl
   rw[Nat.mul_one] at e0
   have hbk:=hb _ (List.getElem_mem hq)
   have hL:blen (q.take (k+1))=blen (q.take k)+q[k].m:=by
    unfold blen;rw[flat_more Bx.bs q hq,List.length_append,Bytes.len hbk]
   have hle:blen (q.take (k+1))≤blen q:=flat_le Bx.bs q (k+1)
   have HL:=Lib.hid hL
   have HLE:=Lib.hid (show blen (q.take k)+q[k].m≤1099511627776 by omega)
   clear hL hle hbk
   generalize q[k]=b at e0 HL HLE
   obtain⟨Ab,mb,cb,bs⟩:=b
   dsimp only at e0 HL HLE
   generalize blen (q.take k)=s at HL HLE
   have hw1:IntKind.i64.wrap ((s:Int)+(mb:Int))=(s:Int)+(mb:Int):=by have:=HLE.out;rw[IntKind.wrap_i64];omega
   have hs0:¬ (s:Int)+(mb:Int)<0:=by omega
   go_wp2_with fail
   go_roundw
   case rel=>exact⟨k+1,by omega,by go_num,by rw[HL.out];push_cast;rfl,by trivial⟩
   case measure=>simp[intOf];omega
  ·obtain rfl:k=n:=by omega
   have hqt:q.take k=q:=List.take_of_length_le (by omega)
   rw[hqt]
   go_wp2_with fail
   go_at_call 287
   refine (grow_any w _ (by omega)).mono ?_
   rintro e w1 ⟨v,rfl,hO1,hg1⟩
   go_wp2_with fail
   go_loopw [6,27] (fun v i wr=>∃ j:Nat,j≤k∧i=.int .i64 (j:Int)∧Own wr (New w wr) 5 1 v (blen (q.take j)) (u8s ((q.take j).flatMap Bx.bs))∧Grow w wr) (fun _ i _=>k-(intOf i).toNat)
   case atStart=>exact⟨0,by omega,rfl,hO1,hg1⟩
   case round=>
    obtain⟨j,hjk,rfl,hO,hg⟩:=hrel
    by_cases hj:j<k
    ·obtain⟨ad,hq,rfl,_,_,e0,_⟩:=(hI.grow hg).rec_ (by omega) bx_len hj
     have e0:=e0 _ rfl
     rw[Nat.mul_one] at e0
     have hbk:=(hb _ (List.getElem_mem hq)).below hg
     have hF:=flat_more Bx.bs q hq
     have hL:blen (q.take (j+1))=blen (q.take j)+q[j].m:=by
      unfold blen;rw[hF,List.length_append,Bytes.len hbk]
     have hle:blen (q.take (j+1))≤blen q:=flat_le Bx.bs q (j+1)
     have HF:=Lib.hid hF
     have HLE:=Lib.hid (show blen (q.take j)+q[j].m≤1099511627776 by omega)
     have HL:=Lib.hid hL
     clear hF hle hL
     generalize q[j]=b at e0 HF HLE hbk HL
     obtain⟨Ab,mb,cb,bs⟩:=b
     dsimp only at e0 HF HLE hbk HL
     go_wp2_with (at_builtin;refine stay ?_)
     refine stay_out ?_
     refine wpList_own (V:=New w wr) u8E _ rfl (.tmp 31) (.tmp 32) rfl _ _ _ rfl hO w.heap.size Ab mb cb (u8s bs) rfl hbk u8s_one (by have:=HLE.out;omega) ?_
     intro v2 w2 hO2 hj2
     rw[←u8s_append,←HF.out,←HL.out] at hO2
     obtain⟨hO2,hg2⟩:=own_more hg hO2 hj2
     clear hj2 hO hbk
     go_wp2_with fail
     go_roundw
     case rel=>exact⟨j+1,by omega,by go_num,hO2,hg2⟩
     case measure=>simp[intOf];omega
    ·obtain rfl:j=k:=by omega
     rw[hqt] at hO
     go_wp2_with fail
     go_ret
     exact⟨_,rfl,hO,hg⟩
theorem tb_int (c:BitVec 32) (i:Nat):((tb c i).toNat:Int)=(c.toNat:Int) / ((2 ^ (8*i):Nat):Int) % 256:=by
 rw[tb_nat];simp
theorem Bytes_any (w:World) (A:Option Addr) (n c:Nat) (l:List UInt8) (hb:Bytes w w.heap.size A n l) (hn:n≤65536) :
 Calls Tryz.prog 152 #[.slice A n c] w fun e w'=>∃ v,e=.returned (.tuple #[v,.int .i64 0])∧Own w' (New w w') 5 1 v (frame l).length (u8s (frame l))∧Grow w w':=by
 have hlen:=hb.len
 have hpn:=Put_any w none 0 0 [] Reads.nil (by omega) n (by omega)
 have hen:=enc_ten (n:=n) (by omega)
 rw[List.nil_append,Nat.zero_add] at hpn
 have hwn:IntKind.u64.wrap (n:Int)=(n:Int):=by rw[IntKind.wrap_u64];omega
 go_enter Tryz.func152,Tryz.ntmps152
 go_wp2_with fail
 go_at_call 219
 refine hpn.mono ?_
 rintro e w1 ⟨v1,rfl,hO1,hg1⟩
 clear hpn
 have hof:=of_any A n c l w1 w.heap.size (hb.below hg1) (by unfold maxLen;omega)
 go_wp2_with fail
 go_at_call 181
 refine hof.mono ?_
 rintro e w1' ⟨rfl,rfl⟩
 clear hof
 go_wp2_with fail
 go_loopw [4,16] (fun v i wr=>∃ k:Nat,k≤4∧i=.int .i64 (k:Int)∧Own wr (New w wr) 5 1 v ((enc n).length+k) (u8s (enc n++(sum4 (crc l)).take k))∧Grow w wr) (fun _ i _=>4-(intOf i).toNat)
 case atStart=>exact⟨0,by omega,rfl,by rw[List.take_zero,List.append_nil];exact hO1,hg1⟩
 case round=>
  obtain⟨k,hk4,rfl,hO,hg⟩:=hrel
  by_cases hk:k<4
  ·rcases (show k=0∨k=1∨k=2∨k=3 by omega) with rfl|rfl|rfl|rfl
   ·have hX:((crc l).toNat:Int) % 256=((tb (crc l) 0).toNat:Int):=by rw[tb_int];simp
    have HX:=Lib.hid hX
    clear hX
    go_wp2_with (at_builtin;refine stay ?_)
    refine stay_out ?_
    refine wpList_own (V:=New w wr) u8E _ rfl (.tmp 19) (.tmp 25) rfl _ _ _ rfl (own_alloc hO _) (wr.heap.size+1) (some ⟨wr.heap.size,0,none⟩) 1 1 (u8s [tb (crc l) 0]) rfl (Reads.cells_eq (reads_laid wr #[.int .u8 (((crc l).toNat:Int) % 256)] 5 (0,0) rfl _ rfl) (by rw[HX.out];rfl)) u8s_one (by have:=hen;omega) ?_
    intro v3 w3 hO3 hj3
    rw[←u8s_append,List.append_assoc,show (sum4 (crc l)).take 0++[tb (crc l) 0]=(sum4 (crc l)).take 1 from rfl] at hO3
    obtain⟨hO3,hg3⟩:=own_more1 hg hO3 hj3
    clear hj3 hO
    go_wp2_with fail
    go_roundw
    case rel=>exact⟨1,by omega,by go_num,hO3,hg3⟩
    case measure=>simp[intOf]
   ·have hX:((crc l).toNat:Int) / 256 % 256=((tb (crc l) 1).toNat:Int):=by rw[tb_int];simp
    have HX:=Lib.hid hX
    clear hX
    go_wp2_with (at_builtin;refine stay ?_)
    refine stay_out ?_
    refine wpList_own (V:=New w wr) u8E _ rfl (.tmp 19) (.tmp 25) rfl _ _ _ rfl (own_alloc hO _) (wr.heap.size+1) (some ⟨wr.heap.size,0,none⟩) 1 1 (u8s [tb (crc l) 1]) rfl (Reads.cells_eq (reads_laid wr #[.int .u8 (((crc l).toNat:Int) / 256 % 256)] 5 (0,0) rfl _ rfl) (by rw[HX.out];rfl)) u8s_one (by have:=hen;omega) ?_
    intro v3 w3 hO3 hj3
    rw[←u8s_append,List.append_assoc,show (sum4 (crc l)).take 1++[tb (crc l) 1]=(sum4 (crc l)).take 2 from rfl] at hO3
    obtain⟨hO3,hg3⟩:=own_more1 hg hO3 hj3
    clear hj3 hO
    go_wp2_with fail
    go_roundw
    case rel=>exact⟨2,by omega,by go_num,hO3,hg3⟩
    case measure=>simp[intOf]
   ·have hX:((crc l).toNat:Int) / 65536 % 256=((tb (crc l) 2).toNat:Int):=by rw[tb_int];simp
    have HX:=Lib.hid hX
    clear hX
    go_wp2_with (at_builtin;refine stay ?_)
    refine stay_out ?_
    refine wpList_own (V:=New w wr) u8E _ rfl (.tmp 19) (.tmp 25) rfl _ _ _ rfl (own_alloc hO _) (wr.heap.size+1) (some ⟨wr.heap.size,0,none⟩) 1 1 (u8s [tb (crc l) 2]) rfl (Reads.cells_eq (reads_laid wr #[.int .u8 (((crc l).toNat:Int) / 65536 % 256)] 5 (0,0) rfl _ rfl) (by rw[HX.out];rfl)) u8s_one (by have:=hen;omega) ?_
    intro v3 w3 hO3 hj3
    rw[←u8s_append,List.append_assoc,show (sum4 (crc l)).take 2++[tb (crc l) 2]=(sum4 (crc l)).take 3 from rfl] at hO3
    obtain⟨hO3,hg3⟩:=own_more1 hg hO3 hj3
    clear hj3 hO
    go_wp2_with fail
    go_roundw
    case rel=>exact⟨3,by omega,by go_num,hO3,hg3⟩
    case measure=>simp[intOf]
   ·have hX:((crc l).toNat:Int) / 16777216=((tb (crc l) 3).toNat:Int):=by rw[tb_int];have:=(crc l).isLt;simp;omega
    have HX:=Lib.hid hX
    clear hX
    go_wp2_with (at_builtin;refine stay ?_)
    refine stay_out ?_
    refine wpList_own (V:=New w wr) u8E _ rfl (.tmp 19) (.tmp 25) rfl _ _ _ rfl (own_alloc hO _) (wr.heap.size+1) (some ⟨wr.heap.size,0,none⟩) 1 1 (u8s [tb (crc l) 3]) rfl (Reads.cells_eq (reads_laid wr #[.int .u8 (((crc l).toNat:Int) / 16777216)] 5 (0,0) rfl _ rfl) (by rw[HX.out];rfl)) u8s_one (by have:=hen;omega) ?_
    intro v3 w3 hO3 hj3
    rw[←u8s_append,List.append_assoc,show (sum4 (crc l)).take 3++[tb (crc l) 3]=(sum4 (crc l)).take 4 from rfl] at hO3
    obtain⟨hO3,hg3⟩:=own_more1 hg hO3 hj3
    clear hj3 hO
    go_wp2_with fail
    go_roundw
    case rel=>exact⟨4,by omega,by go_num,hO3,hg3⟩
    case measure=>simp[intOf]
  ·obtain rfl:k=4:=by omega
   rw[show (sum4 (crc l)).take 4=sum4 (crc l) from rfl] at hO
   obtain⟨A4,c4,rfl,hR4,hn4,hm4⟩:=hO.reads
   have hga:=(Below.refl wr.heap.size wr).alloc (Nat.le_refl _) (.cells #[.slice A4 ((enc n).length+4) c4,.slice A n c] 65)
   have hgw:=below_trans hg hga hg.size
   have hfr:[(⟨A4,(enc n).length+4,c4,enc n++sum4 (crc l)⟩:Bx),⟨A,n,c,l⟩].flatMap Bx.bs=frame l:=by
    unfold frame;rw[hlen]
    simp[List.append_assoc]
   have hcc:=concat_any (wr.alloc (.cells #[.slice A4 ((enc n).length+4) c4,.slice A n c] 65)) (some ⟨wr.heap.size,0,none⟩) 2 2 [⟨A4,(enc n).length+4,c4,enc n++sum4 (crc l)⟩,⟨A,n,c,l⟩] (Reads.more (reads_laid wr _ 65 _ rfl _ rfl) (by simp)) (fun b hb'=>by
    simp only[List.mem_cons,List.not_mem_nil,or_false] at hb'
    rcases hb' with rfl|rfl
    ·exact Reads.more (Reads.below hR4 hga) hga.size
    ·exact Reads.more (Reads.below hb hgw) hgw.size) (by unfold blen;rw[hfr,frame_len,hlen];omega) (by omega)
   unfold blen at hcc
   rw[hfr] at hcc
   go_wp2_with fail
   refine hcc.mono ?_
   rintro e w5 ⟨v5,rfl,hO5,hg5⟩
   clear hcc hO hR4
   go_wp2_with fail
   go_ret2
   have h5:=hga.size
   exact⟨v5,rfl,hO5.mono fun b hb=>⟨by have:=hb.1;have:=hgw.size;omega,hb.2⟩,below_trans hgw hg5 hgw.size⟩
theorem Bytes_long (w:World) (A:Option Addr) (n c:Nat) (hn:65536<n) :
 Calls Tryz.prog 152 #[.slice A n c] w fun e w'=>e=.returned (.tuple #[.slice none 0 0,.int .i64 3])∧w=w':=by
 go_enter Tryz.func152,Tryz.ntmps152
 go_wp2_with fail
 go_ret2
 exact⟨rfl,rfl⟩
end Go.Proofs.YtmijcbfgfkeodaaGreatDoor.V
end
section
namespace Go.Proofs.YtmijcbfgfkeodaaGreatDoor
open Go.RowKit Go.Hop Go.Proofs.YtmijcbfgfkeodaaGreatDoor.V
def askB (e:En):List UInt8:=[UInt8.ofNat 1]++enc (enB e).length++enB e
def ansB (tag code:Int) (n:Nat):List UInt8:=[UInt8.ofNat 2]++enc tag.toNat++enc code.toNat++enc n
theorem enB_len {e:En} (h:e.Ok):(enB e).length≤9000:=by
 obtain⟨⟨h1,h2⟩,h3⟩:=h
 have e1:=enc_ten (n:=e.fr.toNat) (by omega)
 have e2:=enc_ten (n:=e.tg.toNat) (by omega)
 unfold enB
 rcases h3 with h3|h3
 ·rw[if_neg (by rw[h3.1];decide)]
  have e3:=dsB_len e.ds (w_small h3)
  obtain⟨_,_,ha,hs,hq,he,hn,_⟩:=h3
  have e4:=encs_len [e.ag.toNat,e.sh.toNat,e.sq.toNat,e.ep.toNat,e.ds.length] (by intro n hn;simp at hn;omega)
  simp only[List.length_append,List.length_singleton]
  simp only[List.length_cons,List.length_nil] at e4
  omega
 ·rw[if_pos h3.1]
  obtain⟨_,_,_,_,_,_,_,hsz⟩:=h3
  have e3:=enc_ten (n:=e.se.size) (by omega)
  have e4:e.se.data.toList.length=e.se.size:=rfl
  simp only[List.length_append,List.length_singleton]
  omega
theorem askB_len {e:En} (h:e.Ok):(askB e).length≤9100:=by
 have:=enB_len h
 have:=enc_ten (n:=(enB e).length) (by omega)
 unfold askB
 simp only[List.length_append,List.length_singleton]
 omega
theorem ansB_len {tag code:Int} {n:Nat} (ht:0≤tag∧tag≤9223372036854775807) (hc:0≤code∧code≤255) (hn:n<18446744073709551616):(ansB tag code n).length≤31:=by
 have:=enc_ten (n:=tag.toNat) (by omega)
 have:=enc_ten (n:=code.toNat) (by omega)
 have:=enc_ten hn
 unfold ansB
 simp only[List.length_append,List.length_singleton]
 omega
theorem body_ask (w:World) (e:En) (V:Nat→Prop) (A:Option Addr) (c:Nat) (hok:e.Ok) (hd:DIn w V A e.ds.length e.ds):Calls Tryz.prog 308 #[.agg (askM e A c)] w fun en w'=>∃ v,en=.returned v∧Grow w w'∧IsBytes (askB e) v w':=by
 have hB:=fun (w1:World) (hg:Grow w w1)=>Bytes_ok w1 e V A c hok (In.grow hd hg)
 have hlen:=enB_len hok
 obtain⟨bs,HB⟩:∃ bs,Hid (bs=enB e):=⟨_,rfl⟩
 have hfin:askB e=[UInt8.ofNat 1]++enc bs.length++bs:=by rw[HB.out];rfl
 rw[hfin]
 rw[←HB.out] at hB hlen
 clear hfin hok hd
 unfold askM
 obtain⟨k,ag,sh,sq,ep,ds,se,fr,tg⟩:=e
 unfold En.agg at hB
 dsimp only at hB ⊢
 go_enter Tryz.func308,Tryz.ntmps308
 go_wp2_with fail
 have hg0:=(grow_alloc w (.cells #[.int .i64 1,.int .i64 k,.int .i64 ag,.int .i64 sh,.int .i64 sq,.int .i64 ep,.slice A ds.length c,.string se,.int .i64 fr,.int .i64 tg,.int .i64 0,.int .i64 0,.int .u64 0,.int .i64 0,.int .i64 0,.slice none 0 0,.int .i64 0,.int .i64 0] 73)).trans (grow_alloc _ (.cells #[.int .u8 1] 5))
 refine (hB _ hg0).mono ?_
 rintro e w1 ⟨v1,rfl,hg1,hb1⟩
 have h1:IsBytes [UInt8.ofNat 1] (.slice (some ⟨w.heap.size+1,0,none⟩) 1 1) w1:=by
  have h2:=lit_is (w.alloc (.cells #[.int .i64 1,.int .i64 k,.int .i64 ag,.int .i64 sh,.int .i64 sq,.int .i64 ep,.slice A ds.length c,.string se,.int .i64 fr,.int .i64 tg,.int .i64 0,.int .i64 0,.int .u64 0,.int .i64 0,.int .i64 0,.slice none 0 0,.int .i64 0,.int .i64 0] 73)) #[.int .u8 1] 5 1 [UInt8.ofNat 1] rfl rfl (by decide)
  rw[alloc_size] at h2
  exact h2.below hg1
 have cv:=conv_is w1 hb1
 have hT:=vText_is w1 _ _ ⟨bs.toArray⟩ h1 (by simp) (by show bs.toArray.size≤_;simp;omega)
 rw[show (ByteArray.mk bs.toArray).size=bs.length by show bs.toArray.size=_;simp,show (ByteArray.mk bs.toArray).data.toList=bs from rfl] at hT
 go_wp2_with fail
 refine hT.mono ?_
 rintro e w2 ⟨v2,rfl,hg2,hb2⟩
 go_wp2_with fail
 go_ret
 exact⟨v2,rfl,hg0.trans (hg1.trans hg2),hb2⟩
theorem body_ans (w:World) (TG CO:Nat) (n:Nat) (ht:TG≤9223372036854775807) (hc:CO≤255) (hn:n<18446744073709551616):Calls Tryz.prog 308 #[.agg (ansM (TG:Int) (CO:Int) n)] w fun en w'=>∃ v,en=.returned v∧Grow w w'∧IsBytes (ansB (TG:Int) (CO:Int) n) v w':=by
 have hfin:ansB (TG:Int) (CO:Int) n=[UInt8.ofNat 2]++enc TG++enc CO++enc n:=by unfold ansB;rw[Int.toNat_natCast,Int.toNat_natCast]
 rw[hfin]
 clear hfin
 obtain⟨LB,HLB⟩:∃ LB,Hid (LB=[UInt8.ofNat 2]++enc TG++enc CO++enc n):=⟨_,rfl⟩
 rw[←HLB.out]
 unfold ansM
 have k219:∀ (vs:Array Value) (w:World),(callFunc 219 vs).run Tryz.prog w=.ok (.enter 219 vs) w:=fun vs w=>by go_simp
 have hg0:=(grow_alloc w (.cells #[.int .i64 2,.int .i64 0,.int .i64 0,.int .i64 0,.int .i64 0,.int .i64 0,.slice none 0 0,.string ⟨#[]⟩,.int .i64 0,.int .i64 0,.int .i64 (TG:Int),.int .i64 (CO:Int),.int .u64 (n:Int),.int .i64 0,.int .i64 0,.slice none 0 0,.int .i64 0,.int .i64 0] 73)).trans (grow_alloc _ (.cells #[.int .u8 2] 5))
 have hBk:=(Blk.made w 73 #[.int .i64 2,.int .i64 0,.int .i64 0,.int .i64 0,.int .i64 0,.int .i64 0,.slice none 0 0,.string ⟨#[]⟩,.int .i64 0,.int .i64 0,.int .i64 (TG:Int),.int .i64 (CO:Int),.int .u64 (n:Int),.int .i64 0,.int .i64 0,.slice none 0 0,.int .i64 0,.int .i64 0]).alloc (.cells #[.int .u8 2] 5)
 have h2:=lit_is (w.alloc (.cells #[.int .i64 2,.int .i64 0,.int .i64 0,.int .i64 0,.int .i64 0,.int .i64 0,.slice none 0 0,.string ⟨#[]⟩,.int .i64 0,.int .i64 0,.int .i64 (TG:Int),.int .i64 (CO:Int),.int .u64 (n:Int),.int .i64 0,.int .i64 0,.slice none 0 0,.int .i64 0,.int .i64 0] 73)) #[.int .u8 2] 5 1 [UInt8.ofNat 2] rfl rfl (by decide)
 rw[alloc_size] at h2
 obtain⟨x,HX⟩:∃ x:Nat,Hid (x=w.heap.size):=⟨_,rfl⟩
 obtain⟨wa,HA⟩:∃ wa:World,Hid (wa=(w.alloc (.cells #[.int .i64 2,.int .i64 0,.int .i64 0,.int .i64 0,.int .i64 0,.int .i64 0,.slice none 0 0,.string ⟨#[]⟩,.int .i64 0,.int .i64 0,.int .i64 (TG:Int),.int .i64 (CO:Int),.int .u64 (n:Int),.int .i64 0,.int .i64 0,.slice none 0 0,.int .i64 0,.int .i64 0] 73)).alloc (.cells #[.int .u8 2] 5)):=⟨_,rfl⟩
 rw[←HA.out] at hg0 hBk h2
 rw[←HX.out] at hBk h2
 have wT:IntKind.u64.wrap (TG:Int)=(TG:Int):=by rw[wrap_u64];omega
 have wC:IntKind.u64.wrap (CO:Int)=(CO:Int):=by rw[wrap_u64];omega
 go_enter Tryz.func308,Tryz.ntmps308
 go_wp2_with fail
 rw[←HA.out,←HX.out]
 refine wp_region_flow 13 73 [(4,.inr (fun _=>IsBytes ([UInt8.ofNat 2]++enc TG))),(8,.inr (fun _=>IsBytes ([UInt8.ofNat 2]++enc TG++enc CO))),(11,.inr (fun _=>IsBytes ([UInt8.ofNat 2]++enc TG++enc CO++enc n)))] rfl rfl (by kernel_rfl) (by kernel_rfl) (by kernel_rfl) ?_ ?_
 ·intro x hx φ he
  simp only[List.mem_cons,List.not_mem_nil,or_false] at hx
  rcases hx with rfl|rfl|rfl<;>cases he
  all_goals first|exact lasts_quiet (lasting_bytes _)|fail
 intro ops' A' K' T hops hA' hK hT
 refine fl_mvN 26 (.slice (some ⟨x+1,0,none⟩) 1 1) ?_
 refine fl_op1G 27 (.tmp 1) (.pointer (some ⟨x,0,none⟩)) (.pointer (some ⟨x,10,none⟩)) ?_
 refine fl_op1N 28 (.tmp 27) (.pointer (some ⟨x,10,none⟩)) (.int .i64 (TG:Int)) (fun ρ h1 kk w1 (hg:Grow _ w1) hb hf=>by have c:=(hBk.grow hg).cell 10;go_simp) ?_
 refine fl_op1N 29 (.tmp 28) (.int .i64 (TG:Int)) (.int .u64 (TG:Int)) (fun ρ h1 kk w1 (hg:Grow _ w1) hb hf=>by go_simp;try rfl) ?_
 refine fl_callAny 30 (by rfl) (by decide) (wanted_none (by rfl)) (fun _=>IsBytes ([UInt8.ofNat 2]++enc TG)) (by rw[hK.out];rfl) 219 _ _ (by rfl) [.slice (some ⟨x+1,0,none⟩) 1 1,.int .u64 (TG:Int)] (by rfl) k219 (fun kk w1 (hg:Grow _ w1) hb hf=>calls_behindAny (φ:=fun _=>IsBytes ([UInt8.ofNat 2]++enc TG)) (by rfl) (by exact vPut_is w1 _ [UInt8.ofNat 2] TG (h2.below hg) (by simp) (by omega))) (fun v30=>?_)
 refine fl_op1G 31 (.tmp 1) (.pointer (some ⟨x,0,none⟩)) (.pointer (some ⟨x,11,none⟩)) ?_
 refine fl_op1N 32 (.tmp 31) (.pointer (some ⟨x,11,none⟩)) (.int .i64 (CO:Int)) (fun ρ h1 kk w1 (hg:Grow _ w1) hb hf=>by have c:=(hBk.grow hg).cell 11;go_simp) ?_
 refine fl_op1N 33 (.tmp 32) (.int .i64 (CO:Int)) (.int .u64 (CO:Int)) (fun ρ h1 kk w1 (hg:Grow _ w1) hb hf=>by go_simp;try rfl) ?_
 refine fl_callAny 34 (by rfl) (by decide) (wanted_none (by rfl)) (fun _=>IsBytes ([UInt8.ofNat 2]++enc TG++enc CO)) (by rw[hK.out];rfl) 219 _ _ (by rfl) [v30,.int .u64 (CO:Int)] (by rfl) k219 (fun kk w1 (hg:Grow _ w1) hb hf=>calls_behindAny (φ:=fun _=>IsBytes ([UInt8.ofNat 2]++enc TG++enc CO)) (by rfl) (by exact vPut_is w1 v30 _ CO (facts_take hf (by rw[hA'.out];kernel_rfl)) (by have:=enc_ten (n:=TG) (by omega);simp only[List.length_append,List.length_singleton];omega) (by omega))) (fun v34=>?_)
 refine fl_op1G 35 (.tmp 1) (.pointer (some ⟨x,0,none⟩)) (.pointer (some ⟨x,12,none⟩)) ?_
 refine fl_op1N 36 (.tmp 35) (.pointer (some ⟨x,12,none⟩)) (.int .u64 (n:Int)) (fun ρ h1 kk w1 (hg:Grow _ w1) hb hf=>by have c:=(hBk.grow hg).cell 12;go_simp) ?_
 refine fl_callAny 37 (by rfl) (by decide) (wanted_none (by rfl)) (fun _=>IsBytes ([UInt8.ofNat 2]++enc TG++enc CO++enc n)) (by rw[hK.out];rfl) 219 _ _ (by rfl) [v34,.int .u64 (n:Int)] (by rfl) k219 (fun kk w1 (hg:Grow _ w1) hb hf=>calls_behindAny (φ:=fun _=>IsBytes ([UInt8.ofNat 2]++enc TG++enc CO++enc n)) (by rfl) (by exact vPut_is w1 v34 _ n (facts_take hf (by rw[hA'.out];kernel_rfl)) (by have:=enc_ten (n:=TG) (by omega);have:=enc_ten (n:=CO) (by omega);simp only[List.length_append,List.length_singleton];omega) hn)) (fun v37=>?_)
 refine fl_mvN 2 (v37) ?_
 refine fl_end (fun _ _ w1 (hg:Grow _ w1) _ hfacts=>hT _ _ ?_)
 clear hops hA' hK hT
 simp only[putsL,Act.put,List.setIfInBounds_toArray,List.set_cons_zero,List.set_cons_succ,List.drop_succ_cons,List.drop_zero]
 have hE:=hfacts.1
 clear hfacts
 go_wp2_with fail
 go_ret
 exact⟨v37,rfl,hg0.trans hg,by rw[HLB.out];exact hE⟩
theorem mBytes_ask (w:World) (e:En) (V:Nat→Prop) (A:Option Addr) (c:Nat) (hok:e.Ok) (hd:DIn w V A e.ds.length e.ds):Calls Tryz.prog 252 #[.agg (askM e A c)] w fun en w'=>∃ v,en=.returned (.tuple #[v,.int .i64 0])∧Grow w w'∧IsBytes (frame (askB e)) v w':=by
 have hln:=askB_len hok
 have hR:=fun w1 (hg:Grow w w1)=>mRight_ask w1 e V A c hok (In.grow hd hg)
 have hBd:=fun w1 (hg:Grow w w1)=>body_ask w1 e V A c hok (In.grow hd hg)
 clear hok hd
 obtain⟨LB,HLB⟩:∃ LB:List UInt8,Hid (LB=askB e):=⟨_,rfl⟩
 rw[←HLB.out] at hln hBd ⊢
 unfold askM at *
 obtain⟨k,ag,sh,sq,ep,ds,se,fr,tg⟩:=e
 dsimp only at *
 have hX:=Blk.made w 73 #[.int .i64 1,.int .i64 k,.int .i64 ag,.int .i64 sh,.int .i64 sq,.int .i64 ep,.slice A ds.length c,.string se,.int .i64 fr,.int .i64 tg,.int .i64 0,.int .i64 0,.int .u64 0,.int .i64 0,.int .i64 0,.slice none 0 0,.int .i64 0,.int .i64 0]
 obtain⟨x,HX⟩:∃ x:Nat,Hid (x=w.heap.size):=⟨_,rfl⟩
 have hga:=grow_alloc w (.cells #[.int .i64 1,.int .i64 k,.int .i64 ag,.int .i64 sh,.int .i64 sq,.int .i64 ep,.slice A ds.length c,.string se,.int .i64 fr,.int .i64 tg,.int .i64 0,.int .i64 0,.int .u64 0,.int .i64 0,.int .i64 0,.slice none 0 0,.int .i64 0,.int .i64 0] 73)
 obtain⟨wa,HA⟩:∃ wa:World,Hid (wa=w.alloc (.cells #[.int .i64 1,.int .i64 k,.int .i64 ag,.int .i64 sh,.int .i64 sq,.int .i64 ep,.slice A ds.length c,.string se,.int .i64 fr,.int .i64 tg,.int .i64 0,.int .i64 0,.int .u64 0,.int .i64 0,.int .i64 0,.slice none 0 0,.int .i64 0,.int .i64 0] 73)):=⟨_,rfl⟩
 rw[←HA.out] at hX hga
 rw[←HX.out] at hX
 have hR:=hR wa hga
 have hBd:=fun w1 (hg:Grow wa w1)=>hBd w1 (hga.trans hg)
 go_enter Tryz.func252,Tryz.ntmps252
 go_wp2_with (refine wpList_load_blk rfl 73 _ rfl _ rfl (Blk.made w 73 _) Tryz.underlying73 (by kernel_rfl) ?_)
 rw[←HA.out,←HX.out]
 refine hR.mono ?_
 rintro e w1 ⟨rfl,hg1⟩
 have hX1:=hX.grow hg1
 have hBd:=hBd w1 hg1
 go_wp2_with (refine wpList_load_blk rfl 73 _ rfl _ rfl (hX1) Tryz.underlying73 (by kernel_rfl) ?_)
 refine hBd.mono ?_
 rintro e w2 ⟨v2,rfl,hg2,hb2⟩
 obtain⟨A2,n2,c2,rfl,hb2,hnc2,hcm2⟩:=hb2
 go_wp2_with fail
 refine (Bytes_any w2 A2 n2 c2 _ hb2 (by have:=hb2.len;omega)).mono ?_
 rintro e w3 ⟨v3,rfl,hO3,hg3⟩
 go_wp2_with fail
 go_ret2
 exact⟨v3,rfl,hga.trans (hg1.trans (hg2.trans hg3)),hO3.isBytes⟩
theorem mBytes_ans (w:World) (tag code:Int) (n:Nat) (ht:0≤tag∧tag≤9223372036854775807) (hc:0≤code∧code≤255) (hn:n<18446744073709551616):Calls Tryz.prog 252 #[.agg (ansM tag code n)] w fun en w'=>∃ v,en=.returned (.tuple #[v,.int .i64 0])∧Grow w w'∧IsBytes (frame (ansB tag code n)) v w':=by
 have hln:=ansB_len ht hc hn
 have hR:=fun w1 (_:Grow w w1)=>mRight_ans w1 tag code n ht.1 hc
 obtain⟨TG,rfl⟩:=Int.eq_ofNat_of_zero_le ht.1
 obtain⟨CO,rfl⟩:=Int.eq_ofNat_of_zero_le hc.1
 have hBd:=fun w1 (_:Grow w w1)=>body_ans w1 TG CO n (by omega) (by omega) hn
 obtain⟨LB,HLB⟩:∃ LB,Hid (LB=ansB (TG:Int) (CO:Int) n):=⟨_,rfl⟩
 rw[←HLB.out] at hln hBd ⊢
 unfold ansM at *
 have hX:=Blk.made w 73 #[.int .i64 2,.int .i64 0,.int .i64 0,.int .i64 0,.int .i64 0,.int .i64 0,.slice none 0 0,.string ⟨#[]⟩,.int .i64 0,.int .i64 0,.int .i64 (TG:Int),.int .i64 (CO:Int),.int .u64 (n:Int),.int .i64 0,.int .i64 0,.slice none 0 0,.int .i64 0,.int .i64 0]
 obtain⟨x,HX⟩:∃ x:Nat,Hid (x=w.heap.size):=⟨_,rfl⟩
 have hga:=grow_alloc w (.cells #[.int .i64 2,.int .i64 0,.int .i64 0,.int .i64 0,.int .i64 0,.int .i64 0,.slice none 0 0,.string ⟨#[]⟩,.int .i64 0,.int .i64 0,.int .i64 (TG:Int),.int .i64 (CO:Int),.int .u64 (n:Int),.int .i64 0,.int .i64 0,.slice none 0 0,.int .i64 0,.int .i64 0] 73)
 obtain⟨wa,HA⟩:∃ wa:World,Hid (wa=w.alloc (.cells #[.int .i64 2,.int .i64 0,.int .i64 0,.int .i64 0,.int .i64 0,.int .i64 0,.slice none 0 0,.string ⟨#[]⟩,.int .i64 0,.int .i64 0,.int .i64 (TG:Int),.int .i64 (CO:Int),.int .u64 (n:Int),.int .i64 0,.int .i64 0,.slice none 0 0,.int .i64 0,.int .i64 0] 73)):=⟨_,rfl⟩
 rw[←HA.out] at hX hga
 rw[←HX.out] at hX
 have hR:=hR wa hga
 have hBd:=fun w1 (hg:Grow wa w1)=>hBd w1 (hga.trans hg)
 go_enter Tryz.func252,Tryz.ntmps252
 go_wp2_with (refine wpList_load_blk rfl 73 _ rfl _ rfl (Blk.made w 73 _) Tryz.underlying73 (by kernel_rfl) ?_)
 rw[←HA.out,←HX.out]
 refine hR.mono ?_
 rintro e w1 ⟨rfl,hg1⟩
 have hX1:=hX.grow hg1
 have hBd:=hBd w1 hg1
 go_wp2_with (refine wpList_load_blk rfl 73 _ rfl _ rfl (hX1) Tryz.underlying73 (by kernel_rfl) ?_)
 refine hBd.mono ?_
 rintro e w2 ⟨v2,rfl,hg2,hb2⟩
 obtain⟨A2,n2,c2,rfl,hb2,hnc2,hcm2⟩:=hb2
 go_wp2_with fail
 refine (Bytes_any w2 A2 n2 c2 _ hb2 (by have:=hb2.len;omega)).mono ?_
 rintro e w3 ⟨v3,rfl,hO3,hg3⟩
 go_wp2_with fail
 go_ret2
 exact⟨v3,rfl,hga.trans (hg1.trans (hg2.trans hg3)),hO3.isBytes⟩
theorem bytesWorld_grow (w:World) (e:TypeId) (s:ByteArray):Grow w (Lib.bytesWorld w e s):=
 ⟨rfl,rfl,rfl,by rw[Lib.bytesWorld_size];omega,fun i hi=>Lib.bytesWorld_at_old w e s i hi⟩
theorem bytesWorld_is (w:World) (e:TypeId) (s:ByteArray) (hs:s.size≤1099511627776):IsBytes s.data.toList (.slice (some ⟨w.heap.size,0,none⟩) s.size (grownCap w s.size 0 e)) (Lib.bytesWorld w e s):=by
 refine⟨_,_,_,rfl,⟨by simp[u8s],fun _=>⟨_,rfl,by rw[Lib.bytesWorld_size];simp,fun j u hu=>?_⟩⟩,grownCap_ge w s.size 0 e,grownCap_le_maxLen w s.size 0 e (by unfold maxLen;omega)⟩
 obtain⟨hj,rfl⟩:=u8s_get hu
 have hadd:(⟨w.heap.size,0,none⟩:Addr).add j=⟨w.heap.size,j,none⟩:=by unfold Addr.add;split<;>simp_all
 rw[hadd,Lib.bytesWorld_cell w e s j hj]
 have hj':j<s.data.size:=by simpa using hj
 simp[List.getD,Array.getElem?_eq_getElem hj']
theorem only_of {r:Nat} {w w':World} (J:Just (fun b=>b=r∨w.heap.size≤b) w w'):Only r w w':=
 ⟨J.os,J.tape,J.output,J.size,fun b hb hne=>J.block b hb fun h=>h.elim (fun e=>hne (by rw[e])) (fun e=>by omega)⟩
theorem read_ask (w:World) (r B:Nat) (e:En) (hok:e.Ok) (hw:e.W) (h:RdAt r B (enc (enB e).length++enB e++[]) w) :
 Calls Tryz.prog 103 #[.pointer (some ⟨r,0,none⟩),.int .i64 1] w fun en w'=>∃ A' c',en=.returned (.tuple #[.agg (askM e A' c'),.bool true])∧ElIn w' (New w w') ⟨e,A',c'⟩∧RdAt r B [] w'∧Only r w w':=by
 have hlen:=enB_len hok
 have hER:=fun (w1:World) (A:Option Addr) (n c:Nat) (hb:Bytes w1 w1.heap.size A n (enB e)) (h1:n≤c) (h2:c≤maxLen)=>Read_w w1 e A n c hok hw hb h1 h2
 obtain⟨bs,HB⟩:∃ bs,Hid (bs=enB e):=⟨_,rfl⟩
 rw[←HB.out] at h hlen
 rw[←HB.out] at hER
 clear hok hw
 obtain⟨k,ag,sh,sq,ep,ds,se,fr,tg⟩:=e
 unfold askM
 unfold En.agg at hER
 dsimp only at hER ⊢
 have hrw:=h.lt
 have hB0:=h.1
 go_enter Tryz.func103,Tryz.ntmps103
 go_wp2_with (refine wpList_new rfl (run_alcM _ _ _ rfl) ?_;intro x wx hX hgx hsx hzx;refine stay ?_)
 refine stay_out ?_
 go_wp2_with (refine wpList_new rfl (run_alcM _ _ _ rfl) ?_;intro y wy hY hgy hsy hzy;refine stay ?_)
 refine stay_out ?_
 refine wpList_fill rfl 73 _ _ rfl _ rfl [.int .i64 1,.int .i64 0,.int .i64 0,.int .i64 0,.int .i64 0,.int .i64 0,.slice none 0 0,.string ⟨#[]⟩,.int .i64 0,.int .i64 0,.int .i64 0,.int .i64 0,.int .u64 0,.int .i64 0,.int .i64 0,.slice none 0 0,.int .i64 0,.int .i64 0] rfl (hY) rfl rfl (by kernel_rfl) ?_
 intro wa hYa hja hsa
 have hXa:=hja.blk (hX.grow hgy) (by omega)
 have hga:Grow w wa:=Below.trans (hgx.trans hgy) (hja.below (B:=w.heap.size) (fun b hb=>by rw[hb];omega) (hgx.trans hgy).size)
 have hT:=rText_any wa r B bs [] (by omega) (h.grow hga)
 have hxr:x≠r:=by omega
 have hyr:y≠r:=by omega
 have hBx:B≤x:=by omega
 clear hX hY
 go_wp2_with fail
 refine hT.mono ?_
 rintro e w1 ⟨rfl,hR1,ho1⟩
 have hX1:=Only.blk ho1 hXa hxr
 have hY1:=Only.blk ho1 hYa hyr
 have hcv:=Lib.run_convert_string_bytes (P:=Tryz.prog) w1 9 65 5 ⟨bs.toArray⟩ (u := .string) Tryz.underlying9 Tryz.underlying65 Tryz.underlying5
 have hgc:=bytesWorld_grow w1 5 ⟨bs.toArray⟩
 have hic:=bytesWorld_is w1 5 ⟨bs.toArray⟩ (by show bs.toArray.size≤_;simp;omega)
 obtain⟨Ac,nc,cc,hsl,hbc,hncc,hcmc⟩:=hic
 rw[hsl] at hcv
 clear hsl
 obtain⟨wc,HC⟩:∃ wc,Hid (wc=Lib.bytesWorld w1 5 ⟨bs.toArray⟩):=⟨_,rfl⟩
 rw[←HC.out] at hcv hgc hbc
 have hE:=hER wc Ac nc cc hbc hncc hcmc
 clear hER
 go_wp2_with fail
 refine hE.mono ?_
 rintro e w2 ⟨A2,c2,rfl,hel,hg2⟩
 have hg12:=hgc.trans hg2
 have hg3:=grow_alloc w2 (.cells #[.int .i64 k,.int .i64 ag,.int .i64 sh,.int .i64 sq,.int .i64 ep,.slice A2 ds.length c2,.string se,.int .i64 fr,.int .i64 tg] 32)
 have hX3:=(hX1.grow hg12).grow hg3
 have hY3:=(hY1.grow hg12).grow hg3
 have hR3:=(hR1.grow hg12).grow hg3
 clear hcv
 go_wp2_with (refine wpList_part rfl 32 _ _ rfl (y) 1 rfl [.int .i64 k,.int .i64 ag,.int .i64 sh,.int .i64 sq,.int .i64 ep,.slice A2 ds.length c2,.string se,.int .i64 fr,.int .i64 tg] rfl (hY3) (Nat.le_of_ble_eq_true rfl) rfl (by kernel_rfl) (cs':=#[.int .i64 1,.int .i64 k,.int .i64 ag,.int .i64 sh,.int .i64 sq,.int .i64 ep,.slice A2 ds.length c2,.string se,.int .i64 fr,.int .i64 tg,.int .i64 0,.int .i64 0,.int .u64 0,.int .i64 0,.int .i64 0,.slice none 0 0,.int .i64 0,.int .i64 0]) rfl ?_;intro w4 hY4 hj4 hs4;refine stay ?_)
 refine stay_out ?_
 have hX4:=hj4.blk hX3 (by omega)
 go_wp2_with (first|(refine wpList_load_blk rfl 73 _ rfl _ rfl (hY4) Tryz.underlying73 (by kernel_rfl) ?_)|(refine wpList_fill rfl 73 _ _ rfl _ rfl [.int .i64 1,.int .i64 k,.int .i64 ag,.int .i64 sh,.int .i64 sq,.int .i64 ep,.slice A2 ds.length c2,.string se,.int .i64 fr,.int .i64 tg,.int .i64 0,.int .i64 0,.int .u64 0,.int .i64 0,.int .i64 0,.slice none 0 0,.int .i64 0,.int .i64 0] rfl (hX4) rfl rfl (by kernel_rfl) ?_;intro w5 hX5 hj5 hs5;refine stay ?_))
 refine stay_out ?_
 go_wp2_with fail
 refine bodyPost_ret (results_blk_tmp rfl _ x rfl hX5 Tryz.underlying73 (by kernel_rfl)) rfl ?_
 have hx1:=hX1.lt
 have hy1:=hY1.lt
 have s1:=hgc.size
 have J:=((((Just.of_grow (V:=fun b=>b=r∨w.heap.size≤b) hga).trans (Just.of_only ho1 (.inl rfl))).trans (Just.of_grow (hg12.trans hg3))).trans (hj4.imp fun b hb => .inr (by omega))).trans (hj5.imp fun b hb => .inr (by omega))
 refine⟨A2,c2,rfl,⟨In.mono (V:=New wc w2) (In.just (In.just (In.grow hel.1 hg3) hj4 fun b hb e=>by have:=hb.1;omega) hj5 fun b hb e=>by have:=hb.1;omega) fun b hb=>⟨by have:=hb.1;have:=ho1.size;have:=hga.size;omega,by have h2:=hb.2;have h3:=hg3.size;omega⟩,hel.2⟩,?_,only_of J⟩
 exact (hR3.just hj4 (fun e=>hyr e.symm) (fun b hb=>by omega)).just hj5 (fun e=>hxr e.symm) (fun b hb=>by omega)
end Go.Proofs.YtmijcbfgfkeodaaGreatDoor
end
