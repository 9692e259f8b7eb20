/- Fplain, Cat, Fbytes, Ml3, Ml4, Ml5. -/
import Derived.Test.YtmijcbfgfkeodaaGreatDoorIz12
import Derived.Lib.AppendZeros
import Derived.Lib.ConvBytes
set_option linter.all false
set_option maxRecDepth 100000
open Go.Value renaming int → ae,slice → ai
open Go.IntKind renaming i64 → af,u64 → ah
open Go.Proofs.Tryz renaming prog → au
open List renaming setIfInBounds_toArray → aw,drop_succ_cons → ax,set_cons_zero → ay,set_cons_succ → az,drop_zero → aB,length_append → aD,not_mem_nil → aE,mem_cons → aF,take_succ_eq_append_getElem → aI,length_take → aK,length_cons → aL,append_assoc → aM,take_of_length_le → aN,getElem_mem → aO,nil_append → aR,length_singleton → aT,flatMap_cons → aU,flatMap_append → bd,append_nil → bf,length_drop → bh,prefix_append → br,length_nil → bu,take_zero → bw,flatMap_nil → bB
open Nat renaming le_refl → aC,le_of_ble_eq_true → aQ,zero_le → aZ,zero_add → a_,eq_zero_or_pos → bj,mul_one → bC
open Int renaming eq_ofNat_of_zero_le → aW,toNat_natCast → bv
section
namespace Go.Proofs.YtmijcbfgfkeodaaGreatDoor.V
open Go.RowKit Go.Hop
def tb (t:BitVec 32) (i:Nat):UInt8:=⟨(t >>> (8*i)).setWidth 8⟩
theorem pf (c:BitVec 32) (i:Nat):(tb c i).toNat=c.toNat / 2 ^ (8*i) % 256:=by
 show ((c >>> (8*i)).setWidth 8).toNat=_
 rw[BitVec.toNat_setWidth,BitVec.toNat_ushiftRight,Nat.shiftRight_eq_div_pow]
def jg (c:BitVec 32):List UInt8:=[tb c 0,tb c 1,tb c 2,tb c 3]
theorem tL (c:BitVec 32):(jg c).length=4:=rfl
def frame (l:List UInt8):List UInt8:=enc l.length++(jg (crc l)++l)
theorem jt (l:List UInt8):(frame l).length=(enc l.length).length+4+l.length:=by
 unfold frame;rw[aD,aD,tL];omega
theorem ip {l r:List UInt8} (h:frame l <+: r):enc l.length <+: r:=(br _ _).trans h
theorem qZ {l l' r:List UInt8} (h:frame l <+: r) (h':frame l' <+: r):l=l':=by
 have he:=fX (ip h) (ip h')
 obtain⟨s,rfl⟩:=h
 unfold frame at h'
 rw[←he] at h'
 rw[aM] at h'
 have h2:=(List.prefix_append_right_inj _).1 h'
 obtain⟨t,ht⟩:=h2
 rw[aM,aM] at ht
 have h3:jg (crc l')=jg (crc l):=(List.append_inj ht rfl).1
 have h4:l'++t=l++s:=(List.append_inj ht rfl).2
 exact ((List.append_inj h4 he.symm).1).symm
def gO (l x:List UInt8) (k:Nat) (ok:Bool):Prop:=
 (ok=true∧x.length≤65536∧frame x <+: l∧k=(frame x).length)∨(ok=false∧(∀ y:List UInt8,y.length≤65536→¬ frame y <+: l)∧x=[]∧k=0)
theorem gO.none {l:List UInt8} (h:∀ y:List UInt8,y.length≤65536→¬ frame y <+: l):gO l [] 0 false := .inr ⟨rfl,h,rfl,rfl⟩
theorem gO.one {l x x':List UInt8} {k k':Nat} {ok ok':Bool} (h:gO l x k ok) (h':gO l x' k' ok'):x=x'∧k=k'∧ok=ok':=by
 rcases h with ⟨a1,a2,a3,a4⟩|⟨a1,a2,a3,a4⟩<;>rcases h' with ⟨b1,b2,b3,b4⟩|⟨b1,b2,b3,b4⟩
 ·have:=qZ a3 b3
  subst this
  exact⟨rfl,by omega,by rw[a1,b1]⟩
 ·exact absurd a3 (b2 _ a2)
 ·exact absurd b3 (a2 _ b2)
 ·exact⟨by rw[a3,b3],by omega,by rw[a1,b1]⟩
theorem Ck {l:List UInt8} (h:∀ m,m<18446744073709551616→¬ enc m <+: l):∀ y:List UInt8,y.length≤65536→¬ frame y <+: l:=
 fun y hy hp=>h y.length al (ip hp)
theorem vZ {l:List UInt8} {n:Nat} (h:enc n <+: l) (hn:65536<n):∀ y:List UInt8,y.length≤65536→¬ frame y <+: l:=fun y hy hp=>by
 have:=fX h (ip hp);omega
theorem wh {l:List UInt8} {n:Nat} (h:enc n <+: l) (hn:l.length<(enc n).length+4+n):∀ y:List UInt8,y.length≤65536→¬ frame y <+: l:=fun y hy hp=>by
 have he:=fX h (ip hp)
 have h1:=hp.length_le
 rw[jt,←he] at h1
 omega
theorem yd {l:List UInt8} {n k:Nat} (h:enc n <+: l) (hk:k=(enc n).length) (hn:k+4+n≤l.length) :
 ∃ s x r:List UInt8,l=enc n++(s++(x++r))∧s=(l.drop k).take 4∧x=(l.drop (k+4)).take n∧s.length=4∧x.length=n:=by
 obtain⟨t,rfl⟩:=h
 subst hk
 rw[aD] at hn
 refine⟨t.take 4,(t.drop 4).take n,(t.drop 4).drop n,?_,?_,?_,by rw[aK];omega,by rw[aK,bh];omega⟩
 ·rw[List.take_append_drop,List.take_append_drop]
 ·rw[List.drop_left'];rfl
 ·rw[←List.drop_drop,List.drop_left'];rfl
theorem tM {l:List UInt8} {n k:Nat} (h:enc n <+: l) (hk:k=(enc n).length) (hn:k+4+n≤l.length) (h6:n≤65536) (hs:(l.drop k).take 4=jg (crc ((l.drop (k+4)).take n))) :
 gO l ((l.drop (k+4)).take n) (k+4+n) true:=by
 obtain⟨s,x,r,hl,h1,h2,h3,h4⟩:=yd h hk hn
 rw[←h2]
 rw[←h1,←h2] at hs
 refine .inl ⟨rfl,by omega,⟨r,?_⟩,by rw[jt,h4,←hk]⟩
 unfold frame
 rw[hl,h4,hs,aM,aM]
theorem ye {l:List UInt8} {n k:Nat} (h:enc n <+: l) (hk:k=(enc n).length) (hn:k+4+n≤l.length) (hs:(l.drop k).take 4≠jg (crc ((l.drop (k+4)).take n))) :
 ∀ y:List UInt8,y.length≤65536→¬ frame y <+: l:=fun y hy hp=>by
 have he:=fX h (ip hp)
 obtain⟨s,x,r,hl,h1,h2,h3,h4⟩:=yd h hk hn
 rw[←h1,←h2] at hs
 obtain⟨t,ht⟩:=hp
 unfold frame at ht
 rw[←he,hl,aM,aM] at ht
 have h5:=(List.append_inj ht rfl).2
 have h6:=List.append_inj h5 (by rw[tL,h3])
 have h7:=(List.append_inj h6.2 (by rw[h4,he])).1
 exact hs (by rw[←h6.1,h7])
def s9:List UInt8→Nat
 | []=>0
 | b :: r=>b.toNat+256*s9 r
theorem Cl:∀ l:List UInt8,s9 l<256 ^ l.length
 | []=>by decide
 | b :: r=>by
   have:=Cl r
   have hb:=b.toNat_lt
   show b.toNat+256*s9 r<256 ^ (r.length+1)
   rw[Nat.pow_succ];omega
theorem tN:∀ (l:List UInt8) (b:UInt8),s9 (l++[b])=s9 l+b.toNat*256 ^ l.length
 | [],b=>by simp[s9]
 | a :: r,b=>by
   show a.toNat+256*s9 (r++[b])=a.toNat+256*s9 r+b.toNat*256 ^ (r.length+1)
   rw[tN r b,Nat.pow_succ,Nat.mul_add,←Nat.mul_assoc 256,Nat.mul_comm 256 b.toNat,Nat.mul_assoc b.toNat,Nat.mul_comm 256 (256 ^ r.length)];omega
theorem om (s:List UInt8) (c:BitVec 32) (h:s.length=4):s9 s=c.toNat↔s=jg c:=by
 match s,h with
 | [b0,b1,b2,b3],_=>
   have h0:=pf c 0
   have h1:=pf c 1
   have h2:=pf c 2
   have h3:=pf c 3
   have hc:=c.isLt
   have g0:=b0.toNat_lt
   have g1:=b1.toNat_lt
   have g2:=b2.toNat_lt
   have g3:=b3.toNat_lt
   simp only[s9,Nat.mul_zero,Nat.add_zero,Nat.pow_zero,Nat.div_one,Nat.reduceMul,Nat.reducePow] at h0 h1 h2 h3 hc ⊢
   unfold jg
   constructor
   ·intro he
    rw[show b0=tb c 0 from UInt8.toNat_inj.1 al,show b1=tb c 1 from UInt8.toNat_inj.1 al,show b2=tb c 2 from UInt8.toNat_inj.1 al,show b3=tb c 3 from UInt8.toNat_inj.1 al]
   ·intro he
    injection he with e0 he
    injection he with e1 he
    injection he with e2 he
    injection he with e3 _
    rw[e0,e1,e2,e3]
    omega
theorem Cm (w:World) (n:Nat) (hn:n≤140737488355328) :
 Calls au 287 #[ai none 0 0,ae af (n:Int)] w fun e w'=>∃ v,e=.returned v∧Own w' (New w w') 5 1 v 0 []∧Grow w w':=by
 rcases bj n with h0|h0
 ·subst h0
  go_enter Tryz.func287,Tryz.ntmps287
  go_wp2_with fail
  go_ret
  exact⟨_,rfl,Own.nil,Grow.refl _⟩
 ·have hpos:(0:Int)<(n:Int):=by omega
  have hneg:¬ (n:Int)<0:=by omega
  obtain⟨i,hi,hz,hs,hb⟩:=z8.info
  go_enter Tryz.func287,Tryz.ntmps287
  go_wp2_with (at_builtin;refine Lib.wpList_append_run _ rfl _ _ _ _ rfl _ _ rfl rfl _ _ (Lib.run_append_nil_zeros _ 65 3 _ 5 i (.int .u8 0) .i64 .i64 Tryz.underlying65 Tryz.underlying3 hi hz n h0 al al (by rw[hb];omega)) ?_)
  have hge:=grownCap_ge w n 0 5
  have hle:grownCap w n 0 5≤maxLen:=grownCap_le_maxLen w n 0 5 (by unfold maxLen;omega)
  generalize grownCap w n 0 5=cap at hge hle
  have hcs:(Builtin.zeroCells #[Value.int .u8 0] n++Builtin.zeroCells #[Value.int .u8 0] (cap-n)).size=cap:=by
   rw[Array.size_append,size_zeroCells,size_zeroCells,show (#[Value.int .u8 0]:Array Value).size=1 from rfl];omega
  generalize Builtin.zeroCells #[Value.int .u8 0] n++Builtin.zeroCells #[Value.int .u8 0] (cap-n)=cur at hcs
  have hc0:¬ cap<0:=by omega
  go_wp2_with fail
  go_ret
  refine⟨_,rfl,⟨rfl,.inr ⟨w.heap.size,cap,cur,rfl,⟨aC _,by simp⟩,?_,aZ _,hle,by omega,by simp⟩⟩,Grow.drew ((Below.refl _ _).alloc (aC _) _)⟩
  exact heap_alloc_new w _
structure Bx where
 A:Option Addr
 m:Nat
 c:Nat
 bs:List UInt8
def Bx.cells (b:Bx):List Value:=[.slice b.A b.m b.c]
theorem wi (b:Bx):b.cells.length=1:=rfl
theorem Hv (b:Bx):∀ u∈b.cells,u.oneCell'=true:=by
 intro u hu
 simp only[Bx.cells,aF,aE,or_false] at hu
 rw[hu];rfl
theorem q_ {α β:Type} (f:α→List β) (q:List α) {k:Nat} (hk:k<q.length):(q.take (k+1)).flatMap f=(q.take k).flatMap f++f q[k]:=by
 rw[aI hk,bd,aU,bB,bf]
theorem yf {α β:Type} (f:α→List β) (q:List α) (k:Nat):((q.take k).flatMap f).length≤(q.flatMap f).length:=by
 conv=>rhs;rw[←List.take_append_drop k q]
 rw[bd,aD];omega
def jO (q:List Bx):Nat:=(q.flatMap Bx.bs).length
theorem wj (w:World) (A:Option Addr) (n c:Nat) (q:List Bx) (hR:Reads w w.heap.size 1 A n (q.flatMap Bx.cells)) (hb:∀ b∈q,Bytes w w.heap.size b.A b.m b.bs) (hT:jO q≤1099511627776) (hn:n≤1099511627776) :
 Calls au 220 #[.slice A n c] w fun e w'=>∃ v,e=.returned v∧Own w' (New w w') 5 1 v (jO q) (gn (q.flatMap Bx.bs))∧Grow w w':=by
 have hI:In w (fun _=>True) 1 A n (q.flatMap Bx.cells):=Reads.fw hR (aC _) fun _ _=>trivial
 have gS:q.length=n:=by have:=hR.1;rw[fA Bx.cells 1 wi] at this;omega
 go_enter Tryz.func220,Tryz.ntmps220
 go_wp2_with fail
 go_loopw [3,11] (fun s i wr=>∃ k:Nat,k≤n∧i=ae af (k:Int)∧s=ae af (jO (q.take k):Int)∧w=wr) (fun _ i _=>n-(intOf i).toNat)
 case atStart=>exact⟨0,by omega,rfl,rfl,rfl⟩
 case round=>
  obtain⟨k,hkn,rfl,rfl,rfl⟩:=hrel
  by_cases hk:k<n
  ·obtain⟨ad,hq,rfl,_,_,e0,_⟩:=hI.iS al wi hk
   have e0:=e0 _ rfl
   rw[bC] at e0
   have hbk:=hb _ (aO hq)
   have hL:jO (q.take (k+1))=jO (q.take k)+q[k].m:=by
    unfold jO;rw[q_ Bx.bs q hq,aD,Bytes.len hbk]
   have hle:jO (q.take (k+1))≤jO q:=yf Bx.bs q (k+1)
   have HL:=Lib.hid hL
   have Gl:=Lib.hid (show jO (q.take k)+q[k].m≤1099511627776 by omega)
   clear hL hle hbk
   generalize q[k]=b at e0 HL Gl
   obtain⟨Ab,mb,cb,bs⟩:=b
   dsimp only at e0 HL Gl
   generalize jO (q.take k)=s at HL Gl
   have hw1:IntKind.i64.wrap ((s:Int)+(mb:Int))=(s:Int)+(mb:Int):=by have:=Gl.out;rw[IntKind.wrap_i64];omega
   have hs0:¬ (s:Int)+(mb:Int)<0:=by omega
   go_wp2_with fail
   go_roundw
   case rel=>exact⟨k+1,by omega,by go_num,by rw[HL.out];push_cast;rfl,by trivial⟩
   case measure=>simp[intOf];omega
  ·obtain rfl:k=n:=by omega
   have Kd:q.take k=q:=aN al
   rw[Kd]
   go_wp2_with fail
   go_at_call 287
   refine (Cm w _ al).mono ?_
   rintro e w1 ⟨v,rfl,fW,hg1⟩
   go_wp2_with fail
   go_loopw [6,27] (fun v i wr=>∃ j:Nat,j≤k∧i=ae af (j:Int)∧Own wr (New w wr) 5 1 v (jO (q.take j)) (gn ((q.take j).flatMap Bx.bs))∧Grow w wr) (fun _ i _=>k-(intOf i).toNat)
   case atStart=>exact⟨0,by omega,rfl,fW,hg1⟩
   case round=>
    obtain⟨j,hjk,rfl,hO,hg⟩:=hrel
    by_cases hj:j<k
    ·obtain⟨ad,hq,rfl,_,_,e0,_⟩:=(hI.grow hg).iS al wi hj
     have e0:=e0 _ rfl
     rw[bC] at e0
     have hbk:=(hb _ (aO hq)).below hg
     have hF:=q_ Bx.bs q hq
     have hL:jO (q.take (j+1))=jO (q.take j)+q[j].m:=by
      unfold jO;rw[hF,aD,Bytes.len hbk]
     have hle:jO (q.take (j+1))≤jO q:=yf Bx.bs q (j+1)
     have HF:=Lib.hid hF
     have Gl:=Lib.hid (show jO (q.take j)+q[j].m≤1099511627776 by omega)
     have HL:=Lib.hid hL
     clear hF hle hL
     generalize q[j]=b at e0 HF Gl hbk HL
     obtain⟨Ab,mb,cb,bs⟩:=b
     dsimp only at e0 HF Gl hbk HL
     go_wp2_with (at_builtin;refine stay ?_)
     refine bV ?_
     refine cR (V:=New w wr) z8 _ rfl (.tmp 31) (.tmp 32) rfl _ _ _ rfl hO w.heap.size Ab mb cb (gn bs) rfl hbk gR (by have:=Gl.out;omega) ?_
     intro v2 w2 hO2 hj2
     rw[←ff,←HF.out,←HL.out] at hO2
     obtain⟨hO2,hg2⟩:=tC hg hO2 hj2
     clear hj2 hO hbk
     go_wp2_with fail
     go_roundw
     case rel=>exact⟨j+1,by omega,by go_num,hO2,hg2⟩
     case measure=>simp[intOf];omega
    ·obtain rfl:j=k:=by omega
     rw[Kd] at hO
     go_wp2_with fail
     go_ret
     exact⟨_,rfl,hO,hg⟩
theorem sa (c:BitVec 32) (i:Nat):((tb c i).toNat:Int)=(c.toNat:Int) / ((2 ^ (8*i):Nat):Int) % 256:=by
 rw[pf];simp
theorem kZ (w:World) (A:Option Addr) (n c:Nat) (l:List UInt8) (hb:Bytes w w.heap.size A n l) (hn:n≤65536) :
 Calls au 152 #[.slice A n c] w fun e w'=>∃ v,e=.returned (.tuple #[v,ae af 0])∧Own w' (New w w') 5 1 v (frame l).length (gn (frame l))∧Grow w w':=by
 have hlen:=hb.len
 have hpn:=rX w none 0 0 [] Reads.nil al n al
 have hen:=cZ (n:=n) al
 rw[aR,a_] at hpn
 have hwn:IntKind.u64.wrap (n:Int)=(n:Int):=by rw[IntKind.wrap_u64];omega
 go_enter Tryz.func152,Tryz.ntmps152
 go_wp2_with fail
 go_at_call 219
 refine hpn.mono ?_
 rintro e w1 ⟨v1,rfl,fW,hg1⟩
 clear hpn
 have hof:=vY A n c l w1 w.heap.size (hb.below hg1) (by unfold maxLen;omega)
 go_wp2_with fail
 go_at_call 181
 refine hof.mono ?_
 rintro e w1' ⟨rfl,rfl⟩
 clear hof
 go_wp2_with fail
 go_loopw [4,16] (fun v i wr=>∃ k:Nat,k≤4∧i=ae af (k:Int)∧Own wr (New w wr) 5 1 v ((enc n).length+k) (gn (enc n++(jg (crc l)).take k))∧Grow w wr) (fun _ i _=>4-(intOf i).toNat)
 case atStart=>exact⟨0,by omega,rfl,by rw[bw,bf];exact fW,hg1⟩
 case round=>
  obtain⟨k,hk4,rfl,hO,hg⟩:=hrel
  by_cases hk:k<4
  ·rcases (show k=0∨k=1∨k=2∨k=3 by omega) with rfl|rfl|rfl|rfl
   ·have hX:((crc l).toNat:Int) % 256=((tb (crc l) 0).toNat:Int):=by rw[sa];simp
    have HX:=Lib.hid hX
    clear hX
    go_wp2_with (at_builtin;refine stay ?_)
    refine bV ?_
    refine cR (V:=New w wr) z8 _ rfl (.tmp 19) (.tmp 25) rfl _ _ _ rfl (il hO _) (wr.heap.size+1) (some ⟨wr.heap.size,0,none⟩) 1 1 (gn [tb (crc l) 0]) rfl (Reads.js (df wr #[.int .u8 (((crc l).toNat:Int) % 256)] 5 (0,0) rfl _ rfl) (by rw[HX.out];rfl)) gR (by have:=hen;omega) ?_
    intro v3 w3 hO3 hj3
    rw[←ff,aM,show (jg (crc l)).take 0++[tb (crc l) 0]=(jg (crc l)).take 1 from rfl] at hO3
    obtain⟨hO3,hg3⟩:=ik hg hO3 hj3
    clear hj3 hO
    go_wp2_with fail
    go_roundw
    case rel=>exact⟨1,by omega,by go_num,hO3,hg3⟩
    case measure=>simp[intOf]
   ·have hX:((crc l).toNat:Int) / 256 % 256=((tb (crc l) 1).toNat:Int):=by rw[sa];simp
    have HX:=Lib.hid hX
    clear hX
    go_wp2_with (at_builtin;refine stay ?_)
    refine bV ?_
    refine cR (V:=New w wr) z8 _ rfl (.tmp 19) (.tmp 25) rfl _ _ _ rfl (il hO _) (wr.heap.size+1) (some ⟨wr.heap.size,0,none⟩) 1 1 (gn [tb (crc l) 1]) rfl (Reads.js (df wr #[.int .u8 (((crc l).toNat:Int) / 256 % 256)] 5 (0,0) rfl _ rfl) (by rw[HX.out];rfl)) gR (by have:=hen;omega) ?_
    intro v3 w3 hO3 hj3
    rw[←ff,aM,show (jg (crc l)).take 1++[tb (crc l) 1]=(jg (crc l)).take 2 from rfl] at hO3
    obtain⟨hO3,hg3⟩:=ik hg hO3 hj3
    clear hj3 hO
    go_wp2_with fail
    go_roundw
    case rel=>exact⟨2,by omega,by go_num,hO3,hg3⟩
    case measure=>simp[intOf]
   ·have hX:((crc l).toNat:Int) / 65536 % 256=((tb (crc l) 2).toNat:Int):=by rw[sa];simp
    have HX:=Lib.hid hX
    clear hX
    go_wp2_with (at_builtin;refine stay ?_)
    refine bV ?_
    refine cR (V:=New w wr) z8 _ rfl (.tmp 19) (.tmp 25) rfl _ _ _ rfl (il hO _) (wr.heap.size+1) (some ⟨wr.heap.size,0,none⟩) 1 1 (gn [tb (crc l) 2]) rfl (Reads.js (df wr #[.int .u8 (((crc l).toNat:Int) / 65536 % 256)] 5 (0,0) rfl _ rfl) (by rw[HX.out];rfl)) gR (by have:=hen;omega) ?_
    intro v3 w3 hO3 hj3
    rw[←ff,aM,show (jg (crc l)).take 2++[tb (crc l) 2]=(jg (crc l)).take 3 from rfl] at hO3
    obtain⟨hO3,hg3⟩:=ik hg hO3 hj3
    clear hj3 hO
    go_wp2_with fail
    go_roundw
    case rel=>exact⟨3,by omega,by go_num,hO3,hg3⟩
    case measure=>simp[intOf]
   ·have hX:((crc l).toNat:Int) / 16777216=((tb (crc l) 3).toNat:Int):=by rw[sa];have:=(crc l).isLt;simp;omega
    have HX:=Lib.hid hX
    clear hX
    go_wp2_with (at_builtin;refine stay ?_)
    refine bV ?_
    refine cR (V:=New w wr) z8 _ rfl (.tmp 19) (.tmp 25) rfl _ _ _ rfl (il hO _) (wr.heap.size+1) (some ⟨wr.heap.size,0,none⟩) 1 1 (gn [tb (crc l) 3]) rfl (Reads.js (df wr #[.int .u8 (((crc l).toNat:Int) / 16777216)] 5 (0,0) rfl _ rfl) (by rw[HX.out];rfl)) gR (by have:=hen;omega) ?_
    intro v3 w3 hO3 hj3
    rw[←ff,aM,show (jg (crc l)).take 3++[tb (crc l) 3]=(jg (crc l)).take 4 from rfl] at hO3
    obtain⟨hO3,hg3⟩:=ik hg hO3 hj3
    clear hj3 hO
    go_wp2_with fail
    go_roundw
    case rel=>exact⟨4,by omega,by go_num,hO3,hg3⟩
    case measure=>simp[intOf]
  ·obtain rfl:k=4:=by omega
   rw[show (jg (crc l)).take 4=jg (crc l) from rfl] at hO
   obtain⟨A4,c4,rfl,vU,OR,JI⟩:=hO.reads
   have hga:=(Below.refl wr.heap.size wr).alloc (aC _) (.cells #[.slice A4 ((enc n).length+4) c4,.slice A n c] 65)
   have hgw:=cL hg hga hg.size
   have hfr:[(⟨A4,(enc n).length+4,c4,enc n++jg (crc l)⟩:Bx),⟨A,n,c,l⟩].flatMap Bx.bs=frame l:=by
    unfold frame;rw[hlen]
    simp[aM]
   have hcc:=wj (wr.alloc (.cells #[.slice A4 ((enc n).length+4) c4,.slice A n c] 65)) (some ⟨wr.heap.size,0,none⟩) 2 2 [⟨A4,(enc n).length+4,c4,enc n++jg (crc l)⟩,⟨A,n,c,l⟩] (Reads.more (df wr _ 65 _ rfl _ rfl) (by simp)) (fun b hb'=>by
    simp only[aF,aE,or_false] at hb'
    rcases hb' with rfl|rfl
    ·exact Reads.more (Reads.below vU hga) hga.size
    ·exact Reads.more (Reads.below hb hgw) hgw.size) (by unfold jO;rw[hfr,jt,hlen];omega) al
   unfold jO at hcc
   rw[hfr] at hcc
   go_wp2_with fail
   refine hcc.mono ?_
   rintro e w5 ⟨v5,rfl,vA,hg5⟩
   clear hcc hO vU
   go_wp2_with fail
   go_ret2
   have h5:=hga.size
   exact⟨v5,rfl,vA.mono fun b hb=>⟨by have:=hb.1;have:=hgw.size;omega,hb.2⟩,cL hgw hg5 hgw.size⟩
theorem wk (w:World) (A:Option Addr) (n c:Nat) (hn:65536<n) :
 Calls au 152 #[.slice A n c] w fun e w'=>e=.returned (.tuple #[ai none 0 0,ae af 3])∧w=w':=by
 go_enter Tryz.func152,Tryz.ntmps152
 go_wp2_with fail
 go_ret2
 exact⟨rfl,rfl⟩
end Go.Proofs.YtmijcbfgfkeodaaGreatDoor.V
end
section
namespace Go.Proofs.YtmijcbfgfkeodaaGreatDoor
open Go.RowKit Go.Hop V
def dV (e:En):List UInt8:=[UInt8.ofNat 1]++enc (lY e).length++lY e
def dZ (tag code:Int) (n:Nat):List UInt8:=[UInt8.ofNat 2]++enc tag.toNat++enc code.toNat++enc n
theorem mm {e:En} (h:e.Ok):(lY e).length≤9000:=by
 obtain⟨⟨h1,h2⟩,h3⟩:=h
 have e1:=cZ (n:=e.fr.toNat) al
 have e2:=cZ (n:=e.tg.toNat) al
 unfold lY
 rcases h3 with h3|h3
 ·rw[if_neg (by rw[h3.1];decide)]
  have e3:=mg e.ds (s5 h3)
  obtain⟨_,_,ha,hs,hq,he,hn,_⟩:=h3
  have e4:=mj [e.ag.toNat,e.sh.toNat,e.sq.toNat,e.ep.toNat,e.ds.length] (by intro n hn;simp at hn;omega)
  simp only[aD,aT]
  simp only[aL,bu] at e4
  omega
 ·rw[if_pos h3.1]
  obtain⟨_,_,_,_,_,_,_,hsz⟩:=h3
  have e3:=cZ (n:=e.se.size) al
  have e4:e.se.data.toList.length=e.se.size:=rfl
  simp only[aD,aT]
  omega
theorem pg {e:En} (h:e.Ok):(dV e).length≤9100:=by
 have:=mm h
 have:=cZ (n:=(lY e).length) al
 unfold dV
 simp only[aD,aT]
 omega
theorem pi {tag code:Int} {n:Nat} (ht:0≤tag∧tag≤9223372036854775807) (hc:0≤code∧code≤255) (hn:n<18446744073709551616):(dZ tag code n).length≤31:=by
 have:=cZ (n:=tag.toNat) al
 have:=cZ (n:=code.toNat) al
 have:=cZ hn
 unfold dZ
 simp only[aD,aT]
 omega
theorem Cn (w:World) (e:En) (V:Nat→Prop) (A:Option Addr) (c:Nat) (hok:e.Ok) (hd:fV w V A e.ds.length e.ds):Calls au 308 #[.agg (i5 e A c)] w fun en w'=>∃ v,en=.returned v∧Grow w w'∧bZ (dV e) v w':=by
 have hB:=fun (w1:World) (hg:Grow w w1)=>tJ w1 e V A c hok (In.grow hd hg)
 have hlen:=mm hok
 obtain⟨bs,HB⟩:∃ bs,Hid (bs=lY e):=⟨_,rfl⟩
 have hfin:dV e=[UInt8.ofNat 1]++enc bs.length++bs:=by rw[HB.out];rfl
 rw[hfin]
 rw[←HB.out] at hB hlen
 clear hfin hok hd
 unfold i5
 obtain⟨k,ag,sh,sq,ep,ds,se,fr,tg⟩:=e
 unfold En.agg at hB
 dsimp only at hB ⊢
 go_enter Tryz.func308,Tryz.ntmps308
 go_wp2_with fail
 have hg0:=(bN w (.cells #[ae af 1,ae af k,ae af ag,ae af sh,ae af sq,ae af ep,.slice A ds.length c,.string se,ae af fr,ae af tg,ae af 0,ae af 0,ae ah 0,ae af 0,ae af 0,ai none 0 0,ae af 0,ae af 0] 73)).trans (bN _ (.cells #[.int .u8 1] 5))
 refine (hB _ hg0).mono ?_
 rintro e w1 ⟨v1,rfl,hg1,hb1⟩
 have h1:bZ [UInt8.ofNat 1] (.slice (some ⟨w.heap.size+1,0,none⟩) 1 1) w1:=by
  have h2:=rH (w.alloc (.cells #[ae af 1,ae af k,ae af ag,ae af sh,ae af sq,ae af ep,.slice A ds.length c,.string se,ae af fr,ae af tg,ae af 0,ae af 0,ae ah 0,ae af 0,ae af 0,ai none 0 0,ae af 0,ae af 0] 73)) #[.int .u8 1] 5 1 [UInt8.ofNat 1] rfl rfl ak
  rw[di] at h2
  exact h2.below hg1
 have cv:=xV w1 hb1
 have hT:=mf w1 _ _ ⟨bs.toArray⟩ h1 (by simp) (by show bs.toArray.size≤_;simp;omega)
 rw[show (ByteArray.mk bs.toArray).size=bs.length by show bs.toArray.size=_;simp,show (ByteArray.mk bs.toArray).data.toList=bs from rfl] at hT
 go_wp2_with fail
 refine hT.mono ?_
 rintro e w2 ⟨v2,rfl,hg2,hb2⟩
 go_wp2_with fail
 go_ret
 exact⟨v2,rfl,hg0.trans (hg1.trans hg2),hb2⟩
theorem Co (w:World) (TG CO:Nat) (n:Nat) (ht:TG≤9223372036854775807) (hc:CO≤255) (hn:n<18446744073709551616):Calls au 308 #[.agg (eW (TG:Int) (CO:Int) n)] w fun en w'=>∃ v,en=.returned v∧Grow w w'∧bZ (dZ (TG:Int) (CO:Int) n) v w':=by
 have hfin:dZ (TG:Int) (CO:Int) n=[UInt8.ofNat 2]++enc TG++enc CO++enc n:=by unfold dZ;rw[bv,bv]
 rw[hfin]
 clear hfin
 obtain⟨LB,Et⟩:∃ LB,Hid (LB=[UInt8.ofNat 2]++enc TG++enc CO++enc n):=⟨_,rfl⟩
 rw[←Et.out]
 unfold eW
 have mh:∀ (vs:Array Value) (w:World),(callFunc 219 vs).run au w=.ok (.enter 219 vs) w:=fun vs w=>by go_simp
 have hg0:=(bN w (.cells #[ae af 2,ae af 0,ae af 0,ae af 0,ae af 0,ae af 0,ai none 0 0,.string ⟨#[]⟩,ae af 0,ae af 0,ae af (TG:Int),ae af (CO:Int),ae ah (n:Int),ae af 0,ae af 0,ai none 0 0,ae af 0,ae af 0] 73)).trans (bN _ (.cells #[.int .u8 2] 5))
 have iT:=(ct.made w 73 #[ae af 2,ae af 0,ae af 0,ae af 0,ae af 0,ae af 0,ai none 0 0,.string ⟨#[]⟩,ae af 0,ae af 0,ae af (TG:Int),ae af (CO:Int),ae ah (n:Int),ae af 0,ae af 0,ai none 0 0,ae af 0,ae af 0]).alloc (.cells #[.int .u8 2] 5)
 have h2:=rH (w.alloc (.cells #[ae af 2,ae af 0,ae af 0,ae af 0,ae af 0,ae af 0,ai none 0 0,.string ⟨#[]⟩,ae af 0,ae af 0,ae af (TG:Int),ae af (CO:Int),ae ah (n:Int),ae af 0,ae af 0,ai none 0 0,ae af 0,ae af 0] 73)) #[.int .u8 2] 5 1 [UInt8.ofNat 2] rfl rfl ak
 rw[di] at h2
 obtain⟨x,HX⟩:∃ x:Nat,Hid (x=w.heap.size):=⟨_,rfl⟩
 obtain⟨wa,HA⟩:∃ wa:World,Hid (wa=(w.alloc (.cells #[ae af 2,ae af 0,ae af 0,ae af 0,ae af 0,ae af 0,ai none 0 0,.string ⟨#[]⟩,ae af 0,ae af 0,ae af (TG:Int),ae af (CO:Int),ae ah (n:Int),ae af 0,ae af 0,ai none 0 0,ae af 0,ae af 0] 73)).alloc (.cells #[.int .u8 2] 5)):=⟨_,rfl⟩
 rw[←HA.out] at hg0 iT h2
 rw[←HX.out] at iT h2
 have wT:IntKind.u64.wrap (TG:Int)=(TG:Int):=by rw[wrap_u64];omega
 have wC:IntKind.u64.wrap (CO:Int)=(CO:Int):=by rw[wrap_u64];omega
 go_enter Tryz.func308,Tryz.ntmps308
 go_wp2_with fail
 rw[←HA.out,←HX.out]
 refine bL 13 73 [(4,.inr (fun _=>bZ ([UInt8.ofNat 2]++enc TG))),(8,.inr (fun _=>bZ ([UInt8.ofNat 2]++enc TG++enc CO))),(11,.inr (fun _=>bZ ([UInt8.ofNat 2]++enc TG++enc CO++enc n)))] rfl rfl am am am ?_ ?_
 ·intro x hx φ he
  simp only[aF,aE,or_false] at hx
  rcases hx with rfl|rfl|rfl<;>cases he
  all_goals first|exact ca (cn _)|fail
 intro ops' A' K' T hops hA' hK hT
 refine bP 26 (.slice (some ⟨x+1,0,none⟩) 1 1) ?_
 refine bQ 27 (.tmp 1) (((x:Nat):Value)) (.pointer (some ⟨x,10,none⟩)) ?_
 refine bI 28 (.tmp 27) (.pointer (some ⟨x,10,none⟩)) (ae af (TG:Int)) (fun ρ h1 kk w1 (hg:Grow _ w1) hb hf=>by have c:=(iT.grow hg).cell 10;go_simp) ?_
 refine bI 29 (.tmp 28) (ae af (TG:Int)) (ae ah (TG:Int)) (fun ρ h1 kk w1 (hg:Grow _ w1) hb hf=>by go_simp;try rfl) ?_
 refine cH 30 aj ak (bO aj) (fun _=>bZ ([UInt8.ofNat 2]++enc TG)) (by rw[hK.out];rfl) 219 _ _ aj [.slice (some ⟨x+1,0,none⟩) 1 1,ae ah (TG:Int)] aj mh (fun kk w1 (hg:Grow _ w1) hb hf=>cr (φ:=fun _=>bZ ([UInt8.ofNat 2]++enc TG)) aj (by exact fy w1 _ [UInt8.ofNat 2] TG (h2.below hg) (by simp) al)) (fun v30=>?_)
 refine bQ 31 (.tmp 1) (((x:Nat):Value)) (.pointer (some ⟨x,11,none⟩)) ?_
 refine bI 32 (.tmp 31) (.pointer (some ⟨x,11,none⟩)) (ae af (CO:Int)) (fun ρ h1 kk w1 (hg:Grow _ w1) hb hf=>by have c:=(iT.grow hg).cell 11;go_simp) ?_
 refine bI 33 (.tmp 32) (ae af (CO:Int)) (ae ah (CO:Int)) (fun ρ h1 kk w1 (hg:Grow _ w1) hb hf=>by go_simp;try rfl) ?_
 refine cH 34 aj ak (bO aj) (fun _=>bZ ([UInt8.ofNat 2]++enc TG++enc CO)) (by rw[hK.out];rfl) 219 _ _ aj [v30,ae ah (CO:Int)] aj mh (fun kk w1 (hg:Grow _ w1) hb hf=>cr (φ:=fun _=>bZ ([UInt8.ofNat 2]++enc TG++enc CO)) aj (by exact fy w1 v30 _ CO (cy hf (by rw[hA'.out];kernel_rfl)) (by have:=cZ (n:=TG) al;simp only[aD,aT];omega) al)) (fun v34=>?_)
 refine bQ 35 (.tmp 1) (((x:Nat):Value)) (.pointer (some ⟨x,12,none⟩)) ?_
 refine bI 36 (.tmp 35) (.pointer (some ⟨x,12,none⟩)) (ae ah (n:Int)) (fun ρ h1 kk w1 (hg:Grow _ w1) hb hf=>by have c:=(iT.grow hg).cell 12;go_simp) ?_
 refine cH 37 aj ak (bO aj) (fun _=>bZ ([UInt8.ofNat 2]++enc TG++enc CO++enc n)) (by rw[hK.out];rfl) 219 _ _ aj [v34,ae ah (n:Int)] aj mh (fun kk w1 (hg:Grow _ w1) hb hf=>cr (φ:=fun _=>bZ ([UInt8.ofNat 2]++enc TG++enc CO++enc n)) aj (by exact fy w1 v34 _ n (cy hf (by rw[hA'.out];kernel_rfl)) (by have:=cZ (n:=TG) al;have:=cZ (n:=CO) al;simp only[aD,aT];omega) hn)) (fun v37=>?_)
 refine bP 2 (v37) ?_
 refine ce (fun _ _ w1 (hg:Grow _ w1) _ bR=>hT _ _ ?_)
 clear hops hA' hK hT
 simp only[cj,Act.put,aw,ay,az,ax,aB]
 have hE:=bR.1
 clear bR
 go_wp2_with fail
 go_ret
 exact⟨v37,rfl,hg0.trans hg,by rw[Et.out];exact hE⟩
theorem wm (w:World) (e:En) (V:Nat→Prop) (A:Option Addr) (c:Nat) (hok:e.Ok) (hd:fV w V A e.ds.length e.ds):Calls au 252 #[.agg (i5 e A c)] w fun en w'=>∃ v,en=.returned (.tuple #[v,ae af 0])∧Grow w w'∧bZ (frame (dV e)) v w':=by
 have hln:=pg hok
 have hR:=fun w1 (hg:Grow w w1)=>lO w1 e V A c hok (In.grow hd hg)
 have hBd:=fun w1 (hg:Grow w w1)=>Cn w1 e V A c hok (In.grow hd hg)
 clear hok hd
 obtain⟨LB,Et⟩:∃ LB:List UInt8,Hid (LB=dV e):=⟨_,rfl⟩
 rw[←Et.out] at hln hBd ⊢
 unfold i5 at *
 obtain⟨k,ag,sh,sq,ep,ds,se,fr,tg⟩:=e
 dsimp only at *
 have hX:=ct.made w 73 #[ae af 1,ae af k,ae af ag,ae af sh,ae af sq,ae af ep,.slice A ds.length c,.string se,ae af fr,ae af tg,ae af 0,ae af 0,ae ah 0,ae af 0,ae af 0,ai none 0 0,ae af 0,ae af 0]
 obtain⟨x,HX⟩:∃ x:Nat,Hid (x=w.heap.size):=⟨_,rfl⟩
 have hga:=bN w (.cells #[ae af 1,ae af k,ae af ag,ae af sh,ae af sq,ae af ep,.slice A ds.length c,.string se,ae af fr,ae af tg,ae af 0,ae af 0,ae ah 0,ae af 0,ae af 0,ai none 0 0,ae af 0,ae af 0] 73)
 obtain⟨wa,HA⟩:∃ wa:World,Hid (wa=w.alloc (.cells #[ae af 1,ae af k,ae af ag,ae af sh,ae af sq,ae af ep,.slice A ds.length c,.string se,ae af fr,ae af tg,ae af 0,ae af 0,ae ah 0,ae af 0,ae af 0,ai none 0 0,ae af 0,ae af 0] 73)):=⟨_,rfl⟩
 rw[←HA.out] at hX hga
 rw[←HX.out] at hX
 have hR:=hR wa hga
 have hBd:=fun w1 (hg:Grow wa w1)=>hBd w1 (hga.trans hg)
 go_enter Tryz.func252,Tryz.ntmps252
 go_wp2_with (refine bY rfl 73 _ rfl _ rfl (ct.made w 73 _) Tryz.underlying73 am ?_)
 rw[←HA.out,←HX.out]
 refine hR.mono ?_
 rintro e w1 ⟨rfl,hg1⟩
 have hX1:=hX.grow hg1
 have hBd:=hBd w1 hg1
 go_wp2_with (refine bY rfl 73 _ rfl _ rfl (hX1) Tryz.underlying73 am ?_)
 refine hBd.mono ?_
 rintro e w2 ⟨v2,rfl,hg2,hb2⟩
 obtain⟨A2,n2,c2,rfl,hb2,Hw,hcm2⟩:=hb2
 go_wp2_with fail
 refine (kZ w2 A2 n2 c2 _ hb2 (by have:=hb2.len;omega)).mono ?_
 rintro e w3 ⟨v3,rfl,hO3,hg3⟩
 go_wp2_with fail
 go_ret2
 exact⟨v3,rfl,hga.trans (hg1.trans (hg2.trans hg3)),hO3.isBytes⟩
theorem wn (w:World) (tag code:Int) (n:Nat) (ht:0≤tag∧tag≤9223372036854775807) (hc:0≤code∧code≤255) (hn:n<18446744073709551616):Calls au 252 #[.agg (eW tag code n)] w fun en w'=>∃ v,en=.returned (.tuple #[v,ae af 0])∧Grow w w'∧bZ (frame (dZ tag code n)) v w':=by
 have hln:=pi ht hc hn
 have hR:=fun w1 (_:Grow w w1)=>lP w1 tag code n ht.1 hc
 obtain⟨TG,rfl⟩:=aW ht.1
 obtain⟨CO,rfl⟩:=aW hc.1
 have hBd:=fun w1 (_:Grow w w1)=>Co w1 TG CO n al al hn
 obtain⟨LB,Et⟩:∃ LB,Hid (LB=dZ (TG:Int) (CO:Int) n):=⟨_,rfl⟩
 rw[←Et.out] at hln hBd ⊢
 unfold eW at *
 have hX:=ct.made w 73 #[ae af 2,ae af 0,ae af 0,ae af 0,ae af 0,ae af 0,ai none 0 0,.string ⟨#[]⟩,ae af 0,ae af 0,ae af (TG:Int),ae af (CO:Int),ae ah (n:Int),ae af 0,ae af 0,ai none 0 0,ae af 0,ae af 0]
 obtain⟨x,HX⟩:∃ x:Nat,Hid (x=w.heap.size):=⟨_,rfl⟩
 have hga:=bN w (.cells #[ae af 2,ae af 0,ae af 0,ae af 0,ae af 0,ae af 0,ai none 0 0,.string ⟨#[]⟩,ae af 0,ae af 0,ae af (TG:Int),ae af (CO:Int),ae ah (n:Int),ae af 0,ae af 0,ai none 0 0,ae af 0,ae af 0] 73)
 obtain⟨wa,HA⟩:∃ wa:World,Hid (wa=w.alloc (.cells #[ae af 2,ae af 0,ae af 0,ae af 0,ae af 0,ae af 0,ai none 0 0,.string ⟨#[]⟩,ae af 0,ae af 0,ae af (TG:Int),ae af (CO:Int),ae ah (n:Int),ae af 0,ae af 0,ai none 0 0,ae af 0,ae af 0] 73)):=⟨_,rfl⟩
 rw[←HA.out] at hX hga
 rw[←HX.out] at hX
 have hR:=hR wa hga
 have hBd:=fun w1 (hg:Grow wa w1)=>hBd w1 (hga.trans hg)
 go_enter Tryz.func252,Tryz.ntmps252
 go_wp2_with (refine bY rfl 73 _ rfl _ rfl (ct.made w 73 _) Tryz.underlying73 am ?_)
 rw[←HA.out,←HX.out]
 refine hR.mono ?_
 rintro e w1 ⟨rfl,hg1⟩
 have hX1:=hX.grow hg1
 have hBd:=hBd w1 hg1
 go_wp2_with (refine bY rfl 73 _ rfl _ rfl (hX1) Tryz.underlying73 am ?_)
 refine hBd.mono ?_
 rintro e w2 ⟨v2,rfl,hg2,hb2⟩
 obtain⟨A2,n2,c2,rfl,hb2,Hw,hcm2⟩:=hb2
 go_wp2_with fail
 refine (kZ w2 A2 n2 c2 _ hb2 (by have:=hb2.len;omega)).mono ?_
 rintro e w3 ⟨v3,rfl,hO3,hg3⟩
 go_wp2_with fail
 go_ret2
 exact⟨v3,rfl,hga.trans (hg1.trans (hg2.trans hg3)),hO3.isBytes⟩
theorem o0 (w:World) (e:TypeId) (s:ByteArray):Grow w (Lib.bytesWorld w e s):=
 ⟨rfl,rfl,rfl,by rw[Lib.bytesWorld_size];omega,fun i hi=>Lib.bytesWorld_at_old w e s i hi⟩
theorem q9 (w:World) (e:TypeId) (s:ByteArray) (hs:s.size≤1099511627776):bZ s.data.toList (.slice (some ⟨w.heap.size,0,none⟩) s.size (grownCap w s.size 0 e)) (Lib.bytesWorld w e s):=by
 refine⟨_,_,_,rfl,⟨by simp[gn],fun _=>⟨_,rfl,by rw[Lib.bytesWorld_size];simp,fun j u hu=>?_⟩⟩,grownCap_ge w s.size 0 e,grownCap_le_maxLen w s.size 0 e (by unfold maxLen;omega)⟩
 obtain⟨hj,rfl⟩:=xL hu
 have hadd:(⟨w.heap.size,0,none⟩:Addr).add j=⟨w.heap.size,j,none⟩:=by unfold Addr.add;split<;>simp_all
 rw[hadd,Lib.bytesWorld_cell w e s j hj]
 have hj':j<s.data.size:=by simpa using hj
 simp[List.getD,Array.getElem?_eq_getElem hj']
theorem yg {r:Nat} {w w':World} (J:Just (fun b=>b=r∨w.heap.size≤b) w w'):Only r w w':=
 ⟨J.os,J.tape,J.output,J.size,fun b hb hne=>J.block b hb fun h=>h.elim (fun e=>hne (by rw[e])) (fun e=>by omega)⟩
theorem Cp (w:World) (r B:Nat) (e:En) (hok:e.Ok) (hw:e.W) (h:fB r B (enc (lY e).length++lY e++[]) w) :
 Calls au 103 #[((r:Nat):Value),ae af 1] w fun en w'=>∃ A' c',en=.returned (.tuple #[.agg (i5 e A' c'),.bool true])∧fY w' (New w w') ⟨e,A',c'⟩∧fB r B [] w'∧Only r w w':=by
 have hlen:=mm hok
 have Kq:=fun (w1:World) (A:Option Addr) (n c:Nat) (hb:Bytes w1 w1.heap.size A n (lY e)) (h1:n≤c) (h2:c≤maxLen)=>Hn w1 e A n c hok hw hb h1 h2
 obtain⟨bs,HB⟩:∃ bs,Hid (bs=lY e):=⟨_,rfl⟩
 rw[←HB.out] at h hlen
 rw[←HB.out] at Kq
 clear hok hw
 obtain⟨k,ag,sh,sq,ep,ds,se,fr,tg⟩:=e
 unfold i5
 unfold En.agg at Kq
 dsimp only at Kq ⊢
 have hrw:=h.lt
 have hB0:=h.1
 go_enter Tryz.func103,Tryz.ntmps103
 go_wp2_with (refine cK rfl (fQ _ _ _ rfl) ?_;intro x wx hX hgx hsx hzx;refine stay ?_)
 refine bV ?_
 go_wp2_with (refine cK rfl (fQ _ _ _ rfl) ?_;intro y wy hY oo hsy hzy;refine stay ?_)
 refine bV ?_
 refine ch rfl 73 _ _ rfl _ rfl [ae af 1,ae af 0,ae af 0,ae af 0,ae af 0,ae af 0,ai none 0 0,.string ⟨#[]⟩,ae af 0,ae af 0,ae af 0,ae af 0,ae ah 0,ae af 0,ae af 0,ai none 0 0,ae af 0,ae af 0] rfl (hY) rfl rfl am ?_
 intro wa MP hja hsa
 have MQ:=hja.blk (hX.grow oo) al
 have hga:Grow w wa:=Below.trans (hgx.trans oo) (hja.below (B:=w.heap.size) (fun b hb=>by rw[hb];omega) (hgx.trans oo).size)
 have hT:=qT wa r B bs [] al (h.grow hga)
 have zj:x≠r:=by omega
 have nL:y≠r:=by omega
 have hBx:B≤x:=by omega
 clear hX hY
 go_wp2_with fail
 refine hT.mono ?_
 rintro e w1 ⟨rfl,nJ,ho1⟩
 have hX1:=Only.blk ho1 MQ zj
 have kf:=Only.blk ho1 MP nL
 have hcv:=Lib.run_convert_string_bytes (P:=au) w1 9 65 5 ⟨bs.toArray⟩ (u := .string) Tryz.underlying9 Tryz.underlying65 Tryz.underlying5
 have hgc:=o0 w1 5 ⟨bs.toArray⟩
 have hic:=q9 w1 5 ⟨bs.toArray⟩ (by show bs.toArray.size≤_;simp;omega)
 obtain⟨Ac,nc,cc,hsl,hbc,MR,MS⟩:=hic
 rw[hsl] at hcv
 clear hsl
 obtain⟨wc,HC⟩:∃ wc,Hid (wc=Lib.bytesWorld w1 5 ⟨bs.toArray⟩):=⟨_,rfl⟩
 rw[←HC.out] at hcv hgc hbc
 have hE:=Kq wc Ac nc cc hbc MR MS
 clear Kq
 go_wp2_with fail
 refine hE.mono ?_
 rintro e w2 ⟨A2,c2,rfl,hel,hg2⟩
 have tO:=hgc.trans hg2
 have hg3:=bN w2 (.cells #[ae af k,ae af ag,ae af sh,ae af sq,ae af ep,.slice A2 ds.length c2,.string se,ae af fr,ae af tg] 32)
 have qW:=(hX1.grow tO).grow hg3
 have kg:=(kf.grow tO).grow hg3
 have qQ:=(nJ.grow tO).grow hg3
 clear hcv
 go_wp2_with (refine kH rfl 32 _ _ rfl (y) 1 rfl [ae af k,ae af ag,ae af sh,ae af sq,ae af ep,.slice A2 ds.length c2,.string se,ae af fr,ae af tg] rfl (kg) (aQ rfl) rfl am (cs':=#[ae af 1,ae af k,ae af ag,ae af sh,ae af sq,ae af ep,.slice A2 ds.length c2,.string se,ae af fr,ae af tg,ae af 0,ae af 0,ae ah 0,ae af 0,ae af 0,ai none 0 0,ae af 0,ae af 0]) rfl ?_;intro w4 qX ko hs4;refine stay ?_)
 refine bV ?_
 have vV:=ko.blk qW al
 go_wp2_with (first|(refine bY rfl 73 _ rfl _ rfl (qX) Tryz.underlying73 am ?_)|(refine ch rfl 73 _ _ rfl _ rfl [ae af 1,ae af k,ae af ag,ae af sh,ae af sq,ae af ep,.slice A2 ds.length c2,.string se,ae af fr,ae af tg,ae af 0,ae af 0,ae ah 0,ae af 0,ae af 0,ai none 0 0,ae af 0,ae af 0] rfl (vV) rfl rfl am ?_;intro w5 zd dY hs5;refine stay ?_))
 refine bV ?_
 go_wp2_with fail
 refine bodyPost_ret (ft rfl _ x rfl zd Tryz.underlying73 am) rfl ?_
 have hx1:=hX1.lt
 have hy1:=kf.lt
 have s1:=hgc.size
 have J:=((((Just.bJ (V:=fun b=>b=r∨w.heap.size≤b) hga).trans (Just.dj ho1 (.inl rfl))).trans (Just.bJ (tO.trans hg3))).trans (ko.imp fun b hb => .inr al)).trans (dY.imp fun b hb => .inr al)
 refine⟨A2,c2,rfl,⟨In.mono (V:=New wc w2) (In.just (In.just (In.grow hel.1 hg3) ko fun b hb e=>by have:=hb.1;omega) dY fun b hb e=>by have:=hb.1;omega) fun b hb=>⟨by have:=hb.1;have:=ho1.size;have:=hga.size;omega,by have h2:=hb.2;have h3:=hg3.size;omega⟩,hel.2⟩,?_,yg J⟩
 exact (qQ.just ko (fun e=>nL e.symm) (fun b hb=>by omega)).just dY (fun e=>zj e.symm) (fun b hb=>by omega)
end Go.Proofs.YtmijcbfgfkeodaaGreatDoor
end
