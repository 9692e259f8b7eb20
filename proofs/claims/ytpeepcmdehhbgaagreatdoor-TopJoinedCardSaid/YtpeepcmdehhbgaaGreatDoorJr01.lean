/- Vget, Vref, Vrget, Vcut, Crc, Cat, Dplain, Disk, Disk2, Crash, Dref, Dreads, Dlt, Dclone, Mi1, Dr, Ld1, Ld2, Ld3, Ao7, Kito, Qbat, Qsome, Qque, Qadd1, Qadd2, Qidx, Qdel, Qdn, Qany, Nelt, Nent, Nesnd, Nedel, Nedrp, Nedlv, Lb, Slt, Lname, Lprint, Wiwin, Wiadd, Wimake, Vcut2, Rd, Rz1, Cplain, Lsort, Lplain, Lright, Lstrs, Ltext, Lparse, En, En2. -/
import Derived.Test.YtpeepcmdehhbgaaGreatDoorJr00
import Derived.Lib.AppendZeros
import Derived.Ground.SlgnProg
import Derived.Shelf.SortG.Plain
import Derived.Shelf.SortG.SortNone
import Derived.Sort.Walk0
import Derived.Lib.Bytealg
import Derived.Deep.LoopGhost
import Derived.Shelf.SlSortCmp.InsertionK
import Derived.Ground.SlsfProg
import Derived.Lib.SplitLaws
import Derived.Lib.CutLaws
import Derived.Lib.IndexBytes
import Derived.Lib.Join
import Derived.Shelf.Strings.SplitCore
import Derived.Shelf.Strings.Search3
import Derived.Shelf.Strings.Count
import Derived.Shelf.Strings.OnBuilder
set_option linter.all false
set_option maxRecDepth 100000
set_option maxHeartbeats 2000000
open Go.Value renaming int->ae,slice->Y,string->aX,bool->aY,agg->aZ,tuple->a_
open Go.Ending renaming returned->b5
open Go.IntKind renaming i64->af,u64->ah
open Go (J az aE aA aB aC aD ay aj am ap aw aL aK aJ aI aH aV aU aT aR aQ aP aO aN)
open Go.Proofs.Tryz renaming prog->N,underlying9->c_,underlying23->dh,underlying5->dw,underlying3->dx
open Go.Lib renaming hid->Q
open List renaming length_append->bd,length_map->bj,append_nil->bm,length_take->bn,append_assoc->bp,take_succ_eq_append_getElem->br,eq_nil_of_length_eq_zero->bv,length_singleton->bw,length_cons->bC,getElem_mem->bD,range->bF,take_of_length_le->bH,set_cons_succ->bI,setIfInBounds_toArray->bJ,set_cons_zero->bL,map_append->bM,flatMap_cons->bN,flatMap_append->bO,length_drop->bU,mem_cons_of_mem->bV,not_mem_nil->bW,map_cons->bX,mem_of_mem_take->bY,mem_cons->b_,length_nil->cx,mem_cons_self->cy,nil_append->cC,size_toArray->cE,cons_append->cH,flatMap_nil->cI,prefix_append->cM,map_congr_left->cP,map_nil->cS,replicate->cU,mem_map_of_mem->cW,drop_zero->d9,mem_of_mem_drop->da,length_set->dq,getElem_map->dt,take_append_drop->dA
open Nat renaming le_refl->bh,zero_le->bo,lt_of_lt_of_le->bu,le_trans->bA,eq_zero_or_pos->cn,min_eq_left->cF,mul_le_mul_right->cK,zero_add->cL,mul_one->cO,lt_or_ge->cR
open Go.Region renaming wanted->bz
open Bool renaming eq_false_or_eq_true->bB,and_eq_true->bP,false_ne_true->cj
open Go.Builtin renaming zeroCells->bQ
open Array renaming length_toList->ch
open Int renaming toNat_natCast->cG
open Go renaming Value->E,World->G,Calls->dF,Addr->dG,TypeId->dH,Program->dI,Oper->dJ,Act->dK,maxLen->dL
variable{w w1 O:G}{n k i g B r aet v e bytes j had m:Nat}{l t t':aT}{V V' D:aV}{A A0:aU}{a b s c:aR}{nodes last seq:Int}{o:dJ}{ρ:Go.Operand->E}{x y:Go.Operand}{u z best:E}{P:aO}{pr:List Bool}{ac:aN}{args:aP}
namespace Go.Proofs.YtpeepcmdehhbgaaGreatDoor.V
open RowKit Hop
def vB:∀x:Nat,x<256->bits .andNot .u64 (x:Int) 128=((x % 128:Nat):Int):=by decide +kernel
def Ue(i:Nat):(2:Int) ^ (i*7)=((128 ^ i:Nat):Int):=by rw[Nat.mul_comm,Int.pow_mul];push_cast;rfl
def IV(p i:Nat)(h:p*128 ^ i<18446744073709551616):IntKind.u64.wrap ((p:Int)*2 ^ (i*7))=((p*128 ^ i:Nat):Int):=by rw[Ue,<-Int.natCast_mul,wrap_u64];omega
def IW(p i:Nat):((p*128 ^ i:Nat):Int) / 2 ^ (i*7)=(p:Int):=by rw[Ue,<-Int.natCast_ediv,Nat.mul_div_cancel _ (Nat.pow_pos ap)]
def Dv(p i:Nat)(h:¬ p*128 ^ i<18446744073709551616)(hi:i<=9)(hp:p<128):∃q d:Nat,IntKind.u64.wrap ((p:Int)*2 ^ (i*7))=(q:Int)∧(q:Int) / 2 ^ (i*7)=(d:Int)∧d≠p:=by
 have h9:i=9:=by
  rcases cR i 9 with I|I
  ·exfalso
   have:128 ^ i<=128 ^ 8:=Nat.pow_le_pow_right ap ap;have Z:p*128 ^ i<=127*128 ^ 8:=Nat.mul_le_mul ap this;omega
  ·omega
 subst h9;refine⟨p*128 ^ 9 % 18446744073709551616,p % 2,?_,?_,by omega⟩;·rw[Ue,<-Int.natCast_mul,wrap_u64];omega
 ·rw[Ue];omega
def Yi(a b:Nat)(ha:a<18446744073709551616)(hb:b<18446744073709551616):bits .or .u64 (a:Int) (b:Int)=((a ||| b:Nat):Int):=by show IntKind.u64.wrap ((BitVec.ofInt 64 (a:Int) ||| BitVec.ofInt 64 (b:Int)).toNat:Nat)=_;rw[BitVec.toNat_or,BitVec.toNat_ofInt,BitVec.toNat_ofInt,wrap_u64];rw[show ((a:Int) % ((2 ^ 64:Nat):Int)).toNat=a by omega,show ((b:Int) % ((2 ^ 64:Nat):Int)).toNat=b by omega];have:=Nat.or_lt_two_pow (n:=64) ha hb;omega
def K_(a p i:Nat)(ha:a<128 ^ i)(h:p*128 ^ i<18446744073709551616)(hi:i<=9):a+p*128 ^ i<18446744073709551616:=by
 have OA:(18446744073709551616:Nat)=2 ^ (64-7*i)*128 ^ i:=by rw[show (128:Nat)=2 ^ 7 by rfl,<-Nat.pow_mul,<-Nat.pow_add,show 64-7*i+7*i=64 by omega]
 rw[OA] at h ⊢;have hp:p<2 ^ (64-7*i):=Nat.lt_of_mul_lt_mul_right h;calc a+p*128 ^ i<128 ^ i+p*128 ^ i:=by omega
  _=(p+1)*128 ^ i:=by rw[Nat.add_mul];omega
  _<=2 ^ (64-7*i)*128 ^ i:=cK _ hp
def Pz(a p i:Nat)(ha:a<128 ^ i)(h:p*128 ^ i<18446744073709551616)(hi:i<=9)(_hp:p<128):bits .or .u64 (a:Int) ((p*128 ^ i:Nat):Int)=((a+p*128 ^ i:Nat):Int):=by
 have I:=K_ a p i ha h hi;rw[Yi a _ ap h];have a2b:(128:Nat) ^ i=2 ^ (7*i):=by rw[Nat.pow_mul]
 rw[a2b] at ha ⊢;have:=Nat.two_pow_add_eq_or_of_lt ha p;rw[Nat.mul_comm p,Nat.or_comm,<-this,Nat.add_comm]
def MP(w:G)(B:Nat)(A:aU)(n c:Nat)(l:aT)(hb:Bytes w B A n l)(T7:n<=dL)(hn:n<10):dF N 134 #[Y A n c] w λe O=>∃v k:Nat,i_ l v k∧e=b5 (a_ #[ae ah v,J k])∧w=O:=by
 have fp:=hb.len;unfold dL at T7;go_in;go_wp2_with fail;go_loopw [4,11] (λav iv wr=>∃i:Nat,i<=n∧iv=J i∧av=ae ah (val (l.take i):Int)∧Hi l i∧wr=w) (λ_ iv _=>n-(intOf iv).toNat);case atStart=>exact⟨0,by omega,rfl,rfl,λj hj h=>by omega,rfl⟩
 case round=>
  obtain⟨i,l8,rfl,rfl,Mk,rfl⟩:=hrel;by_cases hi:i<n
  ·obtain⟨ad,xP,rfl,iT⟩:=hb.at_ (show i<n by omega)
   have hc:=l[i].toNat_lt;obtain⟨x,HX⟩:∃x:Nat,Hid (x=l[i].toNat):=⟨l[i].toNat,rfl⟩;rw[<-HX.out] at iT hc;have ean:=vB x ap;obtain⟨p,L3⟩:=az (x % 128:Nat);have hp:p<128:=by have:=L3.out;omega
   rw[<-L3.out] at ean;have hv:=ml l i xP;rw[<-HX.out,<-L3.out] at hv;have Ml:=qY l i;obtain⟨a,HA⟩:=az (val (l.take i):Nat);obtain⟨b,HB⟩:=az (val (l.take (i+1)):Nat);rw[<-HA.out] at hv Ml;rw[<-HB.out] at hv;rw[<-HA.out];have C9:=Q Mk;clear Mk;by_cases Mm:p*128 ^ i<18446744073709551616
   ·have ew:=IV p i Mm
    obtain⟨q,HQ⟩:=az (p*128 ^ i:Nat);have ed:=IW p i;rw[<-HQ.out] at ew ed hv Mm;have eo:bits .or .u64 (a:Int) (q:Int)=(b:Int):=by rw[hv,HQ.out];exact Pz a p i Ml (by rw[<-HQ.out];exact Mm) (show i<=9 by omega) hp
    have xQ:b<18446744073709551616:=by have:=K_ a p i Ml (by rw[<-HQ.out];exact Mm) (show i<=9 by omega);rw[<-HQ.out] at this;omega
    clear hv Ml;by_cases X:128<=x
    ·go_wp2_with fail
     go_roundw;case rel=>exact⟨i+1,by omega,by go_num,by rw[HB.out],Ds xP C9.out (by rw[<-HX.out];exact X),trivial⟩
     case measure=>simp[intOf];omega
    ·by_cases hz:x<=0∧0<i
     ·obtain⟨hz,h0⟩:=hz
      have hz':l[i]=0:=by have:=HX.out;apply UInt8.toNat_inj.1;rw[<-this,show x=0 by omega];rfl
      go_wp2;go_ret2;exact⟨0,0,i_.none (qZ xP C9.out hz' h0),rfl,rfl⟩
     ·have hG:i_ l b (i+1):=by
       rw[HB.out];refine vA xP C9.out (by rw[<-HX.out];omega) ?_ (by rw[<-HB.out];exact xQ);by_cases h0:i=0;·exact .inr h0
       ·refine .inl λe=>hz ⟨?_,by omega⟩
        have:x=0:=by rw[HX.out,e];rfl
        omega
      by_cases WQ:x<=0
      ·have hi0:i<=0:=by omega
       clear hz
       go_wp2
       go_ret2
       exact⟨b,i+1,hG,by push_cast;rfl,rfl⟩
      ·clear hz
       go_wp2
       go_ret2
       exact⟨b,i+1,hG,by push_cast;rfl,rfl⟩
   ·obtain⟨q,d,ew,ed,hd⟩:=Dv p i ap ap hp
    go_wp2;go_ret2;refine⟨0,0,i_.none (t8 xP C9.out ?_),rfl,rfl⟩;rw[<-HX.out,<-L3.out];omega
  ·have va:i=n:=by omega
   have C9:=Q Mk;clear Mk;obtain⟨a,HA⟩:=az (val (l.take i):Nat);rw[<-HA.out];subst va;go_wp2;go_ret2;exact⟨0,0,i_.none (vz C9.out ap),rfl,rfl⟩
def PD(w:G)(B:Nat)(A:aU)(n c:Nat)(l:aT)(hb:Bytes w B A n l)(T7:n<=dL)(hn:10<n):dF N 134 #[Y A n c] w λe O=>∃v k:Nat,i_ l v k∧e=b5 (a_ #[ae ah v,J k])∧w=O:=by
 have fp:=hb.len;unfold dL at T7;go_in;go_wp2_with fail;go_loopw [4,11] (λav iv wr=>∃i:Nat,i<=10∧iv=J i∧av=ae ah (val (l.take i):Int)∧Hi l i∧wr=w) (λ_ iv _=>10-(intOf iv).toNat);case atStart=>exact⟨0,by omega,rfl,rfl,λj hj h=>by omega,rfl⟩
 case round=>
  obtain⟨i,l8,rfl,rfl,Mk,rfl⟩:=hrel;by_cases hi:i<10
  ·obtain⟨ad,xP,rfl,iT⟩:=hb.at_ (show i<n by omega)
   have hc:=l[i].toNat_lt;obtain⟨x,HX⟩:∃x:Nat,Hid (x=l[i].toNat):=⟨l[i].toNat,rfl⟩;rw[<-HX.out] at iT hc;have ean:=vB x ap;obtain⟨p,L3⟩:=az (x % 128:Nat);have hp:p<128:=by have:=L3.out;omega
   rw[<-L3.out] at ean;have hv:=ml l i xP;rw[<-HX.out,<-L3.out] at hv;have Ml:=qY l i;obtain⟨a,HA⟩:=az (val (l.take i):Nat);obtain⟨b,HB⟩:=az (val (l.take (i+1)):Nat);rw[<-HA.out] at hv Ml;rw[<-HB.out] at hv;rw[<-HA.out];have C9:=Q Mk;clear Mk;by_cases Mm:p*128 ^ i<18446744073709551616
   ·have ew:=IV p i Mm
    obtain⟨q,HQ⟩:=az (p*128 ^ i:Nat);have ed:=IW p i;rw[<-HQ.out] at ew ed hv Mm;have eo:bits .or .u64 (a:Int) (q:Int)=(b:Int):=by rw[hv,HQ.out];exact Pz a p i Ml (by rw[<-HQ.out];exact Mm) (show i<=9 by omega) hp
    have xQ:b<18446744073709551616:=by have:=K_ a p i Ml (by rw[<-HQ.out];exact Mm) (show i<=9 by omega);rw[<-HQ.out] at this;omega
    clear hv Ml;by_cases X:128<=x
    ·go_wp2_with fail
     go_roundw;case rel=>exact⟨i+1,by omega,by go_num,by rw[HB.out],Ds xP C9.out (by rw[<-HX.out];exact X),trivial⟩
     case measure=>simp[intOf];omega
    ·by_cases hz:x<=0∧0<i
     ·obtain⟨hz,h0⟩:=hz
      have hz':l[i]=0:=by have:=HX.out;apply UInt8.toNat_inj.1;rw[<-this,show x=0 by omega];rfl
      go_wp2;go_ret2;exact⟨0,0,i_.none (qZ xP C9.out hz' h0),rfl,rfl⟩
     ·have hG:i_ l b (i+1):=by
       rw[HB.out];refine vA xP C9.out (by rw[<-HX.out];omega) ?_ (by rw[<-HB.out];exact xQ);by_cases h0:i=0;·exact .inr h0
       ·refine .inl λe=>hz ⟨?_,by omega⟩
        have:x=0:=by rw[HX.out,e];rfl
        omega
      by_cases WQ:x<=0
      ·have hi0:i<=0:=by omega
       clear hz
       go_wp2
       go_ret2
       exact⟨b,i+1,hG,by push_cast;rfl,rfl⟩
      ·clear hz
       go_wp2
       go_ret2
       exact⟨b,i+1,hG,by push_cast;rfl,rfl⟩
   ·obtain⟨q,d,ew,ed,hd⟩:=Dv p i ap ap hp
    go_wp2;go_ret2;refine⟨0,0,i_.none (t8 xP C9.out ?_),rfl,rfl⟩;rw[<-HX.out,<-L3.out];omega
  ·have va:i=10:=by omega
   have C9:=Q Mk;clear Mk;obtain⟨a,HA⟩:=az (val (l.take i):Nat);rw[<-HA.out];subst va;go_wp2;go_ret2;exact⟨0,0,i_.none (vz C9.out ap),rfl,rfl⟩
def Uf(w:G)(B:Nat)(A:aU)(n c:Nat)(l:aT)(hb:Bytes w B A n l)(T7:n<=dL)(hn:n=10):dF N 134 #[Y A n c] w λe O=>∃v k:Nat,i_ l v k∧e=b5 (a_ #[ae ah v,J k])∧w=O:=by
 have fp:=hb.len;subst hn;clear T7;go_in;go_wp2_with fail;go_loopw [4,11] (λav iv wr=>∃i:Nat,i<=10∧iv=J i∧av=ae ah (val (l.take i):Int)∧Hi l i∧wr=w) (λ_ iv _=>10-(intOf iv).toNat);case atStart=>exact⟨0,by omega,rfl,rfl,λj hj h=>by omega,rfl⟩
 case round=>
  obtain⟨i,l8,rfl,rfl,Mk,rfl⟩:=hrel;by_cases hi:i<10
  ·obtain⟨ad,xP,rfl,iT⟩:=hb.at_ (show i<10 by omega)
   have hc:=l[i].toNat_lt;obtain⟨x,HX⟩:∃x:Nat,Hid (x=l[i].toNat):=⟨l[i].toNat,rfl⟩;rw[<-HX.out] at iT hc;have ean:=vB x ap;obtain⟨p,L3⟩:=az (x % 128:Nat);have hp:p<128:=by have:=L3.out;omega
   rw[<-L3.out] at ean;have hv:=ml l i xP;rw[<-HX.out,<-L3.out] at hv;have Ml:=qY l i;obtain⟨a,HA⟩:=az (val (l.take i):Nat);obtain⟨b,HB⟩:=az (val (l.take (i+1)):Nat);rw[<-HA.out] at hv Ml;rw[<-HB.out] at hv;rw[<-HA.out];have C9:=Q Mk;clear Mk;by_cases Mm:p*128 ^ i<18446744073709551616
   ·have ew:=IV p i Mm
    obtain⟨q,HQ⟩:=az (p*128 ^ i:Nat);have ed:=IW p i;rw[<-HQ.out] at ew ed hv Mm;have eo:bits .or .u64 (a:Int) (q:Int)=(b:Int):=by rw[hv,HQ.out];exact Pz a p i Ml (by rw[<-HQ.out];exact Mm) (show i<=9 by omega) hp
    have xQ:b<18446744073709551616:=by have:=K_ a p i Ml (by rw[<-HQ.out];exact Mm) (show i<=9 by omega);rw[<-HQ.out] at this;omega
    clear hv Ml;by_cases X:128<=x
    ·go_wp2_with fail
     go_roundw;case rel=>exact⟨i+1,by omega,by go_num,by rw[HB.out],Ds xP C9.out (by rw[<-HX.out];exact X),trivial⟩
     case measure=>simp[intOf];omega
    ·by_cases hz:x<=0∧0<i
     ·obtain⟨hz,h0⟩:=hz
      have hz':l[i]=0:=by have:=HX.out;apply UInt8.toNat_inj.1;rw[<-this,show x=0 by omega];rfl
      go_wp2;go_ret2;exact⟨0,0,i_.none (qZ xP C9.out hz' h0),rfl,rfl⟩
     ·have hG:i_ l b (i+1):=by
       rw[HB.out];refine vA xP C9.out (by rw[<-HX.out];omega) ?_ (by rw[<-HB.out];exact xQ);by_cases h0:i=0;·exact .inr h0
       ·refine .inl λe=>hz ⟨?_,by omega⟩
        have:x=0:=by rw[HX.out,e];rfl
        omega
      by_cases WQ:x<=0
      ·have hi0:i<=0:=by omega
       clear hz
       go_wp2
       go_ret2
       exact⟨b,i+1,hG,by push_cast;rfl,rfl⟩
      ·clear hz
       go_wp2
       go_ret2
       exact⟨b,i+1,hG,by push_cast;rfl,rfl⟩
   ·obtain⟨q,d,ew,ed,hd⟩:=Dv p i ap ap hp
    go_wp2;go_ret2;refine⟨0,0,i_.none (t8 xP C9.out ?_),rfl,rfl⟩;rw[<-HX.out,<-L3.out];omega
  ·have va:i=10:=by omega
   have C9:=Q Mk;clear Mk;obtain⟨a,HA⟩:=az (val (l.take i):Nat);rw[<-HA.out];subst va;go_wp2;go_ret2;exact⟨0,0,i_.none (vz C9.out ap),rfl,rfl⟩
def rQ(w:G)(B:Nat)(A:aU)(n c:Nat)(l:aT)(hb:Bytes w B A n l)(T7:n<=dL):dF N 134 #[Y A n c] w λe O=>∃v k:Nat,i_ l v k∧e=b5 (a_ #[ae ah v,J k])∧w=O:=by
 by_cases h:n<10;·exact MP w B A n c l hb T7 h
 ·by_cases h':10<n
  ·exact PD w B A n c l hb T7 h'
  ·exact Uf w B A n c l hb T7 ap
def yQ(w:G)(A:aU)(n c:Nat)(l:aT)(hb:Bytes w (w:Nat) A n l)(hn:n<=1099511627776)(s:aR)(hs:s.size<=1099511627776):dF N 240 #[Y A n c,aX s] w λe O=>∃v,e=b5 v∧Own O (New w O) 5 1 v (n+(enc s.size).length+s.size) (lg (l++enc s.size++s.data.toList))∧Grow w O:=by
 have fp:=eG (n:=s.size) ap;have HLen:=Q fp;clear fp;go_in;go_wp2_with (first
  | (go_at_call 182;refine (Du _ A n c l hb hn s.size ap).mono ?_;rintro e w1 ⟨v1,rfl,l6,eO⟩)
  | (at_builtin;refine stay ?_))
 refine dN ?_;refine yK MO c_ _ rfl (.tmp 9) (.tmp 10) rfl v1 _ _ rfl l6 s rfl (by have:=HLen.out;omega) ?_;intro v2 w2 tM kI;rw[<-jh] at tM;obtain⟨tM,fN⟩:=Fo eO tM kI;clear kI l6;go_wp2_with (go_at_call 238;refine (Fp _ _ _ _ _ tM).mono ?_;rintro e w4 ⟨v4,rfl,rfl,hO4⟩);go_ret;exact⟨v4,rfl,hO4,fN⟩
def qy(l t:aT)(k:Nat):Prop:=(t.length<18446744073709551616∧enc t.length++t <+: l∧k=(enc t.length).length+t.length)∨((∀t':aT,t'.length<18446744073709551616->¬ (enc t'.length++t') <+: l)∧t=[]∧k=0)
def qy.none(h:∀t':aT,t'.length<18446744073709551616->¬ (enc t'.length++t') <+: l):qy l [] 0 := .inr ⟨h,rfl,rfl⟩
def IX(I:enc t.length++t <+: l)(Z:enc t'.length++t' <+: l):t=t':=by have he:=kK ((cM _ _).trans I) ((cM _ _).trans Z);rw[<-he] at Z;obtain⟨r,rfl⟩:=I;rw[bp] at Z;have T:=(List.prefix_append_right_inj _).1 Z;have h4:t <+: t++r:=cM _ _;exact List.IsPrefix.eq_of_length (List.prefix_of_prefix_length_le h4 T ap) he
def qy.one{k':Nat}(h:qy l t k)(h':qy l t' k'):t=t'∧k=k':=by
 rcases h with ⟨I,Z,T⟩|⟨I,Z,T⟩<;>rcases h' with ⟨g1,g2,g3⟩|⟨g1,g2,g3⟩
 ·have:=IX Z g2
  subst this;exact⟨rfl,by omega⟩
 ·exact absurd Z (g1 _ I)
 ·exact absurd g2 (I _ g1)
 ·exact⟨by rw[Z,g2],by omega⟩
def PE(hv:v<18446744073709551616)(hE:enc v <+: l)(K:k=(enc v).length)(hl:v<=l.length-k):qy l ((l.drop k).take v) (k+v):=by
 obtain⟨r,rfl⟩:=hE;subst K;rw[List.drop_left']
 ·rw[bd,Nat.add_sub_cancel_left] at hl
  have fp:(r.take v).length=v:=by rw[bn];omega
  refine .inl ⟨by rw[fp];exact hv,?_,by rw[fp]⟩;rw[fp];exact (List.prefix_append_right_inj _).2 (List.take_prefix _ _)
 ·rfl
def a4t:BitVec 32:=0xedb88320#32
def stepT(c:BitVec 32):BitVec 32:=(c >>> 1) ^^^ (if c.getLsbD 0 then a4t else 0#32)
def Ca:Nat->BitVec 32->BitVec 32
 | 0,c=>c
 | n+1,c=>stepT (Ca n c)
def next(c:BitVec 32)(b:UInt8):BitVec 32:=Ca 8 (c ^^^ b.toBitVec.setWidth 32)
def L4(a b:BitVec 32):bits .xor .u32 (a.toNat:Int) (b.toNat:Int)=((a ^^^ b).toNat:Int):=by show IntKind.u32.wrap ((BitVec.ofInt 32 (a.toNat:Int) ^^^ BitVec.ofInt 32 (b.toNat:Int)).toNat:Int)=_;rw[BitVec.ofInt_natCast,BitVec.ofInt_natCast,BitVec.ofNat_toNat,BitVec.ofNat_toNat,BitVec.setWidth_eq,BitVec.setWidth_eq,IntKind.wrap_u32'];omega
def a2d(a b:BitVec 32):bits .and .u32 (a.toNat:Int) (b.toNat:Int)=((a &&& b).toNat:Int):=by show IntKind.u32.wrap ((BitVec.ofInt 32 (a.toNat:Int) &&& BitVec.ofInt 32 (b.toNat:Int)).toNat:Int)=_;rw[BitVec.ofInt_natCast,BitVec.ofInt_natCast,BitVec.ofNat_toNat,BitVec.ofNat_toNat,BitVec.setWidth_eq,BitVec.setWidth_eq,IntKind.wrap_u32'];omega
def a2e(x:BitVec 32):bits .and .u32 (x.toNat:Int) 1=if x.getLsbD 0 then 1 else 0:=by
 have h:=a2d x 1#32;have e:((1#32).toNat:Int)=1:=by decide
 rw[e] at h;rw[h];have:(x &&& 1#32)=if x.getLsbD 0 then 1#32 else 0#32:=by
  ext i hi;by_cases h0:i=0;·subst h0;cases h:x[0]<;>simp[h]
  ·have I:(1#32)[i]=false:=by simp[BitVec.getElem_one,h0]
   simp only[BitVec.getElem_and,I,Bool.and_false];split<;>simp[h0]
 rw[this];split<;>rfl
def Yj(x:BitVec 32):bits .xor .u32 (↑x.toNat / 2) (3988292384*bits .and .u32 ↑x.toNat 1 % 4294967296)=((stepT x).toNat:Int):=by
 rw[a2e];have e:((x.toNat:Int) / (2:Int))=((x >>> 1).toNat:Int):=by rw[BitVec.toNat_ushiftRight,Nat.shiftRight_eq_div_pow];omega
 rw[e];unfold stepT;split;·exact L4 (x >>> 1) a4t
 ·exact L4 (x >>> 1) 0#32
def PF(c:BitVec 32)(b:UInt8)(w:G):dF N 256 #[.int .u32 c.toNat,.int .u8 b.toNat] w λe O=>e=b5 (.int .u32 (next c b).toNat)∧w=O:=by
 have hb:(b.toNat:Int) % 4294967296=((b.toBitVec.setWidth 32).toNat:Int):=by have:=b.toNat_lt;simp only[BitVec.toNat_setWidth,UInt8.toNat_toBitVec];omega
 have X:=L4 c (b.toBitVec.setWidth 32);rw[<-hb] at X;have HX:=Q X;clear hb X;go_in;go_wp2;go_loop [0,5,10] (λv _ i=>∃k:Nat,k<=8∧i=J k∧v=.int .u32 (Ca k (c ^^^ b.toBitVec.setWidth 32)).toNat) (λ_ _ i=>8-(intOf i).toNat);case atStart=>exact⟨0,by omega,rfl,by rw[HX.out];rfl⟩
 case round=>
  obtain⟨k,K,rfl,rfl⟩:=hrel;by_cases h:k<8
  ·have hs0:Ca (k+1) (c ^^^ b.toBitVec.setWidth 32)=stepT (Ca k (c ^^^ b.toBitVec.setWidth 32)):=rfl
   have hs:=Q hs0;clear hs0;generalize Ca k (c ^^^ b.toBitVec.setWidth 32)=x at hs;go_wp2;go_round;case rel=>exact⟨k+1,by omega,by go_num,by rw[Yj,hs.out]⟩
   case measure=>simp[intOf];omega
  ·obtain rfl:k=8:=by omega
   go_wp2;go_ret;exact⟨rfl,rfl⟩
def run(c:BitVec 32)(l:aT):BitVec 32:=l.foldl next c
def PH(c:BitVec 32)(l:aT)(k:Nat)(h:k<l.length):run c (l.take (k+1))=next (run c (l.take k)) l[k]:=by unfold run;rw[br h,List.foldl_append];rfl
def Yk(c:BitVec 32)(A:aU)(n cap:Nat)(l:aT)(w:G)(B:Nat)(h:Bytes w B A n l)(hn:n<=dL):dF N 194 #[.int .u32 c.toNat,Y A n cap] w λe O=>e=b5 (.int .u32 (run c l).toNat)∧w=O:=by
 unfold dL at hn;have fp:=h.len;go_in;go_wp2;go_loop [0,6,9] (λv _ i=>∃k:Nat,k<=n∧i=J k∧v=.int .u32 (run c (l.take k)).toNat) (λ_ _ i=>n-(intOf i).toNat);case atStart=>exact⟨0,by omega,rfl,rfl⟩
 case round=>
  obtain⟨k,K,rfl,rfl⟩:=hrel;by_cases fM:k<n
  ·obtain⟨ad,hl,rfl,hc⟩:=h.at_ fM
   have hs:=Q (PH c l k hl);go_wp2_with (go_at_call 256;refine (PF _ _ _).mono ?_;rintro e O ⟨rfl,rfl⟩);go_round;case rel=>exact⟨k+1,by omega,by go_num,by rw[hs.out]⟩
   case measure=>simp[intOf];omega
  ·obtain rfl:k=n:=by omega
   go_wp2;go_ret;exact⟨nh (by rw[bH ap]),rfl⟩
def a2f(a:BitVec 32):bits .xor .u32 4294967295 (a.toNat:Int)=((~~~a).toNat:Int):=by have h:=L4 (BitVec.allOnes 32) a;rw[BitVec.allOnes_xor] at h;exact h
def a0C:BitVec 32:=BitVec.allOnes 32
def PI:(4294967295:Int)=(a0C.toNat:Int):=by decide
def crc(l:aT):BitVec 32 := ~~~(run a0C l)
def IY(A:aU)(n cap:Nat)(l:aT)(w:G)(B:Nat)(h:Bytes w B A n l)(hn:n<=dL):dF N 136 #[Y A n cap] w λe O=>e=b5 (.int .u32 (crc l).toNat)∧w=O:=by have hc:=Yk a0C A n cap l w B h hn;rw[<-PI] at hc;have HC:=Q hc;clear hc;go_in;go_wp2_with (go_at_call 194;refine (HC.out).mono ?_;rintro e O ⟨rfl,rfl⟩);go_ret;exact⟨nh (a2f _),rfl⟩
def PK(w:G)(n:Nat)(hn:n<=140737488355328):dF N 367 #[ay,J n] w λe O=>∃v,e=b5 v∧Own O (New w O) 5 1 v 0 []∧Grow w O:=by
 rcases cn n with h0|h0
 ·subst h0
  go_in;go_wp2;go_ret;exact⟨_,rfl,Own.nil,Grow.refl _⟩
 ·have BM:(0:Int)<(n:Int):=by omega
  have a8W:¬ (n:Int)<0:=by omega
  obtain⟨i,hi,hz,hs,hb⟩:=MO.info;go_in;go_wp2_with (at_builtin;refine Lib.wpList_append_run _ rfl _ _ _ _ rfl _ _ rfl rfl _ _ (Lib.run_append_nil_zeros _ 23 3 _ 5 i (.int .u8 0) .i64 .i64 dh dx hi hz n h0 ap ap (by rw[hb];omega)) ?_);have TH:=grownCap_ge w n 0 5;have ng:grownCap w n 0 5<=dL:=grownCap_le_maxLen w n 0 5 (by unfold dL;omega);generalize grownCap w n 0 5=cap at TH ng;have ko:(bQ #[Value.int .u8 0] n++bQ #[Value.int .u8 0] (cap-n)).size=cap:=by rw[Array.size_append,size_zeroCells,size_zeroCells,show (#[Value.int .u8 0]:Array E).size=1 from rfl];omega
  generalize bQ #[Value.int .u8 0] n++bQ #[Value.int .u8 0] (cap-n)=cur at ko;go_wp2;go_ret;refine⟨_,rfl,⟨rfl,.inr ⟨(w:Nat),cap,cur,rfl,⟨bh _,by simp⟩,?_,bo _,ng,by omega,by simp⟩⟩,Grow.drew ((Below.refl _ _).alloc (bh _) _)⟩;exact heap_alloc_new w _
structure Bx where
 A:Option dG
 m:Nat
 c:Nat
 bs:List UInt8
def Bx.cells(b:Bx):List E:=[Y b.A b.m b.c]
def yR(b:Bx):b.cells.length=1:=rfl
def Yl(b:Bx):∀u∈b.cells,u.oneCell'=true:=by intro u hu;simp only[Bx.cells,b_,bW,or_false] at hu;rw[hu];rfl
def Cb{α β:Type}(f:α->List β)(q:List α)(K:k<q.length):(q.take (k+1)).flatMap f=(q.take k).flatMap f++f q[k]:=by rw[br K,bO,bN,cI,bm]
def L5{α β:Type}(f:α->List β)(q:List α)(k:Nat):((q.take k).flatMap f).length<=(q.flatMap f).length:=by
 conv=>rhs;rw[<-dA k q]
 rw[bO,bd];omega
def pQ(q:List Bx):Nat:=(q.flatMap Bx.bs).length
def IZ(w:G)(A:aU)(n c:Nat)(q:List Bx)(W:Reads w (w:Nat) 1 A n (q.flatMap Bx.cells))(hb:∀b∈q,Bytes w (w:Nat) b.A b.m b.bs)(hT:pQ q<=1099511627776)(hn:n<=1099511627776):dF N 331 #[Y A n c] w λe O=>∃v,e=b5 v∧Own O (New w O) 5 1 v (pQ q) (lg (q.flatMap Bx.bs))∧Grow w O:=by
 have hI:In w (λ_=>True) 1 A n (q.flatMap Bx.cells):=Reads.kB W (bh _) λ_ _=>trivial;have iH:q.length=n:=by have:=W.1;rw[jL Bx.cells 1 yR] at this;omega
 go_in;go_wp2_with fail;go_loopw [3,11] (λs i wr=>∃k:Nat,k<=n∧i=J k∧s=J (pQ (q.take k):Int)∧w=wr) (λ_ i _=>n-(intOf i).toNat);case atStart=>exact⟨0,by omega,rfl,rfl,rfl⟩
 case round=>
  obtain⟨k,oF,rfl,rfl,rfl⟩:=hrel;by_cases K:k<n
  ·obtain⟨ad,hq,rfl,_,_,e0,_⟩:=hI.ni ap yR K
   have e0:=e0 _ rfl;rw[cO] at e0;have I7:=hb _ (bD hq);have hL:pQ (q.take (k+1))=pQ (q.take k)+q[k].m:=by unfold pQ;rw[Cb Bx.bs q hq,bd,Bytes.len I7]
   have ng:pQ (q.take (k+1))<=pQ q:=L5 Bx.bs q (k+1);have HL:=Q hL;have Xa:=Q (show pQ (q.take k)+q[k].m<=1099511627776 by omega);clear hL ng I7;generalize q[k]=b at e0 HL Xa;obtain⟨Ab,mb,cb,bs⟩:=b;dsimp only at e0 HL Xa;generalize pQ (q.take k)=s at HL Xa;have yk:IntKind.i64.wrap ((s:Int)+(mb:Int))=(s:Int)+(mb:Int):=by have:=Xa.out;rw[IntKind.wrap_i64];omega
   have hs0:¬ (s:Int)+(mb:Int)<0:=by omega
   go_wp2_with fail;go_roundw;case rel=>exact⟨k+1,by omega,by go_num,by rw[HL.out];push_cast;rfl,by trivial⟩
   case measure=>simp[intOf];omega
  ·obtain rfl:k=n:=by omega
   have hqt:q.take k=q:=bH ap;rw[hqt];go_wp2_with fail;go_at_call 367;refine (PK w _ ap).mono ?_;rintro e w1 ⟨v,rfl,l6,eO⟩;go_wp2_with fail;go_loopw [6,27] (λv i wr=>∃j:Nat,j<=k∧i=J j∧Own wr (New w wr) 5 1 v (pQ (q.take j)) (lg ((q.take j).flatMap Bx.bs))∧Grow w wr) (λ_ i _=>k-(intOf i).toNat);case atStart=>exact⟨0,by omega,rfl,l6,eO⟩
   case round=>
    obtain⟨j,EJ,rfl,hO,H⟩:=hrel;by_cases hj:j<k
    ·obtain⟨ad,hq,rfl,_,_,e0,_⟩:=(hI.grow H).ni ap yR hj
     have e0:=e0 _ rfl;rw[cO] at e0;have I7:=(hb _ (bD hq)).below H;have hF:=Cb Bx.bs q hq;have hL:pQ (q.take (j+1))=pQ (q.take j)+q[j].m:=by unfold pQ;rw[hF,bd,Bytes.len I7]
     have ng:pQ (q.take (j+1))<=pQ q:=L5 Bx.bs q (j+1);have HF:=Q hF;have Xa:=Q (show pQ (q.take j)+q[j].m<=1099511627776 by omega);have HL:=Q hL;clear hF ng hL;generalize q[j]=b at e0 HF Xa I7 HL;obtain⟨Ab,mb,cb,bs⟩:=b;dsimp only at e0 HF Xa I7 HL;go_wp2_with (at_builtin;refine stay ?_);refine dN ?_;refine fZ (V:=New w wr) MO _ rfl (.tmp 31) (.tmp 32) rfl _ _ _ rfl hO (w:Nat) Ab mb cb (lg bs) rfl I7 mg (by have:=Xa.out;omega) ?_;intro v2 w2 tM kI;rw[<-jh,<-HF.out,<-HL.out] at tM;obtain⟨tM,fN⟩:=Fo H tM kI;clear kI hO I7;go_wp2_with fail;go_roundw;case rel=>exact⟨j+1,by omega,by go_num,tM,fN⟩
     case measure=>simp[intOf];omega
    ·obtain rfl:j=k:=by omega
     rw[hqt] at hO;go_wp2;go_ret;exact⟨_,rfl,hO,H⟩
def fits(l b:aT):Bool:=decide (l.length+b.length<=1048576)
def Dw(l b:aT):Int:=if fits l b then 0 else 24
def Ug(l b:aT):List UInt8:=if fits l b then l++b else l
def uk(l:aT)(n:Int):Bool:=decide (0<=n)&&decide (n<=(l.length:Int))
def Uh(l:aT)(n:Int):List UInt8:=if uk l n then l.take n.toNat else l
def kL(l:aT)(k:Nat)(n:Int):Nat:=if uk l n then n.toNat else k
def gD(t d:Nat)(l:aT)(k:Nat):ei:=λw V=>
 V d∧k<=l.length∧l.length<=1048576∧∃v,eL w d t #[v,J k]∧Own w (λb=>V b∧b≠d) 5 1 v l.length (lg l)
def gD.framed(t d:Nat)(l:aT)(k:Nat):eQ (gD t d l k):=λw O V h K=>by obtain⟨I,Z,T,v,h4,h5⟩:=h;exact⟨I,Z,T,v,(K d I).trans h4,h5.keep λb hb=>K b hb.1⟩
def gD.wide{t d:Nat}(h:gD t d l k w V)(hV:∀b,V b->V' b):gD t d l k w V':=by obtain⟨I,Z,T,v,h4,h5⟩:=h;exact⟨hV d I,Z,T,v,h4,h5.mono λb hb=>⟨hV b hb.1,hb.2⟩⟩
def Ym{n:Int}(h:uk l n=true):∃m:Nat,n=(m:Int)∧m<=l.length:=by unfold uk at h;rw[bP,decide_eq_true_eq,decide_eq_true_eq] at h;exact⟨n.toNat,by omega,by omega⟩
def PL(w:G)(d:Nat)(l:aT)(k:Nat):j9 N 301 #[d] (λe=>e=b5 (a_ #[])) (gD 120 d l k) (gD 120 d l l.length) w:=by intro V ⟨hd,K,hl,v,hB,hO⟩ hV;obtain⟨A,c,rfl,W,hn,hm⟩:=hO.reads;have c0:=hB.cell 0;have f0:=hB.frozen 1;have c1:=hB.cell 1;go_in;go_wp2;go_end0;exact⟨rfl,⟨.inl hd,bh _,hl,_,hB.put 1 _,(hO.put (λh=>h.2 rfl) 1 _).mono λb hb=>⟨.inl hb.1,hb.2⟩⟩,(dP.dR (Grow.refl w)).put hd 1 _⟩
def Yn(w:G)(d:Nat)(l:aT)(k:Nat)(n:Int)(hn:-9223372036854775808<=n∧n<=9223372036854775807)(hc:uk l n=false):j9 N 180 #[d,J n] (λe=>e=b5 (aY false)) (gD 120 d l k) (gD 120 d l k) w:=by
 intro V hD hV;have hD':=hD;obtain⟨hd,K,hl,v,hB,hO⟩:=hD;obtain⟨A,c,rfl,W,jf,hm⟩:=hO.reads;have c0:=hB.cell 0;unfold uk at hc;rw[Bool.and_eq_false_iff,decide_eq_false_iff_not,decide_eq_false_iff_not] at hc;by_cases h0:n<0
 ·go_in
  go_wp2;go_ret;exact⟨rfl,gD.wide hD' (λ_ => .inl),dP.dR (Grow.refl w)⟩
 ·have I:(l.length:Int)<n:=by omega
  go_in;go_wp2;go_ret;exact⟨rfl,gD.wide hD' (λ_ => .inl),dP.dR (Grow.refl w)⟩
def L6(w:G)(d:Nat)(l:aT)(k m:Nat)(hm:m<=l.length):j9 N 180 #[d,J m] (λe=>e=b5 (aY true)) (gD 120 d l k) (gD 120 d (l.take m) m) w:=by
 intro V ⟨hd,K,hl,v,hB,hO⟩ hV;obtain⟨A,c,rfl,W,jf,hc⟩:=hO.reads;have tM:=hO.cut hm;have c0:=hB.cell 0;have f0:=hB.frozen 0;have f1:=hB.frozen 1;have c1:=hB.cell 1;have Iu:(l.take m).length=m:=by rw[bn];omega
 go_in;go_wp2_with (go_at_call 238;refine (pi _ A m c ap).mono ?_;rintro e w1 ⟨rfl,rfl⟩);go_ret;have mJ:=(hB.put 0 (Y A m m)).put 1 (J m);refine⟨rfl,⟨.inl hd,by omega,by omega,_,mJ,?_⟩,((dP.dR (Grow.refl w)).put hd 0 _).put hd 1 _⟩;rw[Iu,yO];exact ((tM.put (λh=>h.2 rfl) 0 _).put (λh=>h.2 rfl) 1 _).mono λb hb=>⟨.inl hb.1,hb.2⟩
def MQ(w:G)(d:Nat)(l:aT)(k:Nat)(A:aU)(n c:Nat)(b:aT)(hb:Bytes w (w:Nat) A n b)(hf:fits l b=false):j9 N 300 #[d,Y A n c] (λe=>e=b5 (J 24)) (gD 120 d l k) (gD 120 d l k) w:=by
 intro V hD hV;have hD':=hD;obtain⟨hd,K,hl,v,hB,hO⟩:=hD;obtain⟨A1,c1,rfl,W,jf,hm⟩:=hO.reads;have c0:=hB.cell 0;have xQ:=hb.len;have hf':¬ l.length+n<=1048576:=by rw[<-xQ];exact of_decide_eq_false hf
 go_in;go_wp2;go_ret;exact⟨rfl,gD.wide hD' (λ_ => .inl),dP.dR (Grow.refl w)⟩
def I_(w:G)(d:Nat)(l:aT)(k:Nat)(A:aU)(n c:Nat)(b:aT)(hb:Bytes w (w:Nat) A n b)(hf:fits l b=true):j9 N 300 #[d,Y A n c] (λe=>e=b5 (J 0)) (gD 120 d l k) (gD 120 d (l++b) k) w:=by
 intro V ⟨hd,K,hl,v,hB,hO⟩ hV;obtain⟨A1,c1,rfl,W,jf,hm⟩:=hO.reads;have c0:=hB.cell 0;have xQ:=hb.len;have hf':l.length+n<=1048576:=by rw[<-xQ];exact of_decide_eq_true hf
 go_in;go_wp2_with (at_builtin;refine stay ?_);refine dN ?_;refine fZ MO _ rfl (.tmp 18) (.tmp 19) rfl (Y A1 l.length c1) l.length (lg l) rfl hO (w:Nat) A n c (lg b) rfl hb mg ap ?_;intro v1 w1 l6 yl;have lb:=yl.blk hB (λh=>h.2 rfl);obtain⟨A2,c2,rfl,ig,_,_⟩:=l6.reads;have f1:=lb.frozen 0;have c1:=lb.cell 0;go_wp2;go_ret;have qJ:=hB.lt;rw[<-jh] at l6;have ym:(l++b).length=l.length+n:=by rw[bd,xQ]
 refine⟨rfl,⟨.inl hd,by omega,by omega,_,lb.put 0 _,?_⟩,(yl.imp λk K=>K.1).put hd 0 _⟩;rw[ym];have kr:¬ ju (λb=>V b∧b≠d) w w1 d:=λh=>by
  rcases h with h|h
  ·exact h.2 rfl
  ·have:=h.1;omega
 exact (l6.put kr 0 _).mono λb hb=>⟨by rcases hb with h|h;exact .inl h.1;exact .inr ⟨h.1,by simpa [World.setCell] using h.2⟩,λe=>by subst e;exact kr hb⟩
theorem ul(w:G)(d:Nat)(l:aT)(k:Nat)(n:Int)(hn:-9223372036854775808<=n∧n<=9223372036854775807):j9 N 180 #[d,J n] (λe=>e=b5 (aY (uk l n))) (gD 120 d l k) (gD 120 d (Uh l n) (kL l k n)) w:=by
 unfold Uh kL;cases hc:uk l n with
 | false=>exact Yn w d l k n hn hc
 | true=>
   obtain⟨m,rfl,hm⟩:=Ym hc;exact L6 w d l k m hm
theorem yS(w:G)(d:Nat)(l:aT)(k:Nat)(A:aU)(n c:Nat)(b:aT)(hb:Bytes w (w:Nat) A n b):j9 N 300 #[d,Y A n c] (λe=>e=b5 (J (Dw l b))) (gD 120 d l k) (gD 120 d (Ug l b) k) w:=by
 unfold Dw Ug;cases hc:fits l b with
 | false=>exact MQ w d l k A n c b hb hc
 | true=>exact I_ w d l k A n c b hb hc
def xX(w:G)(d:Nat)(l:aT)(k:Nat)(V:aV)(hD:gD 120 d l k w V):dF N 107 #[d] w λe O=>∃v,e=b5 v∧Own O (New w O) 5 1 v l.length (lg l)∧Grow w O:=by obtain⟨hd,K,hl,v,hB,hO⟩:=hD;obtain⟨A1,c1,rfl,W,jf,hm⟩:=hO.reads;have c0:=hB.cell 0;go_in;go_wp2_with (go_at_call 135;refine (jY _ A1 l.length c1 l W ap).mono ?_;rintro e w1 ⟨v1,rfl,l6,eO⟩);go_ret;exact⟨v1,rfl,l6,eO⟩
def pR(w:G):dF N 16 #[] w λe O=>e=b5 ((((w:Nat),0):E))∧gD 120 (w:Nat) [] 0 O (New w O)∧Grow w O:=by go_in;go_wp2;go_ret;exact⟨rfl,⟨⟨bh _,by simp⟩,bh _,by simp,_,eL.made w _ _,Own.nil⟩,(Below.refl (w:Nat) w).alloc (bh _) _⟩
end Go.Proofs.YtpeepcmdehhbgaaGreatDoor.V
namespace Go.Proofs.YtpeepcmdehhbgaaGreatDoor
open RowKit Hop
abbrev Dl:=ByteArray×Nat
def nO(d:Dl):List E:=[aX d.1,ae ah d.2]
def fw(l:List Dl):List E:=l.flatMap nO
def j4(d:Dl):(nO d).length=2:=rfl
def tc(l:List Dl):∀u∈fw l,u.oneCell'=true:=by intro u hu;unfold fw at hu;obtain⟨d,_,hd⟩:=List.mem_flatMap.1 hu;simp only[nO,b_,bW,or_false] at hd;rcases hd with rfl|rfl<;>rfl
def kM(l:List Dl):(fw l).length=l.length*2:=jL nO 2 j4 l
def New(w O:G)(b:Nat):Prop:=(w:Nat)<=b∧b<(O:Nat)
theorem info_parts{size:Nat}(h:(Tryz.prog.info? e).map (λi=>(i.zero,i.size,i.bytes))=some (some z,size,bytes)):∃i,Tryz.prog.info? e=some i∧i.zero=some z∧i.size=size∧i.bytes=bytes:=by
 cases hi:Tryz.prog.info? e with
 | none=>rw[hi] at h;cases h
 | some i=>rw[hi] at h;injection h with h;injection h with I Z;injection Z with Z T;exact⟨i,rfl,I,Z,T⟩
def J2:(Tryz.prog.info? 147).map (λi=>(i.zero,i.size,i.bytes))=some (some (aZ #[.string .empty,ae ah 0]),2,24):=by kernel_rfl
def pS:Elem N 38 147 2 24 (aZ #[.string .empty,ae ah 0]):=⟨Tryz.underlying38,info_parts J2,rfl,by decide,by decide⟩
def kg(w:G)(V:aV)(A:aU)(n:Nat)(l:List Dl):Prop:=In w V 2 A n (fw l)
def kg.len{l:List Dl}(h:kg w V A n l):l.length=n:=by have:=h.1;rw[kM] at this;omega
def oc{t e:dH}{size:Nat}{v:E}{xs:List E}(hO:Own w1 (ju (λb=>b=(w:Nat)) (w.alloc (.cells #[] t)) w1) e size v n xs)(hj:dP (λb=>b=(w:Nat)) (w.alloc (.cells #[] t)) w1):Own w1 (New w w1) e size v n xs∧Grow w w1:=by
 have hs:(w:Nat)<(w1:Nat):=by have:=hj.size;simp at this;omega
 refine⟨hO.mono (λb hb=>?_),((Below.refl (w:Nat) w).alloc (bh _) (.cells #[] t)).trans (hj.below (B:=(w:Nat)) (λb hb=>by rw[hb];exact bh _) (by simp))⟩;rcases hb with rfl|⟨I,Z⟩
 ·exact⟨bh _,hs⟩
 ·simp at I;exact⟨by omega,Z⟩
def mn(w:G)(e:dH)(size:Nat):Own (w.alloc (.cells #[] e)) (λb=>b=(w:Nat)) e size (Y (some ⟨(w:Nat),0,none⟩) 0 0) 0 []:=⟨by simp,.inr ⟨(w:Nat),0,#[],rfl,rfl,heap_alloc_new w _,bh _,bo _,.inl (by simp),by simp⟩⟩
theorem jY(w:G)(V:aV)(A:aU)(n c:Nat)(l:List Dl)(h:kg w V A n l)(hn:n<=1048576):dF N 188 #[Y A n c] w λe O=>∃A' c',e=b5 (Y A' n c')∧kg O (New w O) A' n l∧n<=c'∧c'<=dL∧Grow w O:=by
 have lD:=λ(O:G)=>Lib.run_eql_slice_nil (P:=N) O 38 147 A n c 0 0 Tryz.underlying38;cases A with
 | none=>
   have B4:n=0:=by
    rcases cn n with h0|h0
    ·exact h0
    ·obtain⟨_,e,_⟩:=h.2 h0;cases e
   subst B4;obtain rfl:l=[]:=bv h.len;go_in;go_wp2;go_ret;exact⟨_,_,rfl,In.nil,bh _,bo _,Grow.refl _⟩
 | some ad=>
   go_in;go_wp2_with (at_builtin;refine stay ?_);refine dN ?_;refine fZ (V:=λb=>b=(w:Nat)) pS _ rfl (.tmp 5) (.tmp 6) rfl (Y (some ⟨(w:Nat),0,none⟩) 0 0) 0 [] rfl (mn w _ _) (w:Nat) (some ad) n c (fw l) rfl (Reads.alloc (In.reads h) (bh _) _) (tc l) ap ?_;intro v1 w1 l6 yl;simp only[cL,cC] at l6;obtain⟨tM,eO⟩:=oc l6 yl;obtain⟨A2,c2,rfl,hI,jf,hm⟩:=tM.kB;go_wp2;go_ret;exact⟨A2,c2,rfl,hI,jf,hm,eO⟩
def pi(w:G)(A:aU)(n c:Nat)(hn:n<=c):dF N 133 #[Y A n c] w λe O=>e=b5 (Y A n n)∧w=O:=by go_in;go_wp2;go_ret;exact⟨rfl,rfl⟩
def Fs:Go.Shelf.Ren:=⟨λ|53=>236|64=>192|63=>298|78=>254|79=>255|70=>341|71=>342|72=>343|73=>344|74=>345|75=>346|59=>347|76=>348|77=>349|88=>373|89=>313|90=>314|91=>374|92=>375|68=>295|96=>379|n=>n,λ|22=>72|23=>2|3=>3|51=>62|0=>0|67=>61|69=>42|4=>4|61=>340|60=>339|44=>344|5=>5|9=>9|75=>390|79=>393|83=>417|84=>418|n=>n,λ|n=>n⟩
def L8:Go.Proofs.SlLaysN.n53 N Fs:={
 mixed:=by kernel_rfl
 f53:=⟨Tryz.f236.name,by decide,Tryz.func236.trans (congrArg some aw)⟩
 f59:=⟨Tryz.f347.name,by decide,Tryz.func347.trans (congrArg some aw)⟩
 f63:=⟨Tryz.f298.name,by decide,Tryz.func298.trans (congrArg some aw)⟩
 f64:=Tryz.func192.trans (congrArg some aw)
 f68:=⟨Tryz.f295.name,by decide,Tryz.func295.trans (congrArg some aw)⟩
 f70:=⟨Tryz.f341.name,by decide,Tryz.func341.trans (congrArg some aw)⟩
 f71:=⟨Tryz.f342.name,by decide,Tryz.func342.trans (congrArg some aw)⟩
 f72:=⟨Tryz.f343.name,by decide,Tryz.func343.trans (congrArg some aw)⟩
 f73:=⟨Tryz.f344.name,by decide,Tryz.func344.trans (congrArg some aw)⟩
 f74:=⟨Tryz.f345.name,by decide,Tryz.func345.trans (congrArg some aw)⟩
 f75:=⟨Tryz.f346.name,by decide,Tryz.func346.trans (congrArg some aw)⟩
 f76:=⟨Tryz.f348.name,by decide,Tryz.func348.trans (congrArg some aw)⟩
 f77:=⟨Tryz.f349.name,by decide,Tryz.func349.trans (congrArg some aw)⟩
 f78:=Tryz.func254.trans (congrArg some aw)
 f79:=Tryz.func255.trans (congrArg some aw)
 f88:=⟨Tryz.f373.name,by decide,Tryz.func373.trans (congrArg some aw)⟩
 f89:=Tryz.func313.trans (congrArg some aw)
 f90:=Tryz.func314.trans (congrArg some aw)
 f91:=⟨Tryz.f374.name,by decide,Tryz.func374.trans (congrArg some aw)⟩
 f92:=⟨Tryz.f375.name,by decide,Tryz.func375.trans (congrArg some aw)⟩
 f96:=⟨Tryz.f379.name,by decide,Tryz.func379.trans (congrArg some aw)⟩
 t0:=Tryz.underlying0
 a0:=Tryz.isAgg0
 z0:=Tryz.sizeOf0
 v0:=Tryz.zeroValue0
 t3:=dx
 a3:=Tryz.isAgg3
 z3:=Tryz.sizeOf3
 v3:=Tryz.zeroValue3
 t4:=Tryz.underlying4
 a4:=Tryz.isAgg4
 z4:=Tryz.sizeOf4
 v4:=Tryz.zeroValue4
 t5:=dw
 a5:=Tryz.isAgg5
 z5:=Tryz.sizeOf5
 v5:=Tryz.zeroValue5
 t9:=c_
 a9:=Tryz.isAgg9
 z9:=Tryz.sizeOf9
 v9:=Tryz.zeroValue9
 t22:=Tryz.underlying72
 a22:=Tryz.isAgg72
 z22:=Tryz.sizeOf72
 v22:=Tryz.zeroValue72
 t23:=Tryz.underlying2
 a23:=Tryz.isAgg2
 z23:=Tryz.sizeOf2
 v23:=Tryz.zeroValue2
 t44:=Tryz.underlying344
 a44:=Tryz.isAgg344
 z44:=Tryz.sizeOf344
 v44:=Tryz.zeroValue344
 t51:=Tryz.underlying62
 a51:=Tryz.isAgg62
 z51:=Tryz.sizeOf62
 v51:=Tryz.zeroValue62
 t60:=Tryz.underlying339
 a60:=Tryz.isAgg339
 z60:=Tryz.sizeOf339
 v60:=Tryz.zeroValue339
 t61:=Tryz.underlying340
 a61:=Tryz.isAgg340
 z61:=Tryz.sizeOf340
 v61:=Tryz.zeroValue340
 t67:=Tryz.underlying61
 a67:=Tryz.isAgg61
 z67:=Tryz.sizeOf61
 v67:=Tryz.zeroValue61
 t69:=Tryz.underlying42
 a69:=Tryz.isAgg42
 z69:=Tryz.sizeOf42
 v69:=Tryz.zeroValue42
 t75:=Tryz.underlying390
 a75:=Tryz.isAgg390
 z75:=Tryz.sizeOf390
 v75:=Tryz.zeroValue390
 t79:=Tryz.underlying393
 a79:=Tryz.isAgg393
 z79:=Tryz.sizeOf393
 v79:=Tryz.zeroValue393
 t83:=Tryz.underlying417
 a83:=Tryz.isAgg417
 z83:=Tryz.sizeOf417
 v83:=Tryz.zeroValue417
 t84:=Tryz.underlying418
 a84:=Tryz.isAgg418
 z84:=Tryz.sizeOf418
 v84:=Tryz.zeroValue418 }
def lI(l:aN):List E:=l.map (Value.int .i64)
def pT(l:aN):(lI l).length=l.length:=by simp[lI]
def PN(l:aN):∀u∈lI l,u.oneCell'=true:=λu hu=>by obtain⟨x,_,rfl⟩:=List.mem_map.1 hu;rfl
def Cc(l:aN)(hj:j<l.length):(lI l)[j]?=some (J l[j]):=by simp[lI,hj]
def a6J:Elem N 72 2 1 8 (J 0):=⟨Tryz.underlying72,info_parts aw,rfl,by decide,by decide⟩
def qz(l:aN):List Int:=l.mergeSort λx y=>decide (x<=y)
def yT(l:aN):(qz l).Perm l:=List.mergeSort_perm _ _
def pU(l:aN):(qz l).length=l.length:=(yT l).length_eq
def MR(w:G)(V:aV)(v:E)(l:aN)(W:Own w V 2 1 v l.length (lI l))(hl:l.length<4611686018427387904):dF N 236 #[v] w λe O=>e=b5 (a_ #[])∧Own O V 2 1 v (qz l).length (lI (qz l))∧dP V w O:=by
 obtain⟨fp,⟨rfl,h0⟩|⟨g,cap,cur,rfl,hV,H,lx,jg,ko,jA⟩⟩:=W
 ·have hn:l=[]:=bv h0
  subst hn;refine (Go.Proofs.AnyG.slices_Sort_int_none L8 none 0 w).mono λe O ⟨I,Z⟩=>⟨I,?_,?_⟩
  ·have:qz []=[]:=by simp[qz]
   rw[this];exact⟨rfl,.inl ⟨rfl,rfl⟩⟩
  ·rw[Z]
   exact dP.dR (Grow.refl _)
 have B5:g<(w:Nat):=(Array.getElem?_eq_some_iff.1 H).1;have sD:l.length<=cur.size:=by have:=congrArg List.length jA;rw[bn,pT] at this;simp at this;omega
 have hH:Sort.Holds (Value.int .i64) w g 0 l.toArray:=λj hj=>by
  have mc:j<l.length:=by simpa using hj
  have hc:=Cc l mc;rw[<-jA,List.getElem?_take_of_lt ap,Array.getElem?_toList] at hc;refine⟨?_,?_⟩
  ·unfold World.cell?
   simp only[H,cL];rw[hc];simp[mc]
  ·unfold World.frozen?
   simp only[H];simp
 refine (Go.Proofs.AnyG.slices_Sort_int L8 g 0 cap l w hH B5 hl).mono ?_;rintro e O ⟨he,n,os,rfl⟩;obtain⟨s,HS⟩:=aE (qz l:aN);have tQ:s.length=l.length:=by rw[HS];exact pU l
 change e=_∧Own (Sort.grow (Sort.putRow (Value.int .i64) (Sort.ahead w n) g 0 (qz l).toArray) os) V _ 1 _ (qz l).length (lI (qz l))∧dP V w (Sort.grow (Sort.putRow (Value.int .i64) (Sort.ahead w n) g 0 (qz l).toArray) os);rw[<-HS];have KI:(Sort.grow (Sort.putRow (Value.int .i64) (Sort.ahead w n) g 0 s.toArray) os).heap[g]?=some (.cells (Sort.putCells (Value.int .i64) 0 s.toArray cur) 2 (0,0)):=by show ((w.heap.modify g (Sort.onCells (Sort.putCells (Value.int .i64) 0 s.toArray)))++os)[g]?=_;rw[Array.getElem?_append_left (by simpa using B5),Array.getElem?_modify,aA rfl,H];rfl
 have I8:(Sort.putCells (Value.int .i64) 0 s.toArray cur).size=cur.size:=by simp[Sort.putCells]
 have jo:(w:Nat)<=(Sort.grow (Sort.putRow (Value.int .i64) (Sort.ahead w n) g 0 s.toArray) os).heap.size:=by show (w:Nat)<=((w.heap.modify g (Sort.onCells (Sort.putCells (Value.int .i64) 0 s.toArray)))++os).size;simp
 refine⟨he,⟨by rw[pT];omega,.inr ⟨g,cap,_,by rw[tQ],hV,KI,by omega,jg,by rw[I8,tQ];exact ko,?_⟩⟩,⟨rfl,rfl,rfl,jo,λb hb hbg=>?_⟩⟩
 ·apply List.ext_getElem?
  intro j;by_cases hj:j<s.length
  ·rw[List.getElem?_take_of_lt ap,Array.getElem?_toList,Cc s hj]
   have hjc:j<cur.size:=by omega
   simp[Sort.putCells,hjc,hj]
  ·rw[List.getElem?_eq_none (by rw[bn];omega),List.getElem?_eq_none (by rw[pT];omega)]
 ·have xh:b<(w.heap.modify g (Sort.onCells (Sort.putCells (Value.int .i64) 0 s.toArray))).size:=by simpa using hb
  show ((w.heap.modify g (Sort.onCells (Sort.putCells (Value.int .i64) 0 s.toArray)))++os)[b]?=w.heap[b]?;rw[Array.getElem?_append_left xh,Array.getElem?_modify,aB (λe=>hbg (by rw[<-e];exact hV))]
def PO(w:G)(V:aV)(A:aU)(n c:Nat)(l:aN)(x:Int)(h:In w V 1 A n (lI l))(hn:n<=1048576):dF N 234 #[Y A n c,J x] w λe O=>∃z:Int,e=b5 (J z)∧(0<=z↔x∈l)∧w=O:=by
 have ym:l.length=n:=by have:=h.1;rw[pT] at this;omega
 go_in;go_wp2_with fail;go_loopw [8] (λi wr=>∃k:Nat,k<=n∧i=J k∧(∀(j:Nat)(hj:j<l.length),j<k->l[j]≠x)∧w=wr) (λi _=>n-(intOf i).toNat);case atStart=>exact⟨0,by omega,rfl,λj hj h0=>absurd h0 ap,rfl⟩
 case round=>
  obtain⟨k,oF,rfl,kS,rfl⟩:=hrel;by_cases K:k<n
  ·have hd:decide ((k:Int)<(n:Int))=true:=aC ap
   obtain⟨ad,rfl,hVa,hba,hc⟩:=h.2 ap;have oY:=hc k _ (Cc l (show k<l.length by omega));have HK:Hid (l[k]=x->x∈l):=Q λe=>e▸bD _;have HN:Hid (l[k]≠x->∀(j:Nat)(hj:j<l.length),j<k+1->l[j]≠x):=Q λh0 j hj EJ=>by
    rcases cR j k with I|I
    ·exact kS j hj I
    ·have:j=k:=by omega
     subst this;exact h0
   generalize l[k]=y at oY HK HN;clear kS hc h;by_cases I:y=x
   ·have e1:decide (x=y)=true:=aC I.symm
    have e2:(x == y)=true:=by simpa using I.symm
    have X:=Q (HK.out I);clear I HK HN;go_wp2;go_ret;exact⟨(k:Int),rfl,⟨λ_=>X.out,λ_=>by omega⟩,rfl⟩
   ·have e1:decide (x=y)=false:=aD λe=>I e.symm
    have e2:(x == y)=false:=by simpa using λe=>I (Eq.symm e)
    have NO:=Q (HN.out I);clear I HK HN;go_wp2_with fail;go_roundw;case rel=>exact⟨k+1,by omega,by simp,NO.out,trivial⟩
    case measure=>simp only[intOf];omega
  ·obtain rfl:k=n:=by omega
   have hd:decide ((k:Int)<(k:Int))=false:=aD ap;go_wp2;go_ret;refine⟨-1,rfl,⟨λh=>absurd h ap,λh=>?_⟩,rfl⟩;obtain⟨j,hj,rfl⟩:=List.getElem_of_mem h;exact absurd rfl (kS j hj ap)
def Cd(w:G)(V:aV)(A:aU)(n c:Nat)(l:aN)(x:Int)(h:In w V 1 A n (lI l))(hn:n<=1048576):dF N 176 #[Y A n c,J x] w λe O=>e=b5 (aY (decide (x∈l)))∧Grow w O:=by
 have hI:=PO w V A n c l x h hn;obtain⟨r,HR⟩:=az (decide (x∈l):Bool);go_in;go_wp2_with fail;refine hI.mono ?_;rintro e w1 ⟨z,rfl,hz,rfl⟩;by_cases h0:0<=z
 ·have hd:decide ((0:Int)<=z)=true:=aC h0
  have hr:r=true:=by rw[HR.out];exact aC (hz.1 h0)
  subst hr;clear hz h0;go_wp2;go_ret;exact⟨by rw[<-HR.out];rfl,Grow.refl _⟩
 ·have hd:decide ((0:Int)<=z)=false:=aD h0
  have hr:r=false:=by rw[HR.out];exact aD λhm=>h0 (hz.2 hm)
  subst hr;clear hz h0;go_wp2;go_ret;exact⟨by rw[<-HR.out];rfl,Grow.refl _⟩
def oL(t nodes:Nat)(pr:List Bool)(ac:aN)(had:Nat)(best:E)(n:Nat):Array E:=(J t::J nodes::(pr.map Value.bool++(ac.map (Value.int .i64)++[J had,best,J n]))).toArray
section
variable{t nodes:Nat}
def um(hp:pr.length=8)(ha:ac.length=8):(oL t nodes pr ac had best n).size=21:=by simp[oL,hp,ha]
def a2h:(oL t nodes pr ac had best n)[0]?=some (J t):=by simp[oL]
def a2i:(oL t nodes pr ac had best n)[1]?=some (J nodes):=by simp[oL]
def a2j(hp:pr.length=8)(hi:i<8):(oL t nodes pr ac had best n)[2+i]?=some (aY (pr.getD i false)):=by
 have e:2+i=i+1+1:=by omega
 simp[oL,e,List.getElem?_append_left,hp,hi]
def a2k(hp:pr.length=8)(ha:ac.length=8)(hi:i<8):(oL t nodes pr ac had best n)[10+i]?=some (J (ac.getD i 0)):=by
 have e:10+i=(8+i)+1+1:=by omega
 simp[oL,e,List.getElem?_append_right,List.getElem?_append_left,hp,ha,hi]
def Yo(hp:pr.length=8)(ha:ac.length=8):(oL t nodes pr ac had best n)[18]?=some (J had):=by simp[oL,hp,ha]
def Yp(hp:pr.length=8)(ha:ac.length=8):(oL t nodes pr ac had best n)[19]?=some best:=by simp[oL,hp,ha]
def Yq(hp:pr.length=8)(ha:ac.length=8):(oL t nodes pr ac had best n)[20]?=some (J n):=by simp[oL,hp,ha]
def Yr(hp:pr.length=8)(hi:i<8)(b:Bool):(oL t nodes pr ac had best n).setIfInBounds (2+i) (aY b)=oL t nodes (pr.set i b) ac had best n:=by
 have e:2+i=i+1+1:=by omega
 simp[oL,e,List.map_set,List.set_append_left,hp,hi]
def Ys(hp:pr.length=8)(ha:ac.length=8)(hi:i<8)(b:Int):(oL t nodes pr ac had best n).setIfInBounds (10+i) (J b)=oL t nodes pr (ac.set i b) had best n:=by
 have e:10+i=(8+i)+1+1:=by omega
 simp[oL,e,List.map_set,List.set_append_left,List.set_append_right,hp,ha,hi]
def Ui(hp:pr.length=8)(ha:ac.length=8)(x:Nat):(oL t nodes pr ac had best n).setIfInBounds 18 (J x)=oL t nodes pr ac x best n:=by simp[oL,List.set_append_right,hp,ha]
def Uj(hp:pr.length=8)(ha:ac.length=8)(x:E):(oL t nodes pr ac had best n).setIfInBounds 19 x=oL t nodes pr ac had x n:=by simp[oL,List.set_append_right,hp,ha]
def Uk(hp:pr.length=8)(ha:ac.length=8)(x:Nat):(oL t nodes pr ac had best n).setIfInBounds 20 (J x)=oL t nodes pr ac had best x:=by simp[oL,List.set_append_right,hp,ha]
structure wO(w:G)(g t nodes:Nat)(pr:List Bool)(ac:List Int)(had:Nat)(best:E)(n:Nat):Prop where
 b:eL w g 213 (oL t nodes pr ac had best n)
 p:pr.length=8
 a:ac.length=8
def wO.c0(h:wO w g t nodes pr ac had best n):w.cell? (g,0)=some (J t):=(h.b.cell 0).trans a2h
def wO.c1(h:wO w g t nodes pr ac had best n):w.cell? (g,1)=some (J nodes):=(h.b.cell 1).trans a2i
def wO.cp(h:wO w g t nodes pr ac had best n)(hi:i<8):w.cell? ⟨g,2+i,none⟩=some (aY (pr.getD i false)):=(h.b.cell _).trans (a2j h.p hi)
def wO.ca(h:wO w g t nodes pr ac had best n)(hi:i<8):w.cell? ⟨g,10+i,none⟩=some (J (ac.getD i 0)):=(h.b.cell _).trans (a2k h.p h.a hi)
def wO.c18(h:wO w g t nodes pr ac had best n):w.cell? (g,18)=some (J had):=(h.b.cell 18).trans (Yo h.p h.a)
def wO.c19(h:wO w g t nodes pr ac had best n):w.cell? (g,19)=some best:=(h.b.cell 19).trans (Yp h.p h.a)
def wO.c20(h:wO w g t nodes pr ac had best n):w.cell? (g,20)=some (J n):=(h.b.cell 20).trans (Yq h.p h.a)
def Ce(h:wO w g t nodes pr ac had best n)(i:Nat)(hi:i<nodes):dF N 118 #[g,J i] w λe O=>e=b5 (aY true)∧w=O:=by have I:=h.c1;go_in;go_wp2;go_ret;trivial
def Ul(h:wO w g t nodes pr ac had best n):dF N 68 #[g] w λe O=>e=b5 (J t)∧w=O:=by have I:=h.c0;go_in;go_wp2;go_ret;trivial
def Dx(h:wO w g t nodes pr ac had best n)(hn:n<=8):dF N 69 #[g] w λe O=>e=b5 (aY (decide (nodes<2*n)))∧Grow w O:=by
 have I:=h.c1;have Z:=h.c20;have hd:decide ((nodes:Int)<2*(n:Int))=decide (nodes<2*n):=decide_eq_decide.2 ap;replace hd:=Q hd;have wr:IntKind.i64.wrap (2*(n:Int))=2*(n:Int):=by rw[IntKind.wrap_i64];omega
 go_in;go_wp2_with fail;have k1:=λw1(H:Grow w w1)=>wO.c1 (w:=w1) ⟨h.b.grow H,h.p,h.a⟩;have k2:=λw1(H:Grow w w1)=>wO.c20 (w:=w1) ⟨h.b.grow H,h.p,h.a⟩;refine fv ?_;intro w1 H;clear k1 k2;go_wp2;go_ret;exact⟨by rw[<-hd.out];rfl,H⟩
def Yt(w:G)(t nodes:Nat)(I:1<=nodes)(h8:nodes<=8):dF N 59 #[J t,J nodes] w λe O=>∃g,e=b5 (((g:Nat):E))∧Cell g 213 (oL t nodes (cU 8 false) (cU 8 0) 0 (Y none 0 0) 0) O (New w O)∧Grow w O:=by
 have d1:decide ((nodes:Int) >= 1)=true:=aC ap;have d2:decide ((nodes:Int)<=8)=true:=aC ap;have hr:dF N 116 #[J nodes] w λe O=>e=b5 (aY true)∧w=O:=by go_in;go_wp2;go_ret;trivial
 go_in;go_wp2_with fail;refine hr.mono ?_;rintro e w1 ⟨rfl,rfl⟩;go_wp2;go_ret;exact⟨_,rfl,⟨⟨bh _,by simp⟩,eL.made w 213 (oL t nodes (cU 8 false) (cU 8 0) 0 (Y none 0 0) 0)⟩,fc w _⟩
end
def Ft:Go.Shelf.Ren:=⟨λ|53=>190|64=>192|63=>245|78=>254|79=>255|70=>303|71=>304|72=>305|73=>306|74=>307|75=>308|59=>309|76=>310|77=>311|88=>350|89=>313|90=>314|91=>351|92=>352|68=>294|96=>376|n=>n,λ|22=>22|23=>3|3=>3|51=>62|0=>0|67=>61|69=>42|4=>4|61=>340|60=>339|44=>344|5=>5|9=>9|75=>390|79=>393|83=>417|84=>418|n=>n,λ|n=>n⟩
def sortInt:Go.Proofs.SlLaysN.n53 N Ft:={
 mixed:=by kernel_rfl
 f53:=⟨Tryz.f190.name,by decide,Tryz.func190.trans (congrArg some aw)⟩
 f59:=⟨Tryz.f309.name,by decide,Tryz.func309.trans (congrArg some aw)⟩
 f63:=⟨Tryz.f245.name,by decide,Tryz.func245.trans (congrArg some aw)⟩
 f64:=Tryz.func192.trans (congrArg some aw)
 f68:=⟨Tryz.f294.name,by decide,Tryz.func294.trans (congrArg some aw)⟩
 f70:=⟨Tryz.f303.name,by decide,Tryz.func303.trans (congrArg some aw)⟩
 f71:=⟨Tryz.f304.name,by decide,Tryz.func304.trans (congrArg some aw)⟩
 f72:=⟨Tryz.f305.name,by decide,Tryz.func305.trans (congrArg some aw)⟩
 f73:=⟨Tryz.f306.name,by decide,Tryz.func306.trans (congrArg some aw)⟩
 f74:=⟨Tryz.f307.name,by decide,Tryz.func307.trans (congrArg some aw)⟩
 f75:=⟨Tryz.f308.name,by decide,Tryz.func308.trans (congrArg some aw)⟩
 f76:=⟨Tryz.f310.name,by decide,Tryz.func310.trans (congrArg some aw)⟩
 f77:=⟨Tryz.f311.name,by decide,Tryz.func311.trans (congrArg some aw)⟩
 f78:=Tryz.func254.trans (congrArg some aw)
 f79:=Tryz.func255.trans (congrArg some aw)
 f88:=⟨Tryz.f350.name,by decide,Tryz.func350.trans (congrArg some aw)⟩
 f89:=Tryz.func313.trans (congrArg some aw)
 f90:=Tryz.func314.trans (congrArg some aw)
 f91:=⟨Tryz.f351.name,by decide,Tryz.func351.trans (congrArg some aw)⟩
 f92:=⟨Tryz.f352.name,by decide,Tryz.func352.trans (congrArg some aw)⟩
 f96:=⟨Tryz.f376.name,by decide,Tryz.func376.trans (congrArg some aw)⟩
 t0:=Tryz.underlying0
 a0:=Tryz.isAgg0
 z0:=Tryz.sizeOf0
 v0:=Tryz.zeroValue0
 t3:=dx
 a3:=Tryz.isAgg3
 z3:=Tryz.sizeOf3
 v3:=Tryz.zeroValue3
 t4:=Tryz.underlying4
 a4:=Tryz.isAgg4
 z4:=Tryz.sizeOf4
 v4:=Tryz.zeroValue4
 t5:=dw
 a5:=Tryz.isAgg5
 z5:=Tryz.sizeOf5
 v5:=Tryz.zeroValue5
 t9:=c_
 a9:=Tryz.isAgg9
 z9:=Tryz.sizeOf9
 v9:=Tryz.zeroValue9
 t22:=Tryz.underlying22
 a22:=Tryz.isAgg22
 z22:=Tryz.sizeOf22
 v22:=Tryz.zeroValue22
 t23:=dx
 a23:=Tryz.isAgg3
 z23:=Tryz.sizeOf3
 v23:=Tryz.zeroValue3
 t44:=Tryz.underlying344
 a44:=Tryz.isAgg344
 z44:=Tryz.sizeOf344
 v44:=Tryz.zeroValue344
 t51:=Tryz.underlying62
 a51:=Tryz.isAgg62
 z51:=Tryz.sizeOf62
 v51:=Tryz.zeroValue62
 t60:=Tryz.underlying339
 a60:=Tryz.isAgg339
 z60:=Tryz.sizeOf339
 v60:=Tryz.zeroValue339
 t61:=Tryz.underlying340
 a61:=Tryz.isAgg340
 z61:=Tryz.sizeOf340
 v61:=Tryz.zeroValue340
 t67:=Tryz.underlying61
 a67:=Tryz.isAgg61
 z67:=Tryz.sizeOf61
 v67:=Tryz.zeroValue61
 t69:=Tryz.underlying42
 a69:=Tryz.isAgg42
 z69:=Tryz.sizeOf42
 v69:=Tryz.zeroValue42
 t75:=Tryz.underlying390
 a75:=Tryz.isAgg390
 z75:=Tryz.sizeOf390
 v75:=Tryz.zeroValue390
 t79:=Tryz.underlying393
 a79:=Tryz.isAgg393
 z79:=Tryz.sizeOf393
 v79:=Tryz.zeroValue393
 t83:=Tryz.underlying417
 a83:=Tryz.isAgg417
 z83:=Tryz.sizeOf417
 v83:=Tryz.zeroValue417
 t84:=Tryz.underlying418
 a84:=Tryz.isAgg418
 z84:=Tryz.sizeOf418
 v84:=Tryz.zeroValue418 }
def a2l:Elem N 22 3 1 8 (J 0):=⟨Tryz.underlying22,info_parts aw,rfl,by decide,by decide⟩
def MS(w:G)(V:aV)(v:E)(l:aN)(W:Own w V 3 1 v l.length (lI l))(hl:l.length<4611686018427387904):dF N 190 #[v] w λe O=>e=b5 (a_ #[])∧Own O V 3 1 v (qz l).length (lI (qz l))∧dP V w O:=by
 obtain⟨fp,⟨rfl,h0⟩|⟨g,cap,cur,rfl,hV,H,lx,jg,ko,jA⟩⟩:=W
 ·have hn:l=[]:=bv h0
  subst hn;refine (Go.Proofs.AnyG.slices_Sort_int_none sortInt none 0 w).mono λe O ⟨I,Z⟩=>⟨I,?_,?_⟩
  ·have:qz []=[]:=by simp[qz]
   rw[this];exact⟨rfl,.inl ⟨rfl,rfl⟩⟩
  ·rw[Z]
   exact dP.dR (Grow.refl _)
 have B5:g<(w:Nat):=(Array.getElem?_eq_some_iff.1 H).1;have sD:l.length<=cur.size:=by have:=congrArg List.length jA;rw[bn,pT] at this;simp at this;omega
 have hH:Sort.Holds (Value.int .i64) w g 0 l.toArray:=λj hj=>by
  have mc:j<l.length:=by simpa using hj
  have hc:=Cc l mc;rw[<-jA,List.getElem?_take_of_lt ap,Array.getElem?_toList] at hc;refine⟨?_,?_⟩
  ·unfold World.cell?
   simp only[H,cL];rw[hc];simp[mc]
  ·unfold World.frozen?
   simp only[H];simp
 refine (Go.Proofs.AnyG.slices_Sort_int sortInt g 0 cap l w hH B5 hl).mono ?_;rintro e O ⟨he,n,os,rfl⟩;obtain⟨s,HS⟩:=aE (qz l:aN);have tQ:s.length=l.length:=by rw[HS];exact pU l
 change e=_∧Own (Sort.grow (Sort.putRow (Value.int .i64) (Sort.ahead w n) g 0 (qz l).toArray) os) V _ 1 _ (qz l).length (lI (qz l))∧dP V w (Sort.grow (Sort.putRow (Value.int .i64) (Sort.ahead w n) g 0 (qz l).toArray) os);rw[<-HS];have KI:(Sort.grow (Sort.putRow (Value.int .i64) (Sort.ahead w n) g 0 s.toArray) os).heap[g]?=some (.cells (Sort.putCells (Value.int .i64) 0 s.toArray cur) 3 (0,0)):=by show ((w.heap.modify g (Sort.onCells (Sort.putCells (Value.int .i64) 0 s.toArray)))++os)[g]?=_;rw[Array.getElem?_append_left (by simpa using B5),Array.getElem?_modify,aA rfl,H];rfl
 have I8:(Sort.putCells (Value.int .i64) 0 s.toArray cur).size=cur.size:=by simp[Sort.putCells]
 have jo:(w:Nat)<=(Sort.grow (Sort.putRow (Value.int .i64) (Sort.ahead w n) g 0 s.toArray) os).heap.size:=by show (w:Nat)<=((w.heap.modify g (Sort.onCells (Sort.putCells (Value.int .i64) 0 s.toArray)))++os).size;simp
 refine⟨he,⟨by rw[pT];omega,.inr ⟨g,cap,_,by rw[tQ],hV,KI,by omega,jg,by rw[I8,tQ];exact ko,?_⟩⟩,⟨rfl,rfl,rfl,jo,λb hb hbg=>?_⟩⟩
 ·apply List.ext_getElem?
  intro j;by_cases hj:j<s.length
  ·rw[List.getElem?_take_of_lt ap,Array.getElem?_toList,Cc s hj]
   have hjc:j<cur.size:=by omega
   simp[Sort.putCells,hjc,hj]
  ·rw[List.getElem?_eq_none (by rw[bn];omega),List.getElem?_eq_none (by rw[pT];omega)]
 ·have xh:b<(w.heap.modify g (Sort.onCells (Sort.putCells (Value.int .i64) 0 s.toArray))).size:=by simpa using hb
  show ((w.heap.modify g (Sort.onCells (Sort.putCells (Value.int .i64) 0 s.toArray)))++os)[b]?=w.heap[b]?;rw[Array.getElem?_append_left xh,Array.getElem?_modify,aB (λe=>hbg (by rw[<-e];exact hV))]
def J7(w:G)(g b n c:Nat)(l:List E)(hl:∀u∈l,u.oneCell'=true)(sE:Reads w (w:Nat) 1 (some ⟨g,b,none⟩) n l)(hn:n<=1048576):dF N 189 #[Y (some ⟨g,b,none⟩) n c] w λe O=>∃v,e=b5 v∧Own O (New w O) 3 1 v n l∧Grow w O:=by have lD:=λ(O:G)=>Lib.run_eql_slice_nil (P:=N) O 22 3 (some ⟨g,b,none⟩) n c 0 0 Tryz.underlying22;go_in;go_wp2_with (at_builtin;refine stay ?_);refine dN ?_;refine fZ (V:=λb=>b=(w:Nat)) a2l _ rfl (.tmp 5) (.tmp 6) rfl (Y (some ⟨(w:Nat),0,none⟩) 0 0) 0 [] rfl (mn w _ _) (w:Nat) (some ⟨g,b,none⟩) n c l rfl (Reads.alloc sE (bh _) _) hl ap ?_;intro v1 w1 l6 yl;simp only[cL,cC] at l6;obtain⟨l6,eO⟩:=oc l6 yl;go_wp2;go_ret;exact⟨_,rfl,l6,eO⟩
section
variable{t nodes:Nat}
def most(nodes:Nat)(ac:aN):Int:=(qz (ac.take nodes)).getD ((nodes-1) / 2) 0
theorem Fu(V:aV)(hV:V g)(h:wO w g t nodes pr ac had best n)(i:Nat)(hi:i<nodes)(h8:nodes<=8)(m:Nat):dF N 128 #[g,J i,J m] w λe O=>e=b5 (J (most nodes (ac.set i (max (ac.getD i 0) (m:Int)))))∧wO O g t nodes pr (ac.set i (max (ac.getD i 0) (m:Int))) had best n∧dP V w O:=by
 have hN:=Ce h i hi;have hi8:i<8:=by omega
 have a6K:(i:Int)<8:=by omega
 obtain⟨aem,HX⟩:=az (max (ac.getD i 0) (m:Int):Int);have Db:∀ts t w,(Builtin.max_ ts t #[J (ac.getD i 0),J m]).run N w=.ok (J aem) w:=λts t w=>by rw[run_max_int2,HX.out];congr 2;split<;>omega
 rw[<-HX.out];obtain⟨y,HY⟩:=az (ac.getD i 0:Int);have ci:=h.ca hi8;have c1:=h.c1;rw[<-HY.out] at Db ci;have fi:=h.b.frozen (10+i);go_in;go_wp2_with fail;refine hN.mono ?_;rintro e w1 ⟨rfl,rfl⟩;go_wp2_with fail;go_still_tail 13,(by kernel_rfl);change wpList _ _ _ _ _ w.drew;go_wp2_with fail;have mJ:wO (w.setCell ⟨g,10+i,none⟩ (J aem)).drew g t nodes pr (ac.set i aem) had best n:=⟨by have:=h.b.put (10+i) (J aem);rw[Ys h.p h.a hi8] at this;exact this.grow (Grow.refl _).drew,h.p,by rw[dq];exact h.a⟩;have J1:dP V w (w.setCell ⟨g,10+i,none⟩ (J aem)).drew:=((dP.dR (V:=V) (Grow.refl w)).put hV (10+i) (J aem)).trans (dP.dR (Grow.refl _).drew);obtain⟨wa,HA⟩:=az ((w.setCell ⟨g,10+i,none⟩ (J aem)).drew);rw[<-HA.out] at mJ J1;clear ci c1 fi Db h hN;go_wp2_with fail;rw[<-HA.out];have fA:Grow wa wa.drew:=(Grow.refl _).drew;have I9:wO wa.drew g t nodes pr (ac.set i aem) had best n:=⟨mJ.b.grow fA,mJ.p,mJ.a⟩;have c1:=I9.c1;have Xb:(nodes:Int)<=8:=by omega
 obtain⟨l,HL⟩:=az (ac.set i aem);rw[<-HL.out] at mJ I9;have ym:l.length=8:=I9.a;have sE:Reads wa.drew wa.drew.heap.size 1 (some (g,10)) nodes (lI (l.take nodes)):=⟨by rw[pT,bn];omega,λ_=>⟨_,rfl,I9.b.lt,λj u hu=>by
  have hj:j<nodes:=by have:=(List.getElem?_eq_some_iff.1 hu).1;rw[pT,bn] at this;omega
  have Z:=I9.ca (i:=j) ap;rw[Cc _ (by rw[bn];omega),List.getElem_take] at hu;cases hu;rw[show ((g,10):dG).add j=⟨g,10+j,none⟩ by unfold Addr.add;split<;>simp_all,Z];congr 2;simp[List.getD_eq_getElem?_getD,show j<l.length by omega]⟩⟩
 have hC:=J7 wa.drew g 10 nodes 8 _ (PN _) sE ap;go_still_tail 8,(by kernel_rfl);change wpList _ _ _ _ _ wa.drew;go_wp2_with fail;refine hC.mono ?_;rintro e w2 ⟨v,rfl,hO,fN⟩;go_wp2_with fail;have fM:(l.take nodes).length=nodes:=by rw[bn];omega
 refine (MS w2 _ v (l.take nodes) (by rw[fM];exact hO) ap).mono ?_;rintro e w3 ⟨rfl,oS,nx⟩;have jU:Grow wa w3:=Below.trans (fA.trans fN) (nx.below (B:=(wa:Nat)) (λb hb=>hb.1) (fA.trans fN).size);have XO:wO w3 g t nodes pr l had best n:=⟨mJ.b.grow jU,mJ.p,mJ.a⟩;have c1:=XO.c1;obtain⟨_,⟨_,h0⟩|⟨g',cap,cur,rfl,_,xO,hcc,_,_,jA⟩⟩:=oS;·rw[pU] at h0;omega
 have K:(nodes-1) / 2<nodes:=by omega
 have ck:w3.cell? ⟨g',(nodes-1) / 2,none⟩=some (J (most nodes l)):=by rw[cell_of_row _ _ _ _ _ _ xO,<-Array.getElem?_toList];have:=congrArg (λx=>x[(nodes-1) / 2]?) jA;simp only[List.getElem?_take,lI] at this;rw[aA (by rw[pU,fM];omega)] at this;rw[this,List.getElem?_map];unfold most;simp[List.getD_eq_getElem?_getD,pU,fM,K]
 have yk:IntKind.i64.wrap ((nodes:Int)-1)=((nodes-1:Nat):Int):=by rw[IntKind.wrap_i64];omega
 rw[pU,fM];go_wp2;go_ret;rw[<-HL.out];exact⟨rfl,XO,J1.trans (dP.dR jU)⟩
end
def un(x:Nat):Nat:=(x*6364136223846793005+1442695040888963407) % 18446744073709551616
def inF(x n:Nat):Nat:=(un x / 4294967296) % n
def pk(n:Nat):Nat:=if n=0 then 4 else if n=1 then 8 else if n=2 then 16 else 32
def sP(x n:Nat):Nat:=pk n+inF x (pk n / 2+1)
def wP(n:Nat):pk n=4∨pk n=8∨pk n=16∨pk n=32:=by
 unfold pk;repeat' split
 all_goals omega
def yU(x n:Nat):sP x n<=48:=by have h:=Nat.mod_lt (un x / 4294967296) (show 0<pk n / 2+1 by omega);have:=wP n;unfold sP inF;omega
def Um(w:G)(x:Nat):dF N 378 #[ae ah x] w λe O=>e=b5 (ae ah (un x:Int))∧w=O:=by
 have e:IntKind.u64.wrap (IntKind.u64.wrap ((x:Int)*6364136223846793005)+1442695040888963407)=(un x:Int):=by simp only[IntKind.wrap_u64];unfold un;omega
 go_in;go_wp2;go_ret;exact⟨rfl,rfl⟩
def a2m(w:G)(x n:Nat)(hn:1<=n∧n<=1024):dF N 363 #[ae ah x,J n] w λe O=>e=b5 (J (inF x n:Int))∧w=O:=by
 have hN:=Um w x;have hl:un x<18446744073709551616:=by unfold un;omega
 obtain⟨y,Hy⟩:=az (inF x n);rw[<-Hy.out];obtain⟨z,Hz⟩:=az (un x / 4294967296);obtain⟨u,Hu⟩:=az (un x);rw[<-Hu.out] at hN hl;go_in;go_wp2_with fail;refine hN.mono ?_;rintro e w1 ⟨rfl,rfl⟩;go_wp2;go_ret;exact⟨by rw[Hy.out];unfold inF;rw[<-Hu.out];simp,rfl⟩
def Yu(w:G)(n:Nat)(hn:n<=4611686018427387904):dF N 362 #[J n,J 4,J 32] w λe O=>e=b5 (J (pk n:Int))∧w=O:=by
 obtain⟨y,Hy⟩:=az (pk n);rw[<-Hy.out];go_in;go_wp2_with fail;go_loopw [7,8] (λb k wr=>(∃j:Nat,k=J j∧j<=n∧((j=0∧b=J 4)∨(j=1∧b=J 8)∨(j=2∧b=J 16)∨(j=3∧b=J 32)))∧w=wr) (λ_ k _=>4-(intOf k).toNat);case atStart=>exact⟨⟨0,rfl,by omega,.inl ⟨rfl,rfl⟩⟩,rfl⟩
 case round=>
  obtain⟨⟨j,rfl,hj,hb⟩,rfl⟩:=hrel;by_cases xf:n=j
  ·subst xf
   have dj:decide (n<n)=false:=aD ap;have hy:y=pk n:=Hy.out;rcases hb with ⟨I,rfl⟩|⟨I,rfl⟩|⟨I,rfl⟩|⟨I,rfl⟩
   ·have T8:∀ts t w,(Builtin.min_ ts t #[J 4,J 32]).run N w=.ok (J 4) w:=λts t w=>by rw[run_min_int2];rfl
    rw[I] at hy;obtain rfl:y=4:=hy;go_wp2;go_ret;exact⟨rfl,rfl⟩
   ·have T8:∀ts t w,(Builtin.min_ ts t #[J 8,J 32]).run N w=.ok (J 8) w:=λts t w=>by rw[run_min_int2];rfl
    rw[I] at hy;obtain rfl:y=8:=hy;go_wp2;go_ret;exact⟨rfl,rfl⟩
   ·have T8:∀ts t w,(Builtin.min_ ts t #[J 16,J 32]).run N w=.ok (J 16) w:=λts t w=>by rw[run_min_int2];rfl
    rw[I] at hy;obtain rfl:y=16:=hy;go_wp2;go_ret;exact⟨rfl,rfl⟩
   ·have T8:∀ts t w,(Builtin.min_ ts t #[J 32,J 32]).run N w=.ok (J 32) w:=λts t w=>by rw[run_min_int2];rfl
    rw[I] at hy;obtain rfl:y=32:=hy;go_wp2;go_ret;exact⟨rfl,rfl⟩
  ·have dj:decide (j<n)=true:=aC ap
   rcases hb with ⟨I,rfl⟩|⟨I,rfl⟩|⟨I,rfl⟩|⟨I,rfl⟩
   ·go_wp2_with fail
    exact⟨⟨⟨j+1,by go_num,by omega,.inr (.inl ⟨by omega,rfl⟩)⟩,trivial⟩,by simp[intOf];omega⟩
   ·go_wp2_with fail
    exact⟨⟨⟨j+1,by go_num,by omega,.inr (.inr (.inl ⟨by omega,rfl⟩))⟩,trivial⟩,by simp[intOf];omega⟩
   ·go_wp2_with fail
    exact⟨⟨⟨j+1,by go_num,by omega,.inr (.inr (.inr ⟨by omega,rfl⟩))⟩,trivial⟩,by simp[intOf];omega⟩
   ·have T8:∀ts t w,(Builtin.min_ ts t #[J 32,J 32]).run N w=.ok (J 32) w:=λts t w=>by rw[run_min_int2];rfl
    have hy:y=32:=by rw[Hy.out];unfold pk;rw[aB ap,aB ap,aB ap]
    subst hy;go_wp2;go_ret;exact⟨rfl,rfl⟩
def Yv(w:G)(x n:Nat)(hn:n<=4611686018427387904):dF N 328 #[ae ah x,J n,J 4,J 32] w λe O=>e=b5 (J (sP x n:Int))∧w=O:=by
 have hB:=Yu w n hn;have hc:=wP n;obtain⟨y,Hy⟩:=az (sP x n);have T9:y<=48:=by rw[Hy.out];exact yU x n
 rw[<-Hy.out];obtain⟨b,Hb⟩:=az (pk n);rw[<-Hb.out] at hB hc;have hI:=a2m w x (b / 2+1) ap;obtain⟨z,Hz⟩:=az (inF x (b / 2+1));rw[<-Hz.out] at hI;have hyz:y=b+z:=by rw[Hy.out,Hz.out,Hb.out];rfl
 replace hyz:=Q hyz;have hzl:z<=48:=by rw[hyz.out] at T9;omega
 clear Hy Hz;go_in;go_wp2_with fail;refine hB.mono ?_;rintro e w1 ⟨rfl,rfl⟩;rcases hc with rfl|rfl|rfl|rfl
 all_goals
  go_wp2_with fail
  refine hI.mono ?_
  rintro e w1 ⟨rfl,rfl⟩
  go_wp2
  go_ret
  exact⟨by rw[hyz.out];simp,rfl⟩
open ChangeShapes WideShapes ChangeAt
def own:ownKnob Tryz.prog.godebug=none:=by kernel_rfl
def laidOut:laidOutB N=true:=by kernel_rfl
end Go.Proofs.YtpeepcmdehhbgaaGreatDoor
namespace Go.Proofs.YtpeepcmdehhbgaaGreatDoor.aes
open RowKit Hop
structure iW where
 seq:Int
 A:Option dG
 m:Nat
 c:Nat
 ds:List Dl
def iW.cells(b:iW):List E:=[J b.seq,Y b.A b.m b.c]
def iW.abs(b:iW):Int×List Dl:=(b.seq,b.ds)
def oe(b:iW):b.cells.length=2:=rfl
def Dy(b:iW):∀u∈b.cells,u.oneCell'=true:=by intro u hu;simp only[iW.cells,b_,bW,or_false] at hu;rcases hu with rfl|rfl<;>rfl
def PP(q:List iW):∀u∈q.flatMap iW.cells,u.oneCell'=true:=by intro u hu;obtain⟨b,_,hb⟩:=List.mem_flatMap.1 hu;exact Dy b u hb
def PQ(q:List iW):(q.flatMap iW.cells).length=q.length*2:=jL iW.cells 2 oe q
structure jd(w:G)(V:Nat->Prop)(b:iW):Prop where
 ds:kg w V b.A b.m b.ds
 le:b.m<=b.c
 max:b.c<=dL
 small:b.m<=8
theorem jd.mono{w:G}{V V':aV}{b:iW}(h:jd w V b)(hV:∀b,V b->V' b):jd w V' b:=⟨In.mono h.ds hV,h.le,h.max,h.small⟩
theorem jd.grow{w O:G}{V:aV}{b:iW}(h:jd w V b)(H:Grow w O):jd O V b:=⟨In.grow h.ds H,h.le,h.max,h.small⟩
theorem jd.just{w O:G}{V U:aV}{b:iW}(h:jd w V b)(hj:dP U w O)(hd:∀b,V b->¬ U b):jd O V b:=⟨In.just h.ds hj hd,h.le,h.max,h.small⟩
def J8:(Tryz.prog.info? 196).map (λi=>(i.zero,i.size,i.bytes))=some (some (aZ #[(),ay]),2,32):=by kernel_rfl
def yV:Elem N 193 196 2 32 (aZ #[(),ay]):=⟨Tryz.underlying193,info_parts J8,rfl,by decide,by decide⟩
def uo(w:G)(V:aV)(b:iW)(h:jd w V b):dF N 230 #[aZ #[J b.seq,Y b.A b.m b.c]] w λe O=>∃A',e=b5 (aZ #[J b.seq,Y A' b.m b.m])∧jd O (New w O) ⟨b.seq,A',b.m,b.m,b.ds⟩∧Grow w O:=by
 obtain⟨sq,A,m,c,ds⟩:=b;obtain⟨hd,ng,Db,tR⟩:=h;dsimp only at hd ng Db tR ⊢;have gN:Grow w ((w.alloc (.cells #[J sq,Y A m c] 196)).alloc (.cells #[(),ay] 196)):=((Below.refl _ _).alloc (bh _) _).alloc (by simp) _;have wu:=(eL.made w 196 #[J sq,Y A m c]).alloc (.cells #[(),ay] 196);have lb:=eL.made (w.alloc (.cells #[J sq,Y A m c] 196)) 196 #[(),ay];obtain⟨x,HX⟩:=az ((w:Nat):Nat);have sU:(w.alloc (.cells #[J sq,Y A m c] 196)).heap.size=x+1:=by rw[HX.out];simp
 rw[sU] at lb;rw[<-HX.out] at wu;obtain⟨wa,HA⟩:=az ((w.alloc (.cells #[J sq,Y A m c] 196)).alloc (.cells #[(),ay] 196):G);rw[<-HA.out] at wu lb gN;have jo:(wa:Nat)=x+2:=by rw[HA.out,HX.out];simp
 go_in;go_wp2_with fail;rw[<-HA.out,<-HX.out];refine (jY wa V A m c ds (In.grow hd gN) ap).mono ?_;rintro e w1 ⟨A1,c1',rfl,Iv,oX,sF,eO⟩;have Mn:=wu.grow eO;have Un:=lb.grow eO;have jB:∀u,(w1.setCell (x,1) u).cell? (x,0)=some (J sq):=λu=>(Mn.put 1 u).cell 0;have jb:∀u,(w1.setCell (x,1) u).cell? (x,1)=some u:=λu=>(Mn.put 1 u).cell 1;have f1:=Mn.frozen 1;have c10:=Mn.cell 1;have hD:=(Un.far (p:=(x,1)) (show x+1≠x by omega) (Y A1 m m));have d0:=hD.cell 0;have d1:=hD.cell 1;have g0:=hD.frozen 0;have g1:=hD.frozen 1;go_wp2_with (go_at_call 133;refine (pi _ A1 m c1' oX).mono ?_;rintro e w2 ⟨rfl,rfl⟩);have hE:=(hD.put 0 (J sq)).put 1 (Y A1 m m);have e0:=hE.cell 0;have e1:=hE.cell 1;have hj:dP (λb=>b=x∨b=x+1) w1 (((w1.setCell (x,1) (Y A1 m m)).setCell (x+1,0) (J sq)).setCell (x+1,1) (Y A1 m m)):=(((dP.dR (Grow.refl w1)).put (V:=λb=>b=x∨b=x+1) (.inl rfl) 1 _).put (.inr rfl) 0 _).put (.inr rfl) 1 _
 have ku:Grow w (((w1.setCell (x,1) (Y A1 m m)).setCell (x+1,0) (J sq)).setCell (x+1,1) (Y A1 m m)):=Below.trans (gN.trans eO) (hj.below (B:=(w:Nat)) (λb hb=>by have:=HX.out;omega) (gN.trans eO).size)
 refine bodyPost_ret (v := aZ #[J sq,Y A1 m m]) (by simp[results,Tryz.results230,go_sem,e0,e1]) rfl ⟨A1,rfl,⟨?_,bh _,by dsimp only;omega,tR⟩,ku⟩;refine In.mono (V:=New wa w1) (In.just Iv hj λb hb=>by have:=hb.1;omega) λb hb=>⟨by have:=hb.1;have:=gN.size;omega,by have:=hb.2;simpa [World.setCell] using this⟩
def MU(w:G)(A:aU)(n c:Nat)(hn:n<=c):dF N 231 #[Y A n c] w λe O=>e=b5 (Y A n n)∧w=O:=by go_in;go_wp2;go_ret;exact⟨rfl,rfl⟩
structure o4(w:G)(V D:Nat->Prop)(A:Option dG)(n:Nat)(q:List iW):Prop where
 row:In w V 2 A n (q.flatMap iW.cells)
 all:∀b∈q,jd w D b
def o4.len{q:List iW}(h:o4 w V D A n q):q.length=n:=by have:=h.row.1;rw[PQ] at this;omega
theorem o4.grow{w O:G}{V D:aV}{A:aU}{n:Nat}{q:List iW}(h:o4 w V D A n q)(H:Grow w O):o4 O V D A n q:=⟨h.row.grow H,λb hb=>(h.all b hb).grow H⟩
theorem o4.mono{w:G}{V D V' D':aV}{A:aU}{n:Nat}{q:List iW}(h:o4 w V D A n q)(hV:∀b,V b->V' b)(hD:∀b,D b->D' b):o4 w V' D' A n q:=⟨h.row.mono hV,λb hb=>(h.all b hb).mono hD⟩
theorem o4.take{w:G}{V D:aV}{A:aU}{n k:Nat}{q:List iW}(h:o4 w V D A n q)(K:k<=n):o4 w V D A k (q.take k):=by refine⟨?_,λb hb=>h.all b (bY hb)⟩;have:=h.row.take K;rwa [kV iW.cells 2 oe q k] at this
def Fv(w:G)(V D:aV)(A:aU)(n c:Nat)(q:List iW)(h:o4 w V D A n q)(hn:n<=1024)(jf:n<=c):dF N 172 #[Y A n c] w λe O=>∃A' q',e=b5 (Y A' n n)∧o4 O (New w O) (New w O) A' n q'∧q'.map iW.abs=q.map iW.abs∧Grow w O:=by
 have iH:=h.len;go_in;go_wp2_with fail;go_loopw [3,8] (λs i wr=>∃(k:Nat)(q':List iW)(R D':aV),k<=n∧i=J k∧Own wr R 196 2 s k (q'.flatMap iW.cells)∧(∀b∈q',jd wr D' b)∧q'.map iW.abs=(q.take k).map iW.abs∧(∀b,R b->New w wr b∧¬ D' b)∧(∀b,D' b->New w wr b)∧Grow w wr) (λ_ i _=>n-(intOf i).toNat);case atStart=>exact⟨0,[],λ_=>False,λ_=>False,by omega,rfl,Own.nil,by simp,by simp,λ_ h=>h.elim,λ_ h=>h.elim,Grow.refl _⟩
 case round=>
  obtain⟨k,q',R,D',oF,rfl,hO,l8,Ia,W,hD,H⟩:=hrel;obtain⟨A1,c1,rfl,OB,PR,sF⟩:=hO.kB;by_cases K:k<n
  ·obtain⟨ad,xj,rfl,hV,hB,e0,e1⟩:=(h.row.grow H).ni ap oe K
   have jZ:=(h.all q[k] (bD xj)).grow H;have xk:q.take (k+1)=q.take k++[q[k]]:=br xj;have e0:=e0 _ rfl;have e1:=e1 0 _ rfl;have HS:=Q xk;clear xk;generalize q[k]=b at jZ e0 e1 HS;obtain⟨sq,Ab,mb,cb,ds⟩:=b;dsimp only[iW.cells] at e0 e1;have fA:Grow wr (wr.alloc (.cells #[J sq,Y Ab mb cb] 196)):=(Below.refl (wr:Nat) wr).alloc (bh _) _;go_wp2_with fail;refine (uo _ D ⟨sq,Ab,mb,cb,ds⟩ (jZ.grow fA)).mono ?_;rintro e w1 ⟨A2,rfl,nu,eO⟩;have TI:=eO.size;simp only[fy] at TI;have o9:=(Below.refl (w1:Nat) w1).alloc (bh _) (.cells #[J sq,Y A2 mb mb] 196);go_wp2_with (at_builtin;refine stay ?_);refine dN ?_;have It:=H.size;have lO:∀b,R b->b<(wr:Nat):=λb hb=>(W b hb).1.2;refine fZ (V:=R) yV _ rfl (.tmp 12) (.tmp 15) rfl (Y A1 k c1) k (q'.flatMap iW.cells) rfl (((hO.grow lO (fA.trans eO)).grow (λb hb=>by have:=lO b hb;omega) o9)) ((w1:Nat)+1) (some ⟨(w1:Nat),0,none⟩) 1 1 (iW.cells ⟨sq,A2,mb,mb,ds⟩) rfl (fO w1 _ 196 _ rfl _ rfl) (Dy _) ap ?_;intro v2 w2 tM kI;have B6:=kI.size;simp only[fy] at B6;have hgj:Below (w:Nat) w1 w2:=Below.trans (o9.mono ap) (kI.below (B:=(w:Nat)) (λb hb=>(W b hb).1.1) (by simp;omega));have fN:Grow w w2:=Below.trans (H.trans (fA.trans eO)) hgj;have hD2:∀b:iW,jd w1 D' b->jd w2 D' b:=λb hb=>(hb.grow o9).just kI λx X hr=>(W x hr).2 X;have PS:∀b:iW,jd w1 (New (wr.alloc (.cells #[J sq,Y Ab mb cb] 196)) w1) b->jd w2 (New (wr.alloc (.cells #[J sq,Y Ab mb cb] 196)) w1) b:=λb hb=>(hb.grow o9).just kI λx X hr=>by have:=X.1;have:=lO x hr;simp at *;omega
   go_wp2_with fail;go_roundw;case rel=>
    refine⟨k+1,q'++[⟨sq,A2,mb,mb,ds⟩],ju R (w1.alloc (.cells #[J sq,Y A2 mb mb] 196)) w2,λb=>D' b∨New (wr.alloc (.cells #[J sq,Y Ab mb cb] 196)) w1 b,by omega,by go_num,?_,λb hb=>?_,?_,λb hb=>?_,λb hb=>?_,fN⟩;·rw[bO,bN,cI,bm];exact tM
    ·rcases List.mem_append.1 hb with hb|hb
     ·exact (hD2 b ((l8 b hb).grow (fA.trans eO))).mono λ_ => .inl
     ·rw[List.mem_singleton.1 hb];exact (PS _ nu).mono λ_ => .inr
    ·rw[bM,Ia,HS.out,bM];rfl
    ·rcases hb with hb|⟨I,Z⟩
     ·refine⟨⟨(W b hb).1.1,by have:=lO b hb;omega⟩,λhd=>?_⟩
      rcases hd with hd|hd
      ·exact (W b hb).2 hd
      ·have:=hd.1;have:=lO b hb;simp at *;omega
     ·simp only[fy] at I
      refine⟨⟨by omega,Z⟩,λhd=>?_⟩;rcases hd with hd|hd
      ·have:=(hD b hd).2;omega
      ·have:=hd.2;omega
    ·rcases hb with hb|hb
     ·have:=hD b hb;exact⟨this.1,by have:=this.2;omega⟩
     ·have I:=hb.1;have Z:=hb.2;simp only[fy] at I;exact⟨by omega,by omega⟩
   case measure=>simp[intOf];omega
  ·obtain rfl:k=n:=by omega
   go_wp2_with (go_at_call 231;refine (MU _ A1 k c1 PR).mono ?_;rintro e w2 ⟨rfl,rfl⟩);go_ret;refine⟨A1,q',rfl,⟨OB.mono λb hb=>(W b hb).1,λb hb=>(l8 b hb).mono hD⟩,?_,H⟩;rw[Ia,bH ap]
abbrev Ab:=Int×List Dl
def eA(g:Nat)(l:List Ab)(last:Int):ei:=λw V=>
 V g∧∃(v:E)(q:List iW)(R D:aV),q.map iW.abs=l∧q.length<=16∧eL w g 266 #[v,J last]∧Row w R 196 2 v q.length (q.flatMap iW.cells)∧(∀b∈q,jd w D b)∧(∀b,R b->V b∧b≠g∧¬ D b)∧(∀b,D b->V b∧b≠g)
theorem jd.keep{w O:G}{V:aV}{b:iW}(h:jd w V b)(K:∀b,V b->b<(w:Nat)->O.heap[b]?=w.heap[b]?):jd O V b:=⟨In.keep h.ds K,h.le,h.max,h.small⟩
def eA.framed(g:Nat)(l:List Ab)(last:Int):eQ (eA g l last):=λw O V h K=>by obtain⟨I,v,q,R,D,Z,T,h4,h5,h6,h7,h8⟩:=h;exact⟨I,v,q,R,D,Z,T,(K g I).trans h4,h5.keep λb hb _=>K b (h7 b hb).1,λb hb=>(h6 b hb).keep λx X _=>K x (h8 x X).1,h7,h8⟩
def eA.wide{l:List Ab}(h:eA g l last w V)(hV:∀b,V b->V' b):eA g l last w V':=by obtain⟨I,v,q,R,D,Z,T,h4,h5,h6,h7,h8⟩:=h;exact⟨hV g I,v,q,R,D,Z,T,h4,h5,h6,λb hb=>⟨hV b (h7 b hb).1,(h7 b hb).2⟩,λb hb=>⟨hV b (h8 b hb).1,(h8 b hb).2⟩⟩
def eA.Yw{l:List Ab}(h:eA g l last w V):∃A c q,Hid (q.map iW.abs=l)∧l.length<=16∧eL w g 266 #[Y A l.length c,J last]∧o4 w V V A l.length q∧l.length<=c∧c<=dL:=by obtain⟨I,v,q,R,D,rfl,T,h4,h5,h6,h7,h8⟩:=h;obtain⟨A,c,rfl,hI,hn,hm⟩:=h5.kB;have e:(q.map iW.abs).length=q.length:=bj ..;rw[e];exact⟨A,c,q,Q rfl,T,h4,⟨hI.mono λb hb=>(h7 b hb).1,λb hb=>(h6 b hb).mono λx X=>(h8 x X).1⟩,hn,hm⟩
def pR(w:G):dF N 257 #[] w λe O=>e=b5 ((((w:Nat),0):E))∧eA (w:Nat) [] 0 O (New w O)∧Grow w O:=by go_in;go_wp2;go_ret;exact⟨rfl,⟨⟨bh _,by simp⟩,_,[],λ_=>False,λ_=>False,rfl,by simp,eL.made w _ _,Row.nil,by simp,λ_ h=>h.elim,λ_ h=>h.elim⟩,(Below.refl (w:Nat) w).alloc (bh _) _⟩
def Uo(w:G)(g:Nat)(l:List Ab)(last:Int)(V:aV)(hQ:eA g l last w V):dF N 335 #[g] w λe O=>e=b5 (J l.length)∧w=O:=by obtain⟨A,c,q,HQ,T,hB,hI,hn,hm⟩:=hQ.Yw;have c0:=hB.cell 0;go_in;go_wp2;go_ret;exact⟨rfl,rfl⟩
def xX(w:G)(g:Nat)(l:List Ab)(last:Int)(V:aV)(hQ:eA g l last w V):dF N 109 #[g] w λe O=>∃A' q',e=b5 (Y A' l.length l.length)∧o4 O (New w O) (New w O) A' l.length q'∧q'.map iW.abs=l∧Grow w O:=by obtain⟨A,c,q,HQ,T,hB,hI,hn,hm⟩:=hQ.Yw;have c0:=hB.cell 0;go_in;go_wp2_with (go_at_call 172;refine (Fv _ V V A _ c q hI ap hn).mono ?_;rintro e w1 ⟨A1,q1,rfl,OB,Mj,eO⟩);go_ret;exact⟨A1,q1,rfl,OB,Mj.trans HQ.out,eO⟩
theorem J9(w:G)(g:Nat)(l:List Ab)(last:Int)(V:aV)(hQ:eA g l last w V):dF N 271 #[g] w λe O=>∃A' q',e=b5 (Y A' (min l.length 4) (min l.length 4))∧o4 O (New w O) (New w O) A' (min l.length 4) q'∧q'.map iW.abs=l.take 4∧Grow w O:=by
 obtain⟨A,c,q,HQ,T,hB,hI,hn,hm⟩:=hQ.Yw;have e4:(q.take (min l.length 4)).map iW.abs=l.take 4:=by
  rw[List.map_take,HQ.out];rcases cR l.length 4 with h|h
  ·rw[bH (i:=4) ap,bH ap]
  ·rw[show min l.length 4=4 by omega]
 obtain⟨M,HM⟩:=az (min l.length 4:Nat);rw[<-HM.out] at e4 ⊢;have HT:=Q e4;clear e4;have hM:M<=l.length:=by rw[HM.out];omega
 have oY:M<=c:=by omega
 have e4:(if (4:Int)<(l.length:Int) then (4:Int) else (l.length:Int))=(M:Int):=by have:=HM.out;split<;>omega
 have e5:min (l.length:Int) 4=(M:Int):=by have:=HM.out;omega
 go_in;go_wp2_with fail;have c0:=hB.cell 0;go_still_tail 11,(by kernel_rfl);change wpList _ _ _ _ _ w.drew;generalize yk:w.drew=w1;have H:Grow w w1:=yk▸(Grow.refl w).drew;clear c0 yk;go_wp2_with (go_at_call 172;refine (Fv _ V V A M c (q.take M) ((hI.grow H).take hM) ap ap).mono ?_;rintro e w2 ⟨A1,q1,rfl,OB,Mj,eO⟩);go_ret;exact⟨A1,q1,rfl,OB.mono (λb hb=>⟨bA H.size hb.1,hb.2⟩) (λb hb=>⟨bA H.size hb.1,hb.2⟩),Mj.trans HT.out,H.trans eO⟩
def PT(w:G)(g:Nat)(l:List Ab)(last seq:Int)(A:aU)(m c:Nat)(aep:Int)
 (h:(seq<1∨seq<=last∨m=0∨8<m)∧aep=1∨1<=seq∧last<seq∧0<m∧m<=8∧l.length=16∧aep=24):j9 N 368 #[g,aZ #[J seq,Y A m c]] (λe=>e=b5 (J aep)) (eA g l last) (eA g l last) w:=by
 intro V hQ hV;have OY:=hQ;obtain⟨I,v,q,R,D,iH,T,hB,ly,h6,h7,h8⟩:=hQ;obtain⟨A0,c0,rfl,hI,jf,tK⟩:=ly.kB;have fA:Grow w (w.alloc (.cells #[J seq,Y A m c] 196)):=(Below.refl (w:Nat) w).alloc (bh _) _;have sG:=eL.made w 196 #[J seq,Y A m c];have hd:decide (seq<1)=true∧aep=1∨decide (seq<1)=false∧(decide (seq<=last)=true∧aep=1∨decide (seq<=last)=false∧(((m:Int) == 0)=true∧aep=1∨((m:Int) == 0)=false∧(decide ((8:Int)<(m:Int))=true∧aep=1∨decide ((8:Int)<(m:Int))=false∧¬ q.length<16∧aep=24))):=by rw[<-iH,bj] at h;simp only[decide_eq_true_eq,decide_eq_false_iff_not,beq_iff_eq,beq_eq_false_iff_ne];omega
 clear h iH I;obtain⟨x,HX⟩:=az ((w:Nat):Nat);obtain⟨wa,HA⟩:=az (w.alloc (.cells #[J seq,Y A m c] 196):G);rw[<-HA.out,<-HX.out] at sG;rw[<-HA.out] at fA;have vf:=hB.grow fA;go_in;go_wp2_with fail;rw[<-HA.out,<-HX.out];have c0:=λw1(H:Grow _ w1)=>(sG.grow H).cell 0;have c1:=λw1(H:Grow _ w1)=>(vf.grow H).cell 1;have c2:=λw1(H:Grow _ w1)=>(sG.grow H).cell 1;rcases hd with ⟨d1,rfl⟩|⟨d1,⟨d2,rfl⟩|⟨d2,⟨d3,rfl⟩|⟨d3,⟨d4,rfl⟩|⟨d4,d5,rfl⟩⟩⟩⟩ <;>
 ·refine fv ?_
  intro w1 H;clear c0 c1 c2;have c00:=(vf.grow H).cell 0;go_wp2;go_ret;exact⟨rfl,eA.wide (eA.framed _ _ _ w w1 V OY λb hb=>(fA.trans H).block b (hV b hb)) (λ_ => .inl),dP.dR (fA.trans H)⟩
def vC(B:Nat)(seq:Int)(ds:List Dl)(u:E)(w:G):Prop:=∃(b:iW)(aen:Nat),b.seq=seq∧b.ds=ds∧u=aZ #[J b.seq,Y b.A b.m b.c]∧jd w (λx=>B<=x∧x<aen) b∧aen<=(w:Nat)
def vD(B:Nat)(seq:Int)(ds:List Dl)(u:E)(w:G):Prop:=∃(b:iW)(aen:Nat)(A:aU),b.seq=seq∧b.ds=ds∧u=Y A 1 1∧In w (λx=>B<=x) 2 A 1 b.cells∧jd w (λx=>B<=x∧x<aen) b∧aen<=(w:Nat)
def Fin(R:aV)(B:Nat)(q:List iW)(seq:Int)(ds:List Dl)(u:E)(w:G):Prop:=
 ∃(b:iW)(R' D':aV),b.seq=seq∧b.ds=ds∧Row w R' 196 2 u (q.length+1) ((q++[b]).flatMap iW.cells)∧jd w D' b∧
   (∀x,R' x->(R x∨B<=x)∧x<(w:Nat)∧¬ D' x)∧(∀x,D' x->B<=x∧x<(w:Nat))
def L9(R:aV)(g B:Nat)(aek:aV)(A:aU)(m:Nat)(v:E)(q:List iW)(last seq:Int)(ds:List Dl):fx where
 aeo:=dP λb=>R b∨b=g
 aeq := λk=>match k with
   | 0=>dP R
   | _=>dP λb=>b=g
 aej := λk w=>match k with
   | 0=>Row w R 196 2 v q.length (q.flatMap iW.cells)∧eL w g 266 #[v,.int .i64 last]∧kg w aek A m ds
   | 1=>eL w g 266 #[v,.int .i64 last]
   | 2=>∃u,eL w g 266 #[u,.int .i64 last]∧Fin R B q seq ds u w
   | _=>∃u,eL w g 266 #[u,.int .i64 seq]∧Fin R B q seq ds u w
 muts:=[9,14,17]
 stage:=λj=>if j=5 then some 0 else if j=7 then some 0 else if j=9 then some 0 else if j=14 then some 1 else if j=17 then some 2 else none
section
variable{R aek:aV}{v:E}{q:List iW}{ds:List Dl}
def PU(tN:¬ R g)(o9:g<B){x:Nat}(I:R x∨B<=x)(Z:x=g):False:=by
 rw[Z] at I;rcases I with I|I
 ·exact tN I
 ·omega
theorem Fin.just{U:aV}{u:E}{w O:G}(h:Fin R B q seq ds u w)(hj:dP U w O)(hd:∀x,x<(w:Nat)->(R x∨B<=x)->¬ U x):Fin R B q seq ds u O:=by obtain⟨b,R',D',I,Z,T,h4,h5,h6⟩:=h;exact⟨b,R',D',I,Z,T.just hj λx X=>hd x (h5 x X).2.1 (h5 x X).1,h4.just hj λx X=>hd x (h6 x X).2 (.inr (h6 x X).1),λx X=>⟨(h5 x X).1,bu (h5 x X).2.1 hj.size,(h5 x X).2.2⟩,λx X=>⟨(h6 x X).1,bu (h6 x X).2 hj.size⟩⟩
def Fin.grow{u:E}{w O:G}(h:Fin R B q seq ds u w)(H:Grow w O):Fin R B q seq ds u O:=h.just (U:=λ_=>False) (dP.dR H) λ_ _ _ h=>h
def PV(AX:∀x,R x->x<B)(tN:¬ R g):(L9 R g B aek A m v q last seq ds).Ok:=by
 refine⟨λ_ _ _=>dP.trans,λ_ _ h=>dP.dR h,λk a b h=>?_,λk a b h H=>?_⟩
 ·rcases k with _|k
  ·exact dP.imp h λ_ => .inl
  ·exact dP.imp h λ_ => .inr
 ·rcases k with _|_|_|k
  ·exact⟨h.1.grow H,eL.grow h.2.1 H,In.grow h.2.2 H⟩
  ·exact eL.grow h H
  ·obtain⟨u,I,Z⟩:=h;exact⟨u,eL.grow I H,Z.grow H⟩
  ·obtain⟨u,I,Z⟩:=h;exact⟨u,eL.grow I H,Z.grow H⟩
def Past(B:Nat)(φ:E->G->Prop):Prop:=∀u w O,φ u w->dP (λb=>b<B) w O->φ u O
def wR(AX:∀x,R x->x<B)(o9:g<B){φ:E->G->Prop}(h:Past B φ):p9 (L9 R g B aek A m v q last seq ds) (λ_ u w=>φ u w):=λk u w O hu=>by
 refine⟨λH=>h u w O hu (dP.dR H),λ_ ht=>?_⟩;rcases k with _|k
 ·exact h u w O hu (dP.imp ht AX)
 ·exact h u w O hu (dP.imp ht λb hb=>by rw[hb];exact o9)
def Dz(B:Nat)(seq:Int)(ds:List Dl):Past B (vC B seq ds):=λu w O hu hj=>by obtain⟨b,aen,I,Z,T,h4,h5⟩:=hu;exact⟨b,aen,I,Z,T,h4.just hj λx X=>by omega,bA h5 hj.size⟩
def DC(B:Nat)(seq:Int)(ds:List Dl):Past B (vD B seq ds):=λu w O hu hj=>by obtain⟨b,aen,A,I,Z,T,h4,h5,h6⟩:=hu;exact⟨b,aen,A,I,Z,T,h4.just hj λx X=>by omega,h5.just hj λx X=>by omega,bA h6 hj.size⟩
def MV(AX:∀x,R x->x<B)(tN:¬ R g)(o9:g<B):p9 (L9 R g B aek A m v q last seq ds) (Once (λu w=>Fin R B q seq ds u w)):=λk u w O hu=>by
 rcases k with _|k
 ·exact hu.elim
 ·exact⟨λH=>Fin.grow hu H,λ_ ht=>Fin.just hu ht λx _ I(Z:x=g)=>PU tN o9 I Z⟩
def Fw{b:iW}{ds:List Dl}(hB:b.seq=seq∧b.ds=ds)
 (h:dF N 230 args w λe O=>∃A',e=b5 (aZ #[J b.seq,Y A' b.m b.m])∧jd O (New w O) ⟨b.seq,A',b.m,b.m,b.ds⟩∧Grow w O) (hs:B<=(w:Nat)):dF N 230 args w λe O=>∃u,e=b5 u∧Grow w O∧vC B seq ds u O:=by obtain⟨Z,T⟩:=hB;refine h.mono λe O ⟨A',he,sH,H⟩=>⟨_,he,H,⟨⟨b.seq,A',b.m,b.m,b.ds⟩,(O:Nat),Z,T,rfl,sH.mono λx X=>⟨bA hs X.1,X.2⟩,bh _⟩⟩
def DD(h:vC B seq ds u w)(hs:B<=(w:Nat))(I:ρ x=u)(ho:o.op=.buildSlice 193 1 #[(0,x)]):eJ N (λv O=>Grow w O∧vD B seq ds v O) ((execOp ρ o).run N w):=by obtain⟨dst,op,ty,pos,after,guard⟩:=o;simp only at ho;subst ho;obtain⟨b,aen,e1,e2,rfl,hb,hH⟩:=h;have H:Grow w (w.alloc (.cells #[J b.seq,Y b.A b.m b.c] 196)):=(Below.refl _ w).alloc (bh _) _;refine gC (u := Y (some ⟨(w:Nat),0,none⟩) 1 1) (w:=w.alloc (.cells #[J b.seq,Y b.A b.m b.c] 196)) (by go_simp) ⟨H,b,aen,some ⟨(w:Nat),0,none⟩,e1,e2,rfl,?_,hb.grow H,bA hH H.size⟩;obtain⟨T,h4⟩:=fO w #[J b.seq,Y b.A b.m b.c] 196 (0,0) (n:=1) (size:=2) rfl _ rfl;exact⟨T,λhn=>⟨_,rfl,hs,by simp,by obtain⟨ad,e,_,hc⟩:=h4 hn;injection e with e;rw[e];exact hc⟩⟩
def tf{c0:Nat}(AX:∀x,R x->x<B)(tN:¬ R g)(h:Row w R 196 2 (Y A0 q.length c0) q.length (q.flatMap iW.cells))(H:eL w g 266 #[Y A0 q.length c0,J last])(hq:q.length<16)(hu:vD B seq ds u w)(Oz:B<=(w:Nat))
 (I:ρ x=Y A0 q.length c0) (Z:ρ y=u) (ho:o.op=.call { callee := .builtin .append,args:=#[x,y],argTypes:=#[193,193] }):eJ N (λv O=>dP R w O∧eL O g 266 #[Y A0 q.length c0,J last]∧Fin R B q seq ds v O) ((execOp ρ o).run N w):=by
 obtain⟨b,aen,A,e1,e2,rfl,hI,hb,hH⟩:=hu;refine qp yV ho I h Z hI.reads (Dy b) ap λv' O W hj=>⟨hj,hj.blk H tN,b,ju R w O,λx=>B<=x∧x<aen,e1,e2,?_,hb.just hj λx X hr=>?_,λx X=>?_,λx X=>⟨X.1,bu X.2 (bA hH hj.size)⟩⟩;·rw[bO,bN,cI,bm];exact W
 ·have T:B<=x:=X.1;have:=AX x hr;omega
 ·rcases X with X|X
  ·have:=AX x X
   exact⟨.inl X,by have:=hj.size;omega,λhd=>by have T:B<=x:=hd.1;omega⟩
  ·exact⟨.inr (by have:=X.1;omega),X.2,λhd=>by have:=X.1;have T:x<aen:=hd.2;omega⟩
def Ja(tN:¬ R g)(o9:g<B)(h:eL w g 266 #[v,J last])(hu:Fin R B q seq ds u w)
 (I:ρ x=(g:E)) (Z:ρ y=u) (ho:o.op=.store 193 x y):eJ N (λv O=>v=undef∧dP (λb=>b=g) w O∧∃u,eL O g 266 #[u,J last]∧Fin R B q seq ds u O) ((execOp ρ o).run N w):=by obtain⟨dst,op,ty,pos,after,guard⟩:=o;simp only at ho;subst ho;have hj:=mh w g 0 u;have hf:=hu.just hj λx _ I(Z:x=g)=>PU tN o9 I Z;obtain⟨b,R',D',e1,e2,W,_⟩:=hu;obtain⟨A,c,rfl,_⟩:=W.kB;have f0:=h.frozen 0;have c0:=h.cell 0;exact sL (O:=w.setCell (g,0) (Y A (q.length+1) c)) (by go_simp) ⟨rfl,hj,_,h.put 0 _,hf⟩
def Jb(tN:¬ R g)(o9:g<B)(h:∃u,eL w g 266 #[u,J last]∧Fin R B q seq ds u w)
 (I:ρ x=((g,1):E)) (Z:ρ y=J seq) (ho:o.op=.store 2 x y):eJ N (λv O=>v=undef∧dP (λb=>b=g) w O∧∃u,eL O g 266 #[u,J seq]∧Fin R B q seq ds u O) ((execOp ρ o).run N w):=by obtain⟨dst,op,ty,pos,after,guard⟩:=o;simp only at ho;subst ho;obtain⟨u,hB,hu⟩:=h;have hj:=mh w g 1 (J seq);have hf:=hu.just hj λx _ I(Z:x=g)=>PU tN o9 I Z;have f0:=hB.frozen 1;have c0:=hB.cell 1;exact sL (O:=w.setCell (g,1) (J seq)) (by go_simp) ⟨rfl,hj,u,hB.put 1 _,hf⟩
end
def Yx(w:G)(aek:aV)(g:Nat)(l:List Ab)(last seq:Int)(A:aU)(m c:Nat)(ds:List Dl)(XP:kg w aek A m ds)(xR:m<=c)(jg:c<=dL)(ha:¬ seq<1)(hb:¬ seq<=last)(hc:0<m)(hd:m<=8)(hl:l.length<16):j9 N 368 #[g,aZ #[J seq,Y A m c]] (λe=>e=b5 (J 0)) (eA g l last) (eA g (l++[(seq,ds)]) seq) w:=by
 intro V hQ hV;obtain⟨I,v,q,R,D,iH,T,hB,ly,h6,h7,h8⟩:=hQ;obtain⟨A0,c0,rfl,hI,jf,tK⟩:=ly.kB;have fA:Grow w (w.alloc (.cells #[J seq,Y A m c] 196)):=(Below.refl (w:Nat) w).alloc (bh _) _;have nj:=eL.made w 196 #[J seq,Y A m c];obtain⟨x,HX⟩:=az ((w:Nat):Nat);obtain⟨wa,HA⟩:=az (w.alloc (.cells #[J seq,Y A m c] 196):G);have hsa:(wa:Nat)=x+1:=by rw[HA.out,HX.out];simp
 clear hsa;rw[<-HA.out] at fA;have sG:eL wa x 196 #[J seq,Y A m c]:=by rw[HA.out,HX.out];exact nj
 clear nj;have vf:=hB.grow fA;have a2n:q.length<16:=by rw[<-iH,bj] at hl;exact hl
 have d1:=aD ha;have d2:=aD hb;have d3:((m:Int) == 0)=false:=by simp only[beq_eq_false_iff_ne];omega
 have d4:decide ((8:Int)<(m:Int))=false:=aD ap;clear ha hb;go_in;go_wp2_with fail;rw[<-HA.out,<-HX.out];have c0:=λw1(H:Grow _ w1)=>(sG.grow H).cell 0;have c1:=λw1(H:Grow _ w1)=>(vf.grow H).cell 1;have c2:=λw1(H:Grow _ w1)=>(sG.grow H).cell 1;refine fv ?_;intro w1 H;clear c0 c1 c2;have c00:=(vf.grow H).cell 0;go_wp2_with fail;have ku:=fA.trans H;have PW:=ly.grow ku;have a2o:=vf.grow H;have EK:=sG.grow H;have a0F:∀b∈q,jd w1 D b:=λb hb=>(h6 b hb).grow ku;have Iv:=In.grow XP ku;have o9:g<(w1:Nat):=a2o.lt;have tN:¬ R g:=λh=>(h7 g h).2.1 rfl;have hxw:(w:Nat)<=x:=by have:=HX.out;omega
 have hRw:∀x,R x->x<(w:Nat):=λb hb=>hV b (h7 b hb).1;have AX:∀x,R x->x<(w1:Nat):=λb hb=>bu (hRw b hb) ku.size;have hxn:¬ (R x∨x=g):=λh=>by
  rcases h with h|h
  ·have:=hRw x h;omega
  ·have:=hB.lt;omega
 have hDw:∀x,D x->¬ (R x∨x=g):=λb hb h=>by
  rcases h with h|h
  ·exact (h7 b h).2.2 hb
  ·exact (h8 b hb).2 h
 obtain⟨B,HBd⟩:=az ((w1:Nat):Nat);have HB:∀w2,dP (λb=>R b∨b=g) w1 w2->B<=(w2:Nat):=λw2 h=>HBd.out▸h.size;have Oz:=HBd.out;rw[<-Oz] at o9 AX;have sG:=EK;have a6L:=ku;have HBw:(w:Nat)<=B:=by rw[Oz];exact ku.size
 clear vf fA h6 c00 hB H ku Oz;have a6N:∀(vs:aP)(w:G),(callFunc 230 vs).run N w=.ok (.enter 230 vs) w:=λvs w=>by go_simp
 refine dO rfl ?_;refine t_ (L9 R g B aek A m (Y A0 q.length c0) q last seq ds) (PV AX tN) 0 18 53 [(7,.inr (λ_ u w=>vC B seq ds u w)),(8,.inr (λ_ u w=>vD B seq ds u w)),(9,.inr (Once (λu w=>Fin R B q seq ds u w))),(14,.inl (undef)),(17,.inl (undef))] rfl aw aw aw ?_ (dP.dR (Grow.refl _).drew) ⟨PW,a2o,Iv⟩ ?_
 ·intro x X φ he
  simp only[b_,bW,or_false] at X;rcases X with rfl|rfl|rfl|rfl|rfl<;>cases he
  all_goals first|exact gB (gJ _)|exact wR AX o9 (Dz B seq ds)|exact wR AX o9 (DC B seq ds)|exact MV AX tN o9
 intro ops' A' K' aeq oT o8 hK hT;refine ji 37 ((g:E)) ?_;refine ji 38 ((g:E)) ?_;refine ji 39 ((g:E)) ?_;refine eD 40 (.tmp 39) ((g:E)) ((g:E)) (λρ I kk w1(H:dP (fun b=>R b∨b=g) _ w1)hb hf=>by go_simp) ?_;refine eD 41 (.tmp 40) ((g:E)) ((g:E)) (λρ I kk w1(H:dP (fun b=>R b∨b=g) _ w1)hb hf=>by go_simp) ?_;refine eD 42 (.tmp 41) ((g:E)) (Y A0 q.length c0) (λρ I kk w1(H:dP (fun b=>R b∨b=g) _ w1)hb hf=>by obtain rfl:=kU 0 aj hb;have hI:=hb.1;have c:=hI.2.1.cell 0;go_simp) ?_;refine eD 43 (.tmp 3) ((x:E)) (aZ #[J seq,Y A m c]) (λρ I kk w1(H:dP (fun b=>R b∨b=g) _ w1)hb hf=>by have X:=H.blk sG (λh=>hxn h);have e0:=X.cell 0;have e1:=X.cell 1;go_simp) ?_;refine gP 44 aj am (eu aj) (λ_ u w=>vC B seq ds u w) (by rw[hK.out];rfl) 230 _ _ aj [aZ #[J seq,Y A m c]] aj a6N (λkk w1(H:dP (fun b=>R b∨b=g) _ w1)hb hf=>fj (φ:=λ_ u w=>vC B seq ds u w) aj (by obtain rfl:=kU 0 aj hb;have hI:=hb.1;exact Fw (b:=⟨seq,A,m,c,ds⟩) ⟨rfl,rfl⟩ (uo w1 aek ⟨seq,A,m,c,ds⟩ ⟨hI.2.2,xR,jg,hd⟩) (HB w1 H))) (λv44=>?_);refine tX 45 aj am (eu aj) (λ_ u w=>vD B seq ds u w) (by rw[hK.out];rfl) (.tmp 44) (v44) aj (λρ I kk w1(H:dP (fun b=>R b∨b=g) _ w1)hb hf=>by refine i9 (φ:=λ_ u w=>vD B seq ds u w) aj ?_;exact DD (gj hf (by rw[o8.out];kernel_rfl)) (HB w1 H) I rfl) (λv45=>?_);refine KS 46 aj am (eu aj) (Once (λu w=>Fin R B q seq ds u w)) (by rw[hK.out];rfl) (.tmp 42) (.tmp 45) (Y A0 q.length c0) (v45) aj aj (λρ I Z kk w1(H:dP (fun b=>R b∨b=g) _ w1)hb hf=>by obtain rfl:=kU 0 aj hb;have hI:=hb.1;refine u4 (φ:=Once (λu w=>Fin R B q seq ds u w)) 0 aj ?_;exact tf AX tN hI.1 hI.2.1 a2n (gj hf (by rw[o8.out];kernel_rfl)) (HB w1 H) I Z rfl) (λv46=>?_);refine eD 47 (.tmp 3) ((x:E)) ((x:E)) (λρ I kk w1(H:dP (fun b=>R b∨b=g) _ w1)hb hf=>by go_simp) ?_;refine eD 48 (.tmp 47) ((x:E)) (J seq) (λρ I kk w1(H:dP (fun b=>R b∨b=g) _ w1)hb hf=>by have c:=(H.blk sG (λh=>hxn h)).cell 0;go_simp) ?_;refine eD 49 (.tmp 37) ((g:E)) ((g:E)) (λρ I kk w1(H:dP (fun b=>R b∨b=g) _ w1)hb hf=>by go_simp) ?_;refine eD 50 (.tmp 49) ((g:E)) ((g:E)) (λρ I kk w1(H:dP (fun b=>R b∨b=g) _ w1)hb hf=>by go_simp) ?_;refine Pf aj (eu aj) (undef) (by rw[hK.out];rfl) (.tmp 50) (.tmp 46) ((g:E)) (v46) aj aj (λρ I Z kk w1(H:dP (fun b=>R b∨b=g) _ w1)hb hf=>by obtain rfl:=kU 1 aj hb;have hI:=hb.1;refine C0 1 aj ?_;exact Ja tN o9 hI (gj hf (by rw[o8.out];kernel_rfl)) I Z rfl) ?_;refine eD 51 (.tmp 38) ((g:E)) ((g:E)) (λρ I kk w1(H:dP (fun b=>R b∨b=g) _ w1)hb hf=>by go_simp) ?_;refine eD 52 (.tmp 51) ((g:E)) (((g,1):E)) (λρ I kk w1(H:dP (fun b=>R b∨b=g) _ w1)hb hf=>by go_simp) ?_;refine Pf aj (eu aj) (undef) (by rw[hK.out];rfl) (.tmp 52) (.tmp 48) (((g,1):E)) (J seq) aj aj (λρ I Z kk w1(H:dP (fun b=>R b∨b=g) _ w1)hb hf=>by obtain rfl:=kU 2 aj hb;have hI:=hb.1;refine C0 2 aj ?_;exact Jb tN o9 hI I Z rfl) ?_;refine nL (λ_ _ w1(H:dP (fun b=>R b∨b=g) _ w1)I1 gy=>hT _ _ ?_);clear oT o8 hK hT;simp only[jq,Act.put,bJ,bL,bI];refine ob ?_;have hE:∃u,eL w1 g 266 #[u,J seq]∧Fin R B q seq ds u w1:=I1;obtain⟨u,hBu,b,R',D',e1,e2,B7,xh,hRx,hDx⟩:=hE;clear I1 gy;go_wp2;go_ret;have hjw:dP (λb=>R b∨b=g) w w1:=(dP.dR a6L).trans H;refine⟨rfl,⟨.inl I,u,q++[b],R',λx=>D x∨D' x,?_,?_,hBu,?_,λb' hb=>?_,λx X=>?_,λx X=>?_⟩,hjw.imp λx X=>?_⟩;·rw[bM,iH,bX,cS];simp only[iW.abs,e1,e2]
 ·rw[bd,bw];omega
 ·rw[bd,bw];exact B7
 ·rcases List.mem_append.1 hb with h|h
  ·exact ((a0F b' h).just H hDw).mono λ_ => .inl
  ·rw[List.mem_singleton.1 h];exact xh.mono λ_ => .inr
 ·have Z:=hRx x X
  refine⟨?_,?_,λh=>?_⟩
  ·rcases Z.1 with h|h
   ·exact .inl (h7 x h).1
   ·exact .inr ⟨by have:=HBw;omega,Z.2.1⟩
  ·rcases Z.1 with h|h
   ·exact (h7 x h).2.1
   ·omega
  ·rcases h with h|h
   ·rcases Z.1 with T|T
    ·exact (h7 x T).2.2 h
    ·have:=hV x (h8 x h).1;have:=HBw;omega
   ·exact Z.2.2 h
 ·rcases X with h|h
  ·exact⟨.inl (h8 x h).1,(h8 x h).2⟩
  ·have Z:=hDx x h
   exact⟨.inr ⟨by have:=HBw;omega,Z.2⟩,by have:=Z.1;omega⟩
 ·rcases X with h|h
  ·exact (h7 x h).1
  ·rw[h];exact I
def Cf(w:G)(sq s:Int)(sl:E)(y:Nat)(TI:sl.oneCell'=true)(hy:eL w y 2 #[J s]):dF N 365 #[aZ #[J sq,sl],y] w λe O=>e=b5 (aY (sq == s))∧Grow w O:=by have fA:Grow w (w.alloc (.cells #[J sq,sl] 196)):=(Below.refl (w:Nat) w).alloc (bh _) _;have c0:=(hy.grow fA).cell 0;go_in;go_wp2;go_ret;exact⟨rfl,fA⟩
def Idx(q:List iW)(s r:Int):Prop:=(r=-1∧∀b∈q,b.seq≠s)∨∃(i:Nat)(h:i<q.length),r=(i:Int)∧q[i].seq=s∧∀(j:Nat)(hj:j<q.length),j<i->q[j].seq≠s
def Be(w:G)(V D:aV)(A:aU)(n c:Nat)(q:List iW)(h:o4 w V D A n q)(hn:n<=1024)(s:Int)(y:Nat)(hy:eL w y 2 #[J s]):dF N 364 #[Y A n c,.func (.func 365) #[] #[y]] w λe O=>∃r,e=b5 (J r)∧Idx q s r∧Grow w O:=by
 have iH:=h.len;go_in;go_wp2_with fail;go_loopw [8] (λi wr=>∃k:Nat,k<=n∧i=J k∧(∀(j:Nat)(hj:j<q.length),j<k->q[j].seq≠s)∧Grow w wr) (λi _=>n-(intOf i).toNat);case atStart=>exact⟨0,by omega,rfl,λj hj h0=>absurd h0 ap,Grow.refl _⟩
 case round=>
  obtain⟨k,oF,rfl,kr,H⟩:=hrel;by_cases K:k<n
  ·obtain⟨ad,xj,rfl,hV,hB,e0,e1⟩:=(h.row.grow H).ni ap oe K
   have e0:=e0 _ rfl;have e1:=e1 0 _ rfl;have a4z:q[k].seq≠s->∀(j:Nat)(hj:j<q.length),j<k+1->q[j].seq≠s:=λh0 j hj EJ=>by
    rcases cR j k with I|I
    ·exact kr j hj I
    ·have:j=k:=by omega
     subst this;exact h0
   have XQ:q[k].seq=s->Idx q s (k:Int):=λh0 => .inr ⟨k,xj,rfl,h0,kr⟩;have HE:=Q XQ;have HN:=Q a4z;clear XQ a4z kr;generalize q[k].seq=sq at e0 HE HN;generalize q[k].c=cc at e1;by_cases hs:sq=s
   ·have hb:(sq == s)=true:=by rw[hs];exact beq_self_eq_true s
    have HI:=HE.out hs;clear hs HE HN;go_wp2_with (go_at_call 365;refine (Cf _ sq s _ y rfl (hy.grow H)).mono ?_;rintro e w2 ⟨rfl,fN⟩);go_ret;exact⟨_,rfl,HI,H.trans fN⟩
   ·have hb:(sq == s)=false:=beq_eq_false_iff_ne.2 hs
    have HI:=Q (HN.out hs);clear hs HE HN;go_wp2_with (go_at_call 365;refine (Cf _ sq s _ y rfl (hy.grow H)).mono ?_;rintro e w2 ⟨rfl,fN⟩);go_roundw;case rel=>exact⟨k+1,by omega,by go_num,HI.out,H.trans fN⟩
    case measure=>simp[intOf];omega
  ·obtain rfl:k=n:=by omega
   go_wp2;go_ret;refine⟨_,rfl,.inl ⟨rfl,λb hb=>?_⟩,H⟩;obtain⟨i,hi,rfl⟩:=List.mem_iff_getElem.1 hb;exact kr i hi ap
theorem pV(w:G)(R:aV)(A:aU)(n c i:Nat)(xs:List E)(h:Row w R 196 2 (Y A n c) n xs)(hi:i<n)(hn:n<=1048576)(sU:∀u∈xs,u.oneCell'=true):dF N 366 #[Y A n c,J i,J ((i:Int)+1)] w λe O=>e=b5 (Y A (n-1) c)∧Row O R 196 2 (Y A (n-1) c) (n-1) (xs.take (i*2)++xs.drop ((i+1)*2))∧dP R w O:=by
 obtain⟨fp,h|⟨g,cap,cur,e1,hV,H,jf,hm,jo,jA⟩⟩:=h;·omega
 injection e1 with e1 _ e3;subst e1 e3;obtain⟨A2,HA2⟩:=az (if c=i+1 then some (g,0) else some ⟨g,(i+1)*2,none⟩:Option dG);have qJ:(xs.drop ((i+1)*2)).length=(n-(i+1))*2:=by rw[bU,fp];omega
 have iT:∀j,w.cell? ⟨g,j,none⟩=cur[j]?:=λj=>cell_of_row w g j cur 196 (0,0) H;have hcx:∀j u,xs[j]?=some u->cur[j]?=some u:=λj u hu=>by
  rw[<-jA,List.getElem?_take] at hu;split at hu;·simpa using hu
  ·cases hu
 have sE:∀w1,Grow w w1->Reads w1 (w1:Nat) 2 A2 (n-(i+1)) (xs.drop ((i+1)*2)):=λw1 i7=>by refine⟨qJ,λBM=>⟨⟨g,(i+1)*2,none⟩,by rw[HA2.out,aB ap],bu (Array.getElem?_eq_some_iff.1 H).1 i7.size,λj u hu=>?_⟩⟩;rw[List.getElem?_drop] at hu;rw[Addr.add_lit,i7.cell (show g<(w:Nat) from (Array.getElem?_eq_some_iff.1 H).1),iT];exact hcx _ u hu
 have hci:i<=c:=by omega
 have hni:¬ (n:Int)<(i:Int)+1:=by omega
 have a6P:¬ (i:Int)+1<0:=by omega
 have ku:=H;go_in;go_wp2_with fail;have c0:=HA2.out.symm;go_still_tail 6,(by kernel_rfl);change wpList _ _ _ _ _ w.drew;generalize yk:w.drew=w1;have H:Grow w w1:=yk▸(Grow.refl w).drew;clear c0 yk;have eO:w1.heap[g]?=some (.cells cur 196 (0,0)):=(H.block g (Array.getElem?_eq_some_iff.1 ku).1).trans ku;have BJ:i+(n-(i+1))=n-1:=by omega
 refine qT rfl (.tmp 22) (.tmp 25) rfl rfl rfl (qt yV w1 _ eO (sE w1 H) (λu hu=>sU u (da hu)) ap (by rw[BJ,jo];omega)) ?_;rw[BJ];obtain⟨DF,k1,k2,k3⟩:=iU g 196 (0,0) (xs.drop ((i+1)*2)) (i*2) w1 cur eO (by rw[qJ,<-Nat.add_mul,BJ,jo];omega);have l6:=i5 g (xs.drop ((i+1)*2)) (i*2) w1;have Ta:=setCells_size g (xs.drop ((i+1)*2)) (i*2) w1;generalize w1.setCells g (i*2) (xs.drop ((i+1)*2))=w2 at k1 l6 Ta ⊢;have HK:=Q (And.intro k2 k3);have HD:=Q qJ;have HZ:=Q jo;have HKM:=Q BJ;have HL:=Q fp;have HT:=Q jA;clear k2 k3 qJ jo BJ fp jA Ta hcx iT sE;have hcn:¬ c=n-1:=by omega
 have a6R:¬ n<n-1:=by omega
 have oX:n-(n-1)=1:=by omega
 have sD:∀ty,(Builtin.clear_ #[193] ty #[Y (some ⟨g,(n-1)*2,none⟩) (n-(n-1)) (c-(n-1))]).run N w2=.ok (a_ #[]) (w2.setCells g ((n-1)*2) (bQ (aZ #[(),ay]:E).cells 1).toList):=λty=>by rw[oX];refine kH yV (u6 yV) (by simp[Value.cells,Value.oneCell']) w2 ty g ((n-1)*2) 1 _ ap (λj hj=>?_) (λj hj=>eL.frozen (show eL w2 g 196 DF from k1) _);have:=HK.out.1;have:=HZ.out;rw[cell_of_row w2 g _ DF 196 (0,0) k1,Array.getElem?_eq_getElem ap];rfl
 have hzl:(bQ (aZ #[(),ay]:E).cells 1).toList.length=2:=by kernel_rfl
 obtain⟨Yy,m1,m2,m3⟩:=iU g 196 (0,0) (bQ (aZ #[(),ay]:E).cells 1).toList ((n-1)*2) w2 DF k1 (by rw[hzl];have:=HK.out.1;have:=HZ.out;omega);have tM:=i5 g (bQ (aZ #[(),ay]:E).cells 1).toList ((n-1)*2) w2;generalize w2.setCells g ((n-1)*2) (bQ (aZ #[(),ay]:E).cells 1).toList=w3 at sD m1 tM;have HM:=Q (And.intro m2 m3);clear m2 m3 hzl oX;go_wp2;go_ret;have hj:dP R w w3:=(dP.dR H).trans (dP.jW (l6.trans tM) hV);obtain⟨k2,k3⟩:=HK.out;obtain⟨m2,m3⟩:=HM.out;have fp:=HL.out;have qJ:=HD.out;have jo:=HZ.out;have BJ:=HKM.out;have jA:=HT.out;have BH:cur.toList.take (i*2)=xs.take (i*2):=by rw[<-jA,List.take_take,cF ap]
 have Yz:(xs.take (i*2)).length=i*2:=by rw[bn];omega
 have Dc:(xs.take (i*2)++xs.drop ((i+1)*2)).length=(n-1)*2:=by rw[bd,Yz,qJ];omega
 refine⟨rfl,⟨Dc,.inr ⟨g,c,Yy,rfl,hV,m1,by omega,hm,by rw[m2,k2,jo],?_⟩⟩,hj⟩;have I:DF.toList.take ((n-1)*2)=xs.take (i*2)++xs.drop ((i+1)*2):=by rw[k3,BH,<-Dc];exact List.take_left
 rw[m3,I,bp,<-Dc];exact List.take_left
def uq(s:Int)(b:Ab):Bool:=b.1 == s
def Fx(l:List Ab)(s:Int):Bool:=l.any (uq s)
def ra(l:List Ab)(s:Int):List Ab:=l.eraseP (uq s)
theorem Cg{α:Type}{p:α->Bool}:∀{l:List α}{i:Nat}(hi:i<l.length),p l[i]=true->(∀(j:Nat)(hj:j<l.length),j<i->p l[j]=false)->l.eraseP p=l.take i++l.drop (i+1)
 | [],i,hi,_,_=>absurd hi (by simp)
 | a::l,0,_,h,_=>by have h:p a=true:=h;simp[List.eraseP_cons,h]
 | a::l,i+1,hi,h,hn=>by
   have h0:=hn 0 (by simp) ap;have va:i<l.length:=by simpa using hi
   have h0:p a=false:=h0;rw[List.eraseP_cons,h0,cond_false,Cg va (by simpa using h) (λj hj D8=>by have:=hn (j+1) (by simp;omega) ap;simpa using this)];simp
def MW{q:List iW}{s:Int}(h:∀b∈q,b.seq≠s):Fx (q.map iW.abs) s=false∧ra (q.map iW.abs) s=q.map iW.abs:=by
 have I:∀a∈q.map iW.abs,¬ uq s a=true:=λa ha=>by obtain⟨b,hb,rfl⟩:=List.mem_map.1 ha;simp[uq,iW.abs,h b hb]
 exact⟨by unfold Fx;rw[List.any_eq_false];exact I,List.eraseP_of_forall_not I⟩
def MX{q:List iW}{s:Int}(hi:i<q.length)(h:q[i].seq=s)(hn:∀(j:Nat)(hj:j<q.length),j<i->q[j].seq≠s):Fx (q.map iW.abs) s=true∧ra (q.map iW.abs) s=(q.take i++q.drop (i+1)).map iW.abs:=by
 have va:i<(q.map iW.abs).length:=by simpa using hi
 refine⟨?_,?_⟩
 ·unfold Fx
  rw[List.any_eq_true];exact⟨q[i].abs,cW (bD hi),by simp[uq,iW.abs,h]⟩
 ·unfold ra
  rw[Cg va (by simp[uq,iW.abs,h]) (λj hj D8=>by have:=hn j (by simpa using hj) D8;simp[uq,iW.abs,this]),bM,List.map_take,List.map_drop]
def Fy(w:G)(g:Nat)(l:List Ab)(last s:Int):j9 N 330 #[g,J s] (λe=>e=b5 (aY (Fx l s))) (eA g l last) (eA g (ra l s) last) w:=by
 intro V hQ hV;have OY:=hQ;obtain⟨I,v,q,R,D,iH,T,hB,ly,h6,h7,h8⟩:=hQ;obtain⟨A0,c0,rfl,hI,jf,tK⟩:=ly.kB;have fA:Grow w (w.alloc (.cells #[J s] 2)):=(Below.refl (w:Nat) w).alloc (bh _) _;have nj:=eL.made w 2 #[J s];have cc0:=(hB.grow fA).cell 0;have hIx:=Be _ R D A0 _ c0 q ⟨hI.grow fA,λb hb=>(h6 b hb).grow fA⟩ ap s (w:Nat) nj;have tN:¬ R g:=λh=>(h7 g h).2.1 rfl;go_in;go_wp2_with fail;refine hIx.mono ?_;clear hIx;rintro e w1 ⟨r,rfl,a8X,eO⟩;have ku:=fA.trans eO;rcases a8X with ⟨rfl,kr⟩|⟨i,hi,rfl,hs,hn⟩
 ·obtain⟨d1,d2⟩:=MW kr
  rw[iH] at d1 d2;have HD:=Q (And.intro d1 d2);clear kr d1 d2 iH;go_wp2;go_ret;rw[HD.out.1,HD.out.2];exact⟨rfl,eA.wide (eA.framed _ _ _ w w1 V OY λb hb=>ku.block b (hV b hb)) (λ_ => .inl),dP.dR ku⟩
 ·obtain⟨d1,d2⟩:=MX hi hs hn
  rw[iH] at d1 d2;have HD:=Q (And.intro d1 d2);clear d1 d2 iH hs hn;have lb:=hB.grow ku;have c1:=lb.cell 0;go_wp2_with fail;refine (pV w1 R A0 q.length c0 i _ (ly.grow ku) hi ap (PP q)).mono ?_;rintro e w2 ⟨rfl,ig,kI⟩;have mJ:=kI.blk lb tN;have f0:=mJ.frozen 0;have c2:=mJ.cell 0;go_wp2;go_ret;rw[HD.out.1,HD.out.2];have YA:(q.take i++q.drop (i+1)).length=q.length-1:=by rw[bd,bn,bU];omega
  have ko:(q.take i++q.drop (i+1)).flatMap iW.cells=(q.flatMap iW.cells).take (i*2)++(q.flatMap iW.cells).drop ((i+1)*2):=by rw[bO,kV iW.cells 2 oe,pc iW.cells 2 oe]
  have lC:∀b∈q.take i++q.drop (i+1),b∈q:=λb hb=>by
   rcases List.mem_append.1 hb with h|h
   ·exact bY h
   ·exact da h
  have Mp:=mh w2 g 0 (Y A0 (q.length-1) c0);refine⟨rfl,⟨.inl I,_,q.take i++q.drop (i+1),R,D,rfl,by omega,mJ.put 0 _,?_,λb hb=>?_,λb hb=>⟨.inl (h7 b hb).1,(h7 b hb).2⟩,λb hb=>⟨.inl (h8 b hb).1,(h8 b hb).2⟩⟩,?_⟩
  ·rw[YA,ko]
   exact ig.just Mp λb hb e=>tN (by rw[<-show b=g from e];exact hb)
  ·exact (((h6 b (lC b hb)).grow ku).just kI λx X hr=>(h7 x hr).2.2 X).just Mp λx X e=>(h8 x X).2 e
  ·exact ((dP.dR ku).trans (kI.imp λx X=>(h7 x X).1)).trans (Mp.imp λx X=>by rw[show x=g from X];exact I)
def vE(l:List Ab)(last seq:Int)(m:Nat):Int:=if seq<1 then 1 else if seq<=last then 1 else if m=0 then 1 else if 8<m then 1 else if 16<=l.length then 24 else 0
def Jc(l:List Ab)(last seq:Int)(m:Nat)(ds:List Dl):List Ab:=if vE l last seq m=0 then l++[(seq,ds)] else l
def Jd(l:List Ab)(last seq:Int)(m:Nat):Int:=if vE l last seq m=0 then seq else last
def eA.le{l:List Ab}(h:eA g l last w V):l.length<=16:=by obtain⟨_,_,q,_,_,rfl,T,_⟩:=h;rw[bj];exact T
def ut(w:G)(aek:aV)(g:Nat)(l:List Ab)(last seq:Int)(A:aU)(m c:Nat)(ds:List Dl)(XP:kg w aek A m ds)(xR:m<=c)(jg:c<=dL):j9 N 368 #[g,aZ #[J seq,Y A m c]] (λe=>e=b5 (J (vE l last seq m))) (eA g l last) (eA g (Jc l last seq m ds) (Jd l last seq m)) w:=by
 intro V hQ hV;have ng:=hQ.le;have hE:(seq<1∨seq<=last∨m=0∨8<m)∧vE l last seq m=1∨1<=seq∧last<seq∧0<m∧m<=8∧(l.length=16∧vE l last seq m=24∨l.length<16∧vE l last seq m=0):=by
  unfold vE;repeat' split
  all_goals omega
 unfold Jc Jd;rcases hE with ⟨h,e⟩|⟨I,Z,T,h4,⟨h5,e⟩|⟨h5,e⟩⟩<;>rw[e]
 ·exact PT w g l last seq A m c _ (.inl ⟨h,rfl⟩) V hQ hV
 ·exact PT w g l last seq A m c _ (.inr ⟨I,Z,T,h4,h5,rfl⟩) V hQ hV
 ·exact Yx w aek g l last seq A m c ds XP xR jg ap ap T h4 h5 V hQ hV
section
variable{P:aV}{S S':ei}
end
def MY(w:G)(g:Nat)(l:List Ab)(last:Int)(V:aV)(hQ:eA g l last w V)(k:Nat)(K:min l.length 4=k):dF N 271 #[g] w λe O=>∃A' q',e=b5 (Y A' k k)∧o4 O (New w O) (New w O) A' k q'∧q'.map iW.abs=l.take 4∧Grow w O:=K▸J9 w g l last V hQ
def YB(w:G)(g:Nat)(l:List Ab)(last:Int)(V:aV)(hQ:eA g l last w V)(k:Nat)(K:l.length=k):dF N 109 #[g] w λe O=>∃A' q',e=b5 (Y A' k k)∧o4 O (New w O) (New w O) A' k q'∧q'.map iW.abs=l∧Grow w O:=K▸xX w g l last V hQ
end Go.Proofs.YtpeepcmdehhbgaaGreatDoor.aes
namespace Go.Proofs.YtpeepcmdehhbgaaGreatDoor.Ne
open RowKit Hop
theorem info_parts{size:Nat}(h:(Tryz.prog.info? e).map (λi=>(i.zero,i.size,i.bytes))=some (some z,size,bytes)):∃i,Tryz.prog.info? e=some i∧i.zero=some z∧i.size=size∧i.bytes=bytes:=by
 cases hi:Tryz.prog.info? e with
 | none=>rw[hi] at h;cases h
 | some i=>rw[hi] at h;injection h with h;injection h with I Z;injection Z with Z T;exact⟨i,rfl,I,Z,T⟩
def Dt:(Tryz.prog.info? 5).map (λi=>(i.zero,i.size,i.bytes))=some (some (.int .u8 0),1,1):=by kernel_rfl
def MO:Elem N 23 5 1 1 (.int .u8 0):=⟨dh,info_parts Dt,rfl,by decide,by decide⟩
def OM(w:G)(V:aV)(A:aU)(n:Nat)(l:aT):Prop:=In w V 1 A n (lg l)
def OM.len(h:OM w V A n l):l.length=n:=by have:=h.1;simpa using this
theorem jY(w:G)(V:aV)(A:aU)(n c:Nat)(l:aT)(h:OM w V A n l)(hn:n<=1048576):dF N 135 #[Y A n c] w λe O=>∃A' c',e=b5 (Y A' n c')∧OM O (New w O) A' n l∧n<=c'∧c'<=dL∧Grow w O:=by
 have lD:=λ(O:G)=>Lib.run_eql_slice_nil (P:=N) O 23 5 A n c 0 0 dh;cases A with
 | none=>
   have B4:n=0:=by
    rcases cn n with h0|h0
    ·exact h0
    ·obtain⟨_,e,_⟩:=h.2 h0;cases e
   subst B4;obtain rfl:l=[]:=bv h.len;go_in;go_wp2;go_ret;exact⟨_,_,rfl,In.nil,bh _,bo _,Grow.refl _⟩
 | some ad=>
   go_in;go_wp2_with (at_builtin;refine stay ?_);refine dN ?_;refine fZ (V:=λb=>b=(w:Nat)) MO _ rfl (.tmp 5) (.tmp 6) rfl (Y (some ⟨(w:Nat),0,none⟩) 0 0) 0 [] rfl (mn w _ _) (w:Nat) (some ad) n c (lg l) rfl (Reads.alloc (In.reads h) (bh _) _) mg ap ?_;intro v1 w1 l6 yl;simp only[cL,cC] at l6;obtain⟨tM,eO⟩:=oc l6 yl;obtain⟨A2,c2,rfl,hI,jf,hm⟩:=tM.kB;go_wp2;go_ret;exact⟨A2,c2,rfl,hI,jf,hm,eO⟩
abbrev Lb:=Int×Int×List UInt8
structure Lt where
 f:Int
 t:Int
 A:Option dG
 m:Nat
 c:Nat
 bs:List UInt8
def Lt.cells(b:Lt):List E:=[J b.f,J b.t,Y b.A b.m b.c]
def Lt.abs(b:Lt):Lb:=(b.f,b.t,b.bs)
def vF(b:Lt):b.cells.length=3:=rfl
def Je(b:Lt):∀u∈b.cells,u.oneCell'=true:=by intro u hu;simp only[Lt.cells,b_,bW,or_false] at hu;rcases hu with rfl|rfl|rfl<;>rfl
def La(q:List Lt):∀u∈q.flatMap Lt.cells,u.oneCell'=true:=by intro u hu;obtain⟨b,_,hb⟩:=List.mem_flatMap.1 hu;exact Je b u hb
structure mz(w:G)(V:Nat->Prop)(b:Lt):Prop where
 bs:OM w V b.A b.m b.bs
 le:b.m<=b.c
 max:b.c<=dL
 small:b.m<=1048576
theorem mz.mono{w:G}{V V':aV}{b:Lt}(h:mz w V b)(hV:∀b,V b->V' b):mz w V' b:=⟨In.mono h.bs hV,h.le,h.max,h.small⟩
theorem mz.keep{w O:G}{V:aV}{b:Lt}(h:mz w V b)(K:∀b,V b->b<(w:Nat)->O.heap[b]?=w.heap[b]?):mz O V b:=⟨In.keep h.bs K,h.le,h.max,h.small⟩
theorem mz.grow{w O:G}{V:aV}{b:Lt}(h:mz w V b)(H:Grow w O):mz O V b:=⟨In.grow h.bs H,h.le,h.max,h.small⟩
theorem mz.just{w O:G}{V U:aV}{b:Lt}(h:mz w V b)(hj:dP U w O)(hd:∀b,V b->¬ U b):mz O V b:=⟨In.just h.bs hj hd,h.le,h.max,h.small⟩
def Fz:(Tryz.prog.info? 172).map (λi=>(i.zero,i.size,i.bytes))=some (some (aZ aL),3,40):=by kernel_rfl
def uu:Elem N 86 172 3 40 (aZ aL):=⟨Tryz.underlying86,info_parts Fz,rfl,by decide,by decide⟩
def uo(w:G)(V:aV)(b:Lt)(h:mz w V b):dF N 95 #[aZ #[J b.f,J b.t,Y b.A b.m b.c]] w λe O=>∃A' c',e=b5 (aZ #[J b.f,J b.t,Y A' b.m c'])∧mz O (New w O) ⟨b.f,b.t,A',b.m,c',b.bs⟩∧Grow w O:=by
 obtain⟨f,t,A,m,c,bs⟩:=b;obtain⟨hd,ng,Db,tR⟩:=h;dsimp only at hd ng Db tR ⊢;have gN:Grow w ((w.alloc (.cells #[J f,J t,Y A m c] 172)).alloc (.cells aL 172)):=((Below.refl _ _).alloc (bh _) _).alloc (by simp) _;have wu:=(eL.made w 172 #[J f,J t,Y A m c]).alloc (.cells aL 172);have lb:=eL.made (w.alloc (.cells #[J f,J t,Y A m c] 172)) 172 aL;obtain⟨x,HX⟩:=az ((w:Nat):Nat);have sU:(w.alloc (.cells #[J f,J t,Y A m c] 172)).heap.size=x+1:=by rw[HX.out];simp
 rw[sU] at lb;rw[<-HX.out] at wu;obtain⟨wa,HA⟩:=az ((w.alloc (.cells #[J f,J t,Y A m c] 172)).alloc (.cells aL 172):G);rw[<-HA.out] at wu lb gN;have jo:(wa:Nat)=x+2:=by rw[HA.out,HX.out];simp
 go_in;go_wp2_with fail;rw[<-HA.out,<-HX.out];refine (jY wa V A m c bs (In.grow hd gN) ap).mono ?_;rintro e w1 ⟨A1,c1',rfl,Iv,oX,sF,eO⟩;have Mn:=wu.grow eO;have Un:=lb.grow eO;have jB:=(Mn.put 2 (Y A1 m c1')).cell 0;have jb:=(Mn.put 2 (Y A1 m c1')).cell 1;have iM:=(Mn.put 2 (Y A1 m c1')).cell 2;have f2:=Mn.frozen 2;have c12:=Mn.cell 2;have hD:=(Un.far (p:=(x,2)) (show x+1≠x by omega) (Y A1 m c1'));have d0:=hD.cell 0;have d1:=hD.cell 1;have d2:=hD.cell 2;have g0:=hD.frozen 0;have g1:=hD.frozen 1;have g2:=hD.frozen 2;go_wp2_with fail;have hE:=((hD.put 0 (J f)).put 1 (J t)).put 2 (Y A1 m c1');have e0:=hE.cell 0;have e1:=hE.cell 1;have e2:=hE.cell 2;have hj:dP (λb=>b=x∨b=x+1) w1 ((((w1.setCell (x,2) (Y A1 m c1')).setCell (x+1,0) (J f)).setCell (x+1,1) (J t)).setCell (x+1,2) (Y A1 m c1')):=((((dP.dR (Grow.refl w1)).put (V:=λb=>b=x∨b=x+1) (.inl rfl) 2 _).put (.inr rfl) 0 _).put (.inr rfl) 1 _).put (.inr rfl) 2 _
 have ku:Grow w ((((w1.setCell (x,2) (Y A1 m c1')).setCell (x+1,0) (J f)).setCell (x+1,1) (J t)).setCell (x+1,2) (Y A1 m c1')):=Below.trans (gN.trans eO) (hj.below (B:=(w:Nat)) (λb hb=>by have:=HX.out;omega) (gN.trans eO).size)
 refine bodyPost_ret (v := aZ #[J f,J t,Y A1 m c1']) (by simp[results,Tryz.results95,go_sem,e0,e1,e2]) rfl ⟨A1,c1',rfl,⟨?_,oX,sF,tR⟩,ku⟩;refine In.mono (V:=New wa w1) (In.just Iv hj λb hb=>by have:=hb.1;omega) λb hb=>⟨by have:=hb.1;have:=gN.size;omega,by have:=hb.2;simpa [World.setCell] using this⟩
def pW(nodes:Int)(v:E)(P:aO):Array E:=(Value.int .i64 nodes::v::(bF 64).map λi=>Value.bool (P i)).toArray
def PX(nodes:Int)(v:E)(P:aO)(hi:i<64):(pW nodes v P)[2+i]?=some (aY (P i)):=by unfold pW;rw[Nat.add_comm];simp[List.getElem?_range hi]
def Ch(nodes:Int)(v v':E)(P:aO):(pW nodes v P).setIfInBounds 1 v'=pW nodes v' P:=by unfold pW;simp
def iR(nodes i:Int):Bool:=decide (0<=i)&&decide (i<nodes)
def pm{i:Int}(h:0<=i∧i<nodes):iR nodes i=true:=by unfold iR;rw[aC h.1,aC h.2];rfl
def FA{i:Int}(h:¬ (0<=i∧i<nodes)):iR nodes i=false:=by unfold iR;rw[Bool.and_eq_false_iff,decide_eq_false_iff_not,decide_eq_false_iff_not];omega
def FB{i:Int}(h:iR nodes i=true):0<=i∧i<nodes:=by unfold iR at h;rw[bP,decide_eq_true_eq,decide_eq_true_eq] at h;exact h
def InN(nodes:Int)(a:Lb):Prop:=(0<=a.1∧a.1<nodes)∧(0<=a.2.1∧a.2.1<nodes)
def fm(g:Nat)(nodes:Int)(l:List Lb)(P:aO):ei:=λw V=>
 V g∧∃(v:E)(q:List Lt)(R D:aV),q.map Lt.abs=l∧q.length<=64∧(1<=nodes∧nodes<=8)∧(∀a∈l,InN nodes a)∧eL w g 170 (pW nodes v P)∧Row w R 172 3 v q.length (q.flatMap Lt.cells)∧(∀b∈q,mz w D b)∧(∀b,R b->V b∧b≠g∧¬ D b)∧(∀b,D b->V b∧b≠g)
def fm.framed(g:Nat)(nodes:Int)(l:List Lb)(P:aO):eQ (fm g nodes l P):=λw O V h K=>by obtain⟨I,v,q,R,D,Z,T,hn,hi,h4,h5,h6,h7,h8⟩:=h;exact⟨I,v,q,R,D,Z,T,hn,hi,(K g I).trans h4,h5.keep λb hb _=>K b (h7 b hb).1,λb hb=>(h6 b hb).keep λx X _=>K x (h8 x X).1,h7,h8⟩
def fm.wide{l:List Lb}(h:fm g nodes l P w V)(hV:∀b,V b->V' b):fm g nodes l P w V':=by obtain⟨I,v,q,R,D,Z,T,hn,hi,h4,h5,h6,h7,h8⟩:=h;exact⟨hV g I,v,q,R,D,Z,T,hn,hi,h4,h5,h6,λb hb=>⟨hV b (h7 b hb).1,(h7 b hb).2⟩,λb hb=>⟨hV b (h8 b hb).1,(h8 b hb).2⟩⟩
structure Lts(w:G)(V D:Nat->Prop)(A:Option dG)(n:Nat)(q:List Lt):Prop where
 row:In w V 3 A n (q.flatMap Lt.cells)
 all:∀b∈q,mz w D b
def fm.lts{l:List Lb}(h:fm g nodes l P w V):∃A c q,Hid (q.map Lt.abs=l)∧Hid (l.length=q.length)∧q.length<=64∧(1<=nodes∧nodes<=8)∧(∀a∈l,InN nodes a)∧eL w g 170 (pW nodes (Y A q.length c) P)∧Lts w V V A q.length q∧q.length<=c∧c<=dL:=by obtain⟨I,v,q,R,D,rfl,T,hn,hi,h4,h5,h6,h7,h8⟩:=h;obtain⟨A,c,rfl,hI,jf,hm⟩:=h5.kB;exact⟨A,c,q,Q rfl,Q (bj ..),T,hn,hi,h4,⟨hI.mono λb hb=>(h7 b hb).1,λb hb=>(h6 b hb).mono λx X=>(h8 x X).1⟩,jf,hm⟩
def uv(w:G)(g:Nat)(nodes i:Int)(v:E)(P:aO)(hB:eL w g 170 (pW nodes v P)):dF N 274 #[g,J i] w λe O=>e=b5 (aY (iR nodes i))∧w=O:=by
 have c0:w.cell? (g,0)=some (J nodes):=hB.cell 0;unfold iR;by_cases h:0<=i
 ·go_in
  go_wp2;go_ret;exact⟨ky (by rw[aC h];simp),rfl⟩
 ·go_in
  go_wp2;go_ret;exact⟨ky (by rw[aD (p:=0<=i) ap];rfl),rfl⟩
def rR(w:G)(g:Nat)(nodes i:Int)(A:aU)(n c:Nat)(P:aO)(hB:eL w g 170 (pW nodes (Y A n c) P)):dF N 211 #[g,J i] w λe O=>e=b5 (aY (iR (n:Int) i))∧w=O:=by
 have c1:w.cell? (g,1)=some (Y A n c):=hB.cell 1;unfold iR;by_cases h:0<=i
 ·go_in
  go_wp2;go_ret;exact⟨ky (by rw[aC h];simp),rfl⟩
 ·go_in
  go_wp2;go_ret;exact⟨ky (by rw[aD (p:=0<=i) ap];rfl),rfl⟩
def PY:(Tryz.prog.info? 170).map (λi=>(i.zero,i.size,i.bytes))=some (some (aZ (pW 0 (Y none 0 0) (λ_=>false))),66,96):=by kernel_rfl
def PZ(w:G):(zeroValue 170).run N w=.ok (aZ (pW 0 (Y none 0 0) (λ_=>false))) w:=by obtain⟨i,hi,hz,_,_⟩:=info_parts PY;simp[zeroValue,typeInfo,hi,hz]
def MZ(nodes nodes':Int)(v:E)(P:aO):(pW nodes v P).setIfInBounds 0 (J nodes')=pW nodes' v P:=by unfold pW;simp
def Up(nodes:Int)(v:E)(P:aO):¬ pW nodes v P=#[]:=λh=>by have:=congrArg (λa:Array E=>a[0]?) h;simp[pW] at this
def pR(w:G)(nodes:Int)(I:1<=nodes)(h8:nodes<=8):dF N 143 #[J nodes] w λe O=>e=b5 ((((w:Nat),0):E))∧fm (w:Nat) nodes [] (λ_=>false) O (New w O)∧Grow w O:=by
 have ha:¬ nodes<1:=by omega
 have hb:¬ 8<nodes:=by omega
 have hz:=PZ;have hc:=MZ 0 nodes (Y none 0 0) (λ_=>false);have kr:=Up 0 (Y none 0 0) (λ_=>false);generalize pW 0 (Y none 0 0) (λ_=>false)=np at hz hc kr;go_in;go_wp2;go_ret;exact⟨rfl,⟨⟨bh _,by simp⟩,_,[],λ_=>False,λ_=>False,rfl,by simp,⟨I,h8⟩,by simp,eL.made w _ _,Row.nil,by simp,λ_ h=>h.elim,λ_ h=>h.elim⟩,(Below.refl (w:Nat) w).alloc (bh _) _⟩
def a2q(l:List Lb)(w0:G)(u:E)(w:G):Prop:=∃(A:aU)(n c:Nat)(q:List Lt),u=Y A n c∧Lts w (New w0 w) (New w0 w) A n q∧q.map Lt.abs=l∧n<=c∧c<=dL
def xX(w:G)(g:Nat)(nodes:Int)(l:List Lb)(P:aO)(V:aV)(hQ:fm g nodes l P w V):dF N 38 #[g] w λe O=>∃u,e=b5 u∧a2q l w u O∧Grow w O:=by
 obtain⟨A,c,q,HQ,HL,OA,hN,jt,hB,hI,jf,jg⟩:=hQ.lts;have cc1:w.cell? (g,1)=some (Y A q.length c):=hB.cell 1;go_in;go_wp2_with fail;go_loopw [3,11] (λs i wr=>∃(k:Nat)(q':List Lt)(R D':aV),k<=q.length∧i=J k∧Own wr R 172 3 s k (q'.flatMap Lt.cells)∧(∀b∈q',mz wr D' b)∧q'.map Lt.abs=(q.take k).map Lt.abs∧(∀b,R b->New w wr b∧¬ D' b)∧(∀b,D' b->New w wr b)∧Grow w wr) (λ_ i _=>q.length-(intOf i).toNat);case atStart=>exact⟨0,[],λ_=>False,λ_=>False,by omega,rfl,Own.nil,by simp,by simp,λ_ h=>h.elim,λ_ h=>h.elim,Grow.refl _⟩
 case round=>
  obtain⟨k,q',R,D',oF,rfl,hO,l8,Ia,W,hD,H⟩:=hrel;obtain⟨A1,c1,rfl,OB,PR,sF⟩:=hO.kB;by_cases K:k<q.length
  ·obtain⟨ad,xj,rfl,hV,hB,e0,e1⟩:=(hI.row.grow H).ni ap vF K
   have jZ:=(hI.all q[k] (bD xj)).grow H;have xk:q.take (k+1)=q.take k++[q[k]]:=br xj;have e0:=e0 _ rfl;have e2:=e1 1 _ rfl;have e1:=e1 0 _ rfl;have HS:=Q xk;clear xk;generalize q[k]=b at jZ e0 e1 e2 HS;obtain⟨f,t,Ab,mb,cb,bs⟩:=b;dsimp only[Lt.cells] at e0 e1 e2;have fA:Grow wr (wr.alloc (.cells #[J f,J t,Y Ab mb cb] 172)):=(Below.refl (wr:Nat) wr).alloc (bh _) _;go_wp2_with fail;refine (uo _ V ⟨f,t,Ab,mb,cb,bs⟩ (jZ.grow fA)).mono ?_;rintro e w1 ⟨A2,c2,rfl,nu,eO⟩;have TI:=eO.size;simp only[fy] at TI;have o9:=(Below.refl (w1:Nat) w1).alloc (bh _) (.cells #[J f,J t,Y A2 mb c2] 172);go_wp2_with (at_builtin;refine stay ?_);refine dN ?_;have It:=H.size;have lO:∀b,R b->b<(wr:Nat):=λb hb=>(W b hb).1.2;refine fZ (V:=R) uu _ rfl (.tmp 15) (.tmp 18) rfl (Y A1 k c1) k (q'.flatMap Lt.cells) rfl (((hO.grow lO (fA.trans eO)).grow (λb hb=>by have:=lO b hb;omega) o9)) ((w1:Nat)+1) (some ⟨(w1:Nat),0,none⟩) 1 1 (Lt.cells ⟨f,t,A2,mb,c2,bs⟩) rfl (fO w1 _ 172 _ rfl _ rfl) (Je _) ap ?_;intro v2 w2 tM kI;have B6:=kI.size;simp only[fy] at B6;have hgj:Below (w:Nat) w1 w2:=Below.trans (o9.mono ap) (kI.below (B:=(w:Nat)) (λb hb=>(W b hb).1.1) (by simp;omega));have fN:Grow w w2:=Below.trans (H.trans (fA.trans eO)) hgj;have hD2:∀b:Lt,mz w1 D' b->mz w2 D' b:=λb hb=>(hb.grow o9).just kI λx X hr=>(W x hr).2 X;have PS:∀b:Lt,mz w1 (New (wr.alloc (.cells #[J f,J t,Y Ab mb cb] 172)) w1) b->mz w2 (New (wr.alloc (.cells #[J f,J t,Y Ab mb cb] 172)) w1) b:=λb hb=>(hb.grow o9).just kI λx X hr=>by have:=X.1;have:=lO x hr;simp at *;omega
   go_wp2_with fail;go_roundw;case rel=>
    refine⟨k+1,q'++[⟨f,t,A2,mb,c2,bs⟩],ju R (w1.alloc (.cells #[J f,J t,Y A2 mb c2] 172)) w2,λb=>D' b∨New (wr.alloc (.cells #[J f,J t,Y Ab mb cb] 172)) w1 b,by omega,by go_num,?_,λb hb=>?_,?_,λb hb=>?_,λb hb=>?_,fN⟩;·rw[bO,bN,cI,bm];exact tM
    ·rcases List.mem_append.1 hb with hb|hb
     ·exact (hD2 b ((l8 b hb).grow (fA.trans eO))).mono λ_ => .inl
     ·rw[List.mem_singleton.1 hb];exact (PS _ nu).mono λ_ => .inr
    ·rw[bM,Ia,HS.out,bM];rfl
    ·rcases hb with hb|⟨I,Z⟩
     ·refine⟨⟨(W b hb).1.1,by have:=lO b hb;omega⟩,λhd=>?_⟩
      rcases hd with hd|hd
      ·exact (W b hb).2 hd
      ·have:=hd.1;have:=lO b hb;simp at *;omega
     ·simp only[fy] at I
      refine⟨⟨by omega,Z⟩,λhd=>?_⟩;rcases hd with hd|hd
      ·have:=(hD b hd).2;omega
      ·have:=hd.2;omega
    ·rcases hb with hb|hb
     ·have:=hD b hb;exact⟨this.1,by have:=this.2;omega⟩
     ·have I:=hb.1;have Z:=hb.2;simp only[fy] at I;exact⟨by omega,by omega⟩
   case measure=>simp[intOf];omega
  ·obtain rfl:k=q.length:=by omega
   go_wp2;go_ret;refine⟨_,rfl,⟨A1,q.length,c1,q',rfl,⟨OB.mono λb hb=>(W b hb).1,λb hb=>(l8 b hb).mono hD⟩,?_,PR,sF⟩,H⟩;rw[Ia,bH ap,HQ.out]
theorem wU{P:dI}{ops:Array dJ}{rest:List dJ}{a:dK}{aes:Exit->dK->G->Prop}{R:E->G->Prop}(hw:bz o (yielded ops a.tmps)=true)(h:eJ P R ((execOp a.eval o).run P w))(K:∀u O,R u O->wpList P ops aes rest (a.put o.dst u) O):wpList P ops aes (o::rest) a w:=by
 unfold wpList;rw[aA hw];refine .inl ?_;unfold Oper.wp;generalize (execOp a.eval o).run P w=r at h;cases r with
 | ok n O=>
   cases n with
   | value u=>exact K u O h
   | skip=>exact K undef O h
   | enter f vs=>exact Calls.mono h (λe w'' ⟨u,he,hr⟩=>by subst he;exact K u w'' hr)
   | _=>exact h.elim
 | halt _ _=>exact h.elim
def Xc(x g:Nat)(f t:Int)(A:aU)(m c:Nat)(nodes:Int)(A0:aU)(n c0:Nat)(P:aO)(w:G):Prop:=eL w x 172 #[J f,J t,Y A m c]∧eL w g 170 (pW nodes (Y A0 n c0) P)
def Ci:iY mz:=λ_ _ _ _ _ h hj hd=>h.just hj hd
def P_{b:Lt}(I:ρ x=u)(hu:u=aZ (Lt.cells b).toArray)(ho:o.op=.buildSlice 86 1 #[(0,x)]):(execOp ρ o).run N w=.ok (.value (Y (some ⟨(w:Nat),0,none⟩) 1 1)) (w.alloc (.cells (Lt.cells b).toArray 172)):=by obtain⟨dst,op,ty,pos,after,guard⟩:=o;simp only at ho;subst ho hu;unfold Lt.cells at I ⊢;go_simp
def Q0{b:Lt}(a:Lb)(h:dF N 95 args w λe O=>∃A' c',e=b5 (aZ #[J b.f,J b.t,Y A' b.m c'])∧mz O (New w O) ⟨b.f,b.t,A',b.m,c',b.bs⟩∧Grow w O)(hs:B<=(w:Nat))(hB:b.abs=a:=by rfl):dF N 95 args w λe O=>∃u,e=b5 u∧Grow w O∧Y8 Lt.cells mz B (λb=>b.abs=a) u O:=by refine h.mono λe O ⟨A',c',he,sH,H⟩=>⟨_,he,H,⟨⟨b.f,b.t,A',b.m,c',b.bs⟩,(O:Nat),hB,rfl,sH.mono λx X=>⟨bA hs X.1,X.2⟩,bh _⟩⟩
def YC(w:G)(g:Nat)(nodes:Int)(l:List Lb)(P:aO)(f t:Int)(A:aU)(m c:Nat)(hf:iR nodes f=false):j9 N 213 #[g,aZ #[J f,J t,Y A m c]] (λe=>e=b5 (J 23)) (fm g nodes l P) (fm g nodes l P) w:=by
 intro V hQ hV;have OY:=hQ;obtain⟨I,v,q,R,D,iH,OA,hN,jt,hB,ly,h6,h7,h8⟩:=hQ;obtain⟨A0,c0,rfl,hI,jf,tK⟩:=ly.kB;have fA:Grow w (w.alloc (.cells #[J f,J t,Y A m c] 172)):=(Below.refl (w:Nat) w).alloc (bh _) _;have nj:=eL.made w 172 #[J f,J t,Y A m c];obtain⟨x,HX⟩:=az ((w:Nat):Nat);obtain⟨wa,HA⟩:=az (w.alloc (.cells #[J f,J t,Y A m c] 172):G);have HSA:Hid ((wa:Nat)=x+1):=Q (by rw[HA.out,HX.out];simp);rw[<-HA.out] at fA;have sG:eL wa x 172 #[J f,J t,Y A m c]:=by rw[HA.out,HX.out];exact nj
 clear nj;have vf:=hB.grow fA;have x1:=sG.cell 1;have cq1:wa.cell? (g,1)=some (Y A0 q.length c0):=vf.cell 1;go_in;go_wp2_with fail;rw[<-HA.out,<-HX.out];go_wp2_with (go_at_call 274;refine (uv wa g nodes _ _ _ vf).mono ?_;rintro e w2 ⟨rfl,tS⟩;subst tS);go_ret;exact⟨rfl,fm.wide (fm.framed _ _ _ _ w _ V OY λb hb=>fA.block b (hV b hb)) (λ_ => .inl),dP.dR fA⟩
def YD(w:G)(g:Nat)(nodes:Int)(l:List Lb)(P:aO)(f t:Int)(A:aU)(m c:Nat)(hf:iR nodes f=true)(ht:iR nodes t=false):j9 N 213 #[g,aZ #[J f,J t,Y A m c]] (λe=>e=b5 (J 23)) (fm g nodes l P) (fm g nodes l P) w:=by
 intro V hQ hV;have OY:=hQ;obtain⟨I,v,q,R,D,iH,OA,hN,jt,hB,ly,h6,h7,h8⟩:=hQ;obtain⟨A0,c0,rfl,hI,jf,tK⟩:=ly.kB;have fA:Grow w (w.alloc (.cells #[J f,J t,Y A m c] 172)):=(Below.refl (w:Nat) w).alloc (bh _) _;have nj:=eL.made w 172 #[J f,J t,Y A m c];obtain⟨x,HX⟩:=az ((w:Nat):Nat);obtain⟨wa,HA⟩:=az (w.alloc (.cells #[J f,J t,Y A m c] 172):G);have HSA:Hid ((wa:Nat)=x+1):=Q (by rw[HA.out,HX.out];simp);rw[<-HA.out] at fA;have sG:eL wa x 172 #[J f,J t,Y A m c]:=by rw[HA.out,HX.out];exact nj
 clear nj;have vf:=hB.grow fA;have x1:=sG.cell 1;have cq1:wa.cell? (g,1)=some (Y A0 q.length c0):=vf.cell 1;go_in;go_wp2_with fail;rw[<-HA.out,<-HX.out];go_wp2_with (go_at_call 274;refine (uv wa g nodes _ _ _ vf).mono ?_;rintro e w2 ⟨rfl,tS⟩;subst tS);go_ret;exact⟨rfl,fm.wide (fm.framed _ _ _ _ w _ V OY λb hb=>fA.block b (hV b hb)) (λ_ => .inl),dP.dR fA⟩
def M_(w:G)(g:Nat)(nodes:Int)(l:List Lb)(P:aO)(f t:Int)(A:aU)(m c:Nat)(hf:iR nodes f=true)(ht:iR nodes t=true)(hl:64<=l.length):j9 N 213 #[g,aZ #[J f,J t,Y A m c]] (λe=>e=b5 (J 24)) (fm g nodes l P) (fm g nodes l P) w:=by
 intro V hQ hV;have OY:=hQ;obtain⟨I,v,q,R,D,iH,OA,hN,jt,hB,ly,h6,h7,h8⟩:=hQ;obtain⟨A0,c0,rfl,hI,jf,tK⟩:=ly.kB;have fA:Grow w (w.alloc (.cells #[J f,J t,Y A m c] 172)):=(Below.refl (w:Nat) w).alloc (bh _) _;have nj:=eL.made w 172 #[J f,J t,Y A m c];obtain⟨x,HX⟩:=az ((w:Nat):Nat);obtain⟨wa,HA⟩:=az (w.alloc (.cells #[J f,J t,Y A m c] 172):G);have HSA:Hid ((wa:Nat)=x+1):=Q (by rw[HA.out,HX.out];simp);rw[<-HA.out] at fA;have sG:eL wa x 172 #[J f,J t,Y A m c]:=by rw[HA.out,HX.out];exact nj
 clear nj;have vf:=hB.grow fA;have x1:=sG.cell 1;have cq1:wa.cell? (g,1)=some (Y A0 q.length c0):=vf.cell 1;have Uq:64<=q.length:=by rw[<-iH,bj] at hl;exact hl
 clear iH hl;go_in;go_wp2_with fail;rw[<-HA.out,<-HX.out];go_wp2_with (go_at_call 274;refine (uv wa g nodes _ _ _ vf).mono ?_;rintro e w2 ⟨rfl,tS⟩;subst tS);go_ret;exact⟨rfl,fm.wide (fm.framed _ _ _ _ w _ V OY λb hb=>fA.block b (hV b hb)) (λ_ => .inl),dP.dR fA⟩
def Ur(w:G)(aek:aV)(g:Nat)(nodes:Int)(l:List Lb)(P:aO)(f t:Int)(A:aU)(m c:Nat)(bs:aT)(XP:OM w aek A m bs)(xR:m<=c)(jg:c<=dL)(tR:m<=1048576)(hf:iR nodes f=true)(ht:iR nodes t=true)(hl:l.length<64):j9 N 213 #[g,aZ #[J f,J t,Y A m c]] (λe=>e=b5 (J 0)) (fm g nodes l P) (fm g nodes (l++[(f,t,bs)]) P) w:=by
 intro V hQ hV;have OY:=hQ;obtain⟨I,v,q,R,D,iH,OA,hN,jt,hB,ly,h6,h7,h8⟩:=hQ;obtain⟨A0,c0,rfl,hI,jf,tK⟩:=ly.kB;have fA:Grow w (w.alloc (.cells #[J f,J t,Y A m c] 172)):=(Below.refl (w:Nat) w).alloc (bh _) _;have nj:=eL.made w 172 #[J f,J t,Y A m c];obtain⟨x,HX⟩:=az ((w:Nat):Nat);obtain⟨wa,HA⟩:=az (w.alloc (.cells #[J f,J t,Y A m c] 172):G);have HSA:Hid ((wa:Nat)=x+1):=Q (by rw[HA.out,HX.out];simp);rw[<-HA.out] at fA;have sG:eL wa x 172 #[J f,J t,Y A m c]:=by rw[HA.out,HX.out];exact nj
 clear nj;have vf:=hB.grow fA;have x1:=sG.cell 1;have cq1:wa.cell? (g,1)=some (Y A0 q.length c0):=vf.cell 1;have a2n:q.length<64:=by rw[<-iH,bj] at hl;exact hl
 have Lc:=Q iH;clear iH;go_in;go_wp2_with fail;rw[<-HA.out,<-HX.out];go_wp2_with (go_at_call 274;refine (uv wa g nodes _ _ _ vf).mono ?_;rintro e w2 ⟨rfl,tS⟩;subst tS);have PW:=ly.grow fA;have a0F:∀b∈q,mz wa D b:=λb hb=>(h6 b hb).grow fA;have Iv:=In.grow XP fA;have o9:g<(wa:Nat):=vf.lt;have tN:¬ R g:=λh=>(h7 g h).2.1 rfl;have hxw:(w:Nat)<=x:=by have:=HX.out;omega
 have hRw:∀x,R x->x<(w:Nat):=λb hb=>hV b (h7 b hb).1;obtain⟨B,HBd⟩:=az ((wa:Nat):Nat);have AX:∀x,R x->x<B:=λb hb=>by have:=hRw b hb;have:=HBd.out;have:=fA.size;omega
 have hxn:¬ R x:=λh=>by have:=hRw x h;omega
 have HB:∀w2,dP R wa w2->B<=(w2:Nat):=λw2 h=>HBd.out▸h.size;have gd:Grow wa wa.drew:=(Grow.refl wa).drew;have jB:Xc x g f t A m c nodes A0 q.length c0 P wa.drew:=⟨sG.grow gd,vf.grow gd⟩;refine dO rfl ?_;refine fV (Xc x g f t A m c nodes A0 q.length c0 P) [9,10,11] 12 rfl [0,1,2,3,4,5] ?_;iterate 6 refine ff rfl jB (λw1 h R W=>by have k0:=h.1.cell 0;have k1:=h.1.cell 1;have k2:=h.1.cell 2;have k3:w1.cell? (g,1)=some (Y A0 q.length c0):=h.2.cell 1;go_simp;exact W) ?_
 have yl:dP R wa wa.drew:=dP.dR gd;refine fG 6 [] rfl ?_;go_wp2_with fail;refine (Q0 (f,t,bs) (uo wa.drew aek ⟨f,t,A,m,c,bs⟩ ⟨In.grow Iv gd,xR,jg,tR⟩) (HB _ yl)).mono ?_;rintro en w2 ⟨v31,rfl,fN,hNG⟩;have kI:dP R wa w2:=yl.trans (dP.dR fN);go_wp2_with fail;refine⟨λ_=>⟨jB.1.grow fN,jB.2.grow fN⟩,?_⟩;refine fG 7 [] rfl ?_;refine wU rfl (MF (e:=172) Ci vF hNG (HB w2 kI) (λb hb=>P_ (x := .tmp 31) rfl hb rfl)) ?_;intro v32 w3 hr;have nx:dP R wa w3:=kI.trans (dP.dR hr.1);go_wp2_with fail;refine⟨λ_=>⟨nx.blk sG hxn,nx.blk vf tN⟩,?_⟩;refine fG 8 [] rfl ?_;refine wU rfl (Fb (aem:=λb:Lt=>b.abs=(f,t,bs)) (x := .tmp 29) (y := .tmp 32) uu Ci Je AX (PW.grow (gd.trans (fN.trans hr.1))) hr.2 (HB w3 nx) ap rfl rfl rfl) ?_;rintro v33 w4 ⟨Tt,hE⟩;have H:=nx.trans Tt;go_wp2_with fail;refine⟨λ_=>⟨H.blk sG hxn,H.blk vf tN⟩,?_⟩;refine gx 9 rfl aw ?_;clear nx Tt yl kI;obtain⟨b,R',D',e1,B7,xh,hRx,hDx⟩:=hE;obtain⟨A3,c3,hv3,_⟩:=B7.kB;subst hv3;have lb:=H.blk vf tN;have f1:=lb.frozen 1;have c11:w4.cell? (g,1)=some (Y A0 q.length c0):=lb.cell 1;go_wp2;go_ret;have Oz:B=(wa:Nat):=HBd.out;have hgas:=fA.size;have Mp:=mh w4 g 1 (Y A3 (q.length+1) c3);have hBg:g<B:=by omega
 refine⟨rfl,⟨.inl I,Y A3 (q.length+1) c3,q++[b],R',λx=>D x∨D' x,?_,?_,hN,?_,?_,?_,λb' hb=>?_,λx X=>?_,λx X=>?_⟩,?_⟩;·rw[bM,Lc.out,bX,cS,e1]
 ·rw[bd,bw];omega
 ·intro a ha
  rcases List.mem_append.1 ha with h|h
  ·exact jt a h
  ·rw[List.mem_singleton.1 h];exact⟨FB hf,FB ht⟩
 ·have:=lb.put 1 (Y A3 (q.length+1) c3)
  rwa [Ch] at this
 ·rw[bd,bw]
  exact B7.just Mp λb hb h=>by
   have Z:=hRx b hb;rw[show b=g from h] at Z;rcases Z.1 with T|T
   ·exact tN T
   ·omega
 ·rcases List.mem_append.1 hb with h|h
  ·exact (((a0F b' h).just H λx X hr=>(h7 x hr).2.2 X).just Mp λx X h=>(h8 x X).2 h).mono λ_ => .inl
  ·rw[List.mem_singleton.1 h];exact (xh.just Mp λx X h=>by have:=(hDx x X).1;rw[show x=g from h] at this;omega).mono λ_ => .inr
 ·have Z:=hRx x X
  refine⟨?_,?_,λh=>?_⟩
  ·rcases Z.1 with h|h
   ·exact .inl (h7 x h).1
   ·exact .inr ⟨by omega,by rw[gV];exact Z.2.1⟩
  ·rcases Z.1 with h|h
   ·exact (h7 x h).2.1
   ·omega
  ·rcases h with h|h
   ·rcases Z.1 with T|T
    ·exact (h7 x T).2.2 h
    ·have:=hV x (h8 x h).1;omega
   ·exact Z.2.2 h
 ·rcases X with h|h
  ·exact⟨.inl (h8 x h).1,(h8 x h).2⟩
  ·have Z:=hDx x h
   exact⟨.inr ⟨by omega,by rw[gV];exact Z.2⟩,by have:=Z.1;omega⟩
 ·exact ((dP.dR fA).trans (H.imp λx X=>(h7 x X).1)).trans (Mp.imp λx X=>by rw[show x=g from X];exact I)
theorem pV(w:G)(R:aV)(A:aU)(n c i:Nat)(xs:List E)(h:Row w R 172 3 (Y A n c) n xs)(hi:i<n)(hn:n<=1048576)(sU:∀u∈xs,u.oneCell'=true):dF N 212 #[Y A n c,J i,J ((i:Int)+1)] w λe O=>e=b5 (Y A (n-1) c)∧Row O R 172 3 (Y A (n-1) c) (n-1) (xs.take (i*3)++xs.drop ((i+1)*3))∧dP R w O:=by
 obtain⟨fp,h|⟨g,cap,cur,e1,hV,H,jf,hm,jo,jA⟩⟩:=h;·omega
 injection e1 with e1 _ e3;subst e1 e3;obtain⟨A2,HA2⟩:=az (if c=i+1 then some (g,0) else some ⟨g,(i+1)*3,none⟩:Option dG);have qJ:(xs.drop ((i+1)*3)).length=(n-(i+1))*3:=by rw[bU,fp];omega
 have iT:∀j,w.cell? ⟨g,j,none⟩=cur[j]?:=λj=>cell_of_row w g j cur 172 (0,0) H;have hcx:∀j u,xs[j]?=some u->cur[j]?=some u:=λj u hu=>by
  rw[<-jA,List.getElem?_take] at hu;split at hu;·simpa using hu
  ·cases hu
 have sE:∀w1,Grow w w1->Reads w1 (w1:Nat) 3 A2 (n-(i+1)) (xs.drop ((i+1)*3)):=λw1 i7=>by refine⟨qJ,λBM=>⟨⟨g,(i+1)*3,none⟩,by rw[HA2.out,aB ap],bu (Array.getElem?_eq_some_iff.1 H).1 i7.size,λj u hu=>?_⟩⟩;rw[List.getElem?_drop] at hu;rw[Addr.add_lit,i7.cell (show g<(w:Nat) from (Array.getElem?_eq_some_iff.1 H).1),iT];exact hcx _ u hu
 have hci:i<=c:=by omega
 have hni:¬ (n:Int)<(i:Int)+1:=by omega
 have a6P:¬ (i:Int)+1<0:=by omega
 have ku:=H;go_in;go_wp2_with fail;have c0:=HA2.out.symm;go_still_tail 6,(by kernel_rfl);change wpList _ _ _ _ _ w.drew;generalize yk:w.drew=w1;have H:Grow w w1:=yk▸(Grow.refl w).drew;clear c0 yk;have eO:w1.heap[g]?=some (.cells cur 172 (0,0)):=(H.block g (Array.getElem?_eq_some_iff.1 ku).1).trans ku;have BJ:i+(n-(i+1))=n-1:=by omega
 refine qT rfl (.tmp 22) (.tmp 25) rfl rfl rfl (qt uu w1 _ eO (sE w1 H) (λu hu=>sU u (da hu)) ap (by rw[BJ,jo];omega)) ?_;rw[BJ];obtain⟨DF,k1,k2,k3⟩:=iU g 172 (0,0) (xs.drop ((i+1)*3)) (i*3) w1 cur eO (by rw[qJ,<-Nat.add_mul,BJ,jo];omega);have l6:=i5 g (xs.drop ((i+1)*3)) (i*3) w1;have Ta:=setCells_size g (xs.drop ((i+1)*3)) (i*3) w1;generalize w1.setCells g (i*3) (xs.drop ((i+1)*3))=w2 at k1 l6 Ta ⊢;have HK:=Q (And.intro k2 k3);have HD:=Q qJ;have HZ:=Q jo;have HKM:=Q BJ;have HL:=Q fp;have HT:=Q jA;clear k2 k3 qJ jo BJ fp jA Ta hcx iT sE;have hcn:¬ c=n-1:=by omega
 have a6R:¬ n<n-1:=by omega
 have oX:n-(n-1)=1:=by omega
 have sD:∀ty,(Builtin.clear_ #[86] ty #[Y (some ⟨g,(n-1)*3,none⟩) (n-(n-1)) (c-(n-1))]).run N w2=.ok (a_ #[]) (w2.setCells g ((n-1)*3) (bQ (aZ aL:E).cells 1).toList):=λty=>by rw[oX];refine kH uu (u6 uu) (by simp[Value.cells,Value.oneCell']) w2 ty g ((n-1)*3) 1 _ ap (λj hj=>?_) (λj hj=>eL.frozen (show eL w2 g 172 DF from k1) _);have:=HK.out.1;have:=HZ.out;rw[cell_of_row w2 g _ DF 172 (0,0) k1,Array.getElem?_eq_getElem ap];rfl
 have hzl:(bQ (aZ aL:E).cells 1).toList.length=3:=by kernel_rfl
 obtain⟨Yy,m1,m2,m3⟩:=iU g 172 (0,0) (bQ (aZ aL:E).cells 1).toList ((n-1)*3) w2 DF k1 (by rw[hzl];have:=HK.out.1;have:=HZ.out;omega);have tM:=i5 g (bQ (aZ aL:E).cells 1).toList ((n-1)*3) w2;generalize w2.setCells g ((n-1)*3) (bQ (aZ aL:E).cells 1).toList=w3 at sD m1 tM;have HM:=Q (And.intro m2 m3);clear m2 m3 hzl oX;go_wp2;go_ret;have hj:dP R w w3:=(dP.dR H).trans (dP.jW (l6.trans tM) hV);obtain⟨k2,k3⟩:=HK.out;obtain⟨m2,m3⟩:=HM.out;have fp:=HL.out;have qJ:=HD.out;have jo:=HZ.out;have BJ:=HKM.out;have jA:=HT.out;have BH:cur.toList.take (i*3)=xs.take (i*3):=by rw[<-jA,List.take_take,cF ap]
 have Yz:(xs.take (i*3)).length=i*3:=by rw[bn];omega
 have Dc:(xs.take (i*3)++xs.drop ((i+1)*3)).length=(n-1)*3:=by rw[bd,Yz,qJ];omega
 refine⟨rfl,⟨Dc,.inr ⟨g,c,Yy,rfl,hV,m1,by omega,hm,by rw[m2,k2,jo],?_⟩⟩,hj⟩;have I:DF.toList.take ((n-1)*3)=xs.take (i*3)++xs.drop ((i+1)*3):=by rw[k3,BH,<-Dc];exact List.take_left
 rw[m3,I,bp,<-Dc];exact List.take_left
def minus(l:List Lb)(i:Nat):List Lb:=l.take i++l.drop (i+1)
def Cj{w2:G}{R:aV}{q:List Lt}{l:List Lb}{c0:Nat}(I:V g)(iH:q.map Lt.abs=l)(OA:q.length<=64)(hN:1<=nodes∧nodes<=8)(jt:∀a∈l,InN nodes a)
 (lb:eL w1 g 170 (pW nodes (Y A0 q.length c0) P)) (h6:∀b∈q,mz w1 D b) (h7:∀b,R b->V b∧b≠g∧¬ D b) (h8:∀b,D b->V b∧b≠g) (hi:i<q.length) (H:Grow w w1)
 (ig:Row w2 R 172 3 (Y A0 (q.length-1) c0) (q.length-1) ((q.flatMap Lt.cells).take (i*3)++(q.flatMap Lt.cells).drop ((i+1)*3))) (kI:dP R w1 w2):fm g nodes (minus l i) P (w2.setCell (g,1) (Y A0 (q.length-1) c0)) V∧dP V w (w2.setCell (g,1) (Y A0 (q.length-1) c0)):=by
 have tN:¬ R g:=λh=>(h7 g h).2.1 rfl;have mJ:=kI.blk lb tN;have YA:(q.take i++q.drop (i+1)).length=q.length-1:=by rw[bd,bn,bU];omega
 have ko:(q.take i++q.drop (i+1)).flatMap Lt.cells=(q.flatMap Lt.cells).take (i*3)++(q.flatMap Lt.cells).drop ((i+1)*3):=by rw[bO,kV Lt.cells 3 vF,pc Lt.cells 3 vF]
 have lC:∀b∈q.take i++q.drop (i+1),b∈q:=λb hb=>by
  rcases List.mem_append.1 hb with h|h
  ·exact bY h
  ·exact da h
 have Mp:=mh w2 g 1 (Y A0 (q.length-1) c0);refine⟨⟨I,Y A0 (q.length-1) c0,q.take i++q.drop (i+1),R,D,?_,by omega,hN,λa ha=>jt a ?_,?_,?_,λb hb=>?_,h7,h8⟩,?_⟩;·rw[bM,List.map_take,List.map_drop,iH];rfl
 ·unfold minus at ha
  rcases List.mem_append.1 ha with h|h
  ·exact bY h
  ·exact da h
 ·have:=mJ.put 1 (Y A0 (q.length-1) c0)
  rwa [Ch] at this
 ·rw[YA,ko]
  exact ig.just Mp λb hb e=>tN (by rw[<-show b=g from e];exact hb)
 ·exact ((h6 b (lC b hb)).just kI λx X hr=>(h7 x hr).2.2 X).just Mp λx X e=>(h8 x X).2 e
 ·exact ((dP.dR H).trans (kI.imp λx X=>(h7 x X).1)).trans (Mp.imp λx X=>by rw[show x=g from X];exact I)
def Q1(w:G)(g:Nat)(nodes:Int)(l:List Lb)(P:aO)(i:Nat)(h:i<l.length):j9 N 153 #[g,J i] (λe=>e=b5 (J 0)) (fm g nodes l P) (fm g nodes (minus l i) P) w:=by
 intro V ⟨I,v,q,R,D,iH,OA,hN,jt,hB,ly,h6,h7,h8⟩ hV;obtain⟨A0,c0,rfl,hI,jf,tK⟩:=ly.kB;have hi:i<q.length:=by rw[<-iH,bj] at h;exact h
 have hq:iR (q.length:Int) (i:Int)=true:=pm ap;have Lc:=Q iH;have tN:¬ R g:=λh=>(h7 g h).2.1 rfl;clear iH h;have c1:w.cell? (g,1)=some (Y A0 q.length c0):=hB.cell 1;go_in;go_wp2_with (go_at_call 211;refine (rR w g nodes _ _ _ _ _ hB).mono ?_;rintro e w2 ⟨rfl,tS⟩;subst tS);go_at_call 212;refine (pV w R A0 q.length c0 i _ ly hi ap (La q)).mono ?_;rintro e w2 ⟨rfl,ig,kI⟩;have mJ:=kI.blk hB tN;have f1:=mJ.frozen 1;have c2:w2.cell? (g,1)=some (Y A0 q.length c0):=mJ.cell 1;go_wp2;go_ret;obtain⟨a,b⟩:=Cj I Lc.out OA hN jt hB h6 h7 h8 hi (Grow.refl w) ig kI;exact⟨rfl,a.wide (λ_ => .inl),b⟩
def Lf(nodes:Int)(l:List Lb)(f t:Int):Int:=if iR nodes f=false then 23 else if iR nodes t=false then 23 else if 64<=l.length then 24 else 0
def Lg(nodes:Int)(l:List Lb)(a:Lb):List Lb:=if Lf nodes l a.1 a.2.1=0 then l++[a] else l
theorem Q2(w:G)(aek:aV)(g:Nat)(nodes:Int)(l:List Lb)(P:aO)(f t:Int)(A:aU)(m c:Nat)(bs:aT)(XP:OM w aek A m bs)(xR:m<=c)(jg:c<=dL)(tR:m<=1048576):j9 N 213 #[g,aZ #[J f,J t,Y A m c]] (λe=>e=b5 (J (Lf nodes l f t))) (fm g nodes l P) (fm g nodes (Lg nodes l (f,t,bs)) P) w:=by
 unfold Lg Lf;cases hf:iR nodes f with
 | false=>simp only[if_true];exact YC w g nodes l P f t A m c hf
 | true=>
   cases ht:iR nodes t with
   | false=>simp only[Bool.true_eq_false,if_true,if_false];exact YD w g nodes l P f t A m c hf ht
   | true=>
     by_cases h:64<=l.length;·simp only[Bool.true_eq_false,if_false,aA h];exact M_ w g nodes l P f t A m c hf ht h
     ·simp only[Bool.true_eq_false,if_false,aB h,if_true];exact Ur w aek g nodes l P f t A m c bs XP xR jg tR hf ht ap
def Deliver_no(w:G)(g:Nat)(nodes:Int)(l:List Lb)(P:aO)(i:Int)(h:iR (l.length:Int) i=false):j9 N 209 #[g,J i] (λe=>e=b5 (a_ #[aZ aL,J 23])) (fm g nodes l P) (fm g nodes l P) w:=by
 intro V hQ hV;obtain⟨A,c,q,HQ,HL,OA,hN,jt,hB,hI,jf,jg⟩:=hQ.lts;have hq:iR (q.length:Int) i=false:=by rw[<-HL.out];exact h
 have fA:Grow w (w.alloc (.cells aL 172)):=(Below.refl (w:Nat) w).alloc (bh _) _;have nj:=eL.made w 172 aL;obtain⟨x,HX⟩:=az ((w:Nat):Nat);obtain⟨wa,HA⟩:=az (w.alloc (.cells aL 172):G);rw[<-HA.out] at fA;have sG:eL wa x 172 aL:=by rw[HA.out,HX.out];exact nj
 have f0:=sG.frozen 0;have f1:=sG.frozen 1;have f2:=sG.frozen 2;have x0:=sG.cell 0;have x1:=sG.cell 1;have x2:=sG.cell 2;have hxw:(w:Nat)<=x:=by have:=HX.out;omega
 go_in;go_wp2_with fail;rw[<-HA.out,<-HX.out];go_wp2_with (go_at_call 211;refine (rR wa g nodes _ _ _ _ _ (hB.grow fA)).mono ?_;rintro e w2 ⟨rfl,tS⟩;subst tS);have hE:=((sG.put 0 (J 0)).put 1 (J 0)).put 2 (Y none 0 0);have e0:=hE.cell 0;have e1:=hE.cell 1;have e2:=hE.cell 2;have hj:dP (λb=>b=x) wa (((wa.setCell (x,0) (J 0)).setCell (x,1) (J 0)).setCell (x,2) (Y none 0 0)):=(((dP.dR (Grow.refl wa)).put (V:=λb=>b=x) rfl 0 _).put rfl 1 _).put rfl 2 _
 have ku:Grow w (((wa.setCell (x,0) (J 0)).setCell (x,1) (J 0)).setCell (x,2) (Y none 0 0)):=Below.trans fA (hj.below (B:=(w:Nat)) (λb hb=>by rw[hb];exact hxw) fA.size);refine bodyPost_ret (v := a_ #[aZ aL,J 23]) (by simp[results,Tryz.results209,go_sem,e0,e1,e2]) rfl ⟨rfl,fm.wide (fm.framed _ _ _ _ w _ V hQ λb hb=>ku.block b (hV b hb)) (λ_ => .inl),dP.dR ku⟩
def Taken(g:Nat)(nodes:Int)(l:List Lb)(P:aO)(bs:aT)(i:Option dG×Nat×Nat):ei:=λw V=>fm g nodes l P w V∧OM w V i.1 i.2.1 bs∧i.2.1<=i.2.2∧i.2.2<=dL
theorem Taken.framed(g:Nat)(nodes:Int)(l:List Lb)(P:aO)(bs:aT)(i:Option dG×Nat×Nat):eQ (Taken g nodes l P bs i):=λw O V h K=>
 ⟨fm.framed g nodes l P w O V h.1 K,In.keep h.2.1 λb hb _=>K b hb,h.2.2⟩
def Q3{l:List Lb}{q:List Lt}(iH:q.map Lt.abs=l)(hN:1<=nodes∧nodes<=8)(jt:∀a∈l,InN nodes a)(hi:i<q.length):∃(fa ta:Nat)(hl:i<l.length),q[i].f=(fa:Int)∧q[i].t=(ta:Int)∧fa<8∧ta<8∧l[i]=((fa:Int),(ta:Int),q[i].bs):=by
 subst iH;have hl:i<(q.map Lt.abs).length:=by rw[bj];exact hi
 have h0:=jt _ (bD hl);rw[dt] at h0;obtain⟨⟨a1,a2⟩,⟨a3,a4⟩⟩:=h0;have a1:0<=q[i].f:=a1;have a2:q[i].f<nodes:=a2;have a3:0<=q[i].t:=a3;have a4:q[i].t<nodes:=a4;refine⟨q[i].f.toNat,q[i].t.toNat,hl,by omega,by omega,by omega,by omega,?_⟩;rw[dt];unfold Lt.abs;rw[show ((q[i].f.toNat:Nat):Int)=q[i].f by omega,show ((q[i].t.toNat:Nat):Int)=q[i].t by omega]
def FC(w:G)(g:Nat)(nodes:Int)(l:List Lb)(P:aO)(i:Nat)(h:i<l.length)(tO:P (l[i].1.toNat*8+l[i].2.1.toNat)=true):j9 N 209 #[g,J i] (λe=>e=b5 (a_ #[aZ aL,J 26])) (fm g nodes l P) (fm g nodes l P) w:=by
 intro V hQ hV;have OY:=hQ;obtain⟨I,v,q,R,D,iH,OA,hN,jt,hB,ly,h6,h7,h8⟩:=hQ;obtain⟨A,c,rfl,hI,jf,jg⟩:=ly.kB;have hi:i<q.length:=by rw[<-iH,bj] at h;exact h
 have hq:iR (q.length:Int) (i:Int)=true:=pm ap;obtain⟨fa,ta,_,ef,et,OW,hta,hab⟩:=Q3 (g:=g) (P:=P) iH hN jt hi;rw[hab] at tO;have hp:P (fa*8+ta)=true:=by simpa using tO
 obtain⟨ad,hiq,rfl,_,_,e0,e12⟩:=hI.ni ap vF hi;have l8:=h6 _ (bD hiq);have e0:=e0 _ rfl;have e1:=e12 0 _ rfl;have e2:=e12 1 _ rfl;clear e12 hab tO iH;rw[ef] at e0;rw[et] at e1;have xQ:OM w D q[i].A q[i].m q[i].bs:=l8.bs;have N0:=l8.le;have Us:=l8.max;clear ef et l8;generalize q[i].bs=bs at xQ;generalize q[i].A=Ab at xQ e2;generalize q[i].m=mb at xQ e2 N0;generalize q[i].c=cb at e2 N0 Us;have fA:Grow w (w.alloc (.cells aL 172)):=(Below.refl (w:Nat) w).alloc (bh _) _;have nj:=eL.made w 172 aL;obtain⟨x,HX⟩:=az ((w:Nat):Nat);obtain⟨wa,HA⟩:=az (w.alloc (.cells aL 172):G);have WN:(wa:Nat)=x+1:=by rw[HA.out,HX.out];simp
 have fa8:¬ (8:Int)<=(fa:Int):=by omega
 have ta8:¬ (8:Int)<=(ta:Int):=by omega
 rw[<-HA.out] at fA;have sG:eL wa x 172 aL:=by rw[HA.out,HX.out];exact nj
 have hxw:(w:Nat)<=x:=by have:=HX.out;omega
 have nI:Grow wa (wa.alloc (.cells #[J fa,J ta,Y Ab mb cb] 172)):=(Below.refl _ _).alloc (bh _) _;have Q4:=eL.made wa 172 #[J fa,J ta,Y Ab mb cb];obtain⟨y,HY⟩:=az ((wa:Nat):Nat);obtain⟨wb,YE⟩:=az (wa.alloc (.cells #[J fa,J ta,Y Ab mb cb] 172):G);rw[<-YE.out] at nI;have iN:eL wb y 172 #[J fa,J ta,Y Ab mb cb]:=by rw[YE.out,HY.out];exact Q4
 have YF:=sG.grow nI;have N1:=fA.trans nI;have vf:=hB.grow N1;have ON:=(fA.cell (p:=ad.add (i*3)) (by rw[block_add];assumption)).trans e0;have Xd:=(fA.cell (p:=⟨(ad.add (i*3)).block,(ad.add (i*3)).off+1,none⟩) (show (ad.add (i*3)).block<_ by rw[block_add];assumption)).trans e1;have ce2:=(fA.cell (p:=⟨(ad.add (i*3)).block,(ad.add (i*3)).off+2,none⟩) (show (ad.add (i*3)).block<_ by rw[block_add];assumption)).trans e2;have c1:wa.cell? (g,1)=some (Y (some ad) q.length c):=(hB.grow fA).cell 1;clear nj Q4 e0 e1 e2;go_in;go_wp2_with fail;rw[<-HA.out,<-HX.out];go_wp2_with (go_at_call 211;refine (rR wa g nodes _ _ _ _ _ (hB.grow fA)).mono ?_;rintro e w2 ⟨rfl,tS⟩;subst tS);have OX:x+1=y:=by rw[HY.out,WN]
 rw[OX,<-YE.out];clear ON Xd ce2 c1 OX WN;have c0:=λw1(H:Grow _ w1)=>(iN.grow H).cell 0;have c1:=λw1(H:Grow _ w1)=>(iN.grow H).cell 1;have c2:=λw1(H:Grow _ w1)=>(show w1.cell? ⟨g,2+fa*8+ta,none⟩=some (aY true) by have c:=(vf.grow H).cell (2+fa*8+ta);rw[Nat.add_assoc,PX _ _ _ ap,hp] at c;rw[<-Nat.add_assoc] at c;exact c);refine fv ?_;intro w1 H;clear c0 c1 c2;have EK:=YF.grow H;have f0:=EK.frozen 0;have f1:=EK.frozen 1;have f2:=EK.frozen 2;have x0:=EK.cell 0;have x1:=EK.cell 1;have x2:=EK.cell 2;go_wp2_with fail;have hE:=((EK.put 0 (J 0)).put 1 (J 0)).put 2 (Y none 0 0);have e0:=hE.cell 0;have e1:=hE.cell 1;have e2:=hE.cell 2;have hj:dP (λb=>b=x) w1 (((w1.setCell (x,0) (J 0)).setCell (x,1) (J 0)).setCell (x,2) (Y none 0 0)):=(((dP.dR (Grow.refl w1)).put (V:=λb=>b=x) rfl 0 _).put rfl 1 _).put rfl 2 _
 have ku:Grow w (((w1.setCell (x,0) (J 0)).setCell (x,1) (J 0)).setCell (x,2) (Y none 0 0)):=Below.trans (N1.trans H) (hj.below (B:=(w:Nat)) (λb hb=>by rw[hb];exact hxw) (N1.trans H).size);refine bodyPost_ret (v := a_ #[aZ aL,J 26]) (by simp[results,Tryz.results209,go_sem,e0,e1,e2]) rfl ⟨rfl,fm.wide (fm.framed _ _ _ _ w _ V OY λb hb=>ku.block b (hV b hb)) (λ_ => .inl),dP.dR ku⟩
def FD(w:G)(g:Nat)(nodes:Int)(l:List Lb)(P:aO)(i:Nat)(h:i<l.length)(tO:P (l[i].1.toNat*8+l[i].2.1.toNat)=false):∀V:aV,fm g nodes l P w V->(∀b,V b->b<(w:Nat))->dF N 209 #[g,J i] w λe O=>∃j:Option dG×Nat×Nat,e=b5 (a_ #[aZ #[J l[i].1,J l[i].2.1,Y j.1 j.2.1 j.2.2],()])∧Taken g nodes (minus l i) P l[i].2.2 j O (ju V w O)∧dP V w O:=by
 intro V hQ hV;obtain⟨I,v,q,R,D,iH,OA,hN,jt,hB,ly,h6,h7,h8⟩:=hQ;obtain⟨A,c,rfl,hI,jf,jg⟩:=ly.kB;have hi:i<q.length:=by rw[<-iH,bj] at h;exact h
 have hq:iR (q.length:Int) (i:Int)=true:=pm ap;obtain⟨fa,ta,_,ef,et,OW,hta,hab⟩:=Q3 (g:=g) (P:=P) iH hN jt hi;rw[hab] at tO ⊢;have hp:P (fa*8+ta)=false:=by simpa using tO
 have tN:¬ R g:=λh=>(h7 g h).2.1 rfl;obtain⟨ad,hiq,rfl,_,_,e0,e12⟩:=hI.ni ap vF hi;have l8:=h6 _ (bD hiq);have e0:=e0 _ rfl;have e1:=e12 0 _ rfl;have e2:=e12 1 _ rfl;have Lc:=Q iH;clear e12 hab tO iH;rw[ef] at e0;rw[et] at e1;have xQ:OM w D q[i].A q[i].m q[i].bs:=l8.bs;have N0:=l8.le;have Us:=l8.max;clear ef et l8;generalize q[i].bs=bs at xQ ⊢;generalize q[i].A=Ab at xQ e2;generalize q[i].m=mb at xQ e2 N0;generalize q[i].c=cb at e2 N0 Us;have fA:Grow w (w.alloc (.cells aL 172)):=(Below.refl (w:Nat) w).alloc (bh _) _;have nj:=eL.made w 172 aL;obtain⟨x,HX⟩:=az ((w:Nat):Nat);obtain⟨wa,HA⟩:=az (w.alloc (.cells aL 172):G);have WN:(wa:Nat)=x+1:=by rw[HA.out,HX.out];simp
 have fa8:¬ (8:Int)<=(fa:Int):=by omega
 have ta8:¬ (8:Int)<=(ta:Int):=by omega
 rw[<-HA.out] at fA;have sG:eL wa x 172 aL:=by rw[HA.out,HX.out];exact nj
 have hxw:(w:Nat)<=x:=by have:=HX.out;omega
 have nI:Grow wa (wa.alloc (.cells #[J fa,J ta,Y Ab mb cb] 172)):=(Below.refl _ _).alloc (bh _) _;have Q4:=eL.made wa 172 #[J fa,J ta,Y Ab mb cb];obtain⟨y,HY⟩:=az ((wa:Nat):Nat);obtain⟨wb,YE⟩:=az (wa.alloc (.cells #[J fa,J ta,Y Ab mb cb] 172):G);rw[<-YE.out] at nI;have iN:eL wb y 172 #[J fa,J ta,Y Ab mb cb]:=by rw[YE.out,HY.out];exact Q4
 have YF:=sG.grow nI;have N1:=fA.trans nI;have vf:=hB.grow N1;have ON:=(fA.cell (p:=ad.add (i*3)) (by rw[block_add];assumption)).trans e0;have Xd:=(fA.cell (p:=⟨(ad.add (i*3)).block,(ad.add (i*3)).off+1,none⟩) (show (ad.add (i*3)).block<_ by rw[block_add];assumption)).trans e1;have ce2:=(fA.cell (p:=⟨(ad.add (i*3)).block,(ad.add (i*3)).off+2,none⟩) (show (ad.add (i*3)).block<_ by rw[block_add];assumption)).trans e2;have c1:wa.cell? (g,1)=some (Y (some ad) q.length c):=(hB.grow fA).cell 1;clear nj Q4 e0 e1 e2;go_in;go_wp2_with fail;rw[<-HA.out,<-HX.out];go_wp2_with (go_at_call 211;refine (rR wa g nodes _ _ _ _ _ (hB.grow fA)).mono ?_;rintro e w2 ⟨rfl,tS⟩;subst tS);have OX:x+1=y:=by rw[HY.out,WN]
 rw[OX,<-YE.out];have hyw:(w:Nat)<=y:=by omega
 clear ON Xd ce2 c1 OX WN;have c0:=λw1(H:Grow _ w1)=>(iN.grow H).cell 0;have c1:=λw1(H:Grow _ w1)=>(iN.grow H).cell 1;have c2:=λw1(H:Grow _ w1)=>(show w1.cell? ⟨g,2+fa*8+ta,none⟩=some (aY false) by have c:=(vf.grow H).cell (2+fa*8+ta);rw[Nat.add_assoc,PX _ _ _ ap,hp] at c;rw[<-Nat.add_assoc] at c;exact c);refine fv ?_;intro w1 H;clear c0 c1 c2;have eO:=N1.trans H;have lb:=hB.grow eO;have c1:w1.cell? (g,1)=some (Y (some ad) q.length c):=lb.cell 1;go_wp2_with fail;refine (pV w1 R (some ad) q.length c i _ (ly.grow eO) hi ap (La q)).mono ?_;rintro e w2 ⟨rfl,ig,kI⟩;have mJ:=kI.blk lb tN;have f1:=mJ.frozen 1;have c2:w2.cell? (g,1)=some (Y (some ad) q.length c):=mJ.cell 1;obtain⟨hN3,XR⟩:=Cj I Lc.out OA hN jt lb (λb hb=>(h6 b hb).grow eO) h7 h8 hi eO ig kI;have Mp:=mh w2 g 1 (Y (some ad) (q.length-1) c);have a2r:OM (w2.setCell (g,1) (Y (some ad) (q.length-1) c)) D Ab mb bs:=In.just (In.just (In.grow xQ eO) kI λb hb hr=>(h7 b hr).2.2 hb) Mp λb hb e=>(h8 b hb).2 e;have xS:g≠x:=by have:=hB.lt;omega
 have hgy:g≠y:=by have:=hB.lt;omega
 have hxR:¬ R x:=λh=>by have:=hV x (h7 x h).1;omega
 have hyR:¬ R y:=λh=>by have:=hV y (h7 y h).1;omega
 have Ib:=(kI.blk (YF.grow H) hxR).far (p:=(g,1)) xS.symm (Y (some ad) (q.length-1) c);have YG:=(kI.blk (iN.grow H) hyR).far (p:=(g,1)) hgy.symm (Y (some ad) (q.length-1) c);have OC:=gV w2 (g,1) (Y (some ad) (q.length-1) c);obtain⟨w3,HW3⟩:=az (w2.setCell (g,1) (Y (some ad) (q.length-1) c):G);have y0:=YG.cell 0;have y1:=YG.cell 1;have y2:=YG.cell 2;have x0:=Ib.cell 0;have x1:=Ib.cell 1;have x2:=Ib.cell 2;have f30:=Ib.frozen 0;have f31:=Ib.frozen 1;have f32:=Ib.frozen 2;go_wp2_with fail;rw[<-HW3.out] at hN3 XR a2r Ib OC ⊢;have hE:=((Ib.put 0 (J fa)).put 1 (J ta)).put 2 (Y Ab mb cb);have e0:=hE.cell 0;have e1:=hE.cell 1;have e2:=hE.cell 2;have hj:dP (λb=>b=x) w3 (((w3.setCell (x,0) (J fa)).setCell (x,1) (J ta)).setCell (x,2) (Y Ab mb cb)):=(((dP.dR (Grow.refl w3)).put (V:=λb=>b=x) rfl 0 _).put rfl 1 _).put rfl 2 _
 have jo:((((w3.setCell (x,0) (J fa)).setCell (x,1) (J ta)).setCell (x,2) (Y Ab mb cb))).heap.size=(w3:Nat):=by rw[gV,gV,gV]
 refine bodyPost_ret (v := a_ #[aZ #[J fa,J ta,Y Ab mb cb],()]) (by simp[results,Tryz.results209,go_sem,e0,e1,e2]) rfl ⟨(Ab,mb,cb),rfl,⟨?_,?_,N0,Us⟩,?_⟩
 ·refine fm.wide (fm.framed _ _ _ _ w3 _ V hN3 λb hb=>hj.block b ?_ λh=>?_) λ_ => .inl
  ·have:=hV b hb;have:=XR.size;omega
  ·have:=hV b hb;rw[show b=x from h] at this;omega
 ·refine In.mono (V:=D) (In.just a2r hj λb hb h=>?_) λb hb => .inl (h8 b hb).1
  have:=hV b (h8 b hb).1;rw[show b=x from h] at this;omega
 ·exact⟨hj.os.trans XR.os,hj.tape.trans XR.tape,hj.output.trans XR.output,bA XR.size hj.size,λk K hv=>(hj.block k (bu K XR.size) (λh=>by rw[show k=x from h] at K;omega)).trans (XR.block k K hv)⟩
end Go.Proofs.YtpeepcmdehhbgaaGreatDoor.Ne
namespace Go.Proofs.YtpeepcmdehhbgaaGreatDoor.aev
open RowKit Hop
abbrev Lb:=ByteArray×ByteArray
def mU(d:Lb):List E:=[aX d.1,aX d.2]
def gW(l:List Lb):List E:=l.flatMap mU
def po(d:Lb):(mU d).length=2:=rfl
def yW(l:List Lb):∀u∈gW l,u.oneCell'=true:=by intro u hu;unfold gW at hu;obtain⟨d,_,hd⟩:=List.mem_flatMap.1 hu;simp only[mU,b_,bW,or_false] at hd;rcases hd with rfl|rfl<;>rfl
def pX(l:List Lb):(gW l).length=l.length*2:=jL mU 2 po l
def Jf:(Tryz.prog.info? 66).map (λi=>(i.zero,i.size,i.bytes))=some (some (aZ #[.string .empty,.string .empty]),2,32):=by kernel_rfl
def Q5:Elem N 67 66 2 32 (aZ #[.string .empty,.string .empty]):=⟨Tryz.underlying67,info_parts Jf,rfl,by decide,by decide⟩
def Q6:(Tryz.prog.info? 9).map (λi=>(i.zero,i.size,i.bytes))=some (some (.string .empty),1,16):=by kernel_rfl
def a6W:Elem N 59 9 1 16 (.string .empty):=⟨Tryz.underlying59,info_parts Q6,rfl,by decide,by decide⟩
def Jg(l:List ByteArray):∀u∈l.map Value.string,u.oneCell'=true:=by intro u hu;obtain⟨x,_,rfl⟩:=List.mem_map.1 hu;rfl
def Jh{q:List Lb}(h:In w V 2 A n (gW q))(K:k<n):∃(ad:dG)(hq:k<q.length),A=some ad∧(∀w1,Grow w w1->w1.cell? (ad.add (k*2))=some (aX q[k].1))∧∀w1,Grow w w1->w1.cell? ⟨(ad.add (k*2)).block,(ad.add (k*2)).off+1,none⟩=some (aX q[k].2):=by obtain⟨ad,hq,e,_,hb,e0,e12⟩:=In.ni (cells:=mU) h ap po K;exact⟨ad,hq,e,λw1 H=>(H.cell (by rw[block_add];exact hb)).trans (e0 _ rfl),λw1 H=>(H.cell (p:=⟨(ad.add (k*2)).block,(ad.add (k*2)).off+1,none⟩) (show (ad.add (k*2)).block<_ by rw[block_add];exact hb)).trans (e12 0 _ rfl)⟩
def YH{q:List ByteArray}(h:In w V 1 A n (q.map Value.string))(K:k<n):∃(ad:dG)(hq:k<q.length),A=some ad∧∀w1,Grow w w1->w1.cell? (ad.add k)=some (aX q[k]):=by
 obtain⟨ad,e,_,hb,hc⟩:=h.2 ap;have hl:=h.1;simp only[bj,cO] at hl;have hq:k<q.length:=by omega
 exact⟨ad,hq,e,λw1 H=>(H.cell (by rw[block_add];exact hb)).trans (hc k _ (by rw[List.getElem?_map,List.getElem?_eq_getElem hq];rfl))⟩
def LIn.len{l:List Lb}(h:In w V 2 A n (gW l)):l.length=n:=by have:=h.1;rw[pX] at this;omega
def slt(a b:aR):Bool:=Op.bytesLess a.toList b.toList
def tj(a b:aR):slt a b=decide (a.data.toList<b.data.toList):=by unfold slt;rw[bytesLess_eq,Lib.toList_data,Lib.toList_data]
def j_(a:aR):slt a a=false:=by rw[tj];exact aD (List.lt_irrefl _)
def tn(h:slt a b=true)(k:slt b c=true):slt a c=true:=by rw[tj] at *;exact aC (List.lt_trans (of_decide_eq_true h) (of_decide_eq_true k))
def pY(h:slt a b=false)(k:slt b a=false):a=b:=by rw[tj] at *;have I:=of_decide_eq_false h;have Z:=of_decide_eq_false k;have e:a.data.toList=b.data.toList:=List.le_antisymm (List.not_lt.1 Z) (List.not_lt.1 I);exact ByteArray.ext (Array.toList_inj.1 e)
theorem yX(h:slt a b=true):slt b a=false:=by
 cases hb:slt b a with
 | false=>rfl
 | true=>have:=tn h hb;rw[j_] at this;cases this
theorem Lh{x y z:aR}(h:slt x y=false)(k:slt y z=false):slt x z=false:=by
 cases hz:slt x z with
 | false=>rfl
 | true=>
   cases TJ:slt z y with
   | true=>rw[tn hz TJ] at h;cases h
   | false=>have e:=pY k TJ;rw[e,hz] at h;cases h
def Ji:a.toList=b.toList↔a=b:=by rw[Lib.toList_data,Lib.toList_data];exact⟨λe=>ByteArray.ext (Array.toList_inj.1 e),λe=>by rw[e]⟩
def DG(a b:aR):Int:=if slt a b then -1 else if slt b a then 1 else 0
theorem YI(a b:aR):(!(Op.bytesLess a.toList b.toList||a.toList == b.toList))=slt b a:=by
 cases I:slt a b with
 | true=>
   have Z:=yX I;unfold slt at I;rw[I,Z];rfl
 | false=>
   have OZ:=I;unfold slt at OZ;rw[OZ,Bool.false_or];cases Z:slt b a with
   | false=>
     have:=pY I Z;subst this;simp
   | true=>
     have kr:a.toList≠b.toList:=λe=>by have:=Ji.1 e;rw[this,j_] at Z;cases Z
     simp[kr]
def vG(w:G)(a:aR):dF N 193 #[aX a] w λe O=>e=b5 (aY false)∧w=O:=by go_in;go_wp2;go_ret;exact⟨by simp,rfl⟩
theorem FE(w:G)(a b:aR):dF N 132 #[aX a,aX b] w λe O=>e=b5 (J (DG a b))∧w=O:=by
 have H:=YI a b;unfold DG;cases I:slt a b with
 | true=>
   rw[aA rfl];unfold slt at I;go_in;go_wp2_with (go_at_call 193;refine (vG _ _).mono ?_;rintro e O ⟨rfl,rfl⟩);go_ret;exact⟨rfl,rfl⟩
 | false=>
   rw[aB (by simp)];unfold slt at I;cases Z:slt b a with
   | true=>
     rw[aA rfl];rw[Z] at H;go_in;go_wp2_with (go_at_call 193;refine (vG _ _).mono ?_;rintro e O ⟨rfl,rfl⟩);all_goals first|(go_ret;exact⟨rfl,rfl⟩)|simp_all
   | false=>
     rw[aB (by simp)];rw[Z] at H;go_in;go_wp2_with (go_at_call 193;refine (vG _ _).mono ?_;rintro e O ⟨rfl,rfl⟩);all_goals first|(go_ret;exact⟨rfl,rfl⟩)|simp_all
def N2(c:Nat):Bool:=(decide (97<=c)&&decide (c<=122))||(decide (48<=c)&&decide (c<=57))||decide (c=95)
def YJ(c:Nat):N2 c=true↔(97<=c∧c<=122)∨(48<=c∧c<=57)∨c=95:=by unfold N2;simp only[Bool.or_eq_true,bP,decide_eq_true_eq];omega
def YK(s:aR):Bool:=s.data.toList.all λc=>N2 c.toNat
def mV(s:aR):Bool:=decide (1<=s.size)&&decide (s.size<=32)&&YK s
def Q7(K:k<s.size)(h:(s.data.toList.take k).all (λc=>N2 c.toNat)=true)(hc:N2 s[k].toNat=true):(s.data.toList.take (k+1)).all (λc=>N2 c.toNat)=true:=by
 have hl:k<s.data.toList.length:=by simpa using K
 rw[br hl,List.all_append,h,Bool.true_and];simp only[List.all_cons,List.all_nil,Bool.and_true];exact hc
def YL(K:k<s.size)(hc:N2 s[k].toNat=false):YK s=false:=by
 have hl:k<s.data.toList.length:=by simpa using K
 refine List.all_eq_false.2 ⟨s.data.toList[k],bD hl,?_⟩;have:s.data.toList[k]=s[k]:=by rw[Array.getElem_toList];rfl
 rw[this,hc];simp
def Ut(K:k<s.size)(hc:N2 s[k].toNat=false):mV s=false:=by unfold mV;rw[YL K hc,Bool.and_false]
def Q8(c:UInt8):0<=(c.toNat:Int)∧(c.toNat:Int)<=255:=by have:=c.toNat_lt;omega
def FG(w:G)(s:aR)(hs:s.size<=dL):dF N 264 #[aX s] w λe O=>e=b5 (aY (mV s))∧w=O:=by
 unfold dL at hs;by_cases h0:s.size=0
 ·have he:mV s=false:=by unfold mV;rw[aD ap,Bool.false_and,Bool.false_and]
  rw[he];have hee:(s == (⟨#[]⟩:ByteArray))=true:=by have:s=⟨#[]⟩:=ByteArray.ext (Array.eq_empty_of_size_eq_zero h0);rw[this];rfl
  obtain rfl:s=⟨#[]⟩:=ByteArray.ext (Array.eq_empty_of_size_eq_zero h0);clear h0 hee he;go_in;go_wp2;go_ret;exact⟨rfl,rfl⟩
 ·have kr:s.toList=[]↔False:=by
   constructor
   ·intro h
    have Z:s.data.toList=[]:=by rw[<-Lib.toList_data];exact h
    have:s.size=0:=by show s.data.size=0;rw[<-ch,Z];rfl
    exact h0 this
   ·exact False.elim
  have hne2:s.toList.isEmpty=false:=by
   cases h:s.toList with
   | nil=>exact (kr.1 h).elim
   | cons _ _=>rfl
  clear kr
  by_cases h32:s.size<=32
  ·have hd:decide ((32:Int)<(s.size:Int))=false:=aD ap
   go_in
   go_wp2
   go_loop [14] (λi=>∃k:Nat,k<=s.size∧i=J k∧(s.data.toList.take k).all (λc=>N2 c.toNat)=true) (λi=>s.size-(intOf i).toNat)
   case atStart=>exact⟨0,bo _,rfl,rfl⟩
   case round=>
    obtain⟨k,K,rfl,l9⟩:=hrel
    have HA:=Q l9
    clear l9
    by_cases fM:k<s.size
    ·have a0G:decide ((k:Int)<(s.size:Int))=true:=aC ap
     have hb:=Q8 s[k]
     have HY:Hid (N2 s[k].toNat=true->(s.data.toList.take (k+1)).all (λc=>N2 c.toNat)=true):=Q λh=>Q7 fM HA.out h
     have HN:Hid (N2 s[k].toNat=false->mV s=false):=Q λh=>Ut fM h
     have HI:Hid (N2 s[k].toNat=true↔_):=Q (YJ s[k].toNat)
     go_wp2
     all_goals first
      | (go_ret;exact⟨ky (HN.out (by rw[Bool.eq_false_iff,ne_eq,HI.out];(try simp only[bne_iff_ne,ne_eq,bne_eq_false_iff_eq] at *);omega)).symm,rfl⟩)
      | (go_round
         case rel=>exact⟨k+1,by omega,by go_num,HY.out (HI.out.2 (by (try simp only[bne_iff_ne,ne_eq,bne_eq_false_iff_eq] at *);omega))⟩
         case measure=>simp[intOf];omega)
    ·obtain rfl:k=s.size:=by omega
     have a0G:decide ((s.size:Int)<(s.size:Int))=false:=aD ap
     have ht:mV s=true:=by have:=HA.out;rw[bH (by simp)] at this;unfold mV YK;rw[this,aC ap,aC ap];rfl
     have HT:=Q ht
     clear ht
     go_wp2
     go_ret
     exact⟨ky HT.out.symm,rfl⟩
  ·have hd:decide ((32:Int)<(s.size:Int))=true:=aC ap
   have he:mV s=false:=by unfold mV;rw[aD h32,Bool.and_false,Bool.false_and]
   rw[he]
   clear he
   go_in
   go_wp2
   go_ret
   exact⟨rfl,rfl⟩
def FH(h:Int)(c:UInt8):Int:=IntKind.u64.wrap (bits .xor .u64 h (c.toNat:Int)*1099511628211)
def kN(l:aT):Int:=l.foldl FH 14695981039346656037
def Ck(l:aT):0<=kN l∧kN l<=18446744073709551615:=by
 unfold kN;rcases List.eq_nil_or_concat l with rfl|⟨r,c,rfl⟩
 ·exact⟨by decide,by decide⟩
 ·rw[List.concat_eq_append,List.foldl_append]
  show 0<=FH _ c∧FH _ c<=_;unfold FH;rw[wrap_u64];omega
def FI(K:k<s.size):kN (s.data.toList.take (k+1))=FH (kN (s.data.toList.take k)) s[k]:=by
 have hl:k<s.data.toList.length:=by simpa using K
 unfold kN;rw[br hl,List.foldl_append];rfl
def yY(n:Int):Int:=max 1 (min n 4)
def Q9(n:Int):∃m:Int,1<=m∧m<=4∧yY n=m:=⟨yY n,by unfold yY;omega,by unfold yY;omega,rfl⟩
def mN(s:aR)(n:Int):Int:=kN s.data.toList % yY n
def N3(w:G)(s:aR)(hs:s.size<=dL):dF N 333 #[aX s] w λe O=>e=b5 (ae ah (kN s.data.toList))∧w=O:=by
 unfold dL at hs;go_in;go_wp2;go_loop [3,7] (λh i=>∃k:Nat,k<=s.size∧i=J k∧h=ae ah (kN (s.data.toList.take k))) (λ_ i=>s.size-(intOf i).toNat);case atStart=>exact⟨0,bo _,rfl,rfl⟩
 case round=>
  obtain⟨k,K,rfl,rfl⟩:=hrel;have hp:=Ck (s.data.toList.take k);by_cases fM:k<s.size
  ·have a0G:decide ((k:Int)<(s.size:Int))=true:=aC ap
   have hb:=Q8 s[k];have HS:=Q (FI fM);have hcw:IntKind.u64.wrap (s[k].toNat:Int)=(s[k].toNat:Int):=by rw[wrap_u64];omega
   go_wp2;go_round;case rel=>exact⟨k+1,by omega,by go_num,by rw[HS.out];rfl⟩
   case measure=>simp[intOf];omega
  ·obtain rfl:k=s.size:=by omega
   have a0G:decide ((s.size:Int)<(s.size:Int))=false:=aD ap;go_wp2;go_ret;exact⟨by rw[bH (by simp)];rfl,rfl⟩
def N4(w:G)(s:aR)(n:Int)(hs:s.size<=dL)(hn:-9223372036854775808<=n∧n<=9223372036854775807):dF N 280 #[aX s,J n] w λe O=>e=b5 (J (mN s n))∧w=O:=by
 obtain⟨m,I,h4,hm⟩:=Q9 n;have hp:=Ck s.data.toList;have T8:∀ts t w,(Builtin.min_ ts t #[J n,J 4]).run N w=.ok (J (min n 4)) w:=λts t w=>by rw[run_min_int2];congr 2;split<;>omega
 have Db:∀ts t w,(Builtin.max_ ts t #[J 1,J (min n 4)]).run N w=.ok (J m) w:=λts t w=>by rw[run_max_int2,<-hm];congr 2;unfold yY;split<;>omega
 have hmw:IntKind.u64.wrap m=m:=by rw[wrap_u64];omega
 have tK:¬ m=0:=by omega
 have HM:=Q hm;clear hm;have q0:=Int.emod_nonneg (kN s.data.toList) (b:=m) ap;have q1:=Int.emod_lt_of_pos (kN s.data.toList) (b:=m) ap;have hrem:(kN s.data.toList).tmod m=kN s.data.toList % m:=Int.tmod_eq_emod_of_nonneg hp.1;have hwi:IntKind.i64.wrap (kN s.data.toList % m)=kN s.data.toList % m:=by rw[IntKind.wrap_i64];omega
 go_in;go_wp2_with (go_at_call 333;refine (N3 _ _ hs).mono ?_;rintro e O ⟨rfl,rfl⟩);go_ret;exact⟨by unfold mN;rw[HM.out];rfl,rfl⟩
end Go.Proofs.YtpeepcmdehhbgaaGreatDoor.aev
namespace Go.Proofs.YtpeepcmdehhbgaaGreatDoor.aeu
open RowKit Hop
def Qa(w:G)(g:Nat)(F:Int)(M:Nat)(n:Int)(h:eL w g 328 #[J F,ae ah M]):dF N 233 #[g,J n] w λe O=>e=b5 (ae ah ((n-F-1) % 18446744073709551616))∧w=O:=by have c0:=h.cell 0;go_in;go_wp2;go_ret;exact⟨nh (by rw[wrap_u64,wrap_u64,wrap_u64,wrap_u64];omega),rfl⟩
def Uu(w:G)(g:Nat)(F:Int)(M:Nat)(n:Int)(h:eL w g 328 #[J F,ae ah M])(hF:-9223372036854775808<=F∧F<=9223372036854775807)(hn:-9223372036854775808<=n∧n<=9223372036854775807):dF N 177 #[g,J n] w λe O=>e=b5 (aY (far F n))∧w=O:=by
 have c0:=h.cell 0;by_cases fM:F<n
 ·go_in
  go_wp2_with (go_at_call 233;refine (Qa _ g F M n h).mono ?_;rintro e w1 ⟨rfl,rfl⟩);go_ret;refine⟨ky ?_,rfl⟩;unfold far;rw[Bool.eq_iff_iff];simp only[bP,decide_eq_true_eq];omega
 ·go_in
  go_wp2;go_ret;exact⟨ky (by unfold far;rw[aD ap];rfl),rfl⟩
def Xe(w:G)(g:Nat)(F:Int)(M:Nat)(n:Int)(d:Nat)(h:eL w g 328 #[J F,ae ah M])(hd:n-F-1=(d:Int))(fM:d<64):dF N 233 #[g,J n] w λe O=>e=b5 (ae ah d)∧w=O:=
 (Qa w g F M n h).mono λe O ⟨he,hw⟩=>⟨by rw[he];exact nh ap,hw⟩
def tp(w:G)(g:Nat)(F:Int)(M:Nat)(n:Int)(b:Bool)(h:eL w g 328 #[J F,ae ah M])(hF:-9223372036854775808<=F∧F<=9223372036854775807)(hn:-9223372036854775808<=n∧n<=9223372036854775807)(hb:far F n=b):dF N 177 #[g,J n] w λe O=>e=b5 (aY b)∧w=O:=hb▸Uu w g F M n h hF hn
def Qb(w:G)(g:Nat)(F:Int)(M:Nat)(n:Int)(h:eL w g 328 #[J F,ae ah M])(ng:n<=F):dF N 175 #[g,J n] w λe O=>e=b5 (aY true)∧Grow w O:=by go_in;go_wp2_with fail;have c0:=λw1(H:Grow _ w1)=>(h.grow H).cell 0;refine fv ?_;intro w1 H;clear c0;go_wp2;go_ret;exact⟨rfl,H⟩
def Uv(M d:Nat):((M:Int) / (2:Int) ^ d)=((M >>> d:Nat):Int):=by rw[Nat.shiftRight_eq_div_pow];push_cast;rfl
def and_one(x:Nat)(X:x<18446744073709551616):bits .and .u64 (x:Int) 1=((x % 2:Nat):Int):=by have h:=u64_and_nat x 1 X ap;rw[Nat.and_one_is_mod] at h;exact h
def Uw(M d:Nat):(((M >>> d % 2:Nat):Int) == 1)=M.testBit d:=by rw[Nat.testBit_eq_decide_div_mod_eq,Nat.shiftRight_eq_div_pow,Bool.eq_iff_iff];simp only[beq_iff_eq,decide_eq_true_eq];omega
def Qc(w:G)(g:Nat)(F:Int)(M:Nat)(n:Int)(h:eL w g 328 #[J F,ae ah M])(hF:-9223372036854775808<=F∧F<=9223372036854775807)(hn:-9223372036854775808<=n∧n<=9223372036854775807)(ng:F<n)(hf:far F n=true):dF N 175 #[g,J n] w λe O=>e=b5 (aY false)∧Grow w O:=by have hnl:decide (n<=F)=false:=aD ap;have FF:=Q hf;clear hf;go_in;go_wp2_with fail;have c0:=λw1(H:Grow _ w1)=>(h.grow H).cell 0;have c1:=λw1(H:Grow _ w1)=>rP (tp w1 g F M n true (h.grow H) hF hn FF.out);refine fv ?_;intro w1 H;clear c0 c1;go_wp2;go_ret;exact⟨rfl,H⟩
def Li(w:G)(g:Nat)(F:Int)(M:Nat)(n:Int)(d:Nat)(h:eL w g 328 #[J F,ae ah M])(hM:M<18446744073709551616)(hF:-9223372036854775808<=F∧F<=9223372036854775807)(hn:-9223372036854775808<=n∧n<=9223372036854775807)(hd:n-F-1=(d:Int))(fM:d<64):dF N 175 #[g,J n] w λe O=>e=b5 (aY (M.testBit d))∧Grow w O:=by
 have hnl:decide (n<=F)=false:=aD ap;have hnf:far F n=false:=by unfold far;rw[Bool.and_eq_false_iff];exact .inr (aD ap)
 have FF:=Q hnf;have HD:=Q hd;clear hnf hd;go_in;go_wp2_with fail;have c0:=λw1(H:Grow _ w1)=>(h.grow H).cell 0;have c1:=λw1(H:Grow _ w1)=>rP (tp w1 g F M n false (h.grow H) hF hn FF.out);have c2:=λw1(H:Grow _ w1)=>(h.grow H).cell 1;have c3:=λw1(H:Grow _ w1)=>rP (Xe w1 g F M n d (h.grow H) HD.out fM);refine fv ?_;intro w1 H;clear c0 c1 c2 c3;go_wp2;go_ret;exact⟨ky (by rw[Uv,and_one _ (Nat.lt_of_le_of_lt (Nat.shiftRight_le M d) hM),Uw]),H⟩
def YM(M d:Nat)(hM:M<18446744073709551616)(hd:d<64):bits .or .u64 (M:Int) (((2 ^ d:Nat):Nat):Int)=((M ||| 2 ^ d:Nat):Int):=u64_or_nat M (2 ^ d) hM (bu (Nat.pow_lt_pow_right ap hd) am)
def Qd(d:Nat)(hd:d<64):IntKind.u64.wrap ((2:Int) ^ d)=((2 ^ d:Nat):Int):=by
 have h:((2:Int) ^ d)=((2 ^ d:Nat):Int):=by push_cast;rfl
 have Z:2 ^ d<2 ^ 64:=Nat.pow_lt_pow_right ap hd;rw[wrap_u64,h];clear h;generalize 2 ^ d=p at Z ⊢;omega
def YN(x:Nat)(X:x<18446744073709551616)(h:x % 2=1):(bits .and .u64 (x:Int) 1 == 1)=true:=by rw[and_one x X,h];rfl
def Ux(x:Nat)(X:x<18446744073709551616)(h:¬ x % 2=1):(bits .and .u64 (x:Int) 1 == 1)=false:=by rw[and_one x X,show x % 2=0 by omega];rfl
def Qe{F:Int}{M:Nat}(h:∀i,M.testBit i=true->F+1+(i:Int)<=9223372036854775807):∀i,(M / 2).testBit i=true->F+1+1+(i:Int)<=9223372036854775807:=λi hi=>by have:=h (i+1) (by rw[Nat.testBit_succ];exact hi);omega
def Uy(w:G)(g:Nat)(F:Int)(M:Nat)(n:Int)(d:Nat)(h:eL w g 328 #[J F,ae ah M])(hI:kC F M)(hn:n<=9223372036854775807)(hd:n-F-1=(d:Int))(fM:d<64)(hb:M.testBit d=false):dF N 237 #[g,J n] w λe O=>e=b5 (aY true)∧eL O g 328 #[J (put F M n).1,ae ah ((put F M n).2:Int)]∧fX g w O:=by
 have k233:∀(vs:aP)(w:G),(callFunc 233 vs).run N w=.ok (.enter 233 vs) w:=λvs w=>by go_simp
 have hF:-9223372036854775808<=F∧F<=9223372036854775807:=⟨by have:=hI.lo;omega,hI.hi⟩;have hn':-9223372036854775808<=n∧n<=9223372036854775807:=⟨by have:=hI.lo;omega,hn⟩;have hnf:far F n=false:=by unfold far;rw[Bool.and_eq_false_iff];exact .inr (aD ap)
 have c1:=Q (tp w g F M n false h hF hn' hnf);have c2:=Q (Li w g F M n d h hI.mask hF hn' hd fM);have HD:=Q hd;have hM:=hI.mask;clear hnf hd;rw[hb] at c2;obtain⟨x,HX⟩:=az (2 ^ d:Nat);obtain⟨y,HY⟩:=az (M ||| x:Nat);have DI:y<2 ^ 64:=by rw[HY.out,HX.out];exact Nat.or_lt_two_pow hM (Nat.pow_lt_pow_right ap fM)
 have Qf:∀i,y.testBit i=true->F+1+(i:Int)<=9223372036854775807:=by
  intro i hi;rw[HY.out,Nat.testBit_or,Bool.or_eq_true] at hi;rcases hi with hi|hi
  ·exact hI.top i hi
  ·rw[HX.out,Nat.testBit_two_pow] at hi
   have:d=i:=by simpa using hi
   have:=HD.out;omega
 have a2t:=Q Qf;clear Qf;go_in;go_wp2_with (first
  | (go_at_call 177;refine (c1.out).mono ?_;rintro e w1 ⟨rfl,rfl⟩)
  | (go_at_call 175;refine (c2.out).mono ?_;rintro e w1 ⟨rfl,gN⟩;have lb:=h.grow gN))
 have c0:=λw1(H:Grow _ w1)=>(lb.grow H).cell 1;have c1:=λw1(H:Grow _ w1)=>Xe w1 g F M n d (lb.grow H) HD.out fM;have e1:IntKind.u64.wrap (2 ^ d)=(x:Int):=by rw[HX.out];exact Qd d fM
 have e2:bits .or .u64 (M:Int) (x:Int)=(y:Int):=by rw[HY.out,HX.out];exact YM M d hM fM
 refine kA 11 λw1 H=>?_;clear c0 c1 e1 e2;have mJ:=lb.grow H;have cc:=mJ.cell 1;have cf:=mJ.frozen 1;have qM:fX g w _:=(fX.dR (gN.trans H)).put 1 (ae ah y);have I9:=mJ.put 1 (ae ah y);go_wp2_with fail;go_loopg [] 64 (λk wr=>∃(F':Int)(M':Nat),k<=64∧M'<2 ^ k∧strip 64 F y=strip k F' M'∧0<=F'∧(∀i,M'.testBit i=true->F'+1+(i:Int)<=9223372036854775807)∧eL wr g 328 #[J F',ae ah M']∧fX g w wr);case atStart=>exact⟨F,y,by omega,DI,rfl,hI.lo,a2t.out,I9,qM⟩
 case round=>
  obtain⟨F',M',K,XS,hs,h0,a4D,hB,hO⟩:=hrel;have HS:=Q hs;have HT:=Q a4D;clear hs a4D;have b0:=hB.cell 0;have b1:=hB.cell 1;have f0:=hB.frozen 0;have f1:=hB.frozen 1;have a2u:M'<18446744073709551616:=bu XS (Nat.pow_le_pow_right ap K);by_cases KJ:M' % 2=1
  ·have ho:=YN M' a2u KJ
   have hf0:F'+1<=9223372036854775807:=by have:=HT.out 0 (by rw[Nat.testBit_zero];simpa using KJ);omega
   have hgk:0<gk:=by
    rcases cn gk with e|e
    ·rw[e] at XS;simp at XS;omega
    ·exact e
   have HO:=Q KJ;clear KJ;go_wp2_with fail;go_roundg (gk-1);case measure=>omega
   case rel=>
    have a2b:2 ^ gk=2*2 ^ (gk-1):=by rw[<-Nat.pow_succ'];congr 1;omega
    refine⟨F'+1,M' / 2,by omega,by omega,?_,by omega,Qe HT.out,?_,(hO.put 0 _).put 1 _⟩
    ·rw[HS.out,show gk=(gk-1)+1 by omega]
     show (if M' % 2=1 then strip (gk-1) (F'+1) (M' / 2) else (F',M'))=_;rw[aA HO.out];rfl
    ·have:=(hB.put 0 (J (F'+1))).put 1 (ae ah ((M':Int) / 2))
     simpa using this
  ·have ho:=Ux M' a2u KJ
   have tJ:strip gk F' M'=(F',M'):=by
    cases gk with
    | zero=>rfl
    | succ k=>show (if M' % 2=1 then _ else _)=_;rw[aB KJ]
   have a6X:=Q tJ;clear tJ KJ;go_wp2;go_ret;have EL:put F M n=(F',M'):=by unfold put;rw[HD.out,cG,<-HX.out,<-HY.out,HS.out,a6X.out]
   rw[EL];exact⟨rfl,hB,hO⟩
def Uz(w:G)(g:Nat)(F:Int)(M:Nat)(n:Int)(h:eL w g 328 #[J F,ae ah M])(hF:-9223372036854775808<=F∧F<=9223372036854775807)(hn:-9223372036854775808<=n∧n<=9223372036854775807)(hf:far F n=true):dF N 237 #[g,J n] w λe O=>e=b5 (aY false)∧Grow w O:=by have c1:=Q (tp w g F M n true h hF hn hf);clear hf;go_in;go_wp2_with (go_at_call 177;refine (c1.out).mono ?_;rintro e w1 ⟨rfl,rfl⟩);go_ret;exact⟨rfl,Grow.refl _⟩
def Qg(w:G)(g:Nat)(F:Int)(M:Nat)(n:Int)(h:eL w g 328 #[J F,ae ah M])(hF:-9223372036854775808<=F∧F<=9223372036854775807)(hn:-9223372036854775808<=n∧n<=9223372036854775807)(hf:far F n=false)
 (hs:∀w,eL w g 328 #[J F,ae ah M]->dF N 175 #[g,J n] w λe O=>e=b5 (aY true)∧Grow w O):dF N 237 #[g,J n] w λe O=>e=b5 (aY false)∧Grow w O:=by
 have c1:=Q (tp w g F M n false h hF hn hf);have c2:=Q (hs w h);clear hf hs;go_in;go_wp2_with (first
  | (go_at_call 177;refine (c1.out).mono ?_;rintro e w1 ⟨rfl,rfl⟩)
  | (go_at_call 175;refine (c2.out).mono ?_;rintro e w1 ⟨rfl,gN⟩))
 go_ret;exact⟨rfl,gN⟩
def pu(w:G)(g:Nat)(F:Int)(M:Nat)(n:Int)(h:eL w g 328 #[J F,ae ah M])(hI:kC F M)(hn:-9223372036854775808<=n∧n<=9223372036854775807):dF N 175 #[g,J n] w λe O=>e=b5 (aY (seen F M n))∧Grow w O:=by
 have hF:-9223372036854775808<=F∧F<=9223372036854775807:=⟨by have:=hI.lo;omega,hI.hi⟩;by_cases ng:n<=F
 ·have e:seen F M n=true:=by unfold seen;rw[aC ng];rfl
  rw[e];exact Qb w g F M n h ng
 ·cases hf:far F n with
  | true=>
    have e:seen F M n=false:=by unfold seen;rw[aD ng,hf];rfl
    rw[e];exact Qc w g F M n h hF hn ap hf
  | false=>
    have hd:n-F-1<64:=by unfold far at hf;simp only[Bool.and_eq_false_iff,decide_eq_false_iff_not] at hf;omega
    have e:seen F M n=M.testBit (n-F-1).toNat:=by unfold seen;rw[aD ng,hf];rfl
    rw[e];exact Li w g F M n _ h hI.mask hF hn ap ap
theorem Lj(w:G)(g:Nat)(F:Int)(M:Nat)(n:Int)(h:eL w g 328 #[J F,ae ah M])(hI:kC F M)(hn:-9223372036854775808<=n∧n<=9223372036854775807):dF N 237 #[g,J n] w λe O=>e=b5 (aY (MN F M n))∧eL O g 328 #[J (iJ F M n).1,ae ah ((iJ F M n).2:Int)]∧fX g w O:=by
 have hF:-9223372036854775808<=F∧F<=9223372036854775807:=⟨by have:=hI.lo;omega,hI.hi⟩;cases hb:MN F M n with
 | true=>
   obtain⟨I,Z,T⟩:=yL hb;have e:iJ F M n=put F M n:=by unfold iJ;rw[aA hb]
   rw[e];exact Uy w g F M n _ h hI hn.2 ap ap T
 | false=>
   have e:iJ F M n=(F,M):=by unfold iJ;rw[aB (by rw[hb];exact cj)]
   rw[e];cases hf:far F n with
   | true=>exact (Uz w g F M n h hF hn hf).mono λ_ _ ⟨he,H⟩=>⟨he,h.grow H,fX.dR H⟩
   | false=>
     have hs:seen F M n=true:=by unfold MN at hb;rw[hf] at hb;simpa using hb
     exact (Qg w g F M n h hF hn hf (λw1 yk=>hs▸pu w1 g F M n yk hI hn)).mono λ_ _ ⟨he,H⟩=>⟨he,h.grow H,fX.dR H⟩
def UA(w:G):dF N 232 #[] w λe O=>e=b5 ((((w:Nat),0):E))∧eL O (w:Nat) 328 #[(),ae ah ((0:Nat):Int)]∧Grow w O:=by go_in;go_wp2;go_ret;exact⟨rfl,eL.made w 328 _,(Below.refl _ w).alloc (bh _) _⟩
end Go.Proofs.YtpeepcmdehhbgaaGreatDoor.aeu
namespace Go.Proofs.YtpeepcmdehhbgaaGreatDoor.Vc
open RowKit Hop V
def ul(w:G)(B:Nat)(A:aU)(n c:Nat)(l:aT)(hb:Bytes w B A n l)(HB0:B<=(w:Nat))(jf:n<=c)(T7:c<=dL):dF N 196 #[Y A n c] w λe O=>∃(t:aT)(k:Nat),qy l t k∧e=b5 (a_ #[aX ⟨t.toArray⟩,J k])∧Grow w O:=by
 have fp:=hb.len;unfold dL at T7;go_in;go_wp2_with fail;go_at_call 134;refine (rQ w B A n c l hb (by unfold dL;omega)).mono ?_;rintro e w1 ⟨v,k,hG,rfl,rfl⟩;obtain⟨hv,a4E,I2⟩:=hG.lt;by_cases K:k<=0
 ·go_wp2_with fail
  go_ret2;exact⟨[],0,qy.none (λt ht hp=>by
   rcases hG with ⟨_,_,T⟩|⟨I,_,_⟩
   ·have:=od v;omega
   ·exact I _ ht ((cM _ _).trans hp)),rfl,Grow.refl _⟩
 ·have hE:enc v <+: l∧k=(enc v).length:=by
   rcases hG with ⟨_,Z,T⟩|⟨_,_,T⟩
   ·exact⟨Z,T⟩
   ·omega
  obtain⟨hE,hkE⟩:=hE
  have HKE:=Q hkE
  clear hkE
  have i7:(n:Int)-(k:Int)<(v:Int)∨(v:Int)<=(n:Int)-(k:Int):=by omega
  have hwn:IntKind.u64.wrap ((n:Int)-(k:Int))=(n:Int)-(k:Int):=by rw[wrap_u64];omega
  have hw64:wrap64 ((n:Int)-(k:Int))=(n:Int)-(k:Int):=by unfold wrap64;omega
  have hkb:((k:Int) == 0)=false:=by rw[beq_eq_false_iff_ne];omega
  by_cases Bg:(n:Int)-(k:Int)<(v:Int)
  ·clear i7
   go_wp2
   go_ret2
   exact⟨[],0,qy.none (λt ht hp=>by have I:=kK hE ((cM _ _).trans hp);have Z:=hp.length_le;rw[bd,<-I,<-HKE.out] at Z;omega),rfl,Grow.refl _⟩
  ·clear i7
   have hvn':(v:Int)<=(n:Int)-(k:Int):=by omega
   have hwv:IntKind.i64.wrap (v:Int)=(v:Int):=by rw[IntKind.wrap_i64];omega
   have W:=(Reads.cut hb (k:=k) (cap:=c) ap jf).take (k:=v) ap
   rw[cO] at W
   have B7:Bytes w B (if c=k then A else A.map (·.add k)) v ((l.drop k).take v):=by unfold Bytes;rw[yO,q_,cO k];exact W
   have hkv:(k:Int)+(v:Int)<=(c:Int):=by omega
   have tJ:=PE hv hE HKE.out (show v<=l.length-k by omega)
   by_cases oY:c=k
   ·rw[aA oY] at B7
    obtain rfl:k=c:=oY.symm
    obtain rfl:v=0:=by omega
    have B7:Bytes w B A 0 []:=B7
    have cv:=λc'=>yP w (c:=c') B7
    go_wp2
    go_ret2
    exact⟨_,_,tJ,by push_cast;rfl,Grow.refl _⟩
   ·rw[aB oY] at B7
    have cv:=λc'=>yP w (c:=c') B7
    go_wp2
    go_ret2
    exact⟨_,_,tJ,by push_cast;rfl,Grow.refl _⟩
end Go.Proofs.YtpeepcmdehhbgaaGreatDoor.Vc
namespace Go.Proofs.YtpeepcmdehhbgaaGreatDoor
open RowKit Hop V
def km(r B:Nat)(l:aT)(w:G):Prop:=B<=r∧∃(A:aU)(n c:Nat),eL w r 237 #[Y A n c,aY false]∧Bytes w B A n l∧n<=c∧c<=dL
theorem km.grow{r B:Nat}{l:aT}{w O:G}(h:km r B l w)(H:Grow w O):km r B l O:=by obtain⟨I,A,n,c,Z,T,h4⟩:=h;have:=Z.lt;exact⟨I,A,n,c,Z.grow H,T.below (H.mono ap),h4⟩
theorem km.lt{r B:Nat}{l:aT}{w:G}(h:km r B l w):r<(w:Nat):=by obtain⟨I,A,n,c,Z,T,h4⟩:=h;exact Z.lt
def YO(m:Nat)(t:aT)(hm:m<18446744073709551616):i_ (enc m++t) m (enc m).length := .inl ⟨hm,cM _ _,rfl⟩
def YP(s t:aT)(hs:s.length<18446744073709551616):qy (enc s.length++s++t) s ((enc s.length).length+s.length) := .inl ⟨hs,cM _ _,rfl⟩
def Cl{c:Nat}(h:Bytes w B A n (l++t))(jf:n<=c)(hl:0<l.length):Bytes w B (if c=l.length then A else A.map (·.add l.length)) (n-l.length) t∧l.length<=n:=by have hn:=h.len;rw[bd] at hn;have I:=Reads.cut (size:=1) (cap:=c) h (k:=l.length) ap jf;rw[cO,<-cO l.length,<-q_,cO,List.drop_left' rfl] at I;exact⟨I,by omega⟩
def re(w:G)(A:aU)(n c:Nat)(l:aT)(h:Bytes w (w:Nat) A n l)(jf:n<=c)(jg:c<=dL):dF N 77 #[Y A n c] w λe O=>∃r,e=b5 (((r:Nat):E))∧km r (w:Nat) l O∧Grow w O:=by go_in;go_wp2;go_ret;refine⟨_,rfl,⟨bh _,A,n,c,eL.made w _ _,h.alloc (bh _) _,jf,jg⟩,(Below.refl _ w).alloc (bh _) _⟩
def pv(w:G)(r B:Nat)(h:km r B [] w):dF N 80 #[r] w λe O=>e=b5 (aY true)∧w=O:=by obtain⟨hB,A,n,c,hK,hb,jf,jg⟩:=h;obtain rfl:0=n:=hb.len;have c0:=hK.cell 0;have c1:=hK.cell 1;go_in;go_wp2;go_ret;exact⟨rfl,rfl⟩
def kW(w:G)(r B m:Nat)(t:aT)(hm:m<18446744073709551616)(h:km r B (enc m++t) w):dF N 141 #[r] w λe O=>e=b5 (ae ah m)∧km r B t O∧fX r w O:=by
 obtain⟨hB,A,n,c,hK,hb,jf,jg⟩:=h;have hp:=od m;obtain⟨hc,ng⟩:=Cl hb jf hp;have hG:=rQ w B A n c _ hb ap;have c0:=hK.cell 0;have c1:=hK.cell 1;have f0:=hK.frozen 0;obtain⟨k,HK⟩:=az ((enc m).length);rw[<-HK.out] at hc ng hp;go_in;go_wp2_with fail;refine hG.mono ?_;rintro e w1 ⟨v,k',hv,rfl,rfl⟩;obtain⟨rfl,qL⟩:=hv.one (YO m t hm);rw[<-HK.out] at qL;subst qL;by_cases oY:c=k'
 ·rw[aA oY] at hc
  go_wp2;go_ret;exact⟨rfl,⟨hB,_,_,_,hK.put 0 _,hc.setCell (p:=(r,0)) hB _,by omega,by omega⟩,(fX.refl r w).put 0 _⟩
 ·rw[aB oY] at hc
  go_wp2;go_ret;exact⟨rfl,⟨hB,_,_,_,hK.put 0 _,hc.setCell (p:=(r,0)) hB _,by omega,by omega⟩,(fX.refl r w).put 0 _⟩
def rh(w:G)(r B m:Nat)(t:aT)(hm:m<=9223372036854775807)(h:km r B (enc m++t) w):dF N 139 #[r] w λe O=>e=b5 (J m)∧km r B t O∧fX r w O:=by
 have hN:=kW w r B m t ap h;have OV:decide ((m:Int) > 9223372036854775807)=false:=aD ap;have hw:IntKind.i64.wrap (m:Int)=(m:Int):=by rw[IntKind.wrap_i64];omega
 go_in;go_wp2_with fail;refine hN.mono ?_;rintro e w1 ⟨rfl,I,ho⟩;go_wp2;go_ret;exact⟨rfl,I,ho⟩
def tq(w:G)(r B m most:Nat)(t:aT)(hm:m<=most)(TK:most<=9223372036854775807)(h:km r B (enc m++t) w):dF N 140 #[r,J most] w λe O=>e=b5 (J m)∧km r B t O∧fX r w O:=by have hN:=rh w r B m t ap h;go_in;go_wp2_with fail;refine hN.mono ?_;rintro e w1 ⟨rfl,I,ho⟩;go_wp2;go_ret;exact⟨rfl,I,ho⟩
def N5(w:G)(r B:Nat)(s t:aT)(hs:s.length<18446744073709551616)(h:km r B (enc s.length++s++t) w):dF N 138 #[r] w λe O=>e=b5 (aX ⟨s.toArray⟩)∧km r B t O∧fX r w O:=by
 obtain⟨hB,A,n,c,hK,hb,jf,jg⟩:=h;have hp:=od s.length;have hl:(enc s.length++s).length=(enc s.length).length+s.length:=bd;obtain⟨hc,ng⟩:=Cl hb jf ap;have hG:=Vc.ul w B A n c _ hb (by have:=hK.lt;omega) jf jg;have c0:=hK.cell 0;obtain⟨k,HK⟩:=az ((enc s.length).length+s.length);rw[hl,<-HK.out] at hc ng;have Mq:1<=k:=by have:=HK.out;omega
 go_in;go_wp2_with fail;refine hG.mono ?_;rintro e w1 ⟨v,k',hv,rfl,H⟩;obtain⟨rfl,qL⟩:=hv.one (YP s t hs);rw[<-HK.out] at qL;subst qL;have hK1:=hK.grow H;have lx:=hc.below (H.mono (by have:=hK.lt;omega));clear c0;have c0:=hK1.cell 0;have c1:=hK1.cell 1;have f0:=hK1.frozen 0;by_cases oY:c=k'
 ·rw[aA oY] at lx
  go_wp2;go_ret;exact⟨rfl,⟨hB,_,_,_,hK1.put 0 _,lx.setCell (p:=(r,0)) hB _,by omega,by omega⟩,(fX.dR H).put 0 _⟩
 ·rw[aB oY] at lx
  go_wp2;go_ret;exact⟨rfl,⟨hB,_,_,_,hK1.put 0 _,lx.setCell (p:=(r,0)) hB _,by omega,by omega⟩,(fX.dR H).put 0 _⟩
def yZ:Nat->List UInt8->Option (Nat×List UInt8)
 | 0,_=>none
 | _+1,[]=>none
 | f+1,b::l=>if b.toNat<128 then some (b.toNat,l) else match yZ f l with
   | none=>none
   | some (n,t)=>if n=0 then none else some (n*128+(b.toNat-128),t)
def DJ(l:aT):Option (Nat×List UInt8):=match yZ 10 l with
 | none=>none
 | some (n,t)=>if n<18446744073709551616 then some (n,t) else none
def DK(l:aT):Option (List UInt8×List UInt8):=match DJ l with
 | none=>none
 | some (n,t)=>if n<=t.length then some (t.take n,t.drop n) else none
theorem FJ:∀(f n:Nat)(t:aT),(enc n).length<=f->yZ f (enc n++t)=some (n,t)
 | 0,n,t,h=>by have:=od n;omega
 | f+1,n,t,h=>by
   by_cases hn:n<128
   ·rw[jx hn]
    show yZ (f+1) (UInt8.ofNat n::t)=_;unfold yZ;rw[oK ap,aA hn]
   ·rw[my ap] at h ⊢
    have ih:=FJ f (n / 128) t (by simpa using h);show yZ (f+1) (UInt8.ofNat (n % 128+128)::(enc (n / 128)++t))=_;unfold yZ;rw[oK ap,aB ap,ih];dsimp only;rw[aB ap,show n / 128*128+(n % 128+128-128)=n by omega]
theorem Cm:∀(f:Nat)(l:aT)(n:Nat)(t:aT),yZ f l=some (n,t)->l=enc n++t
 | 0,_,_,_,h=>by cases h
 | _+1,[],_,_,h=>by cases h
 | f+1,b::l,n,t,h=>by
   unfold yZ at h;split at h
   ·rename_i hb
    injection h with h;injection h with I Z;subst I Z;rw[jx hb,UInt8.ofNat_toNat];rfl
   ·rename_i hb
    cases H:yZ f l with
    | none=>rw[H] at h;cases h
    | some p=>
      obtain⟨m,t'⟩:=p;rw[H] at h;dsimp only at h;split at h;·cases h
      ·rename_i hm
       simp only[Option.some.injEq,Prod.mk.injEq] at h;obtain⟨rfl,rfl⟩:=h;have ih:=Cm f l m t' H;have nu:=b.toNat_lt;rw[my ap,show (m*128+(b.toNat-128)) / 128=m by omega,show (m*128+(b.toNat-128)) % 128+128=b.toNat by omega,UInt8.ofNat_toNat,ih];rfl
def y_(t:aT)(h:n<18446744073709551616):DJ (enc n++t)=some (n,t):=by unfold DJ;rw[FJ 10 n t (eG h)];exact aA h
theorem rS(h:DJ l=some (n,t)):n<18446744073709551616∧l=enc n++t:=by
 unfold DJ at h;cases H:yZ 10 l with
 | none=>rw[H] at h;cases h
 | some p=>
   obtain⟨m,t'⟩:=p;rw[H] at h;dsimp only at h;split at h
   ·rename_i hm
    injection h with h;injection h with I Z;subst I Z;exact⟨hm,Cm 10 l m t' H⟩
   ·cases h
def UC(h:i_ l n k):DJ l=if k=0 then none else some (n,l.drop k):=by
 rcases h with ⟨I,⟨t,rfl⟩,rfl⟩|⟨I,rfl,rfl⟩
 ·rw[y_ t I,aB (by have:=od n;omega),List.drop_left' rfl]
 ·rw[aA rfl]
  cases H:DJ l with
  | none=>rfl
  | some p=>exact absurd ⟨p.2,(rS H).2.symm⟩ (I p.1 (rS H).1)
def FK{s:aT}(t:aT)(h:s.length<18446744073709551616):DK (enc s.length++s++t)=some (s,t):=by unfold DK;rw[bp,y_ _ h];show (if s.length<=(s++t).length then some ((s++t).take s.length,(s++t).drop s.length) else none)=_;rw[aA (by simp),List.take_left' rfl,List.drop_left' rfl]
theorem vH{s:aT}(h:DK l=some (s,t)):s.length<18446744073709551616∧l=enc s.length++s++t:=by
 unfold DK at h;cases H:DJ l with
 | none=>rw[H] at h;cases h
 | some p=>
   obtain⟨n,t'⟩:=p;rw[H] at h;dsimp only at h;split at h
   ·rename_i hn
    injection h with h;injection h with I Z;subst I Z;obtain⟨g1,g2⟩:=rS H;rw[List.length_take_of_le hn];exact⟨g1,by rw[g2,bp,dA]⟩
   ·cases h
def UD(h:qy l t k):DK l=if k=0 then none else some (t,l.drop k):=by
 rcases h with ⟨I,⟨r,rfl⟩,rfl⟩|⟨I,rfl,rfl⟩
 ·rw[FK r I,aB (by have:=od t.length;omega),List.drop_left' (by simp)]
 ·rw[aA rfl]
  cases H:DK l with
  | none=>rfl
  | some p=>exact absurd ⟨p.2,(vH H).2.symm⟩ (I p.1 (vH H).1)
abbrev RS:=Option (List UInt8)
def lz(s:RS):Nat×RS:=match s with
 | none=>(0,none)
 | some l=>match DJ l with
   | none=>(0,none)
   | some (n,t)=>(n,some t)
def gI(s:RS):Nat×RS:=if (lz s).1<=9223372036854775807 then lz s else (0,none)
def gE(m:Nat)(s:RS):Nat×RS:=if (gI s).1<=m then gI s else (0,none)
def gG(s:RS):List UInt8×RS:=match s with
 | none=>([],none)
 | some l=>match DK l with
   | none=>([],none)
   | some (x,t)=>(x,some t)
def og(s:RS):Nat×RS:=match s with
 | some (b::t)=>(b.toNat,some t)
 | _=>(0,none)
def z6(t:aT)(h:n<18446744073709551616):lz (some (enc n++t))=(n,some t):=by unfold lz;dsimp only;rw[y_ t h]
def j5(t:aT)(h:n<=9223372036854775807):gI (some (enc n++t))=(n,some t):=by unfold gI;rw[z6 t ap];exact aA h
def jj(t:aT)(h:n<=9223372036854775807)(hm:n<=m):gE m (some (enc n++t))=(n,some t):=by unfold gE;rw[j5 t h];exact aA hm
def vI{s:aT}(t:aT)(h:s.length<18446744073709551616):gG (some (enc s.length++s++t))=(s,some t):=by unfold gG;dsimp only;rw[FK t h]
def z7(s:RS):(lz s).1<=18446744073709551615:=by
 unfold lz;split;·exact bo _
 ·split
  ·exact bo _
  ·rename_i h
   exact Nat.le_of_lt_succ (rS h).1
def Jj(s:RS):(gI s).1<=9223372036854775807:=by
 unfold gI;split;·assumption
 ·exact bo _
def DL(m:Nat)(s:RS):(gE m s).1<=m:=by
 unfold gE;split;·assumption
 ·exact bo _
def kX(r B aet:Nat)(s:RS)(w:G):Prop:=B<=r∧∃(A:aU)(n c:Nat)(l:aT)(b:Bool),l.length<=aet∧eL w r 237 #[Y A n c,aY b]∧Bytes w B A n l∧(n<=c∧c<=dL)∧s=if b=true then none else some l
theorem kX.grow{r B aet:Nat}{s:RS}{w O:G}(h:kX r B aet s w)(H:Grow w O):kX r B aet s O:=by obtain⟨I,A,n,c,l,b,h0,Z,T,h4⟩:=h;have:=Z.lt;exact⟨I,A,n,c,l,b,h0,Z.grow H,T.below (H.mono ap),h4⟩
theorem kX.lt{r B aet:Nat}{s:RS}{w:G}(h:kX r B aet s w):r<(w:Nat):=by obtain⟨I,A,n,c,l,b,h0,Z,T,h4⟩:=h;exact Z.lt
def kX.of(h:km r B l w)(hl:l.length<=aet):kX r B aet (some l) w:=by obtain⟨I,A,n,c,Z,T,h4⟩:=h;exact⟨I,A,n,c,l,false,hl,Z,T,h4,rfl⟩
def N6(h:i_ l n k):n<=18446744073709551615∧k<=l.length:=by
 rcases h with ⟨I,Z,T⟩|⟨_,Z,T⟩
 ·exact⟨by omega,by rw[T];exact Z.length_le⟩
 ·omega
def N7(h:qy l t k):t.length<=l.length∧k<=l.length:=by
 rcases h with ⟨I,Z,T⟩|⟨_,Z,T⟩
 ·have:=Z.length_le
  rw[bd] at this;omega
 ·rw[Z];simp;omega
def DN{c:Nat}(h:Bytes w B A n l)(jf:n<=c)(K:k<=n):Bytes w B (if c=k then A else A.map (·.add k)) (n-k) (l.drop k):=by have I:=Reads.cut (size:=1) (cap:=c) h (k:=k) K jf;rw[cO,<-cO k,<-q_,cO] at I;exact I
def vJ(w:G)(r B aet:Nat)(s:RS)(h:kX r B aet s w):dF N 141 #[r] w λe O=>e=b5 (ae ah ((lz s).1:Int))∧kX r B aet (lz s).2 O∧fX r w O:=by
 obtain⟨⟨m,s'⟩,hq⟩:∃q,Hid (q=lz s):=⟨_,Q rfl⟩;rw[<-hq.out];dsimp only;obtain⟨hB,A,n,c,l,b,hl,hK,hb,⟨jf,jg⟩,rfl⟩:=h;have hG:=rQ w B A n c _ hb ap;have c0:=hK.cell 0;have c1:=hK.cell 1;have f0:=hK.frozen 0;have f1:=hK.frozen 1;have hn:=hb.len;go_in;go_wp2_with fail;refine hG.mono ?_;rintro e w1 ⟨v,k,hv,rfl,rfl⟩;obtain⟨hv1,sV⟩:=N6 hv;have bad:∀O,O=w.setCell (r,1) (aY true)->kX r B aet none O∧fX r w O:=λO e=>by subst e;exact⟨⟨hB,A,n,c,l,true,hl,hK.put 1 _,hb.setCell (p:=(r,1)) hB _,⟨jf,jg⟩,rfl⟩,(fX.refl r w).put 1 _⟩
 rcases bB b with I|I
 ·subst I
  clear hv sV hG hl hn;go_wp2;go_ret;obtain⟨rfl,rfl⟩:=Prod.mk.inj hq.out;exact⟨rfl,bad _ rfl⟩
 ·subst I
  have hF:lz (some l)=if k=0 then (0,none) else (v,some (l.drop k)):=by
   unfold lz;dsimp only;rw[UC hv];by_cases K:k=0;·rw[aA K,aA K]
   ·rw[aB K,aB K]
  rw[aB cj] at hq;by_cases K:k=0
  ·subst K
   rw[aA rfl] at hF;clear hv sV hG hl hn;go_wp2;go_ret;obtain⟨rfl,rfl⟩:=Prod.mk.inj (hq.out.trans hF);exact⟨rfl,bad _ rfl⟩
  ·rw[aB K] at hF
   have dk:((k:Int) == 0)=false:=by simp;omega
   have hc:=DN hb jf (k:=k) ap;have oF:k<=n:=by omega
   clear bad hv hG K;replace hn:=Q hn;replace hl:=Q hl;by_cases oY:c=k
   ·rw[aA oY] at hc
    go_wp2;go_ret;obtain⟨rfl,rfl⟩:=Prod.mk.inj (hq.out.trans hF);exact⟨rfl,⟨hB,_,_,_,l.drop k,false,by rw[bU];have:=hl.out;omega,hK.put 0 _,hc.setCell (p:=(r,0)) hB _,⟨by omega,by omega⟩,rfl⟩,(fX.refl r w).put 0 _⟩
   ·rw[aB oY] at hc
    go_wp2;go_ret;obtain⟨rfl,rfl⟩:=Prod.mk.inj (hq.out.trans hF);exact⟨rfl,⟨hB,_,_,_,l.drop k,false,by rw[bU];have:=hl.out;omega,hK.put 0 _,hc.setCell (p:=(r,0)) hB _,⟨by omega,by omega⟩,rfl⟩,(fX.refl r w).put 0 _⟩
def kX.bad{s:RS}(h:kX r B aet s w)(e:O=w.setCell (r,1) (aY true)):kX r B aet none O:=by obtain⟨hB,A,n,c,l,b,hl,hK,hb,jf,hs⟩:=h;subst e;exact⟨hB,A,n,c,l,true,hl,hK.put 1 _,hb.setCell (p:=(r,1)) hB _,jf,rfl⟩
def kX.cells{s:RS}(h:kX r B aet s w):(∃b,w.cell? (r,1)=some (aY b))∧w.frozen? (r,1)=false:=by obtain⟨hB,A,n,c,l,b,hl,hK,hb,jf,hs⟩:=h;exact⟨⟨b,hK.cell 1⟩,hK.frozen 1⟩
def Qh(w:G)(r B aet:Nat)(s:RS)(h:kX r B aet s w):dF N 139 #[r] w λe O=>e=b5 (J ((gI s).1:Int))∧kX r B aet (gI s).2 O∧fX r w O:=by
 have hN:=vJ w r B aet s h;clear h;unfold gI;obtain⟨⟨m,s1⟩,hq⟩:∃q,q=lz s:=⟨_,rfl⟩;rw[<-hq] at hN ⊢;clear hq;dsimp only at hN ⊢;obtain⟨⟨v,s'⟩,hq⟩:∃q:Nat×RS,Hid (q=if m<=9223372036854775807 then (m,s1) else (0,none)):=⟨_,Q rfl⟩;rw[<-hq.out];dsimp only;go_in;go_wp2_with fail;refine hN.mono ?_;rintro e w1 ⟨rfl,I,ho⟩;by_cases hb:m<=9223372036854775807
 ·have a8Z:decide ((9223372036854775807:Int)<(m:Int))=false:=aD ap
  have hw:IntKind.i64.wrap (m:Int)=(m:Int):=by rw[IntKind.wrap_i64];omega
  go_wp2;go_ret;obtain⟨rfl,rfl⟩:=Prod.mk.inj (hq.out.trans (aA hb));exact⟨rfl,I,ho⟩
 ·have a8Z:decide ((9223372036854775807:Int)<(m:Int))=true:=aC ap
  obtain⟨⟨b,c1⟩,f1⟩:=I.cells;replace I:=Q I;go_wp2;go_ret;obtain⟨rfl,rfl⟩:=Prod.mk.inj (hq.out.trans (aB hb));exact⟨rfl,I.out.bad rfl,ho.put 1 _⟩
def Qi(w:G)(r B aet most:Nat)(s:RS)(h:kX r B aet s w):dF N 140 #[r,J most] w λe O=>e=b5 (J ((gE most s).1:Int))∧kX r B aet (gE most s).2 O∧fX r w O:=by
 have hN:=Qh w r B aet s h;clear h;unfold gE;obtain⟨⟨m,s1⟩,hq⟩:∃q,q=gI s:=⟨_,rfl⟩;rw[<-hq] at hN ⊢;clear hq;dsimp only at hN ⊢;obtain⟨⟨v,s'⟩,hq⟩:∃q:Nat×RS,Hid (q=if m<=most then (m,s1) else (0,none)):=⟨_,Q rfl⟩;rw[<-hq.out];dsimp only;go_in;go_wp2_with fail;refine hN.mono ?_;rintro e w1 ⟨rfl,I,ho⟩;by_cases hb:m<=most
 ·have OV:decide (most<m)=false:=aD ap
  go_wp2;go_ret;obtain⟨rfl,rfl⟩:=Prod.mk.inj (hq.out.trans (aA hb));exact⟨rfl,I,ho⟩
 ·have OV:decide (most<m)=true:=aC ap
  obtain⟨⟨b,c1⟩,f1⟩:=I.cells;replace I:=Q I;go_wp2;go_ret;obtain⟨rfl,rfl⟩:=Prod.mk.inj (hq.out.trans (aB hb));exact⟨rfl,I.out.bad rfl,ho.put 1 _⟩
def Lk(w:G)(r B aet:Nat)(s:RS)(h:kX r B aet s w):dF N 138 #[r] w λe O=>e=b5 (aX ⟨(gG s).1.toArray⟩)∧kX r B aet (gG s).2 O∧fX r w O:=by
 obtain⟨⟨m,s'⟩,hq⟩:∃q,Hid (q=gG s):=⟨_,Q rfl⟩;rw[<-hq.out];dsimp only;obtain⟨hB,A,n,c,l,b,hl,hK,hb,⟨jf,jg⟩,rfl⟩:=h;have hG:=Vc.ul w B A n c _ hb (by have:=hK.lt;omega) jf jg;have c0:=hK.cell 0;have hn:=hb.len;go_in;go_wp2_with fail;refine hG.mono ?_;rintro e w1 ⟨t,k,hv,rfl,H⟩;obtain⟨hv1,sV⟩:=N7 hv;have hb:=hb.below (H.mono (by have:=hK.lt;omega));have hK:=hK.grow H;clear c0;have c0:=hK.cell 0;have c1:=hK.cell 1;have f0:=hK.frozen 0;have f1:=hK.frozen 1;have bad:∀O,O=w1.setCell (r,1) (aY true)->kX r B aet none O∧fX r w O:=λO e=>by subst e;exact⟨⟨hB,A,n,c,l,true,hl,hK.put 1 _,hb.setCell (p:=(r,1)) hB _,⟨jf,jg⟩,rfl⟩,(fX.dR H).put 1 _⟩
 rcases bB b with I|I
 ·subst I
  clear hv hv1 sV hG hl hn;go_wp2;go_ret;obtain⟨rfl,rfl⟩:=Prod.mk.inj hq.out;exact⟨rfl,bad _ rfl⟩
 ·subst I
  have hF:gG (some l)=if k=0 then ([],none) else (t,some (l.drop k)):=by
   unfold gG;dsimp only;rw[UD hv];by_cases K:k=0;·rw[aA K,aA K]
   ·rw[aB K,aB K]
  rw[aB cj] at hq;by_cases K:k=0
  ·subst K
   rw[aA rfl] at hF;clear hv hv1 sV hG hl hn;go_wp2;go_ret;obtain⟨rfl,rfl⟩:=Prod.mk.inj (hq.out.trans hF);exact⟨rfl,bad _ rfl⟩
  ·rw[aB K] at hF
   have dk:((k:Int) == 0)=false:=by simp;omega
   have hc:=DN hb jf (k:=k) ap;have oF:k<=n:=by omega
   clear bad hv hv1 hG K;replace hn:=Q hn;replace hl:=Q hl;by_cases oY:c=k
   ·rw[aA oY] at hc
    go_wp2;go_ret;obtain⟨rfl,rfl⟩:=Prod.mk.inj (hq.out.trans hF);exact⟨rfl,⟨hB,_,_,_,l.drop k,false,by rw[bU];have:=hl.out;omega,hK.put 0 _,hc.setCell (p:=(r,0)) hB _,⟨by omega,by omega⟩,rfl⟩,(fX.dR H).put 0 _⟩
   ·rw[aB oY] at hc
    go_wp2;go_ret;obtain⟨rfl,rfl⟩:=Prod.mk.inj (hq.out.trans hF);exact⟨rfl,⟨hB,_,_,_,l.drop k,false,by rw[bU];have:=hl.out;omega,hK.put 0 _,hc.setCell (p:=(r,0)) hB _,⟨by omega,by omega⟩,rfl⟩,(fX.dR H).put 0 _⟩
def UF(w:G)(r B aet:Nat)(s:RS)(h:kX r B aet s w):dF N 79 #[r] w λe O=>e=b5 (.int .u8 ((og s).1:Int))∧kX r B aet (og s).2 O∧fX r w O:=by
 obtain⟨⟨m,s'⟩,hq⟩:∃q,Hid (q=og s):=⟨_,Q rfl⟩;rw[<-hq.out];dsimp only;obtain⟨hB,A,n,c,l,b,hl,hK,hb,⟨jf,jg⟩,rfl⟩:=h;have c0:=hK.cell 0;have c1:=hK.cell 1;have f0:=hK.frozen 0;have f1:=hK.frozen 1;have hn:=hb.len;have bad:∀O,O=w.setCell (r,1) (aY true)->kX r B aet none O∧fX r w O:=λO e=>by subst e;exact⟨⟨hB,A,n,c,l,true,hl,hK.put 1 _,hb.setCell (p:=(r,1)) hB _,⟨jf,jg⟩,rfl⟩,(fX.refl r w).put 1 _⟩
 rcases bB b with I|I
 ·subst I
  clear hl hn;go_in;go_wp2;go_ret;obtain⟨rfl,rfl⟩:=Prod.mk.inj hq.out;exact⟨rfl,bad _ rfl⟩
 ·subst I
  rw[aB cj] at hq;by_cases K:n=0
  ·have dk:((n:Int) == 0)=true:=by simp[K]
   obtain rfl:l=[]:=List.length_eq_zero_iff.1 ap;replace hn:=Q hn;replace K:=Q K;clear hl;go_in;go_wp2;go_ret;obtain⟨rfl,rfl⟩:=Prod.mk.inj hq.out;exact⟨rfl,bad _ rfl⟩
  ·have dk:((n:Int) == 0)=false:=by simp;omega
   have hc:=DN hb jf (k:=1) ap;obtain⟨ad,hl0,rfl,X⟩:=hb.at_ (k:=0) ap;rw[show ad.add 0=ad from rfl] at X;have h1n:0<n:=by omega
   have h1n':1<=n:=by omega
   have hF:og (some l)=(l[0].toNat,some (l.drop 1)):=by
    cases l with
    | nil=>exact absurd hl0 (by simp)
    | cons b0 t=>rfl
   generalize l[0]=by0 at X hF;clear bad;replace hn:=Q hn;replace hl:=Q hl;go_in;by_cases oY:c=1
   ·rw[aA oY] at hc
    subst oY;obtain rfl:n=1:=by omega
    go_wp2;go_ret;obtain⟨rfl,rfl⟩:=Prod.mk.inj (hq.out.trans hF);exact⟨rfl,⟨hB,_,_,_,l.drop 1,false,by rw[bU];have:=hl.out;omega,hK.put 0 _,hc.setCell (p:=(r,0)) hB _,⟨by omega,by omega⟩,rfl⟩,(fX.refl r w).put 0 _⟩
   ·rw[aB oY] at hc
    go_wp2;go_ret;obtain⟨rfl,rfl⟩:=Prod.mk.inj (hq.out.trans hF);exact⟨rfl,⟨hB,_,_,_,l.drop 1,false,by rw[bU];have:=hl.out;omega,hK.put 0 _,hc.setCell (p:=(r,0)) hB _,⟨by omega,by omega⟩,rfl⟩,(fX.refl r w).put 0 _⟩
def Jk(w:G)(r B aet:Nat)(s:RS)(h:kX r B aet s w):dF N 197 #[r] w λe O=>e=b5 (aY s.isNone)∧w=O:=by
 obtain⟨hB,A,n,c,l,b,hl,hK,hb,jf,hs⟩:=h;have xk:s.isNone=b:=by rw[hs];cases b<;>rfl
 rw[xk];have c1:=hK.cell 1;clear hs xk;go_in;go_wp2;go_ret;exact⟨rfl,rfl⟩
def DO(w:G)(r B aet:Nat)(s:RS)(h:kX r B aet s w):dF N 80 #[r] w λe O=>e=b5 (aY (decide (s=some [])))∧w=O:=by
 obtain⟨hB,A,n,c,l,b,hl,hK,hb,jf,hs⟩:=h;obtain⟨d,Hd⟩:=az (decide (s=some []));rw[<-Hd.out];have c0:=hK.cell 0;have c1:=hK.cell 1;have hn:=hb.len;rcases bB b with I|I
 ·subst I
  have hd:d=false:=by rw[Hd.out,hs];rfl
  subst hd;clear hs;go_in;go_wp2;go_ret;exact⟨rfl,rfl⟩
 ·subst I
  have hd:((n:Int) == 0)=d:=by
   rw[Hd.out,hs,aB cj,<-hn];cases l with
   | nil=>rfl
   | cons a t=>rw[aD (by simp),beq_eq_false_iff_ne,bC];omega
  clear hs;go_in;go_wp2;go_ret;exact⟨rfl,rfl⟩
def FL(s:RS):(og s).1<=255:=by
 unfold og;split
 ·rename_i b t
  have:=b.toNat_lt;show b.toNat<=255;omega
 ·exact bo _
def N8(w:G)(r B aet:Nat)(s:RS)(h:kX r B aet s w):dF N 141 #[r] w λe O=>∃(m:Nat)(s':RS),Hid (lz s=(m,s'))∧m<=18446744073709551615∧e=b5 (ae ah m)∧kX r B aet s' O∧fX r w O:=(vJ w r B aet s h).mono λe O ⟨I,Z,T⟩=>⟨_,_,Q rfl,z7 s,I,Z,T⟩
def nP(w:G)(r B aet:Nat)(s:RS)(h:kX r B aet s w):dF N 139 #[r] w λe O=>∃(m:Nat)(s':RS),Hid (gI s=(m,s'))∧m<=9223372036854775807∧e=b5 (J m)∧kX r B aet s' O∧fX r w O:=(Qh w r B aet s h).mono λe O ⟨I,Z,T⟩=>⟨_,_,Q rfl,Jj s,I,Z,T⟩
def mA(w:G)(r B aet most:Nat)(s:RS)(h:kX r B aet s w):dF N 140 #[r,J most] w λe O=>∃(m:Nat)(s':RS),Hid (gE most s=(m,s'))∧m<=most∧e=b5 (J m)∧kX r B aet s' O∧fX r w O:=(Qi w r B aet most s h).mono λe O ⟨I,Z,T⟩=>⟨_,_,Q rfl,DL most s,I,Z,T⟩
def Ll(w:G)(r B aet:Nat)(s:RS)(h:kX r B aet s w):dF N 79 #[r] w λe O=>∃(m:Nat)(s':RS),Hid (og s=(m,s'))∧m<=255∧e=b5 (.int .u8 m)∧kX r B aet s' O∧fX r w O:=(UF w r B aet s h).mono λe O ⟨I,Z,T⟩=>⟨_,_,Q rfl,FL s,I,Z,T⟩
end Go.Proofs.YtpeepcmdehhbgaaGreatDoor
namespace Go.Proofs.YtpeepcmdehhbgaaGreatDoor.aer
open RowKit Hop
def slt(a b:aR):Bool:=Op.bytesLess a.toList b.toList
def tj(a b:aR):slt a b=decide (a.data.toList<b.data.toList):=by unfold slt;rw[bytesLess_eq,Lib.toList_data,Lib.toList_data]
def j_(a:aR):slt a a=false:=by rw[tj];exact aD (List.lt_irrefl _)
def tn(h:slt a b=true)(k:slt b c=true):slt a c=true:=by rw[tj] at *;exact aC (List.lt_trans (of_decide_eq_true h) (of_decide_eq_true k))
def pY(h:slt a b=false)(k:slt b a=false):a=b:=by rw[tj] at *;have I:=of_decide_eq_false h;have Z:=of_decide_eq_false k;have e:a.data.toList=b.data.toList:=List.le_antisymm (List.not_lt.1 Z) (List.not_lt.1 I);exact ByteArray.ext (Array.toList_inj.1 e)
theorem yX(h:slt a b=true):slt b a=false:=by
 cases hb:slt b a with
 | false=>rfl
 | true=>have:=tn h hb;rw[j_] at this;cases this
def Ji:a.toList=b.toList↔a=b:=by rw[Lib.toList_data,Lib.toList_data];exact⟨λe=>ByteArray.ext (Array.toList_inj.1 e),λe=>by rw[e]⟩
abbrev Sm:=List Dl
def lk(q:Sm)(x:aR):Option Nat:=(q.find? λd=>decide (d.1=x)).map (·.2)
def gt(q:Sm)(x:aR):Nat:=(lk q x).getD 0
def UG(q:Sm):Prop:=q.Pairwise λa b=>slt a.1 b.1=true
def Qj(q:Sm)(x:aR):Sm:=q.takeWhile λd=>slt d.1 x
def uk(q:Sm)(x:aR):Sm:=q.dropWhile λd=>slt d.1 x
def put(q:Sm)(x:aR)(v:Nat):Sm:=if (lk q x).isSome then q.map λd=>if d.1=x then (x,v) else d else Qj q x++(x,v)::uk q x
def Qk(x:aR):lk [] x=none:=rfl
def jk(d:Dl)(q:Sm)(x:aR):lk (d::q) x=if d.1=x then some d.2 else lk q x:=by unfold lk;rw[List.find?_cons];by_cases h:d.1=x<;>simp[h]
def Cn(a b:Sm)(x:aR):lk (a++b) x=(lk a x).or (lk b x):=by unfold lk;rw[List.find?_append];cases a.find? (λd=>decide (d.1=x))<;>simp
def uw{q:Sm}{x:aR}:lk q x=none↔∀d∈q,d.1≠x:=by unfold lk;simp
def z8{q:Sm}{x:aR}(h:lk q x=some v):(x,v)∈q:=by unfold lk at h;simp only[Option.map_eq_some_iff] at h;obtain⟨d,hd,rfl⟩:=h;have I:=List.mem_of_find?_eq_some hd;have Z:=List.find?_some hd;simp only[decide_eq_true_eq] at Z;rw[<-Z];exact I
def xY(q:Sm)(x:aR):Qj q x++uk q x=q:=List.takeWhile_append_dropWhile
def Ln{q:Sm}{x:aR}:∀d∈Qj q x,slt d.1 x=true:=λd hd=>by unfold Qj at hd;exact List.all_eq_true.1 List.all_takeWhile d hd
theorem UH{q:Sm}(hs:UG q){x:aR}:∀d∈uk q x,slt d.1 x=false:=by
 induction q with
 | nil=>intro d hd;simp[uk] at hd
 | cons a q ih=>
   intro d hd;unfold uk at hd;rw[List.dropWhile_cons] at hd;have sS:=List.pairwise_cons.1 hs;split at hd;·exact ih sS.2 d hd
   ·rename_i h
    have ha:slt a.1 x=false:=by simpa using h
    rcases List.mem_cons.1 hd with rfl|hd
    ·exact ha
    ·cases hdx:slt d.1 x with
     | false=>rfl
     | true=>rw[tn (sS.1 d hd) hdx] at ha;cases ha
def DR(q:Sm)(x:aR)(v:Nat)(y:aR):lk (put q x v) y=if y=x then some v else lk q y:=by
 unfold put;split
 ·rename_i h
  have key:∀q:Sm,(lk q x).isSome=true->lk (q.map λd=>if d.1=x then (x,v) else d) y=if y=x then some v else lk q y:=by
   intro q;induction q with
   | nil=>intro h;simp[lk] at h
   | cons a q ih=>
     intro h;rw[bX,jk,jk];rw[jk] at h;by_cases ha:a.1=x
     ·rw[aA ha]
      by_cases hy:y=x;·rw[aA hy,aA hy.symm]
      ·rw[aB hy,aB (λe=>hy e.symm),aB (λe=>hy (by rw[<-e,ha]))]
       by_cases hq:(lk q x).isSome=true;·rw[ih hq,aB hy]
       ·have hn:lk q x=none:=by simpa using hq
        have:(q.map λd=>if d.1=x then (x,v) else d)=q:=by
         conv=>rhs;rw[<-List.map_id q]
         exact cP λd hd=>by rw[aB (uw.1 hn d hd)];rfl
        rw[this]
     ·rw[aB ha] at h
      rw[aB ha,ih h];by_cases hy:y=x;·rw[aA hy,aB (λe=>ha (e.trans hy)),aA hy]
      ·rw[aB hy,aB hy]
  exact key q h
 ·rename_i h
  have hn:lk q x=none:=by simpa using h
  rw[Cn,jk];by_cases hy:y=x
  ·rw[aA hy,aA hy.symm]
   have:lk (Qj q x) y=none:=uw.2 λd hd e=>by have:=Ln d hd;rw[e,hy,j_] at this;cases this
   rw[this];rfl
  ·rw[aB hy,aB (λe=>hy e.symm),<-Cn,xY]
def za(q:Sm)(x:aR)(v:Nat):(put q x v).length=if (lk q x).isSome then q.length else q.length+1:=by
 unfold put;split;·rw[bj]
 ·rw[bd,bC]
  have:=congrArg List.length (xY q x);rw[bd] at this;omega
def DT{q:Sm}(hs:UG q)(x:aR)(v:Nat):UG (put q x v):=by
 unfold put;split
 ·unfold UG
  rw[List.pairwise_map];refine List.Pairwise.imp (λ{a b}h=>?_) hs;have ea:(if a.1=x then ((x,v):Dl) else a).1=a.1:=by split<;>simp_all
  have eb:(if b.1=x then ((x,v):Dl) else b).1=b.1:=by split<;>simp_all
  rw[ea,eb];exact h
 ·rename_i h
  have hn:lk q x=none:=by simpa using h
  have B6:=hs;rw[<-xY q x] at B6;obtain⟨I,Z,T⟩:=List.pairwise_append.1 B6;refine List.pairwise_append.2 ⟨I,List.pairwise_cons.2 ⟨λd hd=>?_,Z⟩,λa ha d hd=>?_⟩
  ·cases X:slt x d.1 with
   | true=>rfl
   | false=>
     have:=pY X (UH hs d hd);exact absurd this.symm (uw.1 hn d (by rw[<-xY q x];exact List.mem_append.2 (.inr hd)))
  ·rcases List.mem_cons.1 hd with rfl|hd
   ·exact Ln a ha
   ·exact T a ha d hd
theorem Jl{q:Sm}(hs:UG q){d:Dl}(hd:d∈q):lk q d.1=some d.2:=by
 induction q with
 | nil=>cases hd
 | cons a q ih=>
   have sS:=List.pairwise_cons.1 hs;rw[jk];rcases List.mem_cons.1 hd with rfl|hd
   ·rw[aA rfl]
   ·rw[aB (λe=>by have:=sS.1 d hd;rw[e,j_] at this;cases this)]
    exact ih sS.2 hd
theorem xZ{p q:Sm}(hp:UG p)(hq:UG q)(h:∀x,lk p x=lk q x):p=q:=by
 induction p generalizing q with
 | nil=>
   cases q with
   | nil=>rfl
   | cons a q=>have:=h a.1;rw[Qk,jk,aA rfl] at this;cases this
 | cons a p ih=>
   cases q with
   | nil=>have:=h a.1;rw[Qk,jk,aA rfl] at this;cases this
   | cons b q=>
     have XJ:=List.pairwise_cons.1 hp;have O_:=List.pairwise_cons.1 hq;have e1:a.1=b.1:=by
      have ha:=h a.1;have hb:=h b.1;rw[jk,aA rfl] at ha;rw[jk b q b.1,aA rfl] at hb;have ma:=z8 ha.symm;have mb:=z8 hb;refine pY ?_ ?_
      ·cases X:slt a.1 b.1 with
       | false=>rfl
       | true=>
         rcases List.mem_cons.1 ma with e|hm
         ·rw[<-e,j_] at X;cases X
         ·have:=O_.1 _ hm
          rw[yX X] at this;cases this
      ·cases X:slt b.1 a.1 with
       | false=>rfl
       | true=>
         rcases List.mem_cons.1 mb with e|hm
         ·rw[<-e,j_] at X;cases X
         ·have:=XJ.1 _ hm
          rw[yX X] at this;cases this
     have e2:a.2=b.2:=by have ha:=h a.1;rw[jk,aA rfl,jk,aA e1.symm] at ha;injection ha
     have:a=b:=Prod.ext e1 e2;subst this;rw[ih XJ.2 O_.2 λx=>?_];have X:=h x;rw[jk,jk] at X;by_cases he:a.1=x
     ·have n1:lk p x=none:=uw.2 λd hd e=>by have:=XJ.1 d hd;rw[e,<-he,j_] at this;cases this
      have n2:lk q x=none:=uw.2 λd hd e=>by have:=O_.1 d hd;rw[e,<-he,j_] at this;cases this
      rw[n1,n2]
     ·rw[aB he,aB he] at X;exact X
end Go.Proofs.YtpeepcmdehhbgaaGreatDoor.aer
section
namespace Go.Proofs.YtpeepcmdehhbgaaGreatDoor.aev
open Go.Shelf
def Ql:Go.Shelf.Ren:=⟨λ|20=>358|n=>n,λ|24=>66|22=>67|3=>3|25=>354|4=>4|0=>0|n=>n,λ|n=>n⟩
def a6Y:Go.Proofs.SlLaysF0.n20 N Ql:={
 mixed:=by kernel_rfl
 f20:=⟨Tryz.f358.name,by decide,Tryz.func358.trans (congrArg some aw)⟩
 t0:=Tryz.underlying0
 a0:=Tryz.isAgg0
 z0:=Tryz.sizeOf0
 v0:=Tryz.zeroValue0
 t3:=dx
 a3:=Tryz.isAgg3
 z3:=Tryz.sizeOf3
 v3:=Tryz.zeroValue3
 t4:=Tryz.underlying4
 a4:=Tryz.isAgg4
 z4:=Tryz.sizeOf4
 v4:=Tryz.zeroValue4
 t22:=Tryz.underlying67
 a22:=Tryz.isAgg67
 z22:=Tryz.sizeOf67
 v22:=Tryz.zeroValue67
 t25:=Tryz.underlying354
 a25:=Tryz.isAgg354
 z25:=Tryz.sizeOf354
 v25:=Tryz.zeroValue354 }
end Go.Proofs.YtpeepcmdehhbgaaGreatDoor.aev
namespace Go.Proofs.YtpeepcmdehhbgaaGreatDoor.aev
open Go.RowKit Go.Hop Go.Shelf
theorem N9(w:G)(V:aV)(A:aU)(n c:Nat)(l:List Lb)(h:In w V 2 A n (gW l))(hn:n<=1048576):dF N 265 #[Y A n c] w λe O=>∃v,e=b5 v∧Own O (New w O) 66 2 v n (gW l)∧Grow w O:=by
 have lD:=λ(O:G)=>Lib.run_eql_slice_nil (P:=N) O 67 66 A n c 0 0 Tryz.underlying67;cases A with
 | none=>
   have B4:n=0:=by
    rcases cn n with h0|h0
    ·exact h0
    ·obtain⟨_,e,_⟩:=h.2 h0;cases e
   subst B4;obtain rfl:l=[]:=bv (LIn.len h);go_in;go_wp2;go_ret;exact⟨_,rfl,Own.nil,Grow.refl _⟩
 | some ad=>
   go_in;go_wp2_with (at_builtin;refine stay ?_);refine dN ?_;refine fZ (V:=λb=>b=(w:Nat)) Q5 _ rfl (.tmp 5) (.tmp 6) rfl (Y (some ⟨(w:Nat),0,none⟩) 0 0) 0 [] rfl (mn w _ _) (w:Nat) (some ad) n c (gW l) rfl (Reads.alloc (In.reads h) (bh _) _) (yW l) ap ?_;intro v1 w1 l6 yl;simp only[cL,cC] at l6;obtain⟨tM,eO⟩:=oc l6 yl;go_wp2;go_ret;exact⟨v1,rfl,tM,eO⟩
def FM(w:G)(A:aU)(n c:Nat)(hn:n<=c):dF N 148 #[Y A n c] w λe O=>e=b5 (Y A n n)∧w=O:=by go_in;go_wp2;go_ret;exact⟨rfl,rfl⟩
def Qm(x y:Lb)(aeu:G):dF N 267 #[aZ #[aX x.1,aX x.2],aZ #[aX y.1,aX y.2]] aeu λe O=>e=b5 (J (DG x.1 y.1))∧∃q os',O=Sort.grow (aeu.drewN q) os':=by have hcon:=λW'=>FE W' x.1 y.1;generalize DG x.1 y.1=r at hcon ⊢;go_in;go_wp2_with (go_at_call 132;refine (hcon _).mono ?_;rintro e O ⟨rfl,rfl⟩);go_ret;exact⟨rfl,0,_,by rw[Sort.alloc_eq_grow,Sort.alloc_eq_grow,Sort.grow_grow];rfl⟩
def DU(x y:Lb):Go.Proofs.ltOf (λx y:Lb=>DG x.1 y.1) x y=slt x.1 y.1:=by unfold Go.Proofs.ltOf DG;cases I:slt x.1 y.1<;>cases Z:slt y.1 x.1<;>simp[I,Z]
def a6Z:Sort.SWO (Go.Proofs.ltOf λx y:Lb=>DG x.1 y.1) where
 irrefl x:=by rw[DU];exact j_ _
 trans x y z h k:=by rw[DU] at *;exact tn h k
 ntrans x y z h k:=by rw[DU] at *;exact Lh h k
def zb(l:List Lb)(j:Nat)(hj:j<l.length*2):(gW l)[j]?=some (Sort.flatK mU 2 l.toArray)[j]!:=by
 have h:=flat_get mU 2 po l (j / 2) (j % 2) ap (Nat.mod_lt _ ap);rw[show j / 2*2+j % 2=j by omega] at h;unfold gW;rw[h,Sort.get_flatK mU 2 l.toArray j (by simpa using hj)];have Z:j / 2<l.length:=by omega
 have T:l.toArray[j / 2]! = l[j / 2]:=by simp[Z]
 rw[T];have h4:j % 2<(mU l[j / 2]).length:=by rw[po];exact Nat.mod_lt _ ap
 rw[List.getElem?_eq_getElem h4];simp[h4]
structure lp(q l:List Lb):Prop where
 perm:q.Perm l
 qz:q.Pairwise λa b=>slt b.1 a.1=false
def UI(w:G)(g c:Nat)(l:List Lb)(cur:aP)(H:w.heap[g]?=some (.cells cur 66 (0,0)))(a90:cur.toList.take (l.length*2)=gW l)(hl:l.length<4611686018427387904):dF N 358 #[Y (some (g,0)) l.length c,(),J l.length,.func (.func 267) #[] #[]] w λe O=>e=b5 (a_ #[])∧∃q:List Lb,lp q l∧In O (λb=>b=g) 2 (some (g,0)) l.length (gW q)∧dP (λb=>b=g) w O:=by
 have B5:g<(w:Nat):=(Array.getElem?_eq_some_iff.1 H).1;have hH:Sort.HoldsK mU 2 w g 0 l.toArray:=λj hj=>by
  rw[Sort.size_flatK] at hj;have mc:j<l.length*2:=by simpa using hj
  have hc:=zb l j mc;rw[<-a90,List.getElem?_take_of_lt mc,Array.getElem?_toList] at hc;refine⟨?_,?_⟩
  ·unfold World.cell?
   simp only[H,cL];exact hc
  ·unfold World.frozen?
   simp only[H];simp
 have eg:∀args w,(callFunc 267 args).run N w=.ok (.enter 267 args) w:=λargs w=>by go_simp
 have hcon:=Go.Proofs.AnyQ.insertionSortCmpFunc a6Y 2 Tryz.isAgg66 Tryz.sizeOf66 mU po (λx v hv=>by simp only[mU,b_,bW,or_false] at hv;rcases hv with rfl|rfl<;>rfl) (λx y:Lb=>DG x.1 y.1) 267 #[] g 0 c 0 l.length l.toArray w eg (λm os dk _ x y=>Qm x y _) hH B5 (bo _) (by simp) (by simpa using hl);change dF N 358 _ _ _ at hcon;rw[cE] at hcon;refine hcon.mono ?_;rintro e O ⟨he,n,os,rfl⟩;have hh:=Sort.insertionSort_holds a6Z l.toArray 0 l.length (bo _) (by simp);generalize Sort.insertionSort (Go.Proofs.ltOf λx y:Lb=>DG x.1 y.1) l.toArray 0 l.length=d' at hh ⊢;obtain⟨q,rfl⟩:∃q:List Lb,d'=q.toArray:=⟨d'.toList,by simp⟩;have hp:=hh.1;have hs:=hh.2;have ym:q.length=l.length:=by have:=hp.1;simpa using this
 have hH':=Go.Proofs.holdsK_sortWorldK_c mU 2 w g 0 l.toArray q.toArray n os hH B5 hp.1;have jo:=Go.Proofs.size_sortWorldK_c mU 2 w g 0 n q.toArray os;refine⟨he,q,⟨?_,List.pairwise_iff_getElem.2 λi j hi hj o7=>?_⟩,⟨by rw[pX,ym],λhn=>⟨_,rfl,rfl,bu B5 jo,λj u hu=>?_⟩⟩,⟨rfl,rfl,rfl,jo,λb hb hbg=>?_⟩⟩
 ·have:=hp.2.2
  simp only[List.extract_toArray,List.extract_eq_take_drop,d9,Nat.sub_zero] at this;rwa [bH ap,bH ap] at this
 ·have:=hs i j (bo _) o7 ap
  rw[DU] at this;simpa [hi,hj] using this
 ·have hj:j<q.length*2:=by
   have:=(List.getElem?_eq_some_iff.1 hu).1;rwa [pX] at this
  have I:=(hH' j (by simpa [Sort.size_flatK] using hj)).1
  rw[Addr.add_lit,<-hu,zb q j hj]
  exact I
 ·have xh:b<(w.heap.modify g (Sort.onCells (Sort.putCells id 0 (Sort.flatK mU 2 q.toArray)))).size:=by simpa using hb
  show ((w.heap.modify g (Sort.onCells (Sort.putCells id 0 (Sort.flatK mU 2 q.toArray))))++os)[b]?=w.heap[b]?;rw[Array.getElem?_append_left xh,Array.getElem?_modify,aB (λe=>hbg e.symm)]
def Qn(w:G)(A:aU)(c:Nat)(f:E):dF N 358 #[Y A 0 c,(),(),f] w λe O=>e=b5 (a_ #[])∧w=O:=by
 go_in;go_wp2_with fail;go_loop [8] (λi=>i=J 1) (λ_=>0);case atStart=>rfl
 case round=>
  obtain rfl:=hrel;go_wp2;go_end0;exact⟨rfl,rfl⟩
def Jm(w:G)(A:aU)(n c:Nat)(l:List Lb)(hn:n<=19)(V:aV)(hO:Own w V 66 2 (Y A n c) n (gW l)):dF N 266 #[Y A n c,.func (.func 267) #[] #[]] w λe O=>e=b5 (a_ #[])∧∃q:List Lb,lp q l∧In O V 2 A n (gW q)∧dP V w O:=by
 have hl:l.length=n:=by have:=hO.1;rw[pX] at this;omega
 have a0H:dF N 358 #[Y A n c,(),J n,.func (.func 267) #[] #[]] w λe O=>e=b5 (a_ #[])∧∃q:List Lb,lp q l∧In O V 2 A n (gW q)∧dP V w O:=by
  rcases hO.2 with ⟨I,h0⟩|⟨g,cap,cur,I,hV,H,jf,jg,jo,jA⟩
  ·subst h0
   obtain rfl:l=[]:=bv hl;refine (Qn w A c _).mono ?_;rintro e O ⟨he,rfl⟩;exact⟨he,[],⟨List.Perm.refl _,List.Pairwise.nil⟩,In.nil,dP.dR (Grow.refl _)⟩
  ·injection I with I _ T
   subst I T;rw[<-hl] at jA;have:=UI w g c l cur H jA ap;rw[hl] at this;refine this.mono ?_;rintro e O ⟨he,q,hq,hI,hj⟩;exact⟨he,q,hq,hI.mono λb hb=>by rw[hb];exact hV,hj.imp λb hb=>by rw[hb];exact hV⟩
 have kc:dF N 325 #[Y A n c,J n,.func (.func 267) #[] #[]] w λe O=>e=b5 (a_ #[])∧∃q:List Lb,lp q l∧In O V 2 A n (gW q)∧dP V w O:=by
  have h20:decide ((20:Int)<=(n:Int))=false:=aD ap;have h20':decide ((20:Int)<(n:Int))=false:=aD ap;clear hO;go_in;go_wp2_with fail;go_loop [7,8] (λa b=>a=J 0∧b=J 20) (λ_ _=>0);case atStart=>exact⟨rfl,rfl⟩
  case round=>
   obtain⟨rfl,rfl⟩:=hrel;go_wp2_with fail;refine a0H.mono ?_;rintro e w2 ⟨rfl,aen⟩;clear a0H;have HH:=Q aen;clear aen;go_wp2_with fail;go_loop [6] (λa=>a=J 20) (λ_=>0);case atStart=>rfl
   case round=>
    obtain rfl:=hrel;go_wp2;go_end0;exact⟨rfl,HH.out⟩
 clear a0H hO;go_in;go_wp2_with fail;refine kc.mono ?_;rintro e w2 ⟨rfl,aen⟩;clear kc;have HH:=Q aen;clear aen;go_wp2;go_end0;exact⟨rfl,HH.out⟩
def zd(w:G)(V:aV)(A:aU)(n c:Nat)(l:List Lb)(h:In w V 2 A n (gW l))(hn:n<=19):dF N 204 #[Y A n c] w λe O=>∃A' q,e=b5 (Y A' n n)∧lp q l∧In O (New w O) 2 A' n (gW q)∧Grow w O:=by go_in;go_wp2_with fail;refine (N9 w V A n c l h ap).mono ?_;rintro e w1 ⟨v,rfl,hO,eO⟩;obtain⟨A1,c1,rfl,_,jf,_⟩:=hO.kB;have kc:=Jm w1 A1 n c1 l hn (New w w1) hO;clear hO;go_wp2_with fail;refine kc.mono ?_;rintro e w2 ⟨rfl,q,hq,hI,hj⟩;clear kc;go_wp2_with (go_at_call 148;refine (FM _ _ _ _ jf).mono ?_;rintro e O ⟨rfl,rfl⟩);go_ret;have hs:=eO.size;have B6:=hj.size;exact⟨A1,q,rfl,hq,hI.mono λb hb=>⟨hb.1,by have:=hb.2;omega⟩,Below.trans eO (hj.below (B:=(w:Nat)) (λb hb=>hb.1) hs)⟩
end Go.Proofs.YtpeepcmdehhbgaaGreatDoor.aev
end
namespace Go.Proofs.YtpeepcmdehhbgaaGreatDoor.aev
open RowKit Hop
def eE(c:UInt8):List UInt8->List (List UInt8)
 | []=>[[]]
 | b::r=>if b=c then []::eE c r else match eE c r with
   | []=>[[b]]
   | p::ps=>(b::p)::ps
theorem Co{c:UInt8}:∀{a:aT},c ∉ a->eE c a=[a]
 | [],_=>rfl
 | b::r,h=>by
   have I:b≠c:=λe=>h (by rw[e];exact cy);have Z:=Co (c:=c) (a:=r) λhr=>h (bV _ hr);unfold eE;rw[aB I,Z]
theorem ze{c:UInt8}{r:aT}:∀{a:aT},c ∉ a->eE c (a++c::r)=a::eE c r
 | [],_=>by rw[cC,eE,aA rfl]
 | b::a,h=>by
   have I:b≠c:=λe=>h (by rw[e];exact cy);have Z:=ze (c:=c) (r:=r) (a:=a) λhr=>h (bV _ hr);rw[cH,eE,aB I,Z]
def Na(c:UInt8)(s:aT):c ∉ s∨∃a r,s=a++c::r∧c ∉ a:=by
 by_cases h:c∈s
 ·obtain⟨a,r,e,ha⟩:=List.eq_append_cons_of_mem h
  exact .inr ⟨a,r,e,ha⟩
 ·exact .inl h
theorem zf{c:UInt8}{r:aT}:∀{a:aT},c ∉ a->Lib.index (a++c::r) [c]=(a.length:Int)
 | [],_=>by rw[Lib.index_one];simp[Lib.indexByte]
 | b::a,h=>by
   have I:(b == c)=false:=beq_eq_false_iff_ne.2 λe=>h (by rw[e];exact cy);have Z:=zf (c:=c) (r:=r) (a:=a) λhr=>h (bV _ hr);rw[Lib.index_one] at Z ⊢;rw[cH,Lib.indexByte,I,Z];have:((a.length:Int) == -1)=false:=beq_eq_false_iff_ne.2 ap;rw[this];simp
theorem FN(c:UInt8):∀(n:Nat)(s:aT),s.length<=n->Lib.splitK [c] 0 (Lib.count s [c]) s=eE c s
 | 0,s,h=>by
   obtain rfl:s=[]:=bv ap;rfl
 | n+1,s,h=>by
   rw[Lib.count_one];rcases Na c s with kS|⟨a,r,rfl,ha⟩
   ·rw[List.count_eq_zero.2 kS,Co kS];rfl
   ·rw[List.count_append,List.count_eq_zero.2 ha,List.count_cons_self,cL]
    rw[ze ha,Lib.splitK,zf ha];have:((a.length:Int) == -1)=false:=beq_eq_false_iff_ne.2 ap;rw[this,<-FN c n r (by simp at h;omega),Lib.count_one];simp
def mk(l:aT):ByteArray:=⟨l.toArray⟩
def mk_data(l:aT):(mk l).data.toList=l:=rfl
def jE(p:aT):Lb:=(mk (Lib.cut p [61]).1,mk (Lib.cut p [61]).2.1)
def fW(s:aR):List Lb:=(eE 44 s.data.toList).map jE
def lR(h:mV s=true):1<=s.size∧s.size<=32:=by unfold mV at h;simp only[bP,decide_eq_true_eq] at h;exact h.1
def ER(d:Lb):Bool:=mV d.1&&mV d.2
def pw(l:List Lb):Bool:=l.all ER&&decide ((l.map (·.1)).Nodup)&&!l.isEmpty
def h_(l:List Lb):Int:=if 8<l.length then 3 else if pw l then 0 else 1
theorem nQ(l:List Lb):pw l=true↔(∀d∈l,ER d=true)∧(l.map (·.1)).Nodup∧l≠[]:=by
 unfold pw;cases l with
 | nil=>simp
 | cons a l=>simp only[bP,List.all_eq_true,decide_eq_true_eq,List.isEmpty_cons,Bool.not_false,and_true,ne_eq,reduceCtorEq,not_false_eq_true]
def Nb{p q:List Lb}(h:p.Perm q):pw p=pw q:=by
 rw[Bool.eq_iff_iff,nQ,nQ,(h.map (·.1)).nodup_iff];constructor
 ·rintro ⟨I,Z,T⟩
  exact⟨λd hd=>I d (h.mem_iff.2 hd),Z,λe=>T (by rw[e] at h;exact h.eq_nil)⟩
 ·rintro ⟨I,Z,T⟩
  exact⟨λd hd=>I d (h.mem_iff.1 hd),Z,λe=>T (by rw[e] at h;exact h.symm.eq_nil)⟩
def zg{p q:List Lb}(h:p.Perm q):h_ p=h_ q:=by unfold h_;rw[h.length_eq,Nb h]
def zh{l:List Lb}(h:h_ l=0):l.length<=8∧pw l=true:=by
 unfold h_ at h;split at h;·cases h
 ·split at h
  ·exact⟨by omega,by assumption⟩
  ·cases h
def Qo{l:List Lb}(h8:l.length<=8)(h:pw l=true):h_ l=0:=by unfold h_;rw[aB ap,aA h]
def rT{l:List Lb}(h8:l.length<=8)(h:pw l=false):h_ l=1:=by unfold h_;rw[aB ap,aB (by rw[h];simp)]
def Jn{l:List Lb}(h8:8<l.length):h_ l=3:=by unfold h_;rw[aA h8]
theorem Lp{l:List Lb}{d:Lb}(hd:d∈l)(h:ER d=false):pw l=false:=by
 cases hf:pw l with
 | false=>rfl
 | true=>have:=((nQ l).1 hf).1 d hd;rw[h] at this;cases this
theorem UJ{l:List Lb}(hi:i<l.length)(hj:j<l.length)(o7:i<j)(h:l[i].1=l[j].1):pw l=false:=by
 cases hf:pw l with
 | false=>rfl
 | true=>
   have Z:=List.pairwise_iff_getElem.1 ((nQ l).1 hf).2.1 i j (by simpa using hi) (by simpa using hj) o7;simp only[dt] at Z;exact absurd h Z
def UK{l:List Lb}(h0:l≠[])(I:∀d∈l,ER d=true)(Z:∀i j(hi:i<l.length)(hj:j<l.length),i<j->l[i].1≠l[j].1):pw l=true:=
 (nQ l).2 ⟨I,List.pairwise_iff_getElem.2 λi j hi hj o7=>by simp only[dt];exact Z i j (by simpa using hi) (by simpa using hj) o7,h0⟩
def lp.step{q l:List Lb}(h:lp q l)(ha:∀i(hi:i+1<q.length),q[i].1≠q[i+1].1):∀i j(hi:i<q.length)(hj:j<q.length),i<j->q[i].1≠q[j].1:=λi j hi hj o7 e=>by
 have hs:=List.pairwise_iff_getElem.1 h.qz;have I:=hs i (i+1) hi ap ap;by_cases yl:j=i+1;·subst yl;exact ha i ap e
 ·have Z:=hs (i+1) j ap hj ap
  rw[<-e] at Z;exact ha i ap (pY Z I)
def lp.len{q l:List Lb}(h:lp q l):q.length=l.length:=h.perm.length_eq
def can(l:List Lb):List Lb:=l.mergeSort λa b => !slt b.1 a.1
def Jo(l:List Lb):lp (can l) l:=by
 refine⟨List.mergeSort_perm ..,?_⟩;have:=List.pairwise_mergeSort (le:=λa b:Lb => !slt b.1 a.1) (λa b c h k=>by
  simp only[Bool.not_eq_true'] at *;exact Lh k h) (λa b=>by
  cases h:slt b.1 a.1 with
  | false=>rfl
  | true=>rw[yX h];rfl) l
 exact this.imp λh=>by simpa using h
theorem zi:∀{p q:List Lb},p.Pairwise (λa b=>slt a.1 b.1=true)->q.Pairwise (λa b=>slt a.1 b.1=true)->p.Perm q->p=q
 | [],q,_,_,h=>h.nil_eq
 | a::p,[],_,_,h=>h.eq_nil
 | a::p,b::q,hp,hq,h=>by
   have XJ:=List.pairwise_cons.1 hp;have O_:=List.pairwise_cons.1 hq;have e:a=b:=by
    rcases List.mem_cons.1 (h.mem_iff.1 cy) with e|I
    ·exact e
    ·rcases List.mem_cons.1 (h.mem_iff.2 cy) with e|Z
     ·exact e.symm
     ·have:=tn (XJ.1 b Z) (O_.1 a I)
      rw[j_] at this;cases this
   subst e;rw[zi XJ.2 O_.2 ((List.perm_cons a).1 h)]
theorem lp.strict{q l:List Lb}(h:lp q l)(hn:(l.map (·.1)).Nodup):q.Pairwise λa b=>slt a.1 b.1=true:=by
 have hn':(q.map (·.1)).Nodup:=(h.perm.map (·.1)).nodup_iff.2 hn;refine List.pairwise_iff_getElem.2 λi j hi hj o7=>?_;have I:=List.pairwise_iff_getElem.1 h.qz i j hi hj o7;cases Z:slt q[i].1 q[j].1 with
 | true=>rfl
 | false=>
   have e:=pY Z I;have:=List.pairwise_iff_getElem.1 hn' i j (by simpa using hi) (by simpa using hj) o7;simp only[dt] at this;exact absurd e this
def lp.a71{q l:List Lb}(h:lp q l)(hn:(l.map (·.1)).Nodup):q=can l:=zi (h.strict hn) ((Jo l).strict hn) (h.perm.trans (Jo l).perm.symm)
def px(d:Lb):List UInt8:=d.1.data.toList++61::d.2.data.toList
def Jp(q:List Lb):List UInt8:=Lib.join (q.map px) [44]
def txt(q:List Lb):ByteArray:=mk (Jp q)
def textOf(l:List Lb):ByteArray:=if h_ l=0 then txt (can l) else mk []
def Cp(d:Lb)(q:List Lb):Jp (d::q)=px d++(q.map λd=>44::px d).flatten:=by unfold Jp;rw[bX,Lib.join_cons];unfold Lib.joinTail;rw[List.map_map];rfl
def nm(s:aR):Bool:=decide (h_ (fW s)=0)&&decide (txt (can (fW s))=s)
def oM(s:aR):List Lb:=if nm s then fW s else []
def gl(s:aR):Int:=if nm s then 0 else 12
def FO{d:Lb}(h:ER d=true):(px d).length<=65:=by
 unfold ER at h;simp only[bP] at h;have I:=(lR h.1).2;have Z:=(lR h.2).2;have e1:d.1.data.toList.length=d.1.size:=by rw[ch];rfl
 have e2:d.2.data.toList.length=d.2.size:=by rw[ch];rfl
 unfold px;rw[bd,bC];omega
theorem UL:∀(q:List Lb),(∀d∈q,ER d=true)->(Jp q).length<=66*q.length
 | [],_=>by show 0<=_;omega
 | d::q,h=>by
   rw[Cp,bd,bC];have I:=FO (h d cy);have Z:∀r:List Lb,(∀d∈r,ER d=true)->((r.map λd=>44::px d).flatten).length<=66*r.length:=by
    intro r;induction r with
    | nil=>intro _;simp
    | cons a r ih=>
      intro hr;rw[bX,List.flatten_cons,bd,bC,bC];have:=FO (hr a cy);have:=ih λx X=>hr x (bV _ X);omega
   have:=Z q λx X=>h x (bV _ X);omega
def ux(h:a≠b):(a.toList == b.toList)=false:=beq_eq_false_iff_ne.2 λe=>h (Ji.1 e)
def py(w:G)(V:aV)(A:aU)(n c:Nat)(l:List Lb)(h:In w V 2 A n (gW l))(hl:∀d∈l,d.1.size<=dL∧d.2.size<=dL)(hn:n<=9223372036854775807):dF N 203 #[Y A n c] w λe O=>e=b5 (J (h_ l))∧Grow w O:=by
 have ym:=LIn.len h;have kName:∀(vs:aP)(w:G),(callFunc 264 vs).run N w=.ok (.enter 264 vs) w:=λvs w=>by go_simp
 by_cases h8:8<n
 ·have hd:decide ((8:Int)<(n:Int))=true:=aC ap
  rw[Jn ap];clear h;go_in;go_wp2;go_ret;exact⟨rfl,Grow.refl _⟩
 have hd:decide ((8:Int)<(n:Int))=false:=aD ap;have hl8:l.length<=8:=by omega
 have Tc:=zd w V A n c l h ap;obtain⟨R,HR⟩:=az (h_ l:Int);rw[<-HR.out];clear h;go_in;go_wp2_with fail;refine Tc.mono ?_;rintro e w1 ⟨A1,q,rfl,hq,hI,eO⟩;clear Tc;have iH:q.length=n:=by rw[hq.len];exact ym
 have Xf:∀d∈q,d.1.size<=dL∧d.2.size<=dL:=λd hd=>hl d (hq.perm.mem_iff.1 hd);have Lc:=Q iH;have HLL:=Q ym;clear iH ym;go_wp2_with fail;go_loopw [13] (λi wr=>∃k:Nat,k<=n∧i=J k∧(∀j(hj:j<q.length),j<k->ER q[j]=true)∧(∀j(hj:j+1<q.length),j+1<k->q[j].1≠q[j+1].1)∧Grow w1 wr) (λi _=>n-(intOf i).toNat);case atStart=>exact⟨0,by omega,rfl,λ_ _ h=>absurd h ap,λ_ _ h=>absurd h ap,Grow.refl _⟩
 case round=>
  obtain⟨i,l8,rfl,gS,kr,i7⟩:=hrel;have HOK:=Q gS;have HNE:=Q kr;clear gS kr;have ku:=eV eO i7 eO.size;by_cases hi:i<n
  ·have hit:decide ((i:Int)<(n:Int))=true:=aC ap
   obtain⟨ad,T5,rfl,e0,e1⟩:=Jh (hI.grow i7) hi;have ON:=e0 wr (Grow.refl _);have Xd:=e1 wr (Grow.refl _);have hdm:q[i]∈q:=bD T5;have vb:=Xf _ hdm;obtain⟨d,hdd⟩:=aE (q[i]);rw[<-hdd] at ON Xd hdm vb;have HD:=Q hdd;clear hdd e0 e1;obtain⟨x,HX⟩:=az ((wr:Nat):Nat);have hB:eL (wr.alloc (.cells #[aX d.1,aX d.2] 66)) x 66 #[aX d.1,aX d.2]:=by rw[HX.out];exact eL.made wr _ _
   have xS:Grow wr (wr.alloc (.cells #[aX d.1,aX d.2] 66)):=(Below.refl _ _).alloc (bh _) _;have hN1:=λw1=>FG w1 d.1 vb.1;have PS:=λw1=>FG w1 d.2 vb.2;have hin2:¬ n<=i:=by omega
   cases sH:mV d.1 with
   | false=>
     have oX:∀w1,dF N 264 #[aX d.1] w1 λe O=>e=b5 (aY false)∧w1=O:=λw1=>by have:=hN1 w1;rwa [sH] at this
     have W:R=1:=by rw[HR.out];exact rT hl8 (Lp (hq.perm.mem_iff.1 hdm) (by unfold ER;rw[sH];rfl))
     have HR1:=Q W;clear W sH hN1 PS;go_wp2_with fail;rw[<-HX.out];generalize WR:wr.alloc (.cells #[aX d.1,aX d.2] 66)=wb at hB xS ⊢;clear WR;have c0:=λw1(H:Grow _ w1)=>(hB.grow H).cell 0;refine fv ?_;intro w1 H;clear c0;go_wp2;go_ret;have Bh:=eV ku xS ku.size;exact⟨nh HR1.out.symm,eV Bh H Bh.size⟩
   | true=>
     have oX:∀w1,dF N 264 #[aX d.1] w1 λe O=>e=b5 (aY true)∧w1=O:=λw1=>by have:=hN1 w1;rwa [sH] at this
     have HB1:=Q sH;clear sH hN1;cases nu:mV d.2 with
     | false=>
       have WE:∀w1,dF N 264 #[aX d.2] w1 λe O=>e=b5 (aY false)∧w1=O:=λw1=>by have:=PS w1;rwa [nu] at this
       have W:R=1:=by rw[HR.out];exact rT hl8 (Lp (hq.perm.mem_iff.1 hdm) (by unfold ER;rw[HB1.out,nu];rfl))
       have HR1:=Q W;clear W nu PS;go_wp2_with fail;rw[<-HX.out];generalize WR:wr.alloc (.cells #[aX d.1,aX d.2] 66)=wb at hB xS ⊢;clear WR;have c0:=λw1(H:Grow _ w1)=>(hB.grow H).cell 0;have c1:=λw1(H:Grow _ w1)=>(hB.grow H).cell 1;refine fv ?_;intro w1 H;clear c0 c1;go_wp2;go_ret;have Bh:=eV ku xS ku.size;exact⟨nh HR1.out.symm,eV Bh H Bh.size⟩
     | true=>
       have WE:∀w1,dF N 264 #[aX d.2] w1 λe O=>e=b5 (aY true)∧w1=O:=λw1=>by have:=PS w1;rwa [nu] at this
       have hdo:ER d=true:=by unfold ER;rw[HB1.out,nu];rfl
       have a2w:Hid (∀j(hj:j<q.length),j<i+1->ER q[j]=true):=Q λj hj D8=>by
        rcases cR j i with h|h
        ·exact HOK.out j hj h
        ·obtain rfl:j=i:=by omega
         rw[<-HD.out];exact hdo
       clear nu PS HB1;by_cases h0:i=0
       ·have tO:decide ((0:Int)<(i:Int))=false:=aD ap
        have hi0:¬ 0<i:=by omega
        have H0:=Q h0;clear h0;go_wp2_with fail;rw[<-HX.out];generalize WR:wr.alloc (.cells #[aX d.1,aX d.2] 66)=wb at hB xS ⊢;clear WR;have c0:=λw1(H:Grow _ w1)=>(hB.grow H).cell 0;have c1:=λw1(H:Grow _ w1)=>(hB.grow H).cell 1;refine fv ?_;intro w1 H;clear c0 c1;go_wp2_with fail;go_roundw;case rel=>exact⟨i+1,by omega,by go_num,a2w.out,λj hj D8=>absurd D8 (by have:=H0.out;omega),(i7.trans xS).trans H⟩
        case measure=>simp[intOf];omega
       ·have tO:decide ((0:Int)<(i:Int))=true:=aC ap
        obtain⟨j,HJ⟩:∃j:Nat,Hid (i=j+1):=⟨i-1,Q ap⟩;have xf:j<n:=by have:=HJ.out;omega
        obtain⟨ad',hqj,ea,j0,_⟩:=Jh (hI.grow i7) xf;injection ea with ea;subst ea;have o7:(i:Int)-1=(j:Int):=by have:=HJ.out;omega
        have hwj:IntKind.i64.wrap (j:Int)=(j:Int):=by rw[IntKind.wrap_i64];omega
        have hjneg:¬ (j:Int)<0:=by omega
        have BM:0<i:=by omega
        obtain⟨p,hpp⟩:=aE (q[j].1);rw[<-hpp] at j0;have HP:=Q hpp;have hp:∀w9,Grow (wr.alloc (.cells #[aX d.1,aX d.2] 66)) w9->w9.cell? (ad.add (j*2))=some (aX p):=λw9 h9=>j0 w9 (xS.trans h9);have a4G:¬ n<=j:=by omega
        clear hpp j0 h0;by_cases heq:p=d.1
        ·have W:R=1:=by
          rw[HR.out,<-zg hq.perm];have e9:i=j+1:=HJ.out;subst e9;exact rT (by have:=Lc.out;omega) (UJ hqj T5 ap (by rw[<-HP.out,<-HD.out];exact heq))
         have HR1:=Q W
         have a78:(p.toList == d.1.toList)=true:=by rw[heq];simp
         have HEQ:=Q heq
         clear W heq
         go_wp2_with fail
         rw[<-HX.out]
         generalize WR:wr.alloc (.cells #[aX d.1,aX d.2] 66)=wb at hB xS hp ⊢
         clear WR
         have c0:=λw1(H:Grow _ w1)=>(hB.grow H).cell 0
         have c1:=λw1(H:Grow _ w1)=>(hB.grow H).cell 1
         refine fv ?_
         intro w1 H
         clear c0 c1
         go_wp2
         go_ret
         have Bh:=eV ku xS ku.size
         exact⟨nh HR1.out.symm,eV Bh H Bh.size⟩
        ·have HEQ:=Q heq
         have a78:=ux heq;clear heq;go_wp2_with fail;rw[<-HX.out];generalize WR:wr.alloc (.cells #[aX d.1,aX d.2] 66)=wb at hB xS hp ⊢;clear WR;have c0:=λw1(H:Grow _ w1)=>(hB.grow H).cell 0;have c1:=λw1(H:Grow _ w1)=>(hB.grow H).cell 1;refine fv ?_;intro w1 H;clear c0 c1;go_wp2_with fail;go_roundw;case rel=>
          refine⟨i+1,by omega,by go_num,a2w.out,λk K hki=>?_,(i7.trans xS).trans H⟩;rcases cR (k+1) i with h|h
          ·exact HNE.out k K h
          ·have e9:i=j+1:=HJ.out
           obtain rfl:k=j:=by omega
           subst e9;rw[<-HP.out,<-HD.out];exact HEQ.out
         case measure=>simp[intOf];omega
  ·obtain rfl:n=i:=by omega
   have hit:decide ((n:Int)<(n:Int))=false:=aD ap;by_cases h0:n=0
   ·have W:R=1:=by
     rw[HR.out];refine rT hl8 ?_;obtain rfl:l=[]:=bv (by rw[HLL.out];exact h0);rfl
    have HR1:=Q W
    have h0e:((n:Int) == 0)=true:=beq_iff_eq.2 ap
    clear W
    go_wp2
    go_ret
    exact⟨nh HR1.out.symm,ku⟩
   ·have W:R=0:=by
     rw[HR.out,<-zg hq.perm];refine Qo (by have:=Lc.out;omega) (UK (λe=>h0 (by rw[<-Lc.out,e];rfl)) (λd hd=>?_) (hq.step λi hi=>HNE.out i hi (by have:=Lc.out;omega)));obtain⟨j,hj,rfl⟩:=List.getElem_of_mem hd;exact HOK.out j hj (by have:=Lc.out;omega)
    have HR1:=Q W
    have h0e:((n:Int) == 0)=false:=beq_eq_false_iff_ne.2 ap
    clear W
    go_wp2
    go_ret
    exact⟨nh HR1.out.symm,ku⟩
end Go.Proofs.YtpeepcmdehhbgaaGreatDoor.aev
section
namespace Go.Proofs.YtpeepcmdehhbgaaGreatDoor.aev
open Go.Shelf
def Cq:Go.Shelf.Ren:=⟨λ|156=>205|165=>268|166=>269|169=>270|240=>326|241=>327|276=>360|277=>361|n=>n,λ|31=>59|9=>9|3=>3|4=>4|0=>0|20=>20|72=>357|76=>361|70=>355|37=>23|75=>360|127=>401|164=>424|5=>5|80=>132|n=>n,λ|n=>n⟩
def joinL:Go.Proofs.Lays.n156 N Cq:={
 mixed:=by kernel_rfl
 f156:=Tryz.func205.trans (congrArg some aw)
 f165:=Tryz.func268.trans (congrArg some aw)
 f166:=Tryz.func269.trans (congrArg some aw)
 f169:=Tryz.func270.trans (congrArg some aw)
 f240:=Tryz.func326.trans (congrArg some aw)
 f241:=Tryz.func327.trans (congrArg some aw)
 f276:=Tryz.func360.trans (congrArg some aw)
 f277:=Tryz.func361.trans (congrArg some aw)
 t0:=Tryz.underlying0
 a0:=Tryz.isAgg0
 z0:=Tryz.sizeOf0
 v0:=Tryz.zeroValue0
 t3:=dx
 a3:=Tryz.isAgg3
 z3:=Tryz.sizeOf3
 v3:=Tryz.zeroValue3
 t4:=Tryz.underlying4
 a4:=Tryz.isAgg4
 z4:=Tryz.sizeOf4
 v4:=Tryz.zeroValue4
 t9:=c_
 a9:=Tryz.isAgg9
 z9:=Tryz.sizeOf9
 v9:=Tryz.zeroValue9
 t20:=Tryz.underlying20
 a20:=Tryz.isAgg20
 z20:=Tryz.sizeOf20
 v20:=Tryz.zeroValue20
 t31:=Tryz.underlying59
 a31:=Tryz.isAgg59
 z31:=Tryz.sizeOf59
 v31:=Tryz.zeroValue59
 t37:=dh
 a37:=Tryz.isAgg23
 z37:=Tryz.sizeOf23
 v37:=Tryz.zeroValue23
 t70:=Tryz.underlying355
 a70:=Tryz.isAgg355
 z70:=Tryz.sizeOf355
 v70:=Tryz.zeroValue355
 t72:=Tryz.underlying357
 a72:=Tryz.isAgg357
 z72:=Tryz.sizeOf357
 v72:=Tryz.zeroValue357
 t75:=Tryz.underlying360
 a75:=Tryz.isAgg360
 z75:=Tryz.sizeOf360
 v75:=Tryz.zeroValue360
 t76:=Tryz.underlying361
 a76:=Tryz.isAgg361
 z76:=Tryz.sizeOf361
 v76:=Tryz.zeroValue361
 t127:=Tryz.underlying401
 a127:=Tryz.isAgg401
 z127:=Tryz.sizeOf401
 v127:=Tryz.zeroValue401
 t164:=Tryz.underlying424
 a164:=Tryz.isAgg424
 z164:=Tryz.sizeOf424
 v164:=Tryz.zeroValue424 }
def oN:Go.Shelf.Ren:=⟨λ|221=>201|268=>260|138=>261|143=>262|195=>318|197=>319|218=>320|219=>263|260=>355|217=>321|225=>322|224=>323|267=>324|266=>356|314=>357|n=>n,λ|9=>9|3=>3|31=>59|4=>4|0=>0|105=>397|21=>21|5=>5|46=>62|119=>438|139=>441|138=>440|146=>420|51=>61|n=>n,λ|1=>0|3=>1|4=>2|n=>n⟩
def vK:Go.Proofs.Lays.n221 N oN:={
 mixed:=by kernel_rfl
 f138:=Tryz.func261.trans (congrArg some aw)
 f143:=Tryz.func262.trans (congrArg some aw)
 f195:=Tryz.func318.trans (congrArg some aw)
 f197:=Tryz.func319.trans (congrArg some aw)
 f217:=Tryz.func321.trans (congrArg some aw)
 f218:=Tryz.func320.trans (congrArg some aw)
 f219:=Tryz.func263.trans (congrArg some aw)
 f221:=Tryz.func201.trans (congrArg some aw)
 f224:=Tryz.func323.trans (congrArg some aw)
 f225:=Tryz.func322.trans (congrArg some aw)
 f260:=Tryz.func355.trans (congrArg some aw)
 f266:=Tryz.func356.trans (congrArg some aw)
 f267:=Tryz.func324.trans (congrArg some aw)
 f268:=Tryz.func260.trans (congrArg some aw)
 f314:=Tryz.func357.trans (congrArg some aw)
 t0:=Tryz.underlying0
 a0:=Tryz.isAgg0
 z0:=Tryz.sizeOf0
 v0:=Tryz.zeroValue0
 t3:=dx
 a3:=Tryz.isAgg3
 z3:=Tryz.sizeOf3
 v3:=Tryz.zeroValue3
 t4:=Tryz.underlying4
 a4:=Tryz.isAgg4
 z4:=Tryz.sizeOf4
 v4:=Tryz.zeroValue4
 t5:=dw
 a5:=Tryz.isAgg5
 z5:=Tryz.sizeOf5
 v5:=Tryz.zeroValue5
 t9:=c_
 a9:=Tryz.isAgg9
 z9:=Tryz.sizeOf9
 v9:=Tryz.zeroValue9
 t21:=Tryz.underlying21
 a21:=Tryz.isAgg21
 z21:=Tryz.sizeOf21
 v21:=Tryz.zeroValue21
 t31:=Tryz.underlying59
 a31:=Tryz.isAgg59
 z31:=Tryz.sizeOf59
 v31:=Tryz.zeroValue59
 t46:=Tryz.underlying62
 a46:=Tryz.isAgg62
 z46:=Tryz.sizeOf62
 v46:=Tryz.zeroValue62
 t51:=Tryz.underlying61
 a51:=Tryz.isAgg61
 z51:=Tryz.sizeOf61
 v51:=Tryz.zeroValue61
 t105:=Tryz.underlying397
 a105:=Tryz.isAgg397
 z105:=Tryz.sizeOf397
 v105:=Tryz.zeroValue397
 t119:=Tryz.underlying438
 a119:=Tryz.isAgg438
 z119:=Tryz.sizeOf438
 t138:=Tryz.underlying440
 a138:=Tryz.isAgg440
 z138:=Tryz.sizeOf440
 v138:=Tryz.zeroValue440
 t139:=Tryz.underlying441
 a139:=Tryz.isAgg441
 z139:=Tryz.sizeOf441
 v139:=Tryz.zeroValue441
 t146:=Tryz.underlying420
 a146:=Tryz.isAgg420
 z146:=Tryz.sizeOf420
 v146:=Tryz.zeroValue420
 g1:=by kernel_rfl
 g3:=by kernel_rfl
 g4:=by kernel_rfl }
def FP:Go.Shelf.Ren:=⟨λ|145=>146|220=>202|219=>263|217=>321|225=>322|224=>323|267=>324|266=>356|314=>357|n=>n,λ|9=>9|4=>4|59=>245|3=>3|5=>5|46=>62|146=>420|51=>61|n=>n,λ|1=>0|n=>n⟩
def Uh:Go.Proofs.Lays.n145 N FP:={
 mixed:=by kernel_rfl
 f145:=Tryz.func146.trans (congrArg some aw)
 f217:=Tryz.func321.trans (congrArg some aw)
 f219:=Tryz.func263.trans (congrArg some aw)
 f220:=Tryz.func202.trans (congrArg some aw)
 f224:=Tryz.func323.trans (congrArg some aw)
 f225:=Tryz.func322.trans (congrArg some aw)
 f266:=Tryz.func356.trans (congrArg some aw)
 f267:=Tryz.func324.trans (congrArg some aw)
 f314:=Tryz.func357.trans (congrArg some aw)
 t3:=dx
 a3:=Tryz.isAgg3
 z3:=Tryz.sizeOf3
 v3:=Tryz.zeroValue3
 t4:=Tryz.underlying4
 a4:=Tryz.isAgg4
 z4:=Tryz.sizeOf4
 v4:=Tryz.zeroValue4
 t5:=dw
 a5:=Tryz.isAgg5
 z5:=Tryz.sizeOf5
 v5:=Tryz.zeroValue5
 t9:=c_
 a9:=Tryz.isAgg9
 z9:=Tryz.sizeOf9
 v9:=Tryz.zeroValue9
 t46:=Tryz.underlying62
 a46:=Tryz.isAgg62
 z46:=Tryz.sizeOf62
 v46:=Tryz.zeroValue62
 t51:=Tryz.underlying61
 a51:=Tryz.isAgg61
 z51:=Tryz.sizeOf61
 v51:=Tryz.zeroValue61
 t59:=Tryz.underlying245
 a59:=Tryz.isAgg245
 z59:=Tryz.sizeOf245
 v59:=Tryz.zeroValue245
 t146:=Tryz.underlying420
 a146:=Tryz.isAgg420
 z146:=Tryz.sizeOf420
 v146:=Tryz.zeroValue420
 g1:=by kernel_rfl }
def Xg:Go.Proofs.Builder.Extra N Cq:={
 sizeBuilder:=by kernel_rfl
 liesBuilder:=by kernel_rfl
 t5:=dw
 a5:=Tryz.isAgg5
 z5:=Tryz.sizeOf5
 v5:=Tryz.zeroValue5
 infoByte:=by kernel_rfl
 cellsByte:=by kernel_rfl
 sizeByte:=by kernel_rfl
 neB5:=by decide }
end Go.Proofs.YtpeepcmdehhbgaaGreatDoor.aev
namespace Go.Proofs.YtpeepcmdehhbgaaGreatDoor.aev
open Go.RowKit Go.Hop Go.Shelf
def Qp(w:G)(V:aV)(A:aU)(n c:Nat)(xs:List ByteArray)(sep:aR)(h:In w V 1 A n (xs.map Value.string))(hn:n<=c)(WE:n<=140737488355328)(fp:(Lib.join (xs.map (·.data.toList)) sep.data.toList).length<=140737488355328):dF N 205 #[Y A n c,aX sep] w λe O=>e=b5 (aX (mk (Lib.join (xs.map (·.data.toList)) sep.data.toList)))∧Grow w O:=by
 have hl:xs.length=n:=by have:=h.1;simpa using this
 rcases cn n with h0|h0
 ·subst h0
  obtain rfl:xs=[]:=bv hl;refine (Go.Proofs.Any.strings_Join_none joinL Xg A c sep w).mono ?_;rintro e O ⟨he,rfl⟩;exact⟨he,Grow.refl _⟩
 ·obtain⟨ad,rfl,_,hb,hc⟩:=h.2 h0
  obtain⟨bk,o,m⟩:=ad;have hm:m=none:=by
   have I:=hc 0 (aX xs[0]) (by rw[List.getElem?_map,List.getElem?_eq_getElem ap];rfl);cases m with
   | none=>rfl
   | some m=>
     simp only[World.cell?,Addr.add] at I;split at I<;>simp at I
  subst hm;subst hl;exact Go.Proofs.Any.strings_Join joinL Xg bk o c xs sep w (λj x X=>by have:=hc j (aX x) (by rw[List.getElem?_map,X];rfl);rwa [Addr.add_lit] at this) hb WE hn fp
def Cr(c:UInt8)(s:aR):(Lib.splitB ⟨#[c]⟩ 0 (Lib.countB s ⟨#[c]⟩) s)=(eE c s.data.toList).map mk:=by
 have h:=Lib.splitB_data ⟨#[c]⟩ 0 (Lib.countB s ⟨#[c]⟩) s;have Z:Lib.splitK [c] 0 (Lib.countB s ⟨#[c]⟩) s.data.toList=eE c s.data.toList:=FN c _ _ (bh _);have T:(Lib.splitB ⟨#[c]⟩ 0 (Lib.countB s ⟨#[c]⟩) s).map (·.data.toList)=eE c s.data.toList:=h.trans Z;rw[<-T,List.map_map];conv=>lhs;rw[<-List.map_id (Lib.splitB ⟨#[c]⟩ 0 (Lib.countB s ⟨#[c]⟩) s)]
 exact cP λx _=>rfl
theorem zj(c:UInt8):∀s:aT,(eE c s).length<=s.length+1
 | []=>by simp[eE]
 | b::r=>by
   have ih:=zj c r;unfold eE;split;·simp only[bC];omega
   ·split
    ·simp
    ·rename_i p ps e
     rw[e] at ih;simp only[bC] at ih ⊢;omega
def Nc(w:G)(s:aR)(c:UInt8)(hs:s.size<4294967281):dF N 145 #[aX s,aX ⟨#[c]⟩] w λe O=>∃A,e=b5 (Y A (eE c s.data.toList).length (eE c s.data.toList).length)∧In O (New w O) 1 A (eE c s.data.toList).length (((eE c s.data.toList).map mk).map Value.string)∧Grow w O:=by
 have I:1<=(⟨#[c]⟩:ByteArray).size:=by show 1<=1;omega
 have ng:=Lib.countB_le ⟨#[c]⟩ I s.size s (bh _);have fp:=Lib.splitB_all ⟨#[c]⟩ I 0 _ s rfl;have Td:∀w,dF N 261 #[aX s,aX ⟨#[c]⟩] w λe O=>e=b5 (J (Lib.countB s ⟨#[c]⟩))∧O=w:=λw=>by refine (Go.Proofs.Any.strings_Count_one (P:=N) (ρ:=oN) { vK with } s c w).mono λe O ⟨he,hw⟩=>⟨?_,hw⟩;rw[he];show _=Ending.returned (Value.int .i64 ((Lib.count s.data.toList [c]:Nat):Int));rw[Lib.count_one];rfl
 have hcon:=Go.Proofs.Any.strings_genSplit_core vK aw s ⟨#[c]⟩ 0 (-1) (Lib.countB s ⟨#[c]⟩+1) w hs I (bo _)
  (λx cs X=>by refine (Go.Proofs.Any.strings_Index_one (P:=N) (ρ:=oN) { vK with } x c _).mono λe O ⟨he,hw⟩=>⟨?_,hw⟩;rw[he];show _=Ending.returned (Value.int .i64 (Lib.index x.data.toList [c]));rw[Lib.index_one]) (Td w) am am (by rw[aA am];omega)
 rw[Nat.add_sub_cancel,fp] at hcon;have e2:Lib.cellsOf (Lib.splitB ⟨#[c]⟩ 0 (Lib.countB s ⟨#[c]⟩) s) (Lib.countB s ⟨#[c]⟩+1)=((Lib.splitB ⟨#[c]⟩ 0 (Lib.countB s ⟨#[c]⟩) s).map Value.string).toArray:=by rw[<-fp];exact Lib.cellsOf_full _
 rw[e2,Cr] at hcon;have Dc:Lib.countB s ⟨#[c]⟩+1=(eE c s.data.toList).length:=by rw[<-fp,Cr,bj]
 rw[Dc] at hcon;change dF N 201 #[aX s,aX ⟨#[c]⟩,(),J (-1)] w _ at hcon;have hI:∀w1,w1=w.alloc (.cells (((eE c s.data.toList).map mk).map Value.string).toArray 9)->In w1 (New w w1) 1 (some ⟨(w:Nat),0,none⟩) (eE c s.data.toList).length (((eE c s.data.toList).map mk).map Value.string)∧Grow w w1:=λw1 hw=>by
  have H:Grow w w1:=by rw[hw];exact (Below.refl _ _).alloc (bh _) _
  refine⟨⟨by simp,λhn=>⟨_,rfl,⟨bh _,by rw[hw];simp⟩,by rw[hw];simp,λj u hu=>?_⟩⟩,H⟩;rw[Addr.add_lit,cL,hw];exact ((eL.made w 9 _).cell j).trans (by simpa using hu)
 generalize (eE c s.data.toList).length=k at hcon hI ⊢;generalize ((eE c s.data.toList).map mk).map Value.string=xs at hcon hI ⊢;clear fp ng Td e2 Dc I;go_in;go_wp2_with fail;refine hcon.mono ?_;rintro e w1 ⟨rfl,hw⟩;have Z:=Q (hI w1 hw);clear hcon hI hw;go_wp2;go_ret;exact⟨_,rfl,Z.out.1,Z.out.2⟩
def FQ(w:G)(s:aR)(c:UInt8)(hs:s.size<4294967281):dF N 202 #[aX s,aX ⟨#[c]⟩] w λe O=>e=b5 (a_ #[aX (mk (Lib.cut s.data.toList [c]).1),aX (mk (Lib.cut s.data.toList [c]).2.1),aY (Lib.cut s.data.toList [c]).2.2])∧∃n,O=w.drewN n:=by
 have Qq:∀w,dF N 263 #[aX s,aX ⟨#[c]⟩] w λe O=>e=b5 (J (Lib.indexB s ⟨#[c]⟩))∧O=w:=λw=>by refine (Go.Proofs.Any.stringslite_Index_one (P:=N) (ρ:=FP) { Uh with } s c w).mono λe O ⟨he,hw⟩=>⟨?_,hw⟩;rw[he];show _=Ending.returned (Value.int .i64 (Lib.index s.data.toList [c]));rw[Lib.index_one]
 rcases Lib.indexB_cases s ⟨#[c]⟩ with Te|⟨i,Te,sT⟩
 ·obtain⟨e1,e2,e3⟩:=Lib.cutB_miss s ⟨#[c]⟩ Te
  change mk (Lib.cut s.data.toList [c]).1=_ at e1;change mk (Lib.cut s.data.toList [c]).2.1=_ at e2;change (Lib.cut s.data.toList [c]).2.2=_ at e3;rw[e1,e2,e3];rw[Te] at Qq;clear e1 e2 e3;go_in;go_wp2_with fail;refine (Qq _).mono ?_;rintro e O ⟨rfl,rfl⟩;go_wp2_with fail;go_ret3;exact⟨rfl,0,rfl⟩
 ·obtain⟨e1,e2,e3⟩:=Lib.cutB_hit s ⟨#[c]⟩ i Te
  change mk (Lib.cut s.data.toList [c]).1=_ at e1;change mk (Lib.cut s.data.toList [c]).2.1=_ at e2;change (Lib.cut s.data.toList [c]).2.2=_ at e3;rw[e1,e2,e3];rw[Te] at Qq;have jo:(⟨#[c]⟩:ByteArray).size=1:=rfl;rw[jo] at sT ⊢;have c1:(0:Int)<=↑i:=by omega
  have c2:(↑i:Int)<=↑s.size:=by omega
  have c3:(0:Int)<=↑i+1:=by omega
  have c4:(↑i+1:Int)<=↑s.size:=by omega
  clear e1 e2 e3;go_in;go_wp2_with fail;refine (Qq _).mono ?_;rintro e O ⟨rfl,rfl⟩;clear Qq;go_wp2_with fail;go_region;all_goals go_wp2
  all_goals go_ret3
  all_goals exact⟨rfl,1,rfl⟩
def ul(w:G)(s:aR)(c:UInt8)(hs:s.size<4294967281):dF N 146 #[aX s,aX ⟨#[c]⟩] w λe O=>e=b5 (a_ #[aX (mk (Lib.cut s.data.toList [c]).1),aX (mk (Lib.cut s.data.toList [c]).2.1),aY (Lib.cut s.data.toList [c]).2.2])∧Grow w O:=by
 have hcon:=FQ w s c hs;generalize mk (Lib.cut s.data.toList [c]).1=x at hcon ⊢;generalize mk (Lib.cut s.data.toList [c]).2.1=y at hcon ⊢;generalize (Lib.cut s.data.toList [c]).2.2=z at hcon ⊢;go_in;go_wp2_with fail;refine hcon.mono ?_;rintro e O ⟨rfl,n,rfl⟩;clear hcon;have H:Grow w (w.drewN n):=by
  have:∀n,Grow w (w.drewN n):=λn=>by
   induction n with
   | zero=>exact Grow.refl _
   | succ n ih=>exact ih.drew
  exact this n
 generalize w.drewN n=w1 at H ⊢;go_wp2_with fail;go_ret3;exact⟨rfl,H⟩
end Go.Proofs.YtpeepcmdehhbgaaGreatDoor.aev
end
namespace Go.Proofs.YtpeepcmdehhbgaaGreatDoor.aev
open RowKit Hop
def eqB:ByteArray:={ data:=#[61] }
def Qr:ByteArray:={ data:=#[44] }
def ri(d:Lb):ByteArray:=d.1++eqB++d.2
def FR(a b:aR):(a++b).data.toList=a.data.toList++b.data.toList:=by rw[ByteArray.data_append,Array.toList_append]
def Jq(d:Lb):(ri d).data.toList=px d:=by unfold ri px;rw[FR,FR,bp];rfl
def Qt{d:Lb}(h:ER d=true):d.1.size<=32∧d.2.size<=32:=by unfold ER at h;simp only[bP] at h;exact⟨(lR h.1).2,(lR h.2).2⟩
def vL{l:List Lb}(h:h_ l=0):textOf l=txt (can l):=by unfold textOf;rw[aA h]
def Qv{l:List Lb}(h:h_ l≠0):textOf l={ data:=#[] }:=by unfold textOf;rw[aB h];rfl
def yQ(w:G)(V:aV)(A:aU)(n c:Nat)(l:List Lb)(h:In w V 2 A n (gW l))(hl:∀d∈l,d.1.size<=dL∧d.2.size<=dL)(hn:n<=9223372036854775807):dF N 147 #[Y A n c] w λe O=>e=b5 (a_ #[aX (textOf l),J (h_ l)])∧Grow w O:=by
 have hri:=py w V A n c l h hl hn;have ym:=LIn.len h;by_cases W:h_ l=0
 ·obtain⟨h8,hf⟩:=zh W
  obtain⟨gS,qI,_⟩:=(nQ l).1 hf;rw[W] at hri ⊢;rw[vL W];have Xb:n<=8:=by omega
  clear hf;obtain⟨aeq,HT⟩:=az (txt (can l):ByteArray);rw[<-HT.out];go_in;go_wp2_with fail;refine hri.mono ?_;rintro e w1 ⟨rfl,eO⟩;clear hri;have Tc:=zd w1 V A n c l (h.grow eO) ap;go_wp2_with fail;refine Tc.mono ?_;rintro e w2 ⟨A1,q,rfl,hq,hI,fN⟩;clear Tc h;have a2x:=eV eO fN eO.size;have hqc:q=can l:=hq.a71 qI;have xl:∀d∈q,ER d=true:=λd hd=>gS d (hq.perm.mem_iff.1 hd);have iH:q.length=n:=by rw[hq.len];exact ym
  have HQC:=Q hqc;have Lc:=Q iH;clear hqc iH ym W qI;go_wp2_with fail;go_loopw [5,16] (λo i wr=>∃k:Nat,k<=n∧i=J k∧Own wr (New w2 wr) 9 1 o k (((q.take k).map ri).map Value.string)∧Grow w2 wr) (λ_ i _=>n-(intOf i).toNat);case atStart=>exact⟨0,by omega,rfl,Own.nil,Grow.refl _⟩
  case round=>
   obtain⟨i,l8,rfl,hO,i7⟩:=hrel;obtain⟨Ab,cb,rfl,xr,Mr,hmb⟩:=hO.kB;have It:=i7.size;by_cases hi:i<n
   ·have hit:decide ((i:Int)<(n:Int))=true:=aC ap
    obtain⟨ad,T5,rfl,e0,e1⟩:=Jh (hI.grow i7) hi;have ON:=e0 wr (Grow.refl _);have Xd:=e1 wr (Grow.refl _);have hdo:=xl _ (bD T5);have jA:Hid (((q.take (i+1)).map ri).map Value.string=((q.take i).map ri).map Value.string++[ri q[i]].map Value.string):=Q (by rw[br T5,bM,bM];rfl)
    generalize q[i]=d at ON Xd hdo jA;have vb:=Qt hdo;clear e0 e1 xr;go_wp2_with (at_builtin;refine stay ?_);refine dN ?_;have fA:Grow wr ((wr.alloc (.cells #[aX d.1,aX d.2] 66)).alloc (.cells #[aX (d.1++{ data:=#[61] }++d.2)] 9)):=((Below.refl _ _).alloc (bh _) _).alloc (by simp) _;refine fZ (V:=New w2 wr) a6W _ rfl (.tmp 20) (.tmp 27) rfl (Y Ab i cb) i (((q.take i).map ri).map Value.string) rfl (hO.grow (λb hb=>hb.2) fA) ((wr:Nat)+1+1) (some ⟨(wr:Nat)+1,0,none⟩) 1 1 ([ri d].map Value.string) rfl (fO (wr.alloc (.cells #[aX d.1,aX d.2] 66)) #[aX (d.1++{ data:=#[61] }++d.2)] 9 (0,0) (n:=1) (size:=1) rfl ((wr:Nat)+1) (by simp)) (Jg _) ap ?_;intro v5 w5 UN xu;have hs5:=xu.size;simp at hs5;rw[<-jA.out] at UN;have hO6:Own w5 (New w2 w5) 9 1 v5 (i+1) (((q.take (i+1)).map ri).map Value.string):=by
     refine UN.mono λb hb=>?_;rcases hb with hb|hb
     ·exact⟨hb.1,by have:=hb.2;omega⟩
     ·have h6:=hb.1
      simp at h6;exact⟨by omega,hb.2⟩
    have vg:Grow w2 w5:=Below.trans (eV i7 fA It) (xu.below (B:=(w2:Nat)) (λb hb=>hb.1) (by simp;omega));clear UN xu hO fA ON Xd;go_wp2_with fail;go_roundw;case rel=>exact⟨i+1,by omega,by go_num,hO6,vg⟩
    case measure=>simp[intOf];omega
   ·obtain rfl:n=i:=by omega
    have hit:decide ((n:Int)<(n:Int))=false:=aD ap;have hqt:q.take n=q:=bH (by have:=Lc.out;omega);rw[hqt] at xr;have htl:=UL q xl;have UO:=Lc.out;have e:(q.map ri).map (·.data.toList)=q.map px:=by rw[List.map_map];exact cP λd _=>Jq d
    have hjo:=Qp wr _ Ab n cb (q.map ri) Qr xr Mr ap (by rw[e];show (Jp q).length<=_;omega);rw[e] at hjo;have hT:mk (Lib.join (q.map px) Qr.data.toList)=aeq:=by rw[HT.out,<-HQC.out];rfl
    rw[hT] at hjo;clear e hqt htl UO hO xr hT;have ku:=eV a2x i7 a2x.size;go_wp2_with fail;refine hjo.mono ?_;rintro e w8 ⟨rfl,hg8⟩;clear hjo;go_wp2;go_ret2;exact⟨rfl,eV ku hg8 ku.size⟩
 ·rw[Qv W]
  have ig:(h_ l == 0)=false:=beq_eq_false_iff_ne.2 W;generalize h_ l=R at hri W ig ⊢;go_in;go_wp2_with fail;refine hri.mono ?_;rintro e w1 ⟨rfl,eO⟩;clear hri;go_wp2;go_ret2;exact⟨rfl,eO⟩
theorem rj(c:UInt8):∀(s:aT),∀p∈eE c s,p.length<=s.length
 | [],p,h=>by
   rw[eE,List.mem_singleton] at h;rw[h];exact bh _
 | b::r,p,h=>by
   have ih:=rj c r;unfold eE at h;split at h
   ·rcases List.mem_cons.1 h with rfl|h
    ·exact bo _
    ·have:=ih p h;rw[bC];omega
   ·split at h
    ·rw[List.mem_singleton.1 h];simp
    ·rename_i q qs e
     rcases List.mem_cons.1 h with rfl|h
     ·have:=ih q (by rw[e];exact cy)
      rw[bC,bC];omega
     ·have:=ih p (by rw[e];exact bV _ h)
      rw[bC];omega
def Bi(p:aT):(jE p).1.size<=p.length∧(jE p).2.size<=p.length:=by
 have e:∀l:aT,(mk l).size=l.length:=λl=>by show l.toArray.size=_;rw[cE]
 unfold jE;rw[e,e];unfold Lib.cut;split;·exact⟨by rw[bn];omega,by rw[bU];omega⟩
 ·exact⟨bh _,bo _⟩
def zk(s:aR):s.data.toList.length=s.size:=by rw[ch];rfl
def DV(hs:s.size<=1000000):∀d∈fW s,d.1.size<=dL∧d.2.size<=dL:=λd hd=>by obtain⟨p,hp,rfl⟩:=List.mem_map.1 hd;have I:=rj 44 _ p hp;have Z:=Bi p;rw[zk] at I;unfold dL;omega
def Cs(h:h_ (fW s)≠0):gl s=12∧oM s=[]:=by
 have:nm s=false:=by unfold nm;rw[aD h,Bool.false_and]
 unfold gl oM;rw[this];exact⟨rfl,rfl⟩
def Nf(h:textOf (fW s)≠s):gl s=12∧oM s=[]:=by
 by_cases h0:h_ (fW s)=0
 ·rw[vL h0] at h
  have:nm s=false:=by unfold nm;rw[aD h,Bool.and_false]
  unfold gl oM;rw[this];exact⟨rfl,rfl⟩
 ·exact Cs h0
def Ng(h0:h_ (fW s)=0)(h:textOf (fW s)=s):gl s=0∧oM s=fW s:=by
 rw[vL h0] at h;have:nm s=true:=by unfold nm;rw[aC h0,aC h];rfl
 unfold gl oM;rw[this];exact⟨rfl,rfl⟩
def rU(w:G)(s:aR)(hs:s.size<=1000000):dF N 84 #[aX s] w λe O=>∃A c,e=b5 (a_ #[Y A (oM s).length c,J (gl s)])∧In O (New w O) 2 A (oM s).length (gW (oM s))∧(oM s).length<=c∧Grow w O:=by
 have hsp:=Nc w s 44 ap;obtain⟨P,HP⟩:=az (eE 44 s.data.toList);have HL:Hid (fW s=P.map jE):=Q (by rw[HP.out];rfl);have hPl:P.length<=s.size+1:=by rw[HP.out,<-zk];exact zj 44 _
 have hps:∀p∈P,p.length<=s.size:=λp hp=>by have:=rj 44 s.data.toList p (by rw[<-HP.out];exact hp);rwa [zk] at this
 rw[<-HP.out] at hsp;obtain⟨aer,HK⟩:=az (P.length:Nat);rw[<-HK.out] at hsp hPl;go_in;go_wp2_with fail;refine hsp.mono ?_;rintro e w1 ⟨A,rfl,hI,eO⟩;clear hsp;go_wp2_with fail;go_loopw [4,15] (λo i wr=>∃k:Nat,k<=aer∧i=J k∧Own wr (New w1 wr) 66 2 o k (gW ((P.take k).map jE))∧Grow w1 wr) (λ_ i _=>aer-(intOf i).toNat);case atStart=>exact⟨0,by omega,rfl,Own.nil,Grow.refl _⟩
 case round=>
  obtain⟨i,hiK,rfl,hO,i7⟩:=hrel;obtain⟨Ab,cb,rfl,xr,Mr,hmb⟩:=hO.kB;have It:=i7.size;by_cases hi:i<aer
  ·have hit:decide ((i:Int)<(aer:Int))=true:=aC ap
   have hI':In wr (New w w1) 1 A aer ((P.map mk).map Value.string):=hI.grow i7;obtain⟨ad,T5,rfl,e0⟩:=YH hI' hi;have ON:=e0 wr (Grow.refl _);rw[dt] at ON;have hqP:i<P.length:=by simpa using T5
   have hpm:=hps _ (bD hqP);have jA:Hid (gW ((P.take (i+1)).map jE)=gW ((P.take i).map jE)++gW [jE P[i]]):=Q (by rw[br hqP,bM];unfold gW;rw[bO];rfl)
   generalize P[i]=p at ON hpm jA;have Xh:=ul wr (mk p) 61 (by show p.toArray.size<_;rw[cE];omega);rw[mk_data] at Xh;have XT:Hid (jE p=(mk (Lib.cut p [61]).1,mk (Lib.cut p [61]).2.1)):=Q rfl;generalize mk (Lib.cut p [61]).1=x at Xh XT;generalize mk (Lib.cut p [61]).2.1=y at Xh XT;generalize (Lib.cut p [61]).2.2=z at Xh;clear e0 hI' xr;go_wp2_with fail;refine Xh.mono ?_;rintro e w3 ⟨rfl,jU⟩;clear Xh ON;have OC:=jU.size;have fA:Grow w3 (w3.alloc (.cells #[aX x,aX y] 66)):=(Below.refl _ _).alloc (bh _) _;have oS:=hO.grow (λb hb=>hb.2) jU;go_wp2_with (at_builtin;refine stay ?_);refine dN ?_;refine fZ (V:=New w1 wr) Q5 _ rfl (.tmp 25) (.tmp 29) rfl (Y Ab i cb) i (gW ((P.take i).map jE)) rfl (oS.grow (λb hb=>by have:=hb.2;omega) fA) ((w3:Nat)+1) (some ⟨(w3:Nat),0,none⟩) 1 1 (gW [jE p]) rfl (by rw[XT.out];exact fO w3 #[aX x,aX y] 66 (0,0) (n:=1) (size:=2) rfl (w3:Nat) rfl) (yW _) ap ?_;intro v5 w5 UN xu;have hs5:=xu.size;simp at hs5;rw[<-jA.out] at UN;have hO6:Own w5 (New w1 w5) 66 2 v5 (i+1) (gW ((P.take (i+1)).map jE)):=by
    refine UN.mono λb hb=>?_;rcases hb with hb|hb
    ·exact⟨hb.1,by have:=hb.2;omega⟩
    ·have h6:=hb.1
     simp at h6;exact⟨by omega,hb.2⟩
   have vg:Grow w1 w5:=Below.trans (eV (eV i7 jU It) fA ap) (xu.below (B:=(w1:Nat)) (λb hb=>hb.1) (by simp;omega));clear UN xu hO oS fA;go_wp2_with fail;go_roundw;case rel=>exact⟨i+1,by omega,by go_num,hO6,vg⟩
   case measure=>simp[intOf];omega
  ·obtain rfl:aer=i:=by omega
   have hit:decide ((aer:Int)<(aer:Int))=false:=aD ap;have hPt:(P.take aer).map jE=fW s:=by rw[HL.out,bH (by have:=HK.out;omega)]
   rw[hPt] at xr;have hls:=DV hs;have Tf:=yQ wr _ Ab aer cb (fW s) xr hls ap;have hKl:Hid ((fW s).length=aer):=Q (LIn.len xr);have ku:=eV eO i7 eO.size;have TI:=eO.size;clear hPt hO hls;by_cases W:h_ (fW s)=0
   ·have BN:(h_ (fW s) == 0)=true:=by rw[W];rfl
    by_cases hT:textOf (fW s)=s
    ·have HY:=Q (Ng W hT)
     rw[W,hT] at Tf;clear W hT BN;go_wp2_with fail;refine Tf.mono ?_;rintro e w5 ⟨rfl,sk⟩;clear Tf;go_wp2_with (go_at_call 148;refine (FM _ _ _ _ Mr).mono ?_;rintro e O ⟨rfl,rfl⟩);go_ret2;have hs5:=sk.size;rw[HY.out.1,HY.out.2,hKl.out];exact⟨Ab,aer,rfl,(xr.grow sk).mono λb hb=>⟨by have:=hb.1;omega,by have:=hb.2;omega⟩,bh _,eV ku sk ku.size⟩
    ·have HY:=Q (Nf hT)
     rw[W] at Tf;have hTb:=ux hT;clear W hT BN;generalize textOf (fW s)=aeq at Tf hTb;go_wp2_with fail;refine Tf.mono ?_;rintro e w5 ⟨rfl,sk⟩;clear Tf;go_wp2;go_ret2;rw[HY.out.1,HY.out.2];exact⟨none,0,rfl,In.nil,bh _,eV ku sk ku.size⟩
   ·have HY:=Q (Cs W)
    have BN:(h_ (fW s) == 0)=false:=beq_eq_false_iff_ne.2 W;clear xr;generalize textOf (fW s)=aeq at Tf;generalize h_ (fW s)=R at Tf W BN;go_wp2_with fail;refine Tf.mono ?_;rintro e w5 ⟨rfl,sk⟩;clear Tf;go_wp2;go_ret2;rw[HY.out.1,HY.out.2];exact⟨none,0,rfl,In.nil,bh _,eV ku sk ku.size⟩
end Go.Proofs.YtpeepcmdehhbgaaGreatDoor.aev
namespace Go.Proofs.YtpeepcmdehhbgaaGreatDoor
open RowKit Hop
structure En where
 (k ag sh sq ep:Int) (ds:List Dl) (se:aR) (fr tg:Int)
instance(e:En)(A:Option dG)(c:Nat):CoeDep (En×Option dG×Nat) (e,A,c) (Array E):=⟨#[J e.k,J e.ag,J e.sh,J e.sq,J e.ep,Y A e.ds.length c,aX e.se,J e.fr,J e.tg]⟩
def En.agg(e:En)(A:aU)(c:Nat):Array E:=#[J e.k,J e.ag,J e.sh,J e.sq,J e.ep,Y A e.ds.length c,aX e.se,J e.fr,J e.tg]
def FT(d:Dl):Prop:=1<=d.2∧d.2<=18446744073709551615∧aev.gl d.1=0∧d.1.size<=1000
def En.aeu(e:En):Prop:=e.k=1∧e.se=⟨#[]⟩∧(0<=e.ag∧e.ag<8)∧(0<=e.sh∧e.sh<4)∧(1<=e.sq∧e.sq<=9223372036854775807)∧(1<=e.ep∧e.ep<=9223372036854775807)∧(1<=e.ds.length∧e.ds.length<=8)∧∀d∈e.ds,FT d
def En.R(e:En):Prop:=e.k=2∧e.ag=0∧e.sh=0∧e.sq=0∧e.ep=0∧e.ds=[]∧aev.gl e.se=0∧e.se.size<=1000
def En.Ok(e:En):Prop:=((0<=e.fr∧e.fr<8)∧0<=e.tg∧e.tg<=9223372036854775807)∧(e.aeu∨e.R)
def dZ(w:G)(o:Obj):Grow w (w.alloc o):=(Below.refl _ w).alloc (bh _) o
def kY{l:List Dl}(h:kg w V A n l)(K:k<n):∃(ad:dG)(hq:k<l.length),A=some ad∧(∀w1,Grow w w1->w1.cell? (ad.add (k*2))=some (aX l[k].1))∧∀w1,Grow w w1->w1.cell? ⟨(ad.add (k*2)).block,(ad.add (k*2)).off+1,none⟩=some (ae ah (l[k].2:Int)):=by obtain⟨ad,hq,e,_,hb,e0,e12⟩:=In.ni (cells:=nO) h ap j4 K;exact⟨ad,hq,e,λw1 H=>(H.cell (by rw[block_add];exact hb)).trans (e0 _ rfl),λw1 H=>(H.cell (p:=⟨(ad.add (k*2)).block,(ad.add (k*2)).off+1,none⟩) (show (ad.add (k*2)).block<_ by rw[block_add];exact hb)).trans (e12 0 _ rfl)⟩
def kind_w(w:G)(e:En)(A:aU)(c:Nat)(h:e.aeu):dF N 185 #[aZ (e.agg A c)] w λe O=>e=b5 (aY true)∧Grow w O:=by obtain⟨k,ag,sh,sq,ep,ds,se,fr,tg⟩:=e;obtain⟨K,hs,_⟩:=h;simp only at K hs;subst K hs;unfold En.agg;dsimp only;go_in;go_wp2;go_ret;exact⟨rfl,(Below.refl _ w).alloc (bh _) _⟩
def kind_r(w:G)(e:En)(A:aU)(c:Nat)(h:e.R):dF N 185 #[aZ (e.agg A c)] w λe O=>e=b5 (aY true)∧Grow w O:=by obtain⟨k,ag,sh,sq,ep,ds,se,fr,tg⟩:=e;obtain⟨K,I,Z,T,h4,h5,_⟩:=h;simp only at K I Z T h4 h5;subst K I Z T h4 h5;unfold En.agg;dsimp only[cx];go_in;go_wp2;go_ret;exact⟨rfl,(Below.refl _ w).alloc (bh _) _⟩
def within_yes(w:G)(n m:Int)(h0:0<=n)(I:n<m):dF N 186 #[J n,J m] w λe O=>e=b5 (aY true)∧w=O:=by go_in;go_wp2;go_ret;exact⟨ky (by simp[h0,I]),rfl⟩
end Go.Proofs.YtpeepcmdehhbgaaGreatDoor
