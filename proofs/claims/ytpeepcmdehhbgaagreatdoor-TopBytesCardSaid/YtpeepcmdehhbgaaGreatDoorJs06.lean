/- Wiadd, Wimake. -/
import Derived.Test.YtpeepcmdehhbgaaGreatDoorJs01
import Derived.Deep.LoopGhost
set_option linter.all false
set_option maxRecDepth 100000
set_option maxHeartbeats 2000000
open Go.Value renaming int->ae,slice->Z,string->aX,bool->aY,agg->aZ,tuple->a_
open Go.Ending renaming returned->b5
open Go.IntKind renaming i64->af,u64->ah
open Go (J az aE aA aB aC aD ay aj am ap aw aL aK aJ aI aH aV aU aT aR aQ aP aO aN)
open Go.Proofs.Tryz renaming prog->W
open Go.Lib renaming hid->Q
open Nat renaming le_refl->bh,lt_of_lt_of_le->bw,eq_zero_or_pos->b_
open Int renaming toNat_natCast->cA
open Bool renaming false_ne_true->cB
open Go renaming Value->K,World->X,Calls->dz
namespace Go.Proofs.YtpeepcmdehhbgaaGreatDoor.abq
open RowKit Hop
def VJ(M d:Nat)(hM:M<18446744073709551616)(hd:d<64):bits .or .u64 (M:Int) (((2 ^ d:Nat):Nat):Int)=((M ||| 2 ^ d:Nat):Int):=u64_or_nat M (2 ^ d) hM (bw (Nat.pow_lt_pow_right ap hd) am)
def N5(d:Nat)(hd:d<64):IntKind.u64.wrap ((2:Int) ^ d)=((2 ^ d:Nat):Int):=by
 have h:((2:Int) ^ d)=((2 ^ d:Nat):Int):=by push_cast;rfl
 have G:2 ^ d<2 ^ 64:=Nat.pow_lt_pow_right ap hd;rw[wrap_u64,h];clear h;generalize 2 ^ d=p at G ⊢;omega
def VK(x:Nat)(Y:x<18446744073709551616)(h:x % 2=1):(bits .and .u64 (x:Int) 1 == 1)=true:=by rw[and_one x Y,h];rfl
def Rj(x:Nat)(Y:x<18446744073709551616)(h:¬ x % 2=1):(bits .and .u64 (x:Int) 1 == 1)=false:=by rw[and_one x Y,show x % 2=0 by omega];rfl
def N6{F:Int}{M:Nat}(h:∀i,M.testBit i=true->F+1+(i:Int)<=9223372036854775807):∀i,(M / 2).testBit i=true->F+1+1+(i:Int)<=9223372036854775807:=λi hi=>by have:=h (i+1) (by rw[Nat.testBit_succ];exact hi);omega
def Rk(w:X)(g:Nat)(F:Int)(M:Nat)(n:Int)(d:Nat)(h:eJ w g 328 #[J F,ae ah M])(hI:jW F M)(hn:n<=9223372036854775807)(hd:n-F-1=(d:Int))(fS:d<64)(hb:M.testBit d=false):dz W 237 #[g,J n] w λe O=>e=b5 (aY true)∧eJ O g 328 #[J (put F M n).1,ae ah ((put F M n).2:Int)]∧fI g w O:=by
 have k233:∀(vs:aP)(w:X),(callFunc 233 vs).run W w=.ok (.enter 233 vs) w:=λvs w=>by go_simp
 have hF:-9223372036854775808<=F∧F<=9223372036854775807:=⟨by have:=hI.lo;omega,hI.hi⟩;have hn':-9223372036854775808<=n∧n<=9223372036854775807:=⟨by have:=hI.lo;omega,hn⟩;have hnf:far F n=false:=by unfold far;rw[Bool.and_eq_false_iff];exact .inr (aD ap)
 have c1:=Q (rO w g F M n false h hF hn' hnf);have c2:=Q (IE w g F M n d h hI.mask hF hn' hd fS);have HD:=Q hd;have hM:=hI.mask;clear hnf hd;rw[hb] at c2;obtain⟨x,HX⟩:=az (2 ^ d:Nat);obtain⟨y,HY⟩:=az (M ||| x:Nat);have BE:y<2 ^ 64:=by rw[HY.out,HX.out];exact Nat.or_lt_two_pow hM (Nat.pow_lt_pow_right ap fS)
 have N7:∀i,y.testBit i=true->F+1+(i:Int)<=9223372036854775807:=by
  intro i hi;rw[HY.out,Nat.testBit_or,Bool.or_eq_true] at hi;rcases hi with hi|hi
  ·exact hI.top i hi
  ·rw[HX.out,Nat.testBit_two_pow] at hi
   have:d=i:=by simpa using hi
   have:=HD.out;omega
 have Zp:=Q N7;clear N7;go_in;go_wp2_with (first
  | (go_at_call 177;refine (c1.out).mono ?_;rintro e w1 ⟨rfl,rfl⟩)
  | (go_at_call 175;refine (c2.out).mono ?_;rintro e w1 ⟨rfl,gl⟩;have ky:=h.grow gl))
 have c0:=λw1(H:Grow _ w1)=>(ky.grow H).cell 1;have c1:=λw1(H:Grow _ w1)=>Uj w1 g F M n d (ky.grow H) HD.out fS;have e1:IntKind.u64.wrap (2 ^ d)=(x:Int):=by rw[HX.out];exact N5 d fS
 have e2:bits .or .u64 (M:Int) (x:Int)=(y:Int):=by rw[HY.out,HX.out];exact VJ M d hM fS
 refine jo 11 λw1 H=>?_;clear c0 c1 e1 e2;have lS:=ky.grow H;have cc:=lS.cell 1;have cf:=lS.frozen 1;have pN:fI g w _:=(fI.dK (gl.trans H)).put 1 (ae ah y);have F9:=lS.put 1 (ae ah y);go_wp2_with fail;go_loopg [] 64 (λk wr=>∃(F':Int)(M':Nat),k<=64∧M'<2 ^ k∧strip 64 F y=strip k F' M'∧0<=F'∧(∀i,M'.testBit i=true->F'+1+(i:Int)<=9223372036854775807)∧eJ wr g 328 #[J F',ae ah M']∧fI g w wr);case atStart=>exact⟨F,y,by omega,BE,rfl,hI.lo,Zp.out,F9,pN⟩
 case round=>
  obtain⟨F',M',N,Va,hs,h0,a1t,hB,hO⟩:=hrel;have HS:=Q hs;have HT:=Q a1t;clear hs a1t;have b0:=hB.cell 0;have b1:=hB.cell 1;have f0:=hB.frozen 0;have f1:=hB.frozen 1;have Zq:M'<18446744073709551616:=bw Va (Nat.pow_le_pow_right ap N);by_cases Is:M' % 2=1
  ·have ho:=VK M' Zq Is
   have hf0:F'+1<=9223372036854775807:=by have:=HT.out 0 (by rw[Nat.testBit_zero];simpa using Is);omega
   have hgk:0<gk:=by
    rcases b_ gk with e|e
    ·rw[e] at Va;simp at Va;omega
    ·exact e
   have HO:=Q Is;clear Is;go_wp2_with fail;go_roundg (gk-1);case measure=>omega
   case rel=>
    have Zj:2 ^ gk=2*2 ^ (gk-1):=by rw[<-Nat.pow_succ'];congr 1;omega
    refine⟨F'+1,M' / 2,by omega,by omega,?_,by omega,N6 HT.out,?_,(hO.put 0 _).put 1 _⟩
    ·rw[HS.out,show gk=(gk-1)+1 by omega]
     show (if M' % 2=1 then strip (gk-1) (F'+1) (M' / 2) else (F',M'))=_;rw[aA HO.out];rfl
    ·have:=(hB.put 0 (J (F'+1))).put 1 (ae ah ((M':Int) / 2))
     simpa using this
  ·have ho:=Rj M' Zq Is
   have uX:strip gk F' M'=(F',M'):=by
    cases gk with
    | zero=>rfl
    | succ k=>show (if M' % 2=1 then _ else _)=_;rw[aB Is]
   have a3M:=Q uX;clear uX Is;go_wp2;go_ret;have Cx:put F M n=(F',M'):=by unfold put;rw[HD.out,cA,<-HX.out,<-HY.out,HS.out,a3M.out]
   rw[Cx];exact⟨rfl,hB,hO⟩
def Rl(w:X)(g:Nat)(F:Int)(M:Nat)(n:Int)(h:eJ w g 328 #[J F,ae ah M])(hF:-9223372036854775808<=F∧F<=9223372036854775807)(hn:-9223372036854775808<=n∧n<=9223372036854775807)(hf:far F n=true):dz W 237 #[g,J n] w λe O=>e=b5 (aY false)∧Grow w O:=by have c1:=Q (rO w g F M n true h hF hn hf);clear hf;go_in;go_wp2_with (go_at_call 177;refine (c1.out).mono ?_;rintro e w1 ⟨rfl,rfl⟩);go_ret;exact⟨rfl,Grow.refl _⟩
def N8(w:X)(g:Nat)(F:Int)(M:Nat)(n:Int)(h:eJ w g 328 #[J F,ae ah M])(hF:-9223372036854775808<=F∧F<=9223372036854775807)(hn:-9223372036854775808<=n∧n<=9223372036854775807)(hf:far F n=false)
 (hs:∀w,eJ w g 328 #[J F,ae ah M]->dz W 175 #[g,J n] w λe O=>e=b5 (aY true)∧Grow w O):dz W 237 #[g,J n] w λe O=>e=b5 (aY false)∧Grow w O:=by
 have c1:=Q (rO w g F M n false h hF hn hf);have c2:=Q (hs w h);clear hf hs;go_in;go_wp2_with (first
  | (go_at_call 177;refine (c1.out).mono ?_;rintro e w1 ⟨rfl,rfl⟩)
  | (go_at_call 175;refine (c2.out).mono ?_;rintro e w1 ⟨rfl,gl⟩))
 go_ret;exact⟨rfl,gl⟩
def ol(w:X)(g:Nat)(F:Int)(M:Nat)(n:Int)(h:eJ w g 328 #[J F,ae ah M])(hI:jW F M)(hn:-9223372036854775808<=n∧n<=9223372036854775807):dz W 175 #[g,J n] w λe O=>e=b5 (aY (seen F M n))∧Grow w O:=by
 have hF:-9223372036854775808<=F∧F<=9223372036854775807:=⟨by have:=hI.lo;omega,hI.hi⟩;by_cases mn:n<=F
 ·have e:seen F M n=true:=by unfold seen;rw[aC mn];rfl
  rw[e];exact MN w g F M n h mn
 ·cases hf:far F n with
  | true=>
    have e:seen F M n=false:=by unfold seen;rw[aD mn,hf];rfl
    rw[e];exact MO w g F M n h hF hn ap hf
  | false=>
    have hd:n-F-1<64:=by unfold far at hf;simp only[Bool.and_eq_false_iff,decide_eq_false_iff_not] at hf;omega
    have e:seen F M n=M.testBit (n-F-1).toNat:=by unfold seen;rw[aD mn,hf];rfl
    rw[e];exact IE w g F M n _ h hI.mask hF hn ap ap
theorem IP(w:X)(g:Nat)(F:Int)(M:Nat)(n:Int)(h:eJ w g 328 #[J F,ae ah M])(hI:jW F M)(hn:-9223372036854775808<=n∧n<=9223372036854775807):dz W 237 #[g,J n] w λe O=>e=b5 (aY (Kf F M n))∧eJ O g 328 #[J (ij F M n).1,ae ah ((ij F M n).2:Int)]∧fI g w O:=by
 have hF:-9223372036854775808<=F∧F<=9223372036854775807:=⟨by have:=hI.lo;omega,hI.hi⟩;cases hb:Kf F M n with
 | true=>
   obtain⟨I,G,L⟩:=wM hb;have e:ij F M n=put F M n:=by unfold ij;rw[aA hb]
   rw[e];exact Rk w g F M n _ h hI hn.2 ap ap L
 | false=>
   have e:ij F M n=(F,M):=by unfold ij;rw[aB (by rw[hb];exact cB)]
   rw[e];cases hf:far F n with
   | true=>exact (Rl w g F M n h hF hn hf).mono λ_ _ ⟨he,H⟩=>⟨he,h.grow H,fI.dK H⟩
   | false=>
     have hs:seen F M n=true:=by unfold Kf at hb;rw[hf] at hb;simpa using hb
     exact (N8 w g F M n h hF hn hf (λw1 wv=>hs▸ol w1 g F M n wv hI hn)).mono λ_ _ ⟨he,H⟩=>⟨he,h.grow H,fI.dK H⟩
def Rm(w:X):dz W 232 #[] w λe O=>e=b5 ((((w:Nat),0):K))∧eJ O (w:Nat) 328 #[(),ae ah ((0:Nat):Int)]∧Grow w O:=by go_in;go_wp2;go_ret;exact⟨rfl,eJ.made w 328 _,(Below.refl _ w).alloc (bh _) _⟩
end Go.Proofs.YtpeepcmdehhbgaaGreatDoor.abq
