/- Lm1, Lm2, Smap, Csort, Call, Call2. -/
import Derived.Test.YtpeepcmdehhbgaaGreatDoorJs02
import Derived.Test.YtpeepcmdehhbgaaGreatDoorJs43
import Derived.Test.YtpeepcmdehhbgaaGreatDoorJs44
set_option linter.all false
set_option maxRecDepth 100000
set_option maxHeartbeats 2000000
open Go.Value renaming int->ae,slice->Z,string->aX,bool->aY,agg->aZ,tuple->a_
open Go.Ending renaming returned->b5
open Go.IntKind renaming i64->af,u64->ah
open Go (J az aE aA aB aC aD ay aj am ap aw aL aK aJ aI aH aV aU aT aR aQ aP aO aN)
open Go.Proofs.Tryz renaming prog->W,underlying9->cW,underlying5->dm,underlying3->dp
open Go.Lib renaming hid->Q
open List renaming length_append->bd,length_map->bj,eq_nil_of_length_eq_zero->bu,getElem_mem->bF,take_of_length_le->bH,flatMap_append->bL,drop_eq_getElem_cons->bP,map_cons->bQ,size_toArray->cy,not_mem_nil->cF,drop_of_length_le->cH,mem_cons->cI,map_congr_left->cO,length_filter_le->c_,getElem_map->di
open Nat renaming le_refl->bh,zero_le->bo,lt_of_lt_of_le->bw,zero_add->cJ
open Go renaming World->X,Calls->dz,Addr->dA,TypeId->dC,Program->dD
variable{k v:Nat}{x:aR}
namespace Go.Proofs.YtpeepcmdehhbgaaGreatDoor.abn
open RowKit Hop
set_option maxRecDepth 100000
set_option maxHeartbeats 1000000
def hasB(abn:List Lb)(x:Lb):Bool:=abn.any λy=>decide (y=x)
def aas(s:aR)(l:List Lb):Bool:=decide (fW s=0)&&l.all λx=>hasB (nY s) x
def NoL(abn:List Lb)(x:Lb)(k:Nat):Prop:=∀(j:Nat)(hj:j<abn.length),j<k->abn[j]≠x
theorem NoL.more{abn:List Lb}{x:Lb}(h:NoL abn x k)(N:k<abn.length)(jT:abn[k]≠x):NoL abn x (k+1):=λj hj Vb=>by
 rcases Nat.lt_or_ge j k with I|I
 ·exact h j hj I
 ·have:j=k:=by omega
  subst this;exact jT
theorem aaP{a b:aR}:(a.toList == b.toList)=decide (b=a):=by
 by_cases h:b=a;·rw[h];simp
 ·rw[aD h,beq_eq_false_iff_ne]
  exact λe=>h (FZ.1 e).symm
theorem ab8(w:X)(V:aV)(A:aU)(n c:Nat)(abn:List Lb)(x:Lb)(h:In w V 2 A n (gF abn))(hn:n<=1048576):dz W 150 #[Z A n c,aZ #[aX x.1,aX x.2]] w λe O=>∃z:Int,e=b5 (J z)∧decide (0<=z)=hasB abn x∧Grow w O:=by
 have fu:=dT w (.cells #[aX x.1,aX x.2] 66);have hB:=eJ.made w 66 #[aX x.1,aX x.2];have wu:=LIn.len h;go_in;go_wp2_with fail;go_loopw [8] (λi wr=>∃k:Nat,k<=n∧i=J k∧NoL abn x k∧Grow (w.alloc (.cells #[aX x.1,aX x.2] 66)) wr) (λi _=>n-(intOf i).toNat);case atStart=>exact⟨0,by omega,rfl,λj hj h0=>absurd h0 ap,Grow.refl _⟩
 case round=>
  obtain⟨k,oL,rfl,kh,gP⟩:=hrel;have jU:=fu.trans gP;by_cases N:k<n
  ·have hd:decide ((k:Int)<(n:Int))=true:=aC ap
   have q0:=(hB.grow gP).cell 0;have q1:=(hB.grow gP).cell 1;obtain⟨ad,hq,rfl,f0,f1⟩:=FQ (h.grow jU) N;have g0:=f0 wr (Grow.refl _);have g1:=f1 wr (Grow.refl _);have qY:¬ n<=k:=by omega
   have HK:Hid (abn[k]=x->hasB abn x=true):=Q λe=>List.any_eq_true.2 ⟨abn[k],bF hq,aC e⟩;have HN:Hid (abn[k]≠x->NoL abn x (k+1)):=Q λe=>kh.more hq e;obtain⟨⟨y1,y2⟩,HY⟩:∃y:Lb,Hid (y=abn[k]):=⟨abn[k],Q rfl⟩;rw[<-HY.out] at g0 g1 HK HN;clear kh HY f0 f1;by_cases I:y1=x.1
   ·by_cases G:y2=x.2
    ·have e1:(x.1.toList == y1.toList)=true:=by rw[aaP,aC I]
     have e2:(x.2.toList == y2.toList)=true:=by rw[aaP,aC G]
     have NO:=Q (HK.out (Prod.ext I G));clear I G HN HK;go_wp2_with fail;go_still_tail 5,(by kernel_rfl);change wpList _ _ _ _ _ wr.drew;go_wp2_with fail;go_ret;exact⟨(k:Int),rfl,by rw[NO.out];exact aC ap,jU.drew⟩
    ·have e2:(x.2.toList == y2.toList)=false:=by rw[aaP,aD G]
     have NO:=Q (HN.out λe=>G (congrArg Prod.snd e));clear G HN HK;go_wp2_with fail;go_still_tail 5,(by kernel_rfl);change wpList _ _ _ _ _ wr.drew;go_wp2_with fail;go_roundw;case rel=>exact⟨k+1,by omega,by go_num,NO.out,gP.drew⟩
     case measure=>simp[intOf];omega
   ·have e1:(x.1.toList == y1.toList)=false:=by rw[aaP,aD I]
    have NO:=Q (HN.out λe=>I (congrArg Prod.fst e));clear I HN HK;go_wp2_with fail;go_still_tail 5,(by kernel_rfl);change wpList _ _ _ _ _ wr.drew;go_wp2_with fail;go_roundw;case rel=>exact⟨k+1,by omega,by go_num,NO.out,gP.drew⟩
    case measure=>simp[intOf];omega
  ·obtain rfl:k=n:=by omega
   have hd:decide ((k:Int)<(k:Int))=false:=aD ap;have hf:hasB abn x=false:=by unfold hasB;rw[List.any_eq_false];intro y hy he;obtain⟨j,hj,rfl⟩:=List.getElem_of_mem hy;exact absurd (of_decide_eq_true he) (kh j hj ap)
   have NO:=Q hf;clear hf;go_wp2_with fail;go_ret;exact⟨-1,rfl,by rw[NO.out];rfl,jU⟩
theorem ab1(w:X)(V:aV)(A:aU)(n c:Nat)(abn:List Lb)(x:Lb)(h:In w V 2 A n (gF abn))(hn:n<=1048576):dz W 87 #[Z A n c,aZ #[aX x.1,aX x.2]] w λe O=>e=b5 (aY (hasB abn x))∧Grow w O:=by have fu:=dT w (.cells #[aX x.1,aX x.2] 66);have hB:=eJ.made w 66 #[aX x.1,aX x.2];have hI:=ab8 (w.alloc (.cells #[aX x.1,aX x.2] 66)) V A n c abn x (h.grow fu) hn;have q0:=hB.cell 0;have q1:=hB.cell 1;go_in;go_wp2_with fail;refine hI.mono ?_;rintro e w2 ⟨z,rfl,hz,fk⟩;replace hz:=Q hz;clear hI q0 q1;go_wp2;go_ret;exact⟨by rw[<-hz.out];rfl,fu.trans fk⟩
theorem abA(w:X)(V:aV)(A:aU)(n c:Nat)(abn:List Lb)(x:Lb)(b:Nat)(hb:eJ w b 67 #[Z A n c])(h:In w V 2 A n (gF abn))(hn:n<=1048576):dz W 86 #[aZ #[aX x.1,aX x.2],b] w λe O=>e=b5 (aY (!hasB abn x))∧Grow w O:=by have fu:=dT w (.cells #[aX x.1,aX x.2] 66);have hB:=eJ.made w 66 #[aX x.1,aX x.2];have q0:=hB.cell 0;have q1:=hB.cell 1;have c0:=(hb.grow fu).cell 0;have hI:=ab1 (w.alloc (.cells #[aX x.1,aX x.2] 66)) V A n c abn x (h.grow fu) hn;generalize hasB abn x=r at hI;go_in;go_wp2_with fail;refine hI.mono ?_;rintro e w2 ⟨rfl,fk⟩;clear c0 q0 q1;go_wp2;go_ret;exact⟨rfl,fu.trans fk⟩
theorem aaR(w:X)(V U:aV)(A B:aU)(n c m d:Nat)(abn l:List Lb)(b:Nat)(hb:eJ w b 67 #[Z A n c])(h:In w V 2 A n (gF abn))(hn:n<=1048576)(hl:In w U 2 B m (gF l))(hm:m<=1048576):dz W 149 #[Z B m d,.func (.func 86) #[] #[b]] w λe O=>∃z:Int,e=b5 (J z)∧decide (0<=z)=!(l.all λx=>hasB abn x)∧Grow w O:=by
 have wu:=LIn.len hl;go_in;go_wp2_with fail;go_loopw [8] (λi wr=>∃k:Nat,k<=m∧i=J k∧(∀(j:Nat)(hj:j<l.length),j<k->hasB abn l[j]=true)∧Grow w wr) (λi _=>m-(intOf i).toNat);case atStart=>exact⟨0,by omega,rfl,λj hj h0=>absurd h0 ap,Grow.refl _⟩
 case round=>
  obtain⟨k,Iw,rfl,kh,gP⟩:=hrel;by_cases N:k<m
  ·have hd:decide ((k:Int)<(m:Int))=true:=aC ap
   obtain⟨ad,hq,rfl,f0,f1⟩:=FQ (hl.grow gP) N;have e0:=f0 wr (Grow.refl _);have e1:=f1 wr (Grow.refl _);have qY:¬ m<=k:=by omega
   have HK:Hid (hasB abn l[k]=false->(l.all λx=>hasB abn x)=false):=Q λe=>by rw[List.all_eq_false];exact⟨l[k],bF hq,by rw[e];simp⟩
   have HN:Hid (hasB abn l[k]=true->∀(j:Nat)(hj:j<l.length),j<k+1->hasB abn l[j]=true):=Q λh0 j hj Vb=>by
    rcases Nat.lt_or_ge j k with I|I
    ·exact kh j hj I
    ·have:j=k:=by omega
     subst this;exact h0
   have E:=abA wr V A n c abn l[k] b (hb.grow gP) (h.grow gP) hn;generalize l[k]=x at e0 e1 E HK HN;clear kh f0 f1;cases Y:hasB abn x with
   | true=>
     rw[Y] at E;have NO:=Q (HN.out Y);clear Y HK HN;go_wp2_with fail;refine E.mono ?_;rintro e w2 ⟨rfl,fk⟩;go_wp2_with fail;go_roundw;case rel=>exact⟨k+1,by omega,by go_num,NO.out,gP.trans fk⟩
     case measure=>simp[intOf];omega
   | false=>
     rw[Y] at E;have NO:=Q (HK.out Y);clear Y HK HN;go_wp2_with fail;refine E.mono ?_;rintro e w2 ⟨rfl,fk⟩;go_wp2_with fail;go_ret;exact⟨(k:Int),rfl,by rw[NO.out];exact aC ap,gP.trans fk⟩
  ·obtain rfl:k=m:=by omega
   have hd:decide ((k:Int)<(k:Int))=false:=aD ap;have hf:(l.all λx=>hasB abn x)=true:=by rw[List.all_eq_true];intro y hy;obtain⟨j,hj,rfl⟩:=List.getElem_of_mem hy;exact kh j hj ap
   have NO:=Q hf;clear hf kh;go_wp2_with fail;go_ret;exact⟨-1,rfl,by rw[NO.out];rfl,gP⟩
theorem aaA(w:X)(V U:aV)(A B:aU)(n c m d:Nat)(abn l:List Lb)(b:Nat)(hb:eJ w b 67 #[Z A n c])(h:In w V 2 A n (gF abn))(hn:n<=1048576)(hl:In w U 2 B m (gF l))(hm:m<=1048576):dz W 85 #[Z B m d,.func (.func 86) #[] #[b]] w λe O=>e=b5 (aY (!l.all λx=>hasB abn x))∧Grow w O:=by have hI:=aaR w V U A B n c m d abn l b hb h hn hl hm;generalize (l.all λx=>hasB abn x)=r at hI ⊢;go_in;go_wp2_with fail;refine hI.mono ?_;rintro e w2 ⟨z,rfl,hz,fk⟩;replace hz:=Q hz;clear hI;go_wp2;go_ret;exact⟨by rw[<-hz.out];rfl,fk⟩
theorem aaB(w:X)(s:aR)(hs:s.size<=1000000)(U:aV)(B:aU)(m d:Nat)(l:List Lb)(hl:In w U 2 B m (gF l))(hm:m<=1048576):dz W 29 #[aX s,Z B m d] w λe O=>e=b5 (aY (aas s l))∧Grow w O:=by
 have hP:=qL w s hs;have fj:(nY s).length<=1048576:=by
  unfold nY;split;·unfold fM;rw[bj];have:=xJ 44 s.data.toList;rw[xK] at this;omega
  ·simp
 unfold aas;have hE:fW s=0∨fW s=12:=by unfold fW;split<;>simp
 generalize fW s=abl at hP hE ⊢;generalize nY s=abn at hP fj ⊢;obtain⟨n,HN⟩:=az (abn.length:Nat);rw[<-HN.out] at hP fj;go_in;go_wp2_with fail;refine hP.mono ?_;rintro e w1 ⟨A,c,rfl,hI,iS,eD⟩;clear hP;rcases hE with rfl|rfl
 ·obtain⟨b,HB⟩:=az ((w1:Nat):Nat)
  obtain⟨w2,HW⟩:=az (w1.alloc (.cells #[Z A n c] 67):X);have fk:Grow w1 w2:=by rw[HW.out];exact dT _ _
  have lS:eJ w2 b 67 #[Z A n c]:=by rw[HW.out,HB.out];exact eJ.made w1 _ _
  have hC:=aaA w2 _ U A B n c m d abn l b lS (hI.grow fk) fj ((hl.grow eD).grow fk) hm;go_wp2_with fail;rw[<-HB.out,<-HW.out];refine hC.mono ?_;rintro e w3 ⟨rfl,ib⟩;go_wp2_with fail;go_ret;exact⟨by simp,(eD.trans fk).trans ib⟩
 ·go_wp2_with fail
  go_ret;exact⟨rfl,eD.trans (dT _ _)⟩
set_option maxRecDepth 100000
set_option maxHeartbeats 1000000
def aaS(abn:List Lb):List Dl->Nat->Option Nat
 | [],n=>some n
 | d::q,n=>if aas d.1 abn then (if 18446744073709551615-n<d.2 then none else aaS abn q (n+d.2)) else aaS abn q n
def aaq(f:ByteArray->Bool)(q:List Dl):Nat:=(q.map λd=>if f d.1 then d.2 else 0).sum
theorem aar(f:ByteArray->Bool)(d:Dl)(q:List Dl):aaq f (d::q)=(if f d.1 then d.2 else 0)+aaq f q:=by simp[aaq]
theorem ab6(f:ByteArray->Bool)(p q:List Dl):aaq f (p++q)=aaq f p+aaq f q:=by simp[aaq]
theorem ab2(f:ByteArray->Bool):∀q:List Dl,aaq f q<=aaq (λ_=>true) q
 | []=>bh _
 | d::q=>by
   have:=ab2 f q;rw[aar,aar,aA rfl];split<;>omega
theorem aaC(abn:List Lb):∀(q:List Dl)(n:Nat),n+aaq (λs=>aas s abn) q<=18446744073709551615->aaS abn q n=some (n+aaq (λs=>aas s abn) q)
 | [],n,_=>rfl
 | d::q,n,h=>by
   rw[aar] at h ⊢;unfold aaS;by_cases hm:aas d.1 abn=true
   ·rw[aA hm] at h ⊢
    rw[aA hm,aB ap,aaC abn q (n+d.2) ap];congr 1;omega
   ·rw[aB hm] at h ⊢
    rw[aB hm,aaC abn q n ap];congr 1;omega
theorem aav{f:ByteArray->Bool}{x:aR}{v:Nat}:∀{q:List Dl},abk.Rh q->(abk.lk q x).isSome=true->aaq f (q.map λd=>if d.1=x then (x,v) else d)+(if f x then abk.gt q x else 0)=aaq f q+if f x then v else 0
 | [],_,h=>by simp[abk.N4] at h
 | d::q,hs,h=>by
   have hp:=List.pairwise_cons.1 hs;rw[bQ,aar,aar];by_cases hd:d.1=x
   ·have hq:(q.map λd=>if d.1=x then (x,v) else d)=q:=by
     conv=>rhs;rw[<-List.map_id q]
     refine cO λe he=>aB λE=>?_;have:=hp.1 e he;rw[hd,E,abk.jF] at this;cases this
    have H:abk.gt (d::q) x=d.2:=by unfold abk.gt;rw[abk.iU,aA hd];rfl
    rw[hq,H,aA hd,hd]
    split<;>omega
   ·have hl:abk.lk (d::q) x=abk.lk q x:=by rw[abk.iU,aB hd]
    have H:abk.gt (d::q) x=abk.gt q x:=by unfold abk.gt;rw[hl]
    rw[hl] at h;have:=aav (f:=f) (v:=v) hp.2 h;rw[H,aB hd];omega
theorem abK{f:ByteArray->Bool}{q:List Dl}(hs:abk.Rh q):aaq f (abk.put q x v)+(if f x then abk.gt q x else 0)=aaq f q+if f x then v else 0:=by
 unfold abk.put;split
 ·rename_i h
  exact aav hs h
 ·rename_i h
  have hn:abk.lk q x=none:=by simpa using h
  have H:abk.gt q x=0:=by unfold abk.gt;rw[hn];rfl
  have e:aaq f q=aaq f (abk.N3 q x)+aaq f (abk.sI q x):=by rw[<-ab6,abk.vV]
  rw[ab6,aar,H,e];split<;>omega
theorem abZ{x:aR}:∀q:List Dl,abk.gt q x<=aaq (λ_=>true) q
 | []=>bh _
 | d::q=>by
   have:=abZ (x:=x) q;rw[aar,aA rfl];unfold abk.gt at this ⊢;rw[abk.iU];split;·show d.2<=_;omega
   ·omega
theorem abV{l:List Lb}{q:List Dl}(N:k<q.length)(n:Nat):aaS l (q.drop k) n=if aas q[k].1 l then (if 18446744073709551615-n<q[k].2 then none else aaS l (q.drop (k+1)) (n+q[k].2)) else aaS l (q.drop (k+1)) n:=by rw[bP N];rfl
theorem abE(w:X)(V U:aV)(A B:aU)(n c m d t:Nat)(q:List Dl)(l:List Lb)(h:In w V 2 A n (fm q))(hn:n<=1048576)(hf:∀d∈q,d.1.size<=1000000∧d.2<=18446744073709551615)(hl:In w U 2 B m (gF l))(hm:m<=1048576)(ht:aaS l q 0=some t):dz W 30 #[Z A n c,Z B m d] w λe O=>e=b5 (a_ #[ae ah t,aY true])∧Grow w O:=by
 have wu:q.length=n:=by have:=h.1;rw[show (fm q).length=q.length*2 from ix mN 2 iH q] at this;omega
 go_in;go_wp2_with fail;go_loopw [6,11] (λo i wr=>∃k a:Nat,k<=n∧o=ae ah a∧i=J k∧a<=18446744073709551615∧aaS l (q.drop k) a=some t∧Grow w wr) (λ_ i _=>n-(intOf i).toNat);case atStart=>exact⟨0,0,by omega,rfl,rfl,by omega,ht,Grow.refl _⟩
 case round=>
  obtain⟨k,a,oL,rfl,rfl,ha,T,gP⟩:=hrel;by_cases N:k<n
  ·have hd:decide ((k:Int)<(n:Int))=true:=aC ap
   have hq:k<q.length:=by omega
   obtain⟨ad,e,e0,e12⟩:∃ad:dA,A=some ad∧(wr.cell? (ad.add (k*2))=some (aX q[k].1))∧wr.cell? ⟨(ad.add (k*2)).block,(ad.add (k*2)).off+1,none⟩=some (ae ah ((q[k].2:Nat):Int)):=by obtain⟨ad,hq,e,_,hb,e0,e12⟩:=In.mr (cells:=mN) (h.grow gP) ap iH N;exact⟨ad,e,e0 _ rfl,e12 0 _ rfl⟩
   subst e;have qY:¬ n<=k:=by omega
   rw[abV hq] at T;have hfk:=hf _ (bF hq);generalize q[k]=x at e0 e12 T hfk;obtain⟨b,HB⟩:=az ((wr:Nat):Nat);obtain⟨w2,HW⟩:=az (wr.alloc (.cells #[aX x.1,ae ah x.2] 147):X);have fk:Grow wr w2:=by rw[HW.out];exact dT _ _
   have lS:eJ w2 b 147 #[aX x.1,ae ah x.2]:=by rw[HW.out,HB.out];exact eJ.made wr _ _
   have hM:=aaB w2 x.1 hfk.1 U B m d l (hl.grow (gP.trans fk)) hm;generalize aas x.1 l=r at hM T;have c0:=lS.cell 0;have wI:=Q T;clear T;go_wp2_with fail;rw[<-HB.out,<-HW.out];clear e0 e12;go_wp2_with fail;refine hM.mono ?_;rintro e w3 ⟨rfl,ib⟩;clear hM;have jU:=(gP.trans fk).trans ib;have c1:=(lS.grow ib).cell 1;have T:=wI.out;clear wI;cases r with
   | false=>
     rw[aB (by simp)] at T;replace T:=Q T;go_wp2_with fail;go_roundw;case rel=>exact⟨k+1,a,by omega,rfl,by go_num,ha,T.out,jU⟩
     case measure=>simp[intOf];omega
   | true=>
     rw[aA rfl] at T;have lw:=hfk.2;have hsub:IntKind.u64.wrap ((18446744073709551615:Int)-(a:Int))=((18446744073709551615-a:Nat):Int):=by rw[IntKind.wrap_u64];omega
     by_cases JY:18446744073709551615-a<x.2
     ·rw[aA JY] at T
      cases T
     ·rw[aB JY] at T
      replace T:=Q T;have Ye:decide (18446744073709551615-a<x.2)=false:=aD JY;have qC:IntKind.u64.wrap ((a:Int)+(x.2:Int))=((a+x.2:Nat):Int):=by rw[IntKind.wrap_u64];omega
      go_wp2_with fail;go_roundw;case rel=>exact⟨k+1,a+x.2,by omega,rfl,by go_num,by omega,T.out,jU⟩
      case measure=>simp[intOf];omega
  ·obtain rfl:k=n:=by omega
   have hd:decide ((k:Int)<(k:Int))=false:=aD ap;rw[cH ap] at T;unfold aaS at T;injection T with T;subst T;go_wp2_with fail;go_ret2;exact⟨rfl,gP⟩
end Go.Proofs.YtpeepcmdehhbgaaGreatDoor.abn
namespace Go.Hop
open RowKit Maps WideMaps
section
variable{P:dD}{t k e:dC}{qe:IntKind}{w O:X}{b n:Nat}{f:ByteArray->Option Int}
theorem jb.ne{r cnt:Nat}{left:ByteArray->Bool}(h:jb P k e qe w b r n f left cnt):r≠b:=by obtain⟨D,lf,I,_⟩:=h;exact I.ne
end
end Go.Hop
section
namespace Go.Proofs.YtpeepcmdehhbgaaGreatDoor.abk
open Go.RowKit Go.Hop Go.Shelf
def abB:Go.Shelf.Ren:=⟨λ|6=>130|15=>192|14=>191|28=>254|29=>255|20=>246|21=>247|22=>248|23=>249|24=>250|25=>251|26=>252|27=>253|46=>312|47=>313|48=>314|49=>315|50=>316|57=>353|n=>n,λ|22=>38|24=>147|25=>230|3=>3|39=>62|0=>0|53=>61|55=>42|4=>4|46=>340|45=>339|50=>344|5=>5|9=>9|66=>390|70=>393|76=>417|77=>418|n=>n,λ|n=>n⟩
theorem abL:Go.Proofs.SlLaysF0.n6 W abB:={
 mixed:=by kernel_rfl
 f6:=⟨Tryz.f130.name,by decide,Tryz.func130.trans (congrArg some aw)⟩
 f14:=⟨Tryz.f191.name,by decide,Tryz.func191.trans (congrArg some aw)⟩
 f15:=Tryz.func192.trans (congrArg some aw)
 f20:=⟨Tryz.f246.name,by decide,Tryz.func246.trans (congrArg some aw)⟩
 f21:=⟨Tryz.f247.name,by decide,Tryz.func247.trans (congrArg some aw)⟩
 f22:=⟨Tryz.f248.name,by decide,Tryz.func248.trans (congrArg some aw)⟩
 f23:=⟨Tryz.f249.name,by decide,Tryz.func249.trans (congrArg some aw)⟩
 f24:=⟨Tryz.f250.name,by decide,Tryz.func250.trans (congrArg some aw)⟩
 f25:=⟨Tryz.f251.name,by decide,Tryz.func251.trans (congrArg some aw)⟩
 f26:=⟨Tryz.f252.name,by decide,Tryz.func252.trans (congrArg some aw)⟩
 f27:=⟨Tryz.f253.name,by decide,Tryz.func253.trans (congrArg some aw)⟩
 f28:=Tryz.func254.trans (congrArg some aw)
 f29:=Tryz.func255.trans (congrArg some aw)
 f46:=⟨Tryz.f312.name,by decide,Tryz.func312.trans (congrArg some aw)⟩
 f47:=Tryz.func313.trans (congrArg some aw)
 f48:=Tryz.func314.trans (congrArg some aw)
 f49:=⟨Tryz.f315.name,by decide,Tryz.func315.trans (congrArg some aw)⟩
 f50:=⟨Tryz.f316.name,by decide,Tryz.func316.trans (congrArg some aw)⟩
 f57:=⟨Tryz.f353.name,by decide,Tryz.func353.trans (congrArg some aw)⟩
 t0:=Tryz.underlying0
 a0:=Tryz.isAgg0
 z0:=Tryz.sizeOf0
 v0:=Tryz.zeroValue0
 t3:=dp
 a3:=Tryz.isAgg3
 z3:=Tryz.sizeOf3
 v3:=Tryz.zeroValue3
 t4:=Tryz.underlying4
 a4:=Tryz.isAgg4
 z4:=Tryz.sizeOf4
 v4:=Tryz.zeroValue4
 t5:=dm
 a5:=Tryz.isAgg5
 z5:=Tryz.sizeOf5
 v5:=Tryz.zeroValue5
 t9:=cW
 a9:=Tryz.isAgg9
 z9:=Tryz.sizeOf9
 v9:=Tryz.zeroValue9
 t22:=Tryz.underlying38
 a22:=Tryz.isAgg38
 z22:=Tryz.sizeOf38
 v22:=Tryz.zeroValue38
 t25:=Tryz.underlying230
 a25:=Tryz.isAgg230
 z25:=Tryz.sizeOf230
 v25:=Tryz.zeroValue230
 t39:=Tryz.underlying62
 a39:=Tryz.isAgg62
 z39:=Tryz.sizeOf62
 v39:=Tryz.zeroValue62
 t45:=Tryz.underlying339
 a45:=Tryz.isAgg339
 z45:=Tryz.sizeOf339
 v45:=Tryz.zeroValue339
 t46:=Tryz.underlying340
 a46:=Tryz.isAgg340
 z46:=Tryz.sizeOf340
 v46:=Tryz.zeroValue340
 t50:=Tryz.underlying344
 a50:=Tryz.isAgg344
 z50:=Tryz.sizeOf344
 v50:=Tryz.zeroValue344
 t53:=Tryz.underlying61
 a53:=Tryz.isAgg61
 z53:=Tryz.sizeOf61
 v53:=Tryz.zeroValue61
 t55:=Tryz.underlying42
 a55:=Tryz.isAgg42
 z55:=Tryz.sizeOf42
 v55:=Tryz.zeroValue42
 t66:=Tryz.underlying390
 a66:=Tryz.isAgg390
 z66:=Tryz.sizeOf390
 v66:=Tryz.zeroValue390
 t70:=Tryz.underlying393
 a70:=Tryz.isAgg393
 z70:=Tryz.sizeOf393
 v70:=Tryz.zeroValue393
 t76:=Tryz.underlying417
 a76:=Tryz.isAgg417
 z76:=Tryz.sizeOf417
 v76:=Tryz.zeroValue417
 t77:=Tryz.underlying418
 a77:=Tryz.isAgg418
 z77:=Tryz.sizeOf418
 v77:=Tryz.zeroValue418 }
end Go.Proofs.YtpeepcmdehhbgaaGreatDoor.abk
namespace Go.Proofs.YtpeepcmdehhbgaaGreatDoor.abk
open Go.RowKit Go.Hop Go.Shelf
def BA(a b:aR):Int:=if slt a b then -1 else if slt b a then 1 else 0
theorem VI(a b:aR):(!(Op.bytesLess a.toList b.toList||a.toList == b.toList))=slt b a:=by
 cases I:slt a b with
 | true=>
   have G:=xg I;unfold slt at I;rw[I,G];rfl
 | false=>
   have Mx:=I;unfold slt at Mx;rw[Mx,Bool.false_or];cases G:slt b a with
   | false=>
     have:=oU I G;subst this;simp
   | true=>
     have jT:a.toList≠b.toList:=λe=>by have:=FZ.1 e;rw[this,jF] at G;cases G
     simp[jT]
theorem uh(w:X)(a:aR):dz W 193 #[aX a] w λe O=>e=b5 (aY false)∧w=O:=by go_in;go_wp2;go_ret;exact⟨by simp,rfl⟩
theorem Dc(w:X)(a b:aR):dz W 132 #[aX a,aX b] w λe O=>e=b5 (J (BA a b))∧w=O:=by
 have H:=VI a b;unfold BA;cases I:slt a b with
 | true=>
   rw[aA rfl];unfold slt at I;go_in;go_wp2_with (go_at_call 193;refine (uh _ _).mono ?_;rintro e O ⟨rfl,rfl⟩);go_ret;exact⟨rfl,rfl⟩
 | false=>
   rw[aB (by simp)];unfold slt at I;cases G:slt b a with
   | true=>
     rw[aA rfl];rw[G] at H;go_in;go_wp2_with (go_at_call 193;refine (uh _ _).mono ?_;rintro e O ⟨rfl,rfl⟩);all_goals first|(go_ret;exact⟨rfl,rfl⟩)|simp_all
   | false=>
     rw[aB (by simp)];rw[G] at H;go_in;go_wp2_with (go_at_call 193;refine (uh _ _).mono ?_;rintro e O ⟨rfl,rfl⟩);all_goals first|(go_ret;exact⟨rfl,rfl⟩)|simp_all
theorem abW(x y:Dl)(abq:X):dz W 131 #[aZ #[aX x.1,ae ah x.2],aZ #[aX y.1,ae ah y.2]] abq λe O=>e=b5 (J (BA x.1 y.1))∧∃q os',O=Sort.grow (abq.drewN q) os':=by have hcon:=λW'=>Dc W' x.1 y.1;generalize BA x.1 y.1=r at hcon ⊢;go_in;go_wp2_with (go_at_call 132;refine (hcon _).mono ?_;rintro e O ⟨rfl,rfl⟩);go_ret;exact⟨rfl,0,_,by rw[Sort.alloc_eq_grow,Sort.alloc_eq_grow,Sort.grow_grow];rfl⟩
theorem aaQ(x y:Dl):Go.Proofs.ltOf (λx y:Dl=>BA x.1 y.1) x y=slt x.1 y.1:=by unfold Go.Proofs.ltOf BA;cases I:slt x.1 y.1<;>cases G:slt y.1 x.1<;>simp[I,G]
theorem swo:Sort.SWO (Go.Proofs.ltOf λx y:Dl=>BA x.1 y.1) where
 irrefl x:=by rw[aaQ];exact jF _
 trans x y z h k:=by rw[aaQ] at *;exact rU h k
 ntrans x y z h k:=by
  rw[aaQ] at *;cases hz:slt x.1 z.1 with
  | false=>rfl
  | true=>
    cases QJ:slt z.1 y.1 with
    | true=>rw[rU hz QJ] at h;cases h
    | false=>have e:=oU k QJ;rw[e,hz] at h;cases h
theorem aaZ(l:List Dl)(j:Nat)(hj:j<l.length*2):(fm l)[j]?=some (Sort.flatK mN 2 l.toArray)[j]!:=by
 have h:=flat_get mN 2 iH l (j / 2) (j % 2) ap (Nat.mod_lt _ ap);rw[show j / 2*2+j % 2=j by omega] at h;unfold fm;rw[h,Sort.get_flatK mN 2 l.toArray j (by simpa using hj)];have G:j / 2<l.length:=by omega
 have L:l.toArray[j / 2]! = l[j / 2]:=by simp[G]
 rw[L];have h4:j % 2<(mN l[j / 2]).length:=by rw[iH];exact Nat.mod_lt _ ap
 rw[List.getElem?_eq_getElem h4];simp[h4]
theorem abM(w:X)(g c:Nat)(l:List Dl)(cur:aP)(H:w.heap[g]?=some (.cells cur 147 (0,0)))(a62:cur.toList.take (l.length*2)=fm l)(hl:l.length<4611686018427387904):dz W 130 #[Z (some ⟨g,0,none⟩) l.length c,.func (.func 131) #[] #[]] w λe O=>e=b5 (a_ #[])∧∃l':List Dl,l'.Perm l∧(∀i j(hi:i<l'.length)(hj:j<l'.length),i<j->slt l'[j].1 l'[i].1=false)∧In O (λb=>b=g) 2 (some ⟨g,0,none⟩) l.length (fm l')∧dM (λb=>b=g) w O:=by
 have z8:g<(w:Nat):=(Array.getElem?_eq_some_iff.1 H).1;have hH:Sort.HoldsK mN 2 w g 0 l.toArray:=λj hj=>by
  rw[Sort.size_flatK] at hj;have lR:j<l.length*2:=by simpa using hj
  have E:=aaZ l j lR;rw[<-a62,List.getElem?_take_of_lt lR,Array.getElem?_toList] at E;refine⟨?_,?_⟩
  ·unfold World.cell?
   simp only[H,cJ];exact E
  ·unfold World.frozen?
   simp only[H];simp
 have eg:∀args w,(callFunc 131 args).run W w=.ok (.enter 131 args) w:=λargs w=>by go_simp
 have hcon:=Go.Proofs.AnyQ.slices_SortFunc abL 2 Tryz.isAgg147 Tryz.sizeOf147 mN iH (λx v hv=>by simp only[mN,cI,cF,or_false] at hv;rcases hv with rfl|rfl<;>rfl) (λx y:Dl=>BA x.1 y.1) swo 131 #[] g 0 c l.toArray w eg (λm os dk _ x y=>abW x y _) hH z8 (by simpa using hl);change dz W 130 _ _ _ at hcon;rw[cy] at hcon;refine hcon.mono ?_;rintro e O ⟨he,d',n,os,hp,hs,rfl⟩;obtain⟨l',rfl⟩:∃l':List Dl,d'=l'.toArray:=⟨d'.toList,by simp⟩;have wu:l'.length=l.length:=by have:=hp.1;simpa using this
 have hH':=Go.Proofs.holdsK_sortWorldK mN 2 w g 0 n l.toArray l'.toArray os z8 hH hp.1;have iZ:=Go.Proofs.size_sortWorldK_c mN 2 w g 0 n l'.toArray os;refine⟨he,l',?_,λi j hi hj wJ=>?_,⟨by rw[ka,wu],λhn=>⟨_,rfl,rfl,bw z8 iZ,λj u hu=>?_⟩⟩,⟨rfl,rfl,rfl,iZ,λb hb Y2=>?_⟩⟩
 ·have:=hp.2.2
  simp only[List.extract_toArray,List.extract_eq_take_drop,List.drop_zero,Nat.sub_zero] at this;rwa [bH ap,bH ap] at this
 ·have:=hs i j (bo _) wJ ap
  rw[aaQ] at this;simpa [hi,hj] using this
 ·have hj:j<l'.length*2:=by
   have:=(List.getElem?_eq_some_iff.1 hu).1;rwa [ka] at this
  have I:=(hH' j (by simpa [Sort.size_flatK] using hj)).1
  rw[Addr.add_lit,<-hu,aaZ l' j hj]
  exact I
 ·have vn:b<(w.heap.modify g (Sort.onCells (Sort.putCells id 0 (Sort.flatK mN 2 l'.toArray)))).size:=by simpa using hb
  show ((w.heap.modify g (Sort.onCells (Sort.putCells id 0 (Sort.flatK mN 2 l'.toArray))))++os)[b]?=w.heap[b]?;rw[Array.getElem?_append_left vn,Array.getElem?_modify,aB (λe=>Y2 e.symm)]
end Go.Proofs.YtpeepcmdehhbgaaGreatDoor.abk
end
namespace Go.Proofs.YtpeepcmdehhbgaaGreatDoor.abk
open RowKit Hop
theorem aaw{q:Sm}(hs:Rh q):lk q x=some v↔(x,v)∈q:=⟨xh,λh=>F_ hs h⟩
theorem abF{q l:Sm}(hq:Rh q)(hp:l.Perm q)(hs:∀i j(hi:i<l.length)(hj:j<l.length),i<j->slt l[j].1 l[i].1=false):l=q:=by
 have hn:(q.map (·.1)).Nodup:=by unfold List.Nodup;rw[List.pairwise_map];exact hq.imp λh e=>by rw[e,jF] at h;cases h
 have YQ:(l.map (·.1)).Nodup:=(hp.map (·.1)).nodup_iff.2 hn;have hl:Rh l:=by
  refine List.pairwise_iff_getElem.2 λi j hi hj wJ=>?_;cases h:slt l[i].1 l[j].1 with
  | true=>rfl
  | false=>
    have e:=oU h (hs i j hi hj wJ);have:=(List.pairwise_iff_getElem.1 YQ) i j (by simpa using hi) (by simpa using hj) wJ;simp only[di] at this;exact absurd e this
 refine vW hl hq λx=>?_;cases I:lk l x with
 | some v=>exact ((aaw hq).2 (hp.mem_iff.1 ((aaw hl).1 I))).symm
 | none=>
   cases G:lk q x with
   | none=>rfl
   | some v=>rw[(aaw hl).2 (hp.mem_iff.2 ((aaw hq).1 G))] at I;cases I
theorem abD{l q:List Dl}(I:l.Nodup)(G:q.Nodup)(h:∀d,d∈l↔d∈q):l.Perm q:=(List.perm_ext_iff_of_nodup I G).2 h
theorem od(w:X)(A:aU)(n c:Nat)(hn:n<=c):dz W 133 #[Z A n c] w λe O=>e=b5 (Z A n n)∧w=O:=by go_in;go_wp2;go_ret;exact⟨rfl,rfl⟩
theorem abN(ace:∀w:X,dz W 130 #[ay,.func (.func 131) #[] #[]] w λe O=>e=b5 (a_ #[])∧O=w)(w:X)(s:Nat)(q:Sm)(V:aV)(h:gT s q w V)(hq:q.length<=1048576):dz W 75 #[s] w λe O=>∃A,e=b5 (Z A q.length q.length)∧In O (New w O) 2 A q.length (fm q)∧Grow w O:=by
 obtain⟨I,G,b,L,h4,uW,uY⟩:=h;have c0:=uW.cell 0;obtain⟨w1,eR,⟨ac7,ac3,abO⟩,eD,Ql⟩:=SMap.range Ry uY;have pJ:q.Nodup:=G.pB.imp λh e=>by rw[e,jF] at h;cases h
 obtain⟨r,HR⟩:=az ((w:Nat):Nat);go_in;go_wp2_with fail;rw[<-HR.out] at ac3 ⊢;clear eR c0;go_loopw [3] (λo wr=>∃(left:ByteArray->Bool)(cnt:Nat)(es:List Dl),Own wr (λb=>New w wr b∧b≠r) 147 2 o es.length (fm es)∧jb W 9 42 .u64 wr b r q.length (fq q) left cnt∧es.Nodup∧(∀d,d∈es↔d∈q∧left d.1=false)∧Grow w wr) (λ_ wr=>wr.rangeLeft b r);case atStart=>
  refine⟨ac7,_,[],Own.nil,ac3,List.nodup_nil,λd=>⟨λh=>absurd h cF,λ⟨hd,hl⟩=>?_⟩,eD⟩;have:(lk q d.1).isSome=true:=by rw[F_ G.pB hd];rfl
  rw[abO d.1 (G.txt d hd),BK,this] at hl;cases hl
 case round=>
  clear ac3 abO eD;obtain⟨left,cnt,es,hO,Fw,abX,CP,jU⟩:=hrel;obtain⟨A1,c1,rfl,Ma,oK,ry⟩:=hO.jL;have hel:es.length<=q.length:=by have hp:=abD abX (pJ.filter λd => !left d.1) (λd=>by rw[CP,List.mem_filter];simp);rw[hp.length_eq];exact c_ _ _
  rcases Fw.next Ry 0 with ⟨h0,hl0,eR⟩|⟨x,v,w3,cnt3,QF,hlx,Y8,hwv,eR,VT,fS,mz,hen⟩
  ·have ac1:es.Perm q:=abD abX pJ λd=>by rw[CP,hl0];simp
   have fj:=Q ac1.length_eq;have QH:=Fw.lt;rcases hO.2 with ⟨hv,y_⟩|⟨g,cap,cur,hv,hVg,pO,iS,iO,iZ,j9⟩
   ·obtain rfl:es=[]:=bu y_
    obtain rfl:q=[]:=bu fj.out.symm;injection hv with hv1 rK hv3;subst hv1 hv3;clear hO Ma;go_wp2_with fail;refine (ace _).mono ?_;rintro e w5 ⟨rfl,rfl⟩;go_wp2_with fail;refine (od _ none 0 0 (bh _)).mono ?_;rintro e w6 ⟨rfl,rfl⟩;go_wp2;go_ret;exact⟨none,rfl,In.nil,jU⟩
   ·injection hv with hv1 rK hv3
    subst hv1 hv3;have ac2:=abM wr g c1 es cur pO j9 ap;clear hO Ma pO j9 iO iZ;go_wp2_with fail;refine ac2.mono ?_;rintro e w5 ⟨rfl,l',hp,hs,hI,hj⟩;obtain rfl:l'=q:=abF G.pB (hp.trans ac1) hs;clear ac2;go_wp2_with fail;refine (od _ (some ⟨g,0,none⟩) es.length c1 oK).mono ?_;rintro e w6 ⟨rfl,rfl⟩;go_wp2;go_ret;have hs5:=hj.size;refine⟨some ⟨g,0,none⟩,by first|rfl|(rw[fj.out];rfl),?_,Below.trans jU (hj.below (B:=(w:Nat)) (λb hb=>by rw[hb];exact hVg.1.1) jU.size)⟩;rw[fj.out] at hI;exact In.mono hI λb hb=>by rw[hb];exact⟨hVg.1.1,bw hVg.1.2 hs5⟩
  ·obtain⟨v',hv'⟩:∃v',lk q x=some v':=by
    unfold fq at Y8;cases hl:lk q x with
    | none=>rw[hl] at Y8;cases Y8
    | some v'=>exact⟨v',rfl⟩
   obtain rfl:v=(v':Int):=by unfold fq at Y8;rw[hv'] at Y8;injection Y8 with Y8;exact Y8.symm
   have m9:=(aaw G.pB).1 hv'
   have Y7:(w:Nat)<=r:=by rw[HR.out];exact bh _
   have hbr:b≠r:=Fw.ne.symm
   have uV:=uY.lt
   have QH:=Fw.lt
   have ib:Grow w w3:=Below.trans jU (mz.below (B:=(w:Nat)) (λb hb=>by rw[hb];exact Y7) jU.size)
   have Mb:=mz.size
   have nt:Own w3 (λb=>New w wr b∧b≠r) 147 2 (Z A1 es.length c1) es.length (fm es):=hO.keep λb hb=>mz.block b hb.1.2 hb.2
   have Ur:w3.rangeLeft b r<wr.rangeLeft b r:=by rw[VT.left_eq,Fw.left_eq];exact fS
   have a1C:(x,v') ∉ es:=λh=>by have:=((CP _).1 h).2;rw[hlx] at this;cases this
   have fu:Grow w3 (w3.alloc (.cells #[aX x,ae ah v'] 147)):=(Below.refl _ _).alloc (bh _) _
   clear hO Ma Y8 hwv
   go_wp2_with (at_builtin;refine stay ?_)
   refine dI ?_
   refine fO (V:=λb=>New w wr b∧b≠r) oQ _ rfl (.tmp 16) (.tmp 20) rfl (Z A1 es.length c1) es.length (fm es) rfl (nt.grow (λb hb=>by have:=hb.1.2;omega) fu) ((w3:Nat)+1) (some ⟨(w3:Nat),0,none⟩) 1 1 (fm [(x,v')]) rfl (fF w3 _ 147 _ rfl _ rfl) (rQ _) ap ?_
   intro v5 w5 Ro ra
   have hs5:=ra.size
   simp at hs5
   have ng:Grow w w5:=Below.trans (eQ ib fu ib.size) (ra.below (B:=(w:Nat)) (λb hb=>hb.1.1) (by simp;omega))
   have hO6:Own w5 (λb=>New w w5 b∧b≠r) 147 2 v5 (es++[(x,v')]).length (fm (es++[(x,v')])):=by
    rw[bd];have:fm (es++[(x,v')])=fm es++fm [(x,v')]:=by unfold fm;rw[bL]
    rw[this];refine Ro.mono λb hb=>?_;rcases hb with hb|hb
    ·exact⟨⟨hb.1.1,by have:=hb.1.2;omega⟩,hb.2⟩
    ·have h6:=hb.1
     simp at h6;exact⟨⟨by omega,hb.2⟩,by omega⟩
   have ac8:=(VT.grow fu).just ra (λh=>by have:=h.1.1;omega) (λh=>h.2 rfl)
   have ac4:w5.rangeLeft b r<wr.rangeLeft b r:=by rw[ac8.left_eq,Fw.left_eq];exact fS
   have ac9:∀d,d∈es++[(x,v')]↔d∈q∧(left d.1&&decide (d.1≠x))=false:=λd=>by
    rw[List.mem_append,List.mem_singleton,CP];constructor
    ·rintro (⟨h,hl⟩|rfl)
     ·exact⟨h,by rw[hl];rfl⟩
     ·exact⟨m9,by simp⟩
    ·rintro ⟨h,hl⟩
     by_cases Zo:d.1=x
     ·right
      have h8:=F_ G.pB h;rw[Zo,hv'] at h8;injection h8 with h8;exact Prod.ext Zo h8.symm
     ·left
      refine⟨h,?_⟩;simpa [Zo] using hl
   have aca:(es++[(x,v')]).Nodup:=List.nodup_append.2 ⟨abX,by simp,λa ha c E e=>by rw[List.mem_singleton.1 E] at e;exact a1C (e▸ha)⟩
   clear Ro ra nt mz Ur VT CP abX ib fu
   generalize es++[(x,v')]=es5 at hO6 ac9 aca
   go_wp2_with fail
   go_roundw
   case rel=>exact⟨_,cnt3,es5,hO6,ac8,aca,ac9,ng⟩
   case measure=>exact ac4
theorem abG(w:X):dz W 130 #[ay,.func (.func 131) #[] #[]] w λe O=>e=b5 (a_ #[])∧O=w:=Go.Proofs.AnyF.slices_SortFunc_none abL none 0 _ w
end Go.Proofs.YtpeepcmdehhbgaaGreatDoor.abk
