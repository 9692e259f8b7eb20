/- Rz6, Rz7, Vr1, Vr2, Vr3, Mb1, Mb2. -/
import Derived.Test.YtpeepcmdehhbgaaGreatDoorJs35
set_option linter.all false
set_option maxRecDepth 100000
open Go.Value renaming int->ae,slice->Z,string->aX,bool->aY,agg->aZ,tuple->a_
open Go.Ending renaming returned->b5
open Go.IntKind renaming i64->af,u64->ah
open Go (J az aE aA aB aC aD ay aj am ap aw aL aK aJ aI aH aV aU aT aR aQ aP aO aN)
open Go.Proofs.Tryz renaming prog->W,underlying45->bG
open Go.Lib renaming hid->Q
open List renaming length_append->bd,length_map->bj,append_nil->bm,length_take->bn,append_assoc->bp,take_succ_eq_append_getElem->br,length_singleton->bv,getElem_mem->bF,length_nil->cx,mem_map_of_mem->cT,getElem_map->di,take_length->dq
open Nat renaming le_of_ble_eq_true->bf,le_refl->bh,zero_le->bo,le_trans->bB,mul_one->cM
open Bool renaming eq_false_or_eq_true->bC
open Int renaming toNat_natCast->cA,toNat_of_nonneg->cP
open Go renaming World->X,Calls->dz,Addr->dA,maxLen->dG
variable{k:Nat}{l:aT}
namespace Go.Proofs.YtpeepcmdehhbgaaGreatDoor
open RowKit Hop V
set_option maxRecDepth 100000
set_option maxHeartbeats 4000000
theorem Et(w:X)(m:Ms)(A:aU)(c:Nat)(A2:aU)(c2:Nat)(h:m.k<1∨6<m.k):dz W 65 #[aZ (mH m A c A2 c2)] w λen O=>en=b5 (J 12)∧Grow w O:=by
 obtain⟨k,⟨ek,ag,sh,sq,ep,ds,se,fr,tg⟩,tag,code,n,term,had,log,commit,len⟩:=m;unfold mH Ms.cells at *;dsimp only at *;by_cases I:k<1
 ·have d1:=aC I
  replace h:=Q h;replace I:=Q I;go_in;go_wp2;go_ret;exact⟨rfl,dT w _⟩
 ·have d1:=aD I
  have d2:=aC (show 6<k by omega);replace h:=Q h;replace I:=Q I;go_in;go_wp2;go_ret;exact⟨rfl,dT w _⟩
theorem Ms.Gd.kind{m:Ms}(h:m.Gd):1<=m.k∧m.k<=6:=by cases h<;>simp[kW,fx,jX,i9,kR,m8]
theorem oE.one:∀{n:Nat}{s:RS}{q q':List En}{S S':RS},oE n s q S->oE n s q' S'->q=q'∧S=S'
 | 0,_,_,_,_,_,⟨I,G⟩,⟨L,h4⟩=>⟨I.trans L.symm,G.trans h4.symm⟩
 | n+1,s,_,_,_,_,⟨e,q1,I,_,L,h4⟩,⟨e',q1',Mx,_,h3',h4'⟩=>by
   obtain⟨rfl,rfl⟩:=oE.one h4 h4';rw[I,Mx,L.one h3'];exact⟨rfl,rfl⟩
theorem qo.one{s:RS}{q q':List En}{S S':RS}(h:qo s q S)(h':qo s q' S'):q=q'∧S=S':=h.1.one h'.1
theorem H7.one{k:Nat}{s:RS}{m m':Ms}{S S':RS}(h:H7 k s m S)(h':H7 k s m' S'):m=m'∧S=S':=by
 unfold H7 at h h';repeat' split at h
 all_goals first
  | (rename_i N;rw[aA N] at h';obtain⟨e,I,G,L⟩:=h;obtain⟨e',Mx,Ym,h3'⟩:=h';rw[G,Ym,L,h3',I.one Mx];exact⟨rfl,rfl⟩)
  | skip
 all_goals simp_all
 ·obtain⟨q,I,G⟩:=h
  obtain⟨q',Mx,Ym⟩:=h';obtain⟨e1,e2⟩:=I.one Mx;rw[G,Ym,e1,e2];exact⟨rfl,rfl⟩
 ·obtain⟨q,I,G⟩:=h
  obtain⟨q',Mx,Ym⟩:=h';obtain⟨e1,e2⟩:=I.one Mx;rw[G,Ym,e1,e2];exact⟨rfl,rfl⟩
def sk(l:aT)(m:Ms):Prop:=∃x,l=frame x∧x.length<=65536∧H7 (nB (some x)).1 (nB (some x)).2 m (some [])∧m.Gd
def a0x(l:aT)(w O:X)(en:Ending):Prop:=(∃(m:Ms)(A:aU)(c:Nat)(A2:aU)(c2:Nat)(q:List El),sk l m∧en=b5 (a_ #[aZ (mH m A c A2 c2),()])∧Sd.In O (New w O) ⟨0,m,A,c,A2,q,c2⟩∧(m.k≠1->A=none∧c=0)∧(m.k≠4->m.k≠5->A2=none∧c2=0))∨((∀m,¬ sk l m)∧en=b5 (a_ #[aZ (mH Ms.zero none 0 none 0),J 12]))
def Jw(s:Sd):dW:=λw V=>Sd.In w V s
theorem Jw.framed(s:Sd):eu (Jw s):=λw O V h N=>pm w O V s h N
theorem LJ{x:aT}{ok:Bool}(h:l5 l x k ok):x.length<=65536:=by
 rcases h with ⟨_,h,_⟩|⟨_,_,rfl,_⟩
 ·exact h
 ·simp
set_option maxRecDepth 100000
set_option maxHeartbeats 4000000
theorem Jx(w:X)(A:aU)(n c:Nat)(l:aT)(hb:Bytes w (w:Nat) A n l)(iS:n<=c)(iO:c<=dG):dz W 23 #[Z A n c] w λen O=>a0x l w O en∧Grow w O:=by
 have fj:=hb.len;have fN:=St.begin_ (l:=[]) (w:=w) (V:=λ_=>False) trivial (λ_ h=>h.elim) trivial;go_in;go_wp2_with (refine kf rfl (tn _ _ _ rfl) ?_;intro x wx hX vR hsx hzx;refine stay ?_);refine dI ?_;have ej:=fN.made vR hX (Nat.le_of_eq hsx);replace fj:=Q fj;clear hX hzx fN;have hF:=xm wx A n c l ((Reads.below hb vR).more vR.size) iS iO;go_wp2_with fail;refine hF.mono ?_;rintro e1 w1 ⟨xs,k,ok,v1,hI,rfl,kv,eD⟩;have dV:=ej.grow eD;have hxs:=LJ hI;replace hI:=Q hI;clear hF ej;obtain⟨A1,c1,rfl,lU,oK,ry⟩:=kv.reads;clear kv;rcases bC ok with gC|gC
 case' inr=>
  subst gC;go_wp2_with (first|(refine d_ dV 0 rfl 45 _ _ rfl 0 rfl (Ms.zero.cells none 0 none 0) rfl (bf rfl) rfl aw (mH Ms.zero none 0 none 0) rfl rfl ?_;intro w9 gy;refine stay ?_));refine dI ?_;go_wp2;refine bodyPost_ret (dZ rfl _ x rfl (gy.blk 0 rfl) bG aw) rfl ?_;exact⟨.inr ⟨λm ⟨y,hy,vr,_⟩=>by
   rcases hI.out with ⟨h,_⟩|⟨_,h,_⟩
   ·cases h
   ·exact h y vr (by rw[hy];exact List.prefix_refl _),rfl⟩,gy.grown⟩
 subst gC;by_cases oL:k=n;case' neg=>
  have dk:((k:Int) != (n:Int))=true:=by simp;omega
  replace oL:=Q oL;go_wp2_with (first|(refine d_ dV 0 rfl 45 _ _ rfl 0 rfl (Ms.zero.cells none 0 none 0) rfl (bf rfl) rfl aw (mH Ms.zero none 0 none 0) rfl rfl ?_;intro w9 gy;refine stay ?_));refine dI ?_;go_wp2;refine bodyPost_ret (dZ rfl _ x rfl (gy.blk 0 rfl) bG aw) rfl ?_;exact⟨.inr ⟨λm ⟨y,hy,vr,_⟩=>by have I:=(hI.out.one (.inl ⟨rfl,vr,by rw[hy];exact List.prefix_refl _,rfl⟩)).2.1;have G:=fj.out;rw[hy] at G;exact oL.out (I.trans G),rfl⟩,gy.grown⟩
 case' pos=>
  subst oL;have Qx:=pY w1 A1 _ c1 xs lU oK ry;have dk:((k:Int) != (k:Int))=false:=by simp
  go_wp2_with fail;refine Qx.mono ?_;rintro e1 w2 ⟨r,rfl,gS,fk⟩;have hRE:km r (w1:Nat) 65536 (some xs) w2:=km.of gS hxs;have V8:(w1:Nat)<=r:=hRE.1;have z6:=fk.size;clear Qx lU gS;obtain⟨_,A',n',c',l',b',_,lS,_⟩:=id hRE;have dX:=dV.made fk lS V8;clear dV lS;go_wp2_with fail;refine (I_ w2 r _ _ _ hRE).mono ?_;rintro e w3 ⟨kk,s3,q3,Kb,rfl,jN,oM⟩;have m_:Hid (∀M,sk l M->H7 kk s3 M (some [])∧M.Gd):=Q (λM ⟨y,hy,vr,L,h4⟩=>by obtain rfl:=(hI.out.one (.inl ⟨rfl,vr,by rw[hy];exact List.prefix_refl _,rfl⟩)).1;rw[q3.out] at L;exact⟨L,h4⟩)
  have qX:Hid (l=frame xs∧xs.length<=65536):=Q (by
   rcases hI.out with ⟨_,I,G,L⟩|⟨h,_⟩
   ·refine⟨?_,I⟩
    obtain⟨t,ht⟩:=G;have h4:=fj.out;rw[<-ht,bd] at h4;have:t=[]:=List.length_eq_zero_iff.1 ap;rw[<-ht,this,bm]
   ·cases h)
  clear hI;obtain⟨Ju,eO⟩:=gX dX 0 rfl jN oM;have eO:St (λ_=>False) w [.c r 237 Ju,.c x 45 (mH Ms.zero none 0 none 0)] w3:=eO;have Mb:=oM.size;have hwk:IntKind.i64.wrap (kk:Int)=(kk:Int):=by rw[IntKind.wrap_i64];omega
  clear dX hRE;have hM:=SK w3 r _ _ kk _ jN ap ap Kb;go_wp2_with fail;refine hM.mono ?_;rintro e w4 ⟨s4,⟨m,Am,cm,A2,c2,q,ok,rfl,Mf,qF,kh,hA,qZ⟩,om,CG⟩;clear hM jN;have Yc:=om.lt;obtain⟨_,A',n',c',l',b',_,Qn,_⟩:=id om;have eF:=eO.qg CG Qn (Jw.framed ⟨0,m,Am,cm,A2,q,c2⟩) Mf λb hb=>hb;clear eO Qn Mf CG;replace qF:=Q qF;replace kh:=Q kh;replace hA:=Q hA;replace qZ:=Q qZ;go_wp2_with (refine kf rfl (tn _ _ _ rfl) ?_;intro y wy hY ZG hsy QJ;refine stay ?_);refine dI ?_;have eN:=eF.made ZG hY (Nat.le_of_eq hsy);refine Dn rfl 45 _ _ rfl _ rfl (m.cells Am cm A2 c2) rfl hY rfl rfl aw ?_;intro w5 YE ra hs5;have fH:=eN.turned 0 rfl ra YE;have qM:=(om.grow ZG).just ra ap (λb hb=>by omega);have fH:St (λ_=>False) w [.c y 45 (mH m Am cm A2 c2),.o (Jw ⟨0,m,Am,cm,A2,q,c2⟩),.c r 237 #[Z A' n' c',aY b'],.c x 45 (mH Ms.zero none 0 none 0)] w5:=fH;clear eF eN om hY YE ra ZG;rcases bC ok with gC|gC
  case' inr=>
   subst gC;go_wp2_with (first|(refine d_ fH 3 rfl 45 _ _ rfl 0 rfl (Ms.zero.cells none 0 none 0) rfl (bf rfl) rfl aw (mH Ms.zero none 0 none 0) rfl rfl ?_;intro w9 gy;refine stay ?_));refine dI ?_;go_wp2;refine bodyPost_ret (dZ rfl _ x rfl (gy.blk 3 rfl) bG aw) rfl ?_;exact⟨.inr ⟨λM hM=>by obtain⟨I,_⟩:=m_.out M hM;exact kh.out (by simp) _ _ I,rfl⟩,gy.grown⟩
  subst gC;go_wp2_with fail;refine (BP w5 r _ _ _ qM).mono ?_;rintro e w6 ⟨rfl,rfl⟩;obtain⟨b,Hb⟩:=az (decide (s4=some []));rw[<-Hb.out];rcases bC b with hb|hb
  case' inr=>
   subst hb;go_wp2_with (first|(refine d_ fH 3 rfl 45 _ _ rfl 0 rfl (Ms.zero.cells none 0 none 0) rfl (bf rfl) rfl aw (mH Ms.zero none 0 none 0) rfl rfl ?_;intro w9 gy;refine stay ?_));refine dI ?_;go_wp2;refine bodyPost_ret (dZ rfl _ x rfl (gy.blk 3 rfl) bG aw) rfl ?_;exact⟨.inr ⟨λM hM=>(by obtain⟨I,_⟩:=m_.out M hM;have G:=((qF.out (by simp)).2.one I).2;have L:=Hb.out;rw[G,aC rfl] at L;cases L),rfl⟩,gy.grown⟩
  subst hb;go_wp2_with (first|(refine kG fH 0 rfl 45 _ rfl rfl bG aw rfl ?_;refine stay ?_));refine dI ?_;obtain⟨U,hU,_⟩:=fH.own.see 1 rfl;have hU:Sd.In w5 U ⟨0,m,Am,cm,A2,q,c2⟩:=hU;rcases (qF.out (by simp)).1 with H|H
  ·have m6:=ln w5 U m Am cm A2 c2 q H hA.out qZ.out hU.e.1 hU.q hU.eq
   go_wp2_with fail;refine m6.mono ?_;rintro e w7 ⟨rfl,YG⟩;have fD:=fH.grow YG;go_wp2_with (first|(refine kG fD 0 rfl 45 _ rfl rfl bG aw rfl ?_;refine stay ?_));refine dI ?_;go_wp2_with (first|(refine d_ fD 3 rfl 45 _ _ rfl 0 rfl (m.cells Am cm A2 c2) rfl (bf rfl) rfl aw (mH m Am cm A2 c2) rfl rfl ?_;intro w9 gy;refine stay ?_));refine dI ?_;go_wp2;refine bodyPost_ret (dZ rfl _ x rfl (gy.blk 3 rfl) bG aw) rfl ?_;obtain⟨U9,hU9,k9⟩:=gy.own.see 1 rfl;exact⟨.inl ⟨m,Am,cm,A2,c2,q,⟨xs,qX.out.1,qX.out.2,by rw[q3.out,<-of_decide_eq_true Hb.out.symm];exact (qF.out (by simp)).2,H⟩,rfl,po _ _ _ _ (show Sd.In w9 U9 ⟨0,m,Am,cm,A2,q,c2⟩ from hU9) λb hb=>⟨(k9 b hb).1.elim False.elim id,(k9 b hb).2⟩,hA.out,qZ.out⟩,gy.grown⟩
  ·have m6:=Et w5 m Am cm A2 c2 H
   go_wp2_with fail;refine m6.mono ?_;rintro e w7 ⟨rfl,YG⟩;have fD:=fH.grow YG;go_wp2_with (first|(refine d_ fD 3 rfl 45 _ _ rfl 0 rfl (Ms.zero.cells none 0 none 0) rfl (bf rfl) rfl aw (mH Ms.zero none 0 none 0) rfl rfl ?_;intro w9 gy;refine stay ?_));refine dI ?_;go_wp2;refine bodyPost_ret (dZ rfl _ x rfl (gy.blk 3 rfl) bG aw) rfl ?_;exact⟨.inr ⟨λM hM=>(by obtain⟨I,G⟩:=m_.out M hM;rw[<-((qF.out (by simp)).2.one I).1] at G;have:=G.kind;omega),rfl⟩,gy.grown⟩
theorem Eu(s:aR)(t:aT)(h:s.size<18446744073709551616):gn (some (enc s.size++(s.data.toList++t)))=(s.data.toList,some t):=by have e:s.size=s.data.toList.length:=Array.length_toList.symm;rw[e,<-bp];exact uy t (by rw[<-e];exact h)
theorem Ew:∀(ds:List Dl)(t:aT),(∀d∈ds,Small d)->mg ds.length (some (o7 ds++t))=(ds,some t)
 | [],_,_=>rfl
 | d::ds,t,h=>by
   have I:=h d (by simp);have ih:=Ew ds t λx Y=>h x (by simp[Y]);have e:o7 (d::ds)++t=enc d.1.size++(d.1.data.toList++(enc d.2++(o7 ds++t))):=by simp[o7,dB]
   show ((⟨(gn _).1.toArray⟩,(kO (gn _).2).1)::(mg ds.length (kO (gn _).2).2).1,(mg ds.length (kO (gn _).2).2).2)=_;rw[e,Eu _ _ (by have:=I.1;omega)];dsimp only;rw[xC _ I.2];dsimp only;rw[ih]
theorem lO(n:Nat)(t:aT)(h:n<256):nB (some (UInt8.ofNat n::t))=(n,some t):=by unfold nB;dsimp only;rw[nT h]
theorem P8{d:Dl}(h:DN d):Small d:=⟨h.2.2.2,by have:=h.2.1;omega⟩
theorem AZ{e:En}(h:e.Ok):C5 (pg e) e:=by
 refine⟨?_,h⟩;obtain⟨⟨⟨f1,f2⟩,t1,t2⟩,h⟩:=h;obtain⟨k,ag,sh,sq,ep,ds,se,fr,tg⟩:=e;dsimp only at *;rcases h with ⟨rfl,rfl,⟨a1,a2⟩,⟨s1,s2⟩,⟨q1,q2⟩,⟨e1,e2⟩,⟨d1,d2⟩,hd⟩|⟨rfl,rfl,rfl,rfl,rfl,rfl,I,G⟩
 ·dsimp only at *
  have e:pg ⟨1,ag,sh,sq,ep,ds,⟨#[]⟩,fr,tg⟩=UInt8.ofNat 1::(enc fr.toNat++(enc tg.toNat++(enc ag.toNat++(enc sh.toNat++(enc sq.toNat++(enc ep.toNat++(enc ds.length++(o7 ds++[])))))))):=by simp[pg]
  unfold yc;dsimp only;rw[e,lO 1 _ am];dsimp only;rw[iW _ ap ap];dsimp only;rw[iI _ ap];dsimp only;rw[aB am,iW _ ap ap];dsimp only;rw[iW _ ap ap];dsimp only;rw[iI _ ap];dsimp only;rw[iI _ ap];dsimp only;rw[iW _ ap ap];dsimp only;rw[Ew ds [] λd Iv=>P8 (hd d Iv)];dsimp only;rw[cP f1,cP t1,cP a1,cP s1,cP (by omega:0<=sq),cP (by omega:0<=ep)];rfl
 ·dsimp only at *
  have e:pg ⟨2,0,0,0,0,[],se,fr,tg⟩=UInt8.ofNat 2::(enc fr.toNat++(enc tg.toNat++(enc se.size++(se.data.toList++[])))):=by simp[pg]
  unfold yc;dsimp only;rw[e,lO 2 _ am];dsimp only;rw[iW _ ap ap];dsimp only;rw[iI _ ap];dsimp only;rw[aA rfl,Eu _ _ ap];dsimp only;rw[cP f1,cP t1];rfl
theorem Ex{e:En}(h:e.Ok):(pg e).length<18446744073709551616:=by have:=vZ h;omega
theorem A_:∀(l:List En)(t:aT),(∀e∈l,e.Ok)->oE l.length (some (r_ l++t)) l (some t)
 | [],_,_=>⟨rfl,rfl⟩
 | e::l,t,h=>by
   have I:=h e (by simp);have e1:r_ (e::l)++t=enc (pg e).length++pg e++(r_ l++t):=by simp[r_,eB]
   have e2:=uy (r_ l++t) (Ex I);show ∃e' q1,e::l=e'::q1∧(gn _).2≠none∧C5 (gn _).1 e'∧oE l.length (gn _).2 q1 (some t);rw[e1,e2];exact⟨e,l,rfl,(λh=>by cases h),AZ I,A_ l t λx Y=>h x (by simp[Y])⟩
theorem yq(l:List En)(t:aT)(h:∀e∈l,e.Ok)(hl:l.length<=128):qo (some (enc l.length++(r_ l++t))) l (some t):=by unfold qo;rw[iW _ ap hl];exact⟨A_ l t h,λh=>by cases h⟩
def jj(m:Ms):List UInt8:=
 if m.k=1 then [UInt8.ofNat 1]++enc (pg m.e).length++pg m.e
 else if m.k=2 then [UInt8.ofNat 2]++enc m.tag.toNat++enc m.code.toNat++enc m.n
 else if m.k=4 then [UInt8.ofNat 4]++enc m.term.toNat++enc m.had.toNat++enc m.log.length++r_ m.log
 else if m.k=5 then [UInt8.ofNat 5]++enc m.term.toNat++enc m.commit.toNat++enc m.log.length++r_ m.log
 else if m.k=6 then [UInt8.ofNat 6]++enc m.term.toNat++enc m.len.toNat
 else [UInt8.ofNat 3]++enc m.term.toNat
theorem LK{m:Ms}(h:m.Gd):H7 (nB (some (jj m))).1 (nB (some (jj m))).2 m (some []):=by
 cases h with
 | ask e h=>
   have e1:jj (kW e)=UInt8.ofNat 1::(enc (pg e).length++pg e++[]):=by simp[jj,kW]
   rw[e1,lO 1 _ am];show ∃e',C5 (gn _).1 e'∧kW e=kW e'∧some []=(gn _).2;rw[uy _ (Ex h)];exact⟨e,AZ h,rfl,rfl⟩
 | ans tg co n I G L=>
   have e1:jj (fx (tg:Int) (co:Int) n)=UInt8.ofNat 2::(enc tg++(enc co++(enc n++[]))):=by simp[jj,fx]
   rw[e1,lO 2 _ am];show fx (tg:Int) (co:Int) n=fx ((gu _).1:Int) ((gb 255 (gu _).2).1:Int) (kO (gb 255 (gu _).2).2).1∧some []=(kO (gb 255 (gu _).2).2).2;rw[iI _ I];dsimp only;rw[iW _ ap G];dsimp only;rw[xC _ L];exact⟨rfl,rfl⟩
 | vD t h=>
   have e1:jj (jX t)=UInt8.ofNat 3::(enc t++[]):=by simp[jj,jX]
   rw[e1,lO 3 _ am];unfold H7;dsimp only;rw[aB am,aB am,aB am,aB am,aB am,iI _ h];exact⟨rfl,rfl⟩
 | prom t ha l I G L h4=>
   have e1:jj (i9 t ha l)=UInt8.ofNat 4::(enc t++(enc ha++(enc l.length++(r_ l++[])))):=by simp[jj,i9]
   rw[e1,lO 4 _ am];show ∃q,qo (gu (gu _).2).2 q (some [])∧i9 t ha l=i9 (gu _).1 (gu (gu _).2).1 q;rw[iI _ I];dsimp only;rw[iI _ G];exact⟨l,yq l [] L h4,rfl⟩
 | acc t l c I G L h4=>
   have e1:jj (kR t l c)=UInt8.ofNat 5::(enc t++(enc c++(enc l.length++(r_ l++[])))):=by simp[jj,kR]
   rw[e1,lO 5 _ am];show ∃q,qo (gb 128 (gu _).2).2 q (some [])∧kR t l c=kR (gu _).1 q (gb 128 (gu _).2).1;rw[iI _ I];dsimp only;rw[iW _ ap G];exact⟨l,yq l [] L h4,rfl⟩
 | Mq t n I G=>
   have e1:jj (m8 t n)=UInt8.ofNat 6::(enc t++(enc n++[])):=by simp[jj,m8]
   rw[e1,lO 6 _ am];show m8 t n=m8 (gu _).1 (gb 128 (gu _).2).1∧some []=(gb 128 (gu _).2).2;rw[iI _ I];dsimp only;rw[iW _ ap G];exact⟨rfl,rfl⟩
def kX(m:Ms):Bool:=decide ((jj m).length<=65536)
def mB(m:Ms):List UInt8:=frame (jj m)
theorem tJ{m:Ms}(h:m.Gd)(hf:kX m=true):sk (mB m) m:=⟨jj m,rfl,of_decide_eq_true hf,LK h,h⟩
theorem sk.one{l:aT}{m m':Ms}(h:sk l m)(h':sk l m'):m=m':=by
 obtain⟨x,I,_,G,_⟩:=h;obtain⟨y,Mx,_,Ym,_⟩:=h';have hp:frame y <+: l:=by rw[Mx];exact List.prefix_refl _
 have hq:frame x <+: l:=by rw[I];exact List.prefix_refl _
 obtain rfl:x=y:=uf hq hp;exact (G.one Ym).1
def isW(b:aT)(t h:Nat)(es:List En):Prop:=(gu (some b)).1=t∧(gu (gu (some b)).2).1=h∧qo (gu (gu (some b)).2).2 es (some [])
theorem LL{t h:Nat}{es:List En}(I:t<=9223372036854775807)(G:h<=9223372036854775807)(L:∀e∈es,e.Ok)(h4:es.length<=128):isW (nC t h es) t h es:=by
 have e1:nC t h es=enc t++(enc h++(enc es.length++(r_ es++[]))):=by simp[nC]
 unfold isW;rw[e1,iI _ I];dsimp only;rw[iI _ G];exact⟨rfl,rfl,yq es [] L h4⟩
set_option maxRecDepth 100000
set_option maxHeartbeats 1000000
theorem SO(w:X)(A:aU)(n c t h:Nat)(es:List En)(b:aT)(hb:Bytes w (w:Nat) A n b)(uV:b.length<=65536)(iS:n<=c)(iO:c<=dG)(hW:isW b t h es):dz W 114 #[Z A n c] w λe O=>∃(A2:aU)(c2:Nat)(q:List El),e=b5 (a_ #[aZ #[J t,J h,Z A2 q.length c2],aY true])∧(jO O (New w O) A2 q∧q.map El.e=es∧q.length<=c2∧c2<=dG)∧Grow w O:=by
 obtain⟨w1e,w2e,w3e⟩:=hW;have fN:=St.begin_ (l:=[]) (w:=w) (V:=λ_=>False) trivial (λ_ h=>h.elim) trivial;obtain⟨x,wa,HX,HA,ej⟩:=fN.new' aL 204;have Qx:=OA wa A n c;go_in;go_wp2_with fail;rw[<-HA.out,<-HX.out];refine Qx.mono ?_;rintro e w1 ⟨r,rfl,V8,ky,eD⟩;have dV:=ej.made eD ky V8;have lT:km r (w:Nat) 65536 (some b) w1:=⟨bB ej.grown.size V8,A,n,c,b,false,uV,ky,Reads.below hb dV.grown,⟨iS,iO⟩,rfl⟩;clear ky Qx hb;go_wp2_with fail;refine (mO w1 r _ _ _ lT).mono ?_;rintro e w2 ⟨tt,s2,q2,htt,rfl,gS,pN⟩;obtain⟨cs2,dX⟩:=gX dV 0 rfl gS pN;go_wp2_with fail;refine (mO w2 r _ _ _ gS).mono ?_;rintro e w3 ⟨hh,s3,q3,hhh,rfl,jN,oM⟩;obtain⟨Ju,eO⟩:=gX dX 0 rfl jN oM;obtain rfl:tt=t:=by rw[<-w1e,q2.out]
 obtain rfl:hh=h:=by rw[<-w2e,q2.out];dsimp only;rw[q3.out]
 have CP:qo s3 es (some []):=by rw[q2.out] at w3e;dsimp only at w3e;rw[q3.out] at w3e;exact w3e
 clear w1e w2e w3e dV dX lT gS;replace eO:St (λ_=>False) w [.c r 237 Ju,.c x 204 aL] w3:=eO;obtain⟨y,wy,HY,HYA,eF⟩:=eO.new' #[J tt,J hh,ay] 204;have om:=jN.grow (show Grow w3 wy by rw[HYA.out];exact fb _ _);go_wp2_with fail;rw[<-HYA.out,<-HY.out];refine (H5 wy r _ _ s3 om am eF.grown.size).mono ?_;rintro e w5 ⟨s5,⟨A2,c2,q,bq,rfl,Fj,⟨kM,lV⟩,vv,ig,qF,kh⟩,qM,ra⟩;obtain rfl:bq=true:=by
  cases bq with
  | true=>rfl
  | false=>exact absurd CP (kh rfl _ _)
 obtain⟨kZ,rfl⟩:=(qF rfl).one CP;obtain⟨_,A',n',c',l',b',_,hB5,_⟩:=id qM;have eN:=(eF.front 1 rfl).qg ra hB5 (fT.framed A2 q) (U:=New wy w5) Fj (λb hb=>hb);replace eN:St (λ_=>False) w [.o (fT A2 q),.c r 237 #[Z A' n' c',aY b'],.c y 204 #[J tt,J hh,ay],.c x 204 aL] w5:=eN;clear hB5 Fj ra qF kh eO eF om CP fN ej;go_wp2_with (refine fv eN 2 rfl 43 _ _ rfl 2 rfl (Z A2 q.length c2) rfl (bf rfl) rfl aw rfl ?_;intro w6 fH;refine stay ?_);refine dI ?_;have vC:=kI qM eN fH 1 1 rfl rfl;replace fH:St (λ_=>False) w [.o (fT A2 q),.c r 237 #[Z A' n' c',aY b'],.c y 204 #[J tt,J hh,Z A2 q.length c2],.c x 204 aL] w6:=fH;go_wp2_with fail;have gD:∀O,St (λ_=>False) w [.o (fT A2 q),.c r 237 #[Z A' n' c',aY b'],.c y 204 #[J tt,J hh,Z A2 q.length c2],.c x 204 aL] O->O.cell? ⟨y,0,none⟩=some (J tt)∧O.cell? ⟨y,1,none⟩=some (J hh)∧O.cell? ⟨y,2,none⟩=some (Z A2 q.length c2):=λO h=>by have G:=(h.front 2 rfl).facts.1.1;exact⟨G 0,G 1,G 2⟩
 have a5m:∀O,St (λ_=>False) w [.o (fT A2 q),.c r 237 #[Z A' n' c',aY b'],.c y 204 #[J tt,J hh,Z A2 q.length c2],.c x 204 #[J tt,J hh,Z A2 q.length c2]] O->O.cell? ⟨y,0,none⟩=some (J tt)∧O.cell? ⟨y,1,none⟩=some (J hh)∧O.cell? ⟨y,2,none⟩=some (Z A2 q.length c2):=λO h=>by have G:=(h.front 2 rfl).facts.1.1;exact⟨G 0,G 1,G 2⟩
 have eW:=fH.grow (Grow.refl _).drew;have Nj:=vC.grow (Grow.refl w6).drew;have eA:=gD _ eW;refine dJ rfl ?_;refine fC (λO=>O.cell? ⟨y,0,none⟩=some (J tt)∧O.cell? ⟨y,1,none⟩=some (J hh)∧O.cell? ⟨y,2,none⟩=some (Z A2 q.length c2)) [7] 8 rfl [0,1,2,3] ?_;iterate 4 (refine eV rfl eA (λw1 ⟨I,G,L⟩=>aM) ?_)
 refine eZ 4 [5] rfl ?_;have hD:=BP w6.drew r _ _ _ Nj;go_wp2_with fail;refine hD.mono ?_;rintro e w8 ⟨rfl,rfl⟩;go_wp2_with fail;refine⟨λ_=>eA,?_⟩;refine eV rfl eA (λw1 ⟨I,G,L⟩=>aM) ?_;refine eZ 6 [] rfl ?_;refine d_ eW 3 rfl 204 (.tmp 2) (.tmp 22) rfl 0 rfl [J tt,J hh,Z A2 q.length c2] rfl (bf rfl) rfl aw #[J tt,J hh,Z A2 q.length c2] rfl rfl ?_;intro w9 gy;refine wpList_nil ⟨λ_=>a5m _ gy,?_⟩;refine fY 7 rfl aw ?_;go_wp2;refine bodyPost_ret (dZ rfl _ x rfl (gy.blk 3 rfl) Tryz.underlying204 aw) rfl ?_;obtain⟨U9,hU9,k9⟩:=gy.own.see 0 rfl;exact⟨A2,c2,q,rfl,⟨jO.mono (show jO w9 U9 A2 q from hU9) λb hb=>⟨(k9 b hb).1.elim False.elim id,(k9 b hb).2⟩,kZ,kM,lV⟩,gy.grown⟩
theorem Xh(ws:List Wo)(h:k<ws.length):(Vs.mk (ws.take (k+1))).c=ws[k]:=by rw[br h];exact Vs.m7 _ _
theorem Ey{ws:List Wo}{j:Nat}(hs:l8 l (ws.map Wo.B) j):l.take j=ye ws∧j=(ye ws).length:=by
 have h0:ye ws=(ws.map Wo.B).flatMap frame:=by rw[List.flatMap_map];rfl
 have I:=hs.1;have G:=hs.2.1;rw[<-h0] at I G;refine⟨?_,G⟩;conv=>lhs;rw[<-I]
 rw[G,List.take_left' rfl]
theorem a0z{V:aV}{w0 w:X}{l:List Bl}{A:aU}{n c:Nat}{xs:List (List UInt8)}(hS:St V w0 l w)(i:Nat)(hi:l[i]?=some (.o (CL (Z A n c) xs)))(N:k<xs.length):∃(ad:dA)(Ak:aU)(nk ck:Nat),A=some ad∧n=xs.length∧w.cell? (ad.add k)=some (Z Ak nk ck)∧Bytes w (w:Nat) Ak nk xs[k]∧nk<=ck∧ck<=dG:=by obtain⟨U,⟨A',c',q,e,hB,hq,_,_⟩,_⟩:=hS.own.see i (iD hi);injection e with e1 e2 e3;subst e1 e2 e3;subst hq;rw[bj] at N;obtain⟨ad,CQ,rfl,_,lA,e0,_⟩:=In.mr (cells:=Bx.cells) hB.row ap ui N;have e0:w.cell? (ad.add (k*1))=some (.slice q[k].A q[k].m q[k].c):=e0 _ rfl;rw[cM] at e0;have Fa:=hB.all q[k] (bF N);refine⟨ad,q[k].A,q[k].m,q[k].c,rfl,(bj ..).symm,e0,?_,Fa.le,Fa.max⟩;rw[di];exact In.reads Fa.bs
set_option maxRecDepth 100000
set_option maxHeartbeats 1000000
theorem SP(w:X)(D:aV)(d k:Nat)(l:aT)(ws:List Wo)(j:Nat)(hs:l8 l (ws.map Wo.B) j)(gC:∀y∈ws,y.Ok):Lw W D 53 #[d] [.o (jK d l k)] (λ(i:Nat×Nat)e=>e=b5 (.pointer (some ⟨i.1,0,none⟩))) (λi=>[.o (qP i.1 i.2 d ⟨ws⟩)]) w:=by
 intro V hM hV;have hS:=St.begin_ hM (λb hb=>(hV b hb).1) ⟨jK.framed _ _ _,trivial⟩;obtain⟨U0,hU0,_⟩:=hS.own.see 0 rfl;have hwl:ws.length<=1048576:=by
  have I:l.length<=1048576:=(show g9 120 d l k w U0 from hU0).2.2.1;have G:=Jn ws;obtain⟨L,h4⟩:=Ey hs;have h5:(ye ws).length<=l.length:=by rw[<-L,bn];omega
  omega
 go_in;go_wp2_with fail;refine (St.call (a:=[.o (jK d l k)]) (b:=[]) (show St V w ([.o (jK d l k)]++[]) w from hS) (a':=λ(i:OpI)=>[.o (eC i.x d (i.xs.length:Int) (l.take i.j) i.j),.o (CL i.u i.xs)]) (λi=>⟨eC.framed _ _ _ _ _,CL.framed _ _,trivial⟩) hS.no (OM w _ d k l)).mono ?_;rintro e w1 ⟨⟨x,u,xs,j'⟩,⟨vQ,rfl⟩,ej⟩;dsimp only at vQ ej;obtain⟨rfl,rfl⟩:=vQ.one hs;obtain⟨hl,Ix⟩:=Ey hs;have QF:∀y∈ws,y.B.length<=65536:=λy hy=>hs.2.2.1 _ (cT hy);rw[hl,bj,Ix] at ej;clear hs vQ hl hS;obtain⟨U1,jV,_⟩:=ej.own.see 1 rfl;obtain⟨A1,c1,q1,rfl,_,Fg,_⟩:=jV;have a0A:q1.length=ws.length:=by rw[<-bj (f:=Bx.bs),Fg,bj]
 rw[a0A] at ej ⊢;clear Fg a0A;obtain⟨s,wa,HS,HA,dV⟩:=ej.new' #[(),(),ay,x] 206;go_wp2_with fail;rw[<-HA.out,<-HS.out];replace dV:St V w (.o (fT none [])::.c s 206 (lY 0 0 (Z none 0 0) x)::.o (eC x d ws.length (ye ws) (ye ws).length)::[.o (CL (Z A1 ws.length c1) (ws.map Wo.B))]) wa:=St.join dV (fT.framed none []) (Grow.refl _) (U:=λ_=>False) jO.nil (λ_ h=>h.elim);clear ej HA HS;go_loopw [22] (λi wr=>∃(k:Nat)(A:aU)(c:Nat)(q:List El),k<=ws.length∧i=J k∧(q.map El.e=(Vs.mk (ws.take k)).c.es∧q.length<=c∧c<=dG)∧St V w (.o (fT A q)::.c s 206 (lY (Vs.mk (ws.take k)).c.t (Vs.mk (ws.take k)).c.h (Z A q.length c) x)::.o (eC x d ws.length (ye ws) (ye ws).length)::[.o (CL (Z A1 ws.length c1) (ws.map Wo.B))]) wr) (λi _=>ws.length-(intOf i).toNat);case atStart=>exact⟨0,none,0,[],bo _,rfl,⟨rfl,bh _,bo _⟩,dV⟩
 case round=>
  obtain⟨k,A,c,q,N,rfl,hq,dX⟩:=hrel;by_cases fS:k<ws.length
  ·have dk:decide (k<ws.length)=true:=aC fS
   have kM:=Xh ws fS;have YI:=gC ws[k] (bF fS);have uV:=QF ws[k] (bF fS);obtain⟨ad,Ak,nk,ck,rfl,-,e0,hb,hnk,o9⟩:=a0z dX 3 rfl (k:=k) (by rw[bj];exact fS);rw[di] at hb;have hVr:=SO wr Ak nk ck ws[k].t ws[k].h ws[k].es _ hb uV hnk o9 (LL YI.t YI.h YI.es YI.len);generalize ws[k]=y at kM YI hVr;replace kM:=Q kM;replace hq:=Q hq;clear hb YI uV;go_wp2_with fail;refine hVr.mono ?_;rintro e w4 ⟨A2,c2,q2,rfl,⟨hE,kZ,lV,zE⟩,Bi⟩;have eO:=St.join dX (fT.framed A2 q2) Bi (U:=New wr w4) hE (λb hb=>hb);obtain⟨g,wg,HG,HGA,eF⟩:=eO.new' #[J y.t,J y.h,Z A2 q2.length c2] 204;clear hE hVr e0 dX eO;go_wp2_with (first|(rw[<-HGA.out,<-HG.out];refine d_ eF 3 rfl 204 (.tmp 35) (.tmp 33) rfl 0 rfl [J y.t,J y.h,Z A2 q2.length c2] rfl (bf rfl) rfl aw (lY y.t y.h (Z A2 q2.length c2) x) rfl rfl ?_;intro w6 eN;refine stay ?_));refine dI ?_;replace eN:St V w (.c g 204 #[J y.t,J y.h,Z A2 q2.length c2]::.o (fT A2 q2)::.o (fT A q)::.c s 206 (lY (Vs.mk (ws.take (k+1))).c.t (Vs.mk (ws.take (k+1))).c.h (Z A2 q2.length c2) x)::.o (eC x d ws.length (ye ws) (ye ws).length)::[.o (CL (Z (some ad) ws.length c1) (ws.map Wo.B))]) w6:=by rw[kM.out];exact eN
   have fH:=(eN.dO 2 rfl).dO 0 rfl;clear eF eN HG HGA;go_wp2_with fail;exact⟨⟨k+1,A2,c2,q2,by omega,by go_num,⟨by rw[kM.out];exact kZ,lV,zE⟩,fH⟩,by simp[intOf];omega⟩
  ·obtain rfl:k=ws.length:=by omega
   have dk:decide (ws.length<ws.length)=false:=aD fS;rw[dq] at hq dX;replace hq:=Q hq;go_wp2;go_ret;have eO:=kJ (y:=⟨ws⟩) (l:=[.o (CL (Z A1 ws.length c1) (ws.map Wo.B))]) (A:=A) (c:=c) (q:=q) (dX.perm ((List.Perm.swap _ _ _).trans (.cons _ (.swap _ _ _)))) hq.out;obtain⟨r1,r2⟩:=(eO.dO 1 rfl).fin;first|exact⟨(s,x),rfl,r1,r2⟩|exact⟨s,rfl,x,r1,r2⟩|exact⟨s,x,rfl,r1,r2⟩
def Rp.open_(node nodes:Nat)(ws:List Wo):Rp:=⟨node,nodes,⟨ws⟩,j4.new,0,none,false,0⟩
set_option maxRecDepth 100000
theorem SS(w:X)(D:aV)(d k node nodes:Nat)(l:aT)(ws:List Wo)(j:Nat)(hs:l8 l (ws.map Wo.B) j)(gC:∀y∈ws,y.Ok)(hn:node<nodes∧nodes<=8):Lw W D 15 #[J node,J nodes,d] [.o (jK d l k)] (λ(p:pj)e=>p.d=d∧e=b5 (.pointer (some ⟨p.r,0,none⟩))) (λp=>dP p 0 (Rp.open_ node nodes ws)) w:=by intro V hM hV;have hS:=St.begin_ hM (λb hb=>(hV b hb).1) ⟨jK.framed _ _ _,trivial⟩;have d1:decide ((nodes:Int)<1)=false:=aD ap;have d2:decide ((8:Int)<(nodes:Int))=false:=aD ap;have d3:decide ((node:Int)<0)=false:=aD ap;have d4:decide (nodes<=node)=false:=aD ap;go_in;go_wp2_with fail;refine (St.call (a:=[.o (jK d l k)]) (b:=[]) (show St V w ([.o (jK d l k)]++[]) w from hS) (a':=λ(i:Nat×Nat)=>[.o (qP i.1 i.2 d ⟨ws⟩)]) (λi=>⟨gG.framed _ _ _ _ _ _ _ _,trivial⟩) hS.no (SP w _ d k l ws j hs gC)).mono ?_;rintro e w1 ⟨⟨s,x⟩,rfl,ej⟩;go_wp2_with fail;refine (GI w1).mono ?_;rintro e w2 ⟨m,rfl,hMa,fk⟩;have dV:=St.join ej (gR.framed m j4.new) fk (U:=New w1 w2) hMa (λb hb=>hb);obtain⟨r,w3,HR,H3,dX⟩:=dV.new' #[J node,J nodes,s,m,(),.pointer none,aY false,()] 118;go_wp2_with fail;rw[<-H3.out,<-HR.out];go_ret;obtain⟨r1,r2⟩:=(show St V w (dP ⟨r,s,x,d,m⟩ 0 (Rp.open_ node nodes ws)) w3 from dX).fin;first|exact⟨⟨r,s,x,d,m⟩,⟨rfl,rfl⟩,r1,r2⟩|exact⟨⟨r,s,x,d,m⟩,rfl,rfl,r1,r2⟩
set_option maxRecDepth 100000
set_option maxHeartbeats 1000000
theorem LM(w:X)(e:En)(V:aV)(A:aU)(c:Nat)(A2:aU)(c2:Nat)(gC:e.Ok)(hd:jM w V A e.ds.length e.ds):dz W 277 #[aZ (mH (kW e) A c A2 c2)] w λen O=>∃v,en=b5 v∧Grow w O∧eM (ZK e) v O:=by
 have hB:=λ(w1:X)(H:Grow w w1)=>DW w1 e V A c gC (In.grow hd H);have fj:=vZ gC;obtain⟨bs,HB⟩:=az (pg e);have uX:ZK e=[UInt8.ofNat 1]++enc bs.length++bs:=by rw[HB.out];rfl
 rw[uX];rw[<-HB.out] at hB fj;clear uX gC hd;unfold mH Ms.cells kW Ms.zero;obtain⟨k,ag,sh,sq,ep,ds,se,fr,tg⟩:=e;unfold En.agg at hB;dsimp only[cx] at hB ⊢;go_in;go_wp2_with fail;have gl:=(dT w (.cells #[J 1,J k,J ag,J sh,J sq,J ep,Z A ds.length c,aX se,J fr,J tg,(),(),ae ah 0,(),(),Z A2 0 c2,(),()] 45)).trans (dT _ (.cells #[.int .u8 1] 5));refine (hB _ gl).mono ?_;rintro e w1 ⟨v1,rfl,eD,lU⟩;have I:eM [UInt8.ofNat 1] (Z (some ⟨(w:Nat)+1,0,none⟩) 1 1) w1:=by have G:=wP (w.alloc (.cells #[J 1,J k,J ag,J sh,J sq,J ep,Z A ds.length c,aX se,J fr,J tg,(),(),ae ah 0,(),(),Z A2 0 c2,(),()] 45)) #[.int .u8 1] 5 1 [UInt8.ofNat 1] rfl rfl am;rw[fp] at G;exact G.below eD
 have cv:=IF w1 lU;have hT:=t8 w1 _ _ ⟨bs.toArray⟩ I (by simp) (by show bs.toArray.size<=_;simp;omega);rw[show (ByteArray.mk bs.toArray).size=bs.length by show bs.toArray.size=_;simp,show (ByteArray.mk bs.toArray).data.toList=bs from rfl] at hT;go_wp2_with fail;refine hT.mono ?_;rintro e w2 ⟨v2,rfl,fk,lA⟩;go_wp2;go_ret;exact⟨v2,rfl,gl.trans (eD.trans fk),lA⟩
theorem LN(w:X)(TG CO n:Nat)(A:aU)(c:Nat)(A2:aU)(c2:Nat)(ht:TG<=9223372036854775807)(E:CO<=255)(hn:n<18446744073709551616):dz W 277 #[aZ (mH (fx (TG:Int) (CO:Int) n) A c A2 c2)] w λen O=>∃v,en=b5 v∧Grow w O∧eM (Wj (TG:Int) (CO:Int) n) v O:=by
 have uX:Wj (TG:Int) (CO:Int) n=[UInt8.ofNat 2]++enc TG++enc CO++enc n:=by unfold Wj;rw[cA,cA]
 rw[uX];clear uX;obtain⟨LB,Ez⟩:=az ([UInt8.ofNat 2]++enc TG++enc CO++enc n);rw[<-Ez.out];unfold mH Ms.cells fx Ms.zero En.zero;dsimp only[cx];have gl:=(dT w (.cells #[J 2,(),(),(),(),(),Z A 0 c,"",(),(),J TG,J CO,ae ah n,(),(),Z A2 0 c2,(),()] 45)).trans (dT _ (.cells #[.int .u8 2] 5));have i4:=(eJ.made w 45 #[J 2,(),(),(),(),(),Z A 0 c,"",(),(),J TG,J CO,ae ah n,(),(),Z A2 0 c2,(),()]).alloc (.cells #[.int .u8 2] 5);have G:=wP (w.alloc (.cells #[J 2,(),(),(),(),(),Z A 0 c,"",(),(),J TG,J CO,ae ah n,(),(),Z A2 0 c2,(),()] 45)) #[.int .u8 2] 5 1 [UInt8.ofNat 2] rfl rfl am;rw[fp] at G;obtain⟨x,HX⟩:=az ((w:Nat):Nat);obtain⟨wa,HA⟩:=az ((w.alloc (.cells #[J 2,(),(),(),(),(),Z A 0 c,"",(),(),J TG,J CO,ae ah n,(),(),Z A2 0 c2,(),()] 45)).alloc (.cells #[.int .u8 2] 5):X);rw[<-HA.out] at gl i4 G;rw[<-HX.out] at i4 G;have wT:IntKind.u64.wrap (TG:Int)=(TG:Int):=by rw[wrap_u64];omega
 have wC:IntKind.u64.wrap (CO:Int)=(CO:Int):=by rw[wrap_u64];omega
 go_in;go_wp2_with fail;rw[<-HA.out,<-HX.out];have gd:Grow wa wa.drew:=(Grow.refl _).drew;refine dJ rfl ?_;refine gi (Grow wa) 13 rfl ?_;refine held 0 rfl gd (λw1 E R T=>by have c0:=(i4.grow E).cell 10;have c7:=(i4.grow E).cell 11;have c8:=(i4.grow E).cell 12;go_simp;exact T) ?_;refine held 1 rfl gd (λw1 E R T=>by have c0:=(i4.grow E).cell 10;have c7:=(i4.grow E).cell 11;have c8:=(i4.grow E).cell 12;go_simp;exact T) ?_;refine held 2 rfl gd (λw1 E R T=>by have c0:=(i4.grow E).cell 10;have c7:=(i4.grow E).cell 11;have c8:=(i4.grow E).cell 12;go_simp;exact T) ?_;refine held 3 rfl gd (λw1 E R T=>by have c0:=(i4.grow E).cell 10;have c7:=(i4.grow E).cell 11;have c8:=(i4.grow E).cell 12;go_simp;exact T) ?_;refine held 5 rfl gd (λw1 E R T=>by have c0:=(i4.grow E).cell 10;have c7:=(i4.grow E).cell 11;have c8:=(i4.grow E).cell 12;go_simp;exact T) ?_;refine held 6 rfl gd (λw1 E R T=>by have c0:=(i4.grow E).cell 10;have c7:=(i4.grow E).cell 11;have c8:=(i4.grow E).cell 12;go_simp;exact T) ?_;refine held 7 rfl gd (λw1 E R T=>by have c0:=(i4.grow E).cell 10;have c7:=(i4.grow E).cell 11;have c8:=(i4.grow E).cell 12;go_simp;exact T) ?_;refine held 9 rfl gd (λw1 E R T=>by have c0:=(i4.grow E).cell 10;have c7:=(i4.grow E).cell 11;have c8:=(i4.grow E).cell 12;go_simp;exact T) ?_;refine held 10 rfl gd (λw1 E R T=>by have c0:=(i4.grow E).cell 10;have c7:=(i4.grow E).cell 11;have c8:=(i4.grow E).cell 12;go_simp;exact T) ?_;refine dY 4 rfl ?_;go_wp2_with fail;refine (ic _ _ [UInt8.ofNat 2] TG (G.below gd) (by simp) ap).mono ?_;rintro en u0 ⟨v30,rfl,eD,lU⟩;replace eD:=gd.trans eD;go_wp2_with fail;refine⟨eD,?_⟩;refine dY 8 rfl ?_;go_wp2_with fail;refine (ic u0 v30 _ CO lU (by have:=eE (n:=TG) ap;simp only[bd,bv];omega) ap).mono ?_;rintro en u1 ⟨v34,rfl,fk,lA⟩;replace fk:=eD.trans fk;go_wp2_with fail;refine⟨fk,?_⟩;refine dY 11 rfl ?_;go_wp2_with fail;refine (ic u1 v34 _ n lA (by have:=eE (n:=TG) ap;have:=eE (n:=CO) ap;simp only[bd,bv];omega) ap).mono ?_;rintro en w1 ⟨v37,rfl,H,hE⟩;replace H:=fk.trans H;go_wp2_with fail;refine⟨H,?_⟩;refine held 12 rfl H (λw1 E=>aM) ?_;refine eU ?_;go_wp2;go_ret;exact⟨v37,rfl,gl.trans H,by rw[Ez.out];exact hE⟩
def B0(k abm abj C abp:Nat)(l:List En):List UInt8:=if k=4 then [UInt8.ofNat k]++enc abm++enc abj++enc l.length++r_ l else if k=5 then [UInt8.ofNat k]++enc abm++enc C++enc l.length++r_ l else if k=6 then [UInt8.ofNat k]++enc abm++enc abp else [UInt8.ofNat k]++enc abm
theorem Cf(w:X)(D:aV)(k abm abj C abp:Nat)(N:3<=k∧k<=6)(hT:abm<=9223372036854775807)(hH:abj<=9223372036854775807)(hC:C<=128)(hN:abp<=128)(A:aU)(c:Nat)(A2:aU)(c2:Nat)(q:List El)(hq:jO w D A2 q)(gC:∀x∈q,x.e.Ok)(hl:q.length<=128):dz W 277 #[aZ #[J k,(),(),(),(),(),Z A 0 c,"",(),(),(),(),ae ah 0,J abm,J abj,Z A2 q.length c2,J C,J abp]] w λen O=>∃v,en=b5 v∧Grow w O∧eM (B0 k abm abj C abp (q.map El.e)) v O:=by
 obtain⟨LB,Ez⟩:=az (B0 k abm abj C abp (q.map El.e));rw[<-Ez.out];have fN:=St.begin_ (l:=[]) (w:=w) (V:=λ_=>False) trivial (λ_ h=>h.elim) trivial;obtain⟨y,wa,HY,HA,ej⟩:=fN.new' #[J k,(),(),(),(),(),Z A 0 c,"",(),(),(),(),ae ah 0,J abm,J abj,Z A2 q.length c2,J C,J abp] 45;have Yn:=wP wa #[.int .u8 k] 5 1 [UInt8.ofNat k] rfl (by show _=[Value.int .u8 _];rw[nT ap]) am;obtain⟨z,wb,HZ,HB,dV⟩:=ej.new' #[.int .u8 k] 5;rw[<-HB.out,<-HZ.out] at Yn;have ez:z=y+1:=by rw[HZ.out,HA.out,HY.out];simp
 have w8:IntKind.u8.wrap (k:Int)=(k:Int):=by rw[IntKind.wrap_u8];omega
 have wT:IntKind.u64.wrap (abm:Int)=(abm:Int):=by rw[wrap_u64];omega
 have wH:IntKind.u64.wrap (abj:Int)=(abj:Int):=by rw[wrap_u64];omega
 have wC:IntKind.u64.wrap (C:Int)=(C:Int):=by rw[wrap_u64];omega
 have wN:IntKind.u64.wrap (abp:Int)=(abp:Int):=by rw[wrap_u64];omega
 have e1:((k:Int) == 1)=false:=by simp;omega
 have e2:((k:Int) == 2)=false:=by simp;omega
 have k0:wb.cell? ⟨y,0,none⟩=some (J k):=(dV.front 1 rfl).facts.1.1 0;have hP:=ic wb _ [UInt8.ofNat k] abm Yn (by simp) ap;go_in;go_wp2_with fail;rw[<-HA.out,<-HB.out,<-HY.out,<-ez];refine hP.mono ?_;rintro e w1 ⟨v1,rfl,eD,lU⟩;have dX:=dV.grow eD;have yX:jO w1 D A2 q:=hq.grow (dX.grown);clear k0 hP Yn HA HB ez HY HZ fN ej dV hq;have k0:w1.cell? ⟨y,0,none⟩=some (J k):=(dX.front 1 rfl).facts.1.1 0;have hel:=eE (n:=abm) ap;have gD:∀O,Grow w1 O->(O.cell? ⟨y,14,none⟩=some (J abj)∧O.cell? ⟨y,15,none⟩=some (Z A2 q.length c2))∧O.cell? ⟨y,16,none⟩=some (J C)∧O.cell? ⟨y,17,none⟩=some (J abp):=λO H=>by have h:=((dX.grow H).front 1 rfl).facts.1.1;exact⟨⟨h 14,h 15⟩,h 16,h 17⟩
 by_cases j5:k=4
 ·have d4:((k:Int) == 4)=true:=by simp;omega
  have Xi:Hid (LB=[UInt8.ofNat k]++enc abm++enc abj++enc q.length++r_ (q.map El.e)):=Q (by rw[Ez.out];unfold B0;rw[aA j5,bj]);replace j5:=Q j5;clear N Ez;obtain⟨v1A,v1n,v1c,rfl,a1X⟩:=id lU;go_wp2_with fail;have eA:=gD _ (Grow.refl w1).drew;refine dJ rfl ?_;refine fC (λO=>(O.cell? ⟨y,14,none⟩=some (J abj)∧O.cell? ⟨y,15,none⟩=some (Z A2 q.length c2))∧O.cell? ⟨y,16,none⟩=some (J C)∧O.cell? ⟨y,17,none⟩=some (J abp)) [] 9 rfl [0,1,2,3,5,6] ?_;iterate 6 (refine eV rfl eA (λw1 ⟨⟨I,G⟩,L,h4⟩=>aM) ?_)
  refine eZ 4 [] rfl ?_;have hP:=ic w1.drew _ _ abj (lU.below (Grow.refl w1).drew) (by simp;omega) ap;go_wp2_with fail;refine hP.mono ?_;rintro e w2 ⟨v2,rfl,fk,lA⟩;have uN:Grow w1 w2:=(Grow.refl w1).drew.trans fk;obtain⟨v2A,v2n,v2c,rfl,a6y⟩:=id lA;have a5o:=eE (n:=abj) ap;have hM:=xM w2 _ _ D A2 c2 q lA (by simp;omega) (yX.grow uN) gC ap;go_wp2_with fail;refine⟨λ_=>gD _ uN,?_⟩;refine eZ 7 [8] rfl ?_;go_wp2_with fail;refine hM.mono ?_;rintro e w3 ⟨v3,rfl,ib,MB⟩;go_wp2_with fail;refine⟨λ_=>gD _ (uN.trans ib),?_⟩;refine eV rfl (gD _ (uN.trans ib)) (λw1 _=>aM) ?_;refine gj ?_;go_wp2;go_ret;exact⟨_,rfl,dX.grown.trans (uN.trans ib),by rw[Xi.out];exact MB⟩
 have d4:((k:Int) == 4)=false:=by simp;omega
 by_cases nS:k=5
 ·have d5:((k:Int) == 5)=true:=by simp;omega
  have Xi:Hid (LB=[UInt8.ofNat k]++enc abm++enc C++enc q.length++r_ (q.map El.e)):=Q (by rw[Ez.out];unfold B0;rw[aB j5,aA nS,bj]);replace nS:=Q nS;clear N Ez j5;obtain⟨v1A,v1n,v1c,rfl,a1X⟩:=id lU;go_wp2_with fail;have eA:=gD _ (Grow.refl w1).drew;refine dJ rfl ?_;refine fC (λO=>(O.cell? ⟨y,14,none⟩=some (J abj)∧O.cell? ⟨y,15,none⟩=some (Z A2 q.length c2))∧O.cell? ⟨y,16,none⟩=some (J C)∧O.cell? ⟨y,17,none⟩=some (J abp)) [] 9 rfl [0,1,2,3,5,6] ?_;iterate 6 (refine eV rfl eA (λw1 ⟨⟨I,G⟩,L,h4⟩=>aM) ?_)
  refine eZ 4 [] rfl ?_;have hP:=ic w1.drew _ _ C (lU.below (Grow.refl w1).drew) (by simp;omega) ap;go_wp2_with fail;refine hP.mono ?_;rintro e w2 ⟨v2,rfl,fk,lA⟩;have uN:Grow w1 w2:=(Grow.refl w1).drew.trans fk;obtain⟨v2A,v2n,v2c,rfl,a6y⟩:=id lA;have a5o:=eE (n:=C) ap;have hM:=xM w2 _ _ D A2 c2 q lA (by simp;omega) (yX.grow uN) gC ap;go_wp2_with fail;refine⟨λ_=>gD _ uN,?_⟩;refine eZ 7 [8] rfl ?_;go_wp2_with fail;refine hM.mono ?_;rintro e w3 ⟨v3,rfl,ib,MB⟩;go_wp2_with fail;refine⟨λ_=>gD _ (uN.trans ib),?_⟩;refine eV rfl (gD _ (uN.trans ib)) (λw1 _=>aM) ?_;refine gj ?_;go_wp2;go_ret;exact⟨_,rfl,dX.grown.trans (uN.trans ib),by rw[Xi.out];exact MB⟩
 have d5:((k:Int) == 5)=false:=by simp;omega
 obtain⟨v1A,v1n,v1c,rfl,a1X⟩:=id lU;by_cases UR:k=6
 ·have d6:((k:Int) == 6)=true:=by simp;omega
  have Xi:Hid (LB=[UInt8.ofNat k]++enc abm++enc abp):=Q (by rw[Ez.out];unfold B0;rw[aB j5,aB nS,aA UR]);have E:=(gD w1 (Grow.refl w1)).2.2;have hP:=ic w1 _ _ abp lU (by simp;omega) ap;clear N Ez j5 nS UR gD;go_wp2_with fail;refine hP.mono ?_;rintro e w2 ⟨v2,rfl,fk,lA⟩;go_wp2;go_ret;exact⟨_,rfl,dX.grown.trans fk,by rw[Xi.out];exact lA⟩
 ·have d6:((k:Int) == 6)=false:=by simp;omega
  have Xi:Hid (LB=[UInt8.ofNat k]++enc abm):=Q (by rw[Ez.out];unfold B0;rw[aB j5,aB nS,aB UR]);clear N Ez j5 nS UR gD;go_wp2;go_ret;exact⟨_,rfl,dX.grown,by rw[Xi.out];exact lU⟩
theorem Xj(w:X)(D:aV)(m:Ms)(A:aU)(c:Nat)(A2:aU)(c2:Nat)(q:List El)(h:m.Gd)(he:jM w D A m.e.ds.length m.e.ds)(hq:jO w D A2 q)(kZ:q.map El.e=m.log):dz W 277 #[aZ (mH m A c A2 c2)] w λen O=>∃v,en=b5 v∧Grow w O∧eM (jj m) v O:=by
 have ig:q.length=m.log.length:=by rw[<-kZ,bj]
 have vv:(∀e∈m.log,e.Ok)->∀x∈q,x.e.Ok:=λh x Y=>h x.e (kZ▸cT Y);cases h with
 | ask e h=>
   exact LM w e D A c A2 c2 h he
 | ans tg co n I G L=>
   exact LN w tg co n A c A2 c2 I G L
 | vD t h=>
   obtain rfl:q=[]:=List.length_eq_zero_iff.1 ig;exact Cf w D 3 t 0 0 0 am h am am am A c A2 c2 [] hq (λx Y=>absurd Y (by simp)) am
 | prom t ha l I G L h4=>
   have:=Cf w D 4 t ha 0 0 am I G am am A c A2 c2 q hq (vv L) (by rw[ig];exact h4);rw[kZ,ig] at this;exact this
 | acc t l cm I G L h4=>
   have:=Cf w D 5 t 0 cm 0 am I am G am A c A2 c2 q hq (vv L) (by rw[ig];exact h4);rw[kZ,ig] at this;exact this
 | Mq t n I G=>
   obtain rfl:q=[]:=List.length_eq_zero_iff.1 ig;exact Cf w D 6 t 0 0 n am I am am G A c A2 c2 [] hq (λx Y=>absurd Y (by simp)) am
set_option maxRecDepth 100000
theorem P9(w:X)(D:aV)(m:Ms)(A:aU)(c:Nat)(A2:aU)(c2:Nat)(q:List El)(h:m.Gd)(he:jM w D A m.e.ds.length m.e.ds)(hq:jO w D A2 q)(kZ:q.map El.e=m.log):dz W 216 #[aZ (mH m A c A2 c2)] w λen O=>Grow w O∧((kX m=true∧∃v,en=b5 (a_ #[v,()])∧eM (mB m) v O)∨(kX m=false∧∃v,en=b5 (a_ #[v,J 3]))):=by
 have T:=λw1(H:Grow w w1)=>Eh w1 D m A c A2 c2 q h (In.grow he H) (hq.grow H) kZ;have pL:=λw1(H:Grow w w1)=>Xj w1 D m A c A2 c2 q h (In.grow he H) (hq.grow H) kZ;clear h he hq kZ;obtain⟨LB,Ez⟩:=az (jj m:aT);have sv:kX m=decide (LB.length<=65536):=by rw[Ez.out];rfl
 have Wy:mB m=frame LB:=by rw[Ez.out];rfl
 rw[sv,Wy];rw[<-Ez.out] at pL;clear sv Wy Ez;obtain⟨k,⟨ek,ag,sh,sq,ep,ds,se,fr,tg⟩,tag,code,n,term,had,log,commit,len⟩:=m;unfold mH Ms.cells at *;dsimp only at *;have fN:=St.begin_ (l:=[]) (w:=w) (V:=λ_=>False) trivial (λ_ h=>h.elim) trivial;obtain⟨y,wa,HY,HA,ej⟩:=fN.new' #[J k,J ek,J ag,J sh,J sq,J ep,Z A ds.length c,aX se,J fr,J tg,J tag,J code,ae ah n,J term,J had,Z A2 log.length c2,J commit,J len] 45;have fu:Grow w wa:=ej.grown;have T:=T wa fu;have hX:=ej.blk 0 rfl;have hXw:=HA.out▸HY.out▸hX;go_in;go_wp2_with (refine dU rfl 45 _ rfl _ rfl hXw bG aw ?_);rw[<-HA.out,<-HY.out];refine T.mono ?_;rintro e w1 ⟨rfl,eD⟩;have jV:=hX.grow eD;have pL:=pL w1 (fu.trans eD);clear T hXw HA HY hX ej fN;go_wp2_with (refine dU rfl 45 _ rfl _ rfl (jV) bG aw ?_);refine pL.mono ?_;rintro e w2 ⟨v2,rfl,fk,lA⟩;clear pL;obtain⟨A3,n3,c3,rfl,MB,hnc3,a4E⟩:=lA;have fj:=MB.len;by_cases Fe:LB.length<=65536
 ·have hB:=uj w2 A3 n3 c3 _ MB ap
  replace Fe:=Q Fe;replace fj:=Q fj;go_wp2_with fail;refine hB.mono ?_;rintro e w3 ⟨v3,rfl,nt,ib⟩;go_wp2;go_ret2;exact⟨fu.trans (eD.trans (fk.trans ib)),.inl ⟨aC Fe.out,v3,rfl,nt.isBytes⟩⟩
 ·have hB:=xl w2 A3 n3 c3 ap
  replace Fe:=Q Fe;replace fj:=Q fj;go_wp2_with fail;refine hB.mono ?_;rintro e w3 ⟨rfl,rfl⟩;go_wp2;go_ret2;exact⟨fu.trans (eD.trans fk),.inr ⟨aD Fe.out,_,rfl⟩⟩
end Go.Proofs.YtpeepcmdehhbgaaGreatDoor
