import Derived.Test.YtpeepcmdehhbgaaGreatDoorJa08
set_option linter.all false
set_option maxRecDepth 100000
set_option maxHeartbeats 2000000
open Go.Value renaming int->ae,slice->Z,string->aX,bool->aY,agg->aZ,tuple->a_
open Go.Ending renaming returned->b5
open Go.IntKind renaming i64->af,u64->ah
open Go.Proofs.Tryz renaming prog->W,underlying45->bG
open Go.Lib renaming hid->Q
open List renaming length_append->bd,length_map->bj,append_nil->bm,length_take->bn,append_assoc->bp,take_succ_eq_append_getElem->br,length_singleton->bv,getElem_mem->bF,length_nil->cx,mem_map_of_mem->cT,getElem_map->di,take_length->dq,perm_append_comm->bg,set_cons_succ->bz,set_cons_zero->bA,map_append->bI,flatMap_append->bL,drop_eq_getElem_cons->bP,range->bV,drop_of_length_le->cH,flatMap_cons->bJ,flatMap_nil->cE,map_nil->cQ
open Nat renaming le_of_ble_eq_true->bf,le_refl->bh,zero_le->bo,le_trans->bB,mul_one->cM,le_succ_of_le->dw
open Bool renaming eq_false_or_eq_true->bC
open Int renaming toNat_natCast->cA,toNat_of_nonneg->cP
open Go renaming World->X,Calls->dz,Addr->dA,maxLen->dG,Value->K
open Go (J az aE aA aB aC aD ay aj am ap aw aL aK aJ aI aH aV aU aT aR aQ aP aO aN)
section
variable{k:Nat}{l:aT}
namespace Go.Proofs.YtpeepcmdehhbgaaGreatDoor
open RowKit Hop V
set_option maxRecDepth 100000
set_option maxHeartbeats 4000000
theorem Et(w:X)(m:Ms)(A:aU)(c:Nat)(A2:aU)(c2:Nat)(h:m.k<1∨6<m.k):dz W 65 #[aZ (mH m A c A2 c2)] w λen O=>en=b5 (J 12)∧Grow w O:=by
 obtain⟨k,⟨ek,ag,sh,sq,ep,ds,se,fr,tg⟩,tag,code,n,term,had,log,commit,len⟩:=m;unfold mH Ms.cells at *;dsimp only at *;by_cases I:k<1
 ·have d1:=aC I
  replace h:=Q h;replace I:=Q I;go_in;go_wp2;go_ret;exact⟨rfl,dT w _⟩
 ·have d1:=aD I
  have d2:=aC (show 6<k by omega);replace h:=Q h;replace I:=Q I;go_in;go_wp2;go_ret;exact⟨rfl,dT w _⟩
theorem Ms.Gd.kind{m:Ms}(h:m.Gd):1<=m.k∧m.k<=6:=by cases h<;>simp[kW,fx,jX,i9,kR,m8]
theorem oE.one:∀{n:Nat}{s:RS}{q q':List En}{S S':RS},oE n s q S->oE n s q' S'->q=q'∧S=S'
 | 0,_,_,_,_,_,⟨I,G⟩,⟨L,h4⟩=>⟨I.trans L.symm,G.trans h4.symm⟩
 | n+1,s,_,_,_,_,⟨e,q1,I,_,L,h4⟩,⟨e',q1',Mx,_,h3',h4'⟩=>by
   obtain⟨rfl,rfl⟩:=oE.one h4 h4';rw[I,Mx,L.one h3'];exact⟨rfl,rfl⟩
theorem qo.one{s:RS}{q q':List En}{S S':RS}(h:qo s q S)(h':qo s q' S'):q=q'∧S=S':=h.1.one h'.1
theorem H7.one{k:Nat}{s:RS}{m m':Ms}{S S':RS}(h:H7 k s m S)(h':H7 k s m' S'):m=m'∧S=S':=by
 unfold H7 at h h';repeat' split at h
 all_goals first
  | (rename_i N;rw[aA N] at h';obtain⟨e,I,G,L⟩:=h;obtain⟨e',Mx,Ym,h3'⟩:=h';rw[G,Ym,L,h3',I.one Mx];exact⟨rfl,rfl⟩)
  | skip
 all_goals simp_all
 ·obtain⟨q,I,G⟩:=h
  obtain⟨q',Mx,Ym⟩:=h';obtain⟨e1,e2⟩:=I.one Mx;rw[G,Ym,e1,e2];exact⟨rfl,rfl⟩
 ·obtain⟨q,I,G⟩:=h
  obtain⟨q',Mx,Ym⟩:=h';obtain⟨e1,e2⟩:=I.one Mx;rw[G,Ym,e1,e2];exact⟨rfl,rfl⟩
def sk(l:aT)(m:Ms):Prop:=∃x,l=frame x∧x.length<=65536∧H7 (nB (some x)).1 (nB (some x)).2 m (some [])∧m.Gd
def a0x(l:aT)(w O:X)(en:Ending):Prop:=(∃(m:Ms)(A:aU)(c:Nat)(A2:aU)(c2:Nat)(q:List El),sk l m∧en=b5 (a_ #[aZ (mH m A c A2 c2),()])∧Sd.In O (New w O) ⟨0,m,A,c,A2,q,c2⟩∧(m.k≠1->A=none∧c=0)∧(m.k≠4->m.k≠5->A2=none∧c2=0))∨((∀m,¬ sk l m)∧en=b5 (a_ #[aZ (mH Ms.zero none 0 none 0),J 12]))
def Jw(s:Sd):dW:=λw V=>Sd.In w V s
theorem Jw.framed(s:Sd):eu (Jw s):=λw O V h N=>pm w O V s h N
theorem LJ{x:aT}{ok:Bool}(h:l5 l x k ok):x.length<=65536:=by
 rcases h with ⟨_,h,_⟩|⟨_,_,rfl,_⟩
 ·exact h
 ·simp
set_option maxRecDepth 100000
set_option maxHeartbeats 4000000
theorem Jx(w:X)(A:aU)(n c:Nat)(l:aT)(hb:Bytes w (w:Nat) A n l)(iS:n<=c)(iO:c<=dG):dz W 23 #[Z A n c] w λen O=>a0x l w O en∧Grow w O:=by
 have fj:=hb.len;have fN:=St.begin_ (l:=[]) (w:=w) (V:=λ_=>False) trivial (λ_ h=>h.elim) trivial;go_in;go_wp2_with (refine kf rfl (tn _ _ _ rfl) ?_;intro x wx hX vR hsx hzx;refine stay ?_);refine dI ?_;have ej:=fN.made vR hX (Nat.le_of_eq hsx);replace fj:=Q fj;clear hX hzx fN;have hF:=xm wx A n c l ((Reads.below hb vR).more vR.size) iS iO;go_wp2_with fail;refine hF.mono ?_;rintro e1 w1 ⟨xs,k,ok,v1,hI,rfl,kv,eD⟩;have dV:=ej.grow eD;have hxs:=LJ hI;replace hI:=Q hI;clear hF ej;obtain⟨A1,c1,rfl,lU,oK,ry⟩:=kv.reads;clear kv;rcases bC ok with gC|gC
 case' inr=>
  subst gC;go_wp2_with (first|(refine d_ dV 0 rfl 45 _ _ rfl 0 rfl (Ms.zero.cells none 0 none 0) rfl (bf rfl) rfl aw (mH Ms.zero none 0 none 0) rfl rfl ?_;intro w9 gy;refine stay ?_));refine dI ?_;go_wp2;refine bodyPost_ret (dZ rfl _ x rfl (gy.blk 0 rfl) bG aw) rfl ?_;exact⟨.inr ⟨λm ⟨y,hy,vr,_⟩=>by
   rcases hI.out with ⟨h,_⟩|⟨_,h,_⟩
   ·cases h
   ·exact h y vr (by rw[hy];exact List.prefix_refl _),rfl⟩,gy.grown⟩
 subst gC;by_cases oL:k=n;case' neg=>
  have dk:((k:Int) != (n:Int))=true:=by simp;omega
  replace oL:=Q oL;go_wp2_with (first|(refine d_ dV 0 rfl 45 _ _ rfl 0 rfl (Ms.zero.cells none 0 none 0) rfl (bf rfl) rfl aw (mH Ms.zero none 0 none 0) rfl rfl ?_;intro w9 gy;refine stay ?_));refine dI ?_;go_wp2;refine bodyPost_ret (dZ rfl _ x rfl (gy.blk 0 rfl) bG aw) rfl ?_;exact⟨.inr ⟨λm ⟨y,hy,vr,_⟩=>by have I:=(hI.out.one (.inl ⟨rfl,vr,by rw[hy];exact List.prefix_refl _,rfl⟩)).2.1;have G:=fj.out;rw[hy] at G;exact oL.out (I.trans G),rfl⟩,gy.grown⟩
 case' pos=>
  subst oL;have Qx:=pY w1 A1 _ c1 xs lU oK ry;have dk:((k:Int) != (k:Int))=false:=by simp
  go_wp2_with fail;refine Qx.mono ?_;rintro e1 w2 ⟨r,rfl,gS,fk⟩;have hRE:km r (w1:Nat) 65536 (some xs) w2:=km.of gS hxs;have V8:(w1:Nat)<=r:=hRE.1;have z6:=fk.size;clear Qx lU gS;obtain⟨_,A',n',c',l',b',_,lS,_⟩:=id hRE;have dX:=dV.made fk lS V8;clear dV lS;go_wp2_with fail;refine (I_ w2 r _ _ _ hRE).mono ?_;rintro e w3 ⟨kk,s3,q3,Kb,rfl,jN,oM⟩;have m_:Hid (∀M,sk l M->H7 kk s3 M (some [])∧M.Gd):=Q (λM ⟨y,hy,vr,L,h4⟩=>by obtain rfl:=(hI.out.one (.inl ⟨rfl,vr,by rw[hy];exact List.prefix_refl _,rfl⟩)).1;rw[q3.out] at L;exact⟨L,h4⟩)
  have qX:Hid (l=frame xs∧xs.length<=65536):=Q (by
   rcases hI.out with ⟨_,I,G,L⟩|⟨h,_⟩
   ·refine⟨?_,I⟩
    obtain⟨t,ht⟩:=G;have h4:=fj.out;rw[<-ht,bd] at h4;have:t=[]:=List.length_eq_zero_iff.1 ap;rw[<-ht,this,bm]
   ·cases h)
  clear hI;obtain⟨Ju,eO⟩:=gX dX 0 rfl jN oM;have eO:St (λ_=>False) w [.c r 237 Ju,.c x 45 (mH Ms.zero none 0 none 0)] w3:=eO;have Mb:=oM.size;have hwk:IntKind.i64.wrap (kk:Int)=(kk:Int):=by rw[IntKind.wrap_i64];omega
  clear dX hRE;have hM:=SK w3 r _ _ kk _ jN ap ap Kb;go_wp2_with fail;refine hM.mono ?_;rintro e w4 ⟨s4,⟨m,Am,cm,A2,c2,q,ok,rfl,Mf,qF,kh,hA,qZ⟩,om,CG⟩;clear hM jN;have Yc:=om.lt;obtain⟨_,A',n',c',l',b',_,Qn,_⟩:=id om;have eF:=eO.qg CG Qn (Jw.framed ⟨0,m,Am,cm,A2,q,c2⟩) Mf λb hb=>hb;clear eO Qn Mf CG;replace qF:=Q qF;replace kh:=Q kh;replace hA:=Q hA;replace qZ:=Q qZ;go_wp2_with (refine kf rfl (tn _ _ _ rfl) ?_;intro y wy hY ZG hsy QJ;refine stay ?_);refine dI ?_;have eN:=eF.made ZG hY (Nat.le_of_eq hsy);refine Dn rfl 45 _ _ rfl _ rfl (m.cells Am cm A2 c2) rfl hY rfl rfl aw ?_;intro w5 YE ra hs5;have fH:=eN.turned 0 rfl ra YE;have qM:=(om.grow ZG).just ra ap (λb hb=>by omega);have fH:St (λ_=>False) w [.c y 45 (mH m Am cm A2 c2),.o (Jw ⟨0,m,Am,cm,A2,q,c2⟩),.c r 237 #[Z A' n' c',aY b'],.c x 45 (mH Ms.zero none 0 none 0)] w5:=fH;clear eF eN om hY YE ra ZG;rcases bC ok with gC|gC
  case' inr=>
   subst gC;go_wp2_with (first|(refine d_ fH 3 rfl 45 _ _ rfl 0 rfl (Ms.zero.cells none 0 none 0) rfl (bf rfl) rfl aw (mH Ms.zero none 0 none 0) rfl rfl ?_;intro w9 gy;refine stay ?_));refine dI ?_;go_wp2;refine bodyPost_ret (dZ rfl _ x rfl (gy.blk 3 rfl) bG aw) rfl ?_;exact⟨.inr ⟨λM hM=>by obtain⟨I,_⟩:=m_.out M hM;exact kh.out (by simp) _ _ I,rfl⟩,gy.grown⟩
  subst gC;go_wp2_with fail;refine (BP w5 r _ _ _ qM).mono ?_;rintro e w6 ⟨rfl,rfl⟩;obtain⟨b,Hb⟩:=az (decide (s4=some []));rw[<-Hb.out];rcases bC b with hb|hb
  case' inr=>
   subst hb;go_wp2_with (first|(refine d_ fH 3 rfl 45 _ _ rfl 0 rfl (Ms.zero.cells none 0 none 0) rfl (bf rfl) rfl aw (mH Ms.zero none 0 none 0) rfl rfl ?_;intro w9 gy;refine stay ?_));refine dI ?_;go_wp2;refine bodyPost_ret (dZ rfl _ x rfl (gy.blk 3 rfl) bG aw) rfl ?_;exact⟨.inr ⟨λM hM=>(by obtain⟨I,_⟩:=m_.out M hM;have G:=((qF.out (by simp)).2.one I).2;have L:=Hb.out;rw[G,aC rfl] at L;cases L),rfl⟩,gy.grown⟩
  subst hb;go_wp2_with (first|(refine kG fH 0 rfl 45 _ rfl rfl bG aw rfl ?_;refine stay ?_));refine dI ?_;obtain⟨U,hU,_⟩:=fH.own.see 1 rfl;have hU:Sd.In w5 U ⟨0,m,Am,cm,A2,q,c2⟩:=hU;rcases (qF.out (by simp)).1 with H|H
  ·have m6:=ln w5 U m Am cm A2 c2 q H hA.out qZ.out hU.e.1 hU.q hU.eq
   go_wp2_with fail;refine m6.mono ?_;rintro e w7 ⟨rfl,YG⟩;have fD:=fH.grow YG;go_wp2_with (first|(refine kG fD 0 rfl 45 _ rfl rfl bG aw rfl ?_;refine stay ?_));refine dI ?_;go_wp2_with (first|(refine d_ fD 3 rfl 45 _ _ rfl 0 rfl (m.cells Am cm A2 c2) rfl (bf rfl) rfl aw (mH m Am cm A2 c2) rfl rfl ?_;intro w9 gy;refine stay ?_));refine dI ?_;go_wp2;refine bodyPost_ret (dZ rfl _ x rfl (gy.blk 3 rfl) bG aw) rfl ?_;obtain⟨U9,hU9,k9⟩:=gy.own.see 1 rfl;exact⟨.inl ⟨m,Am,cm,A2,c2,q,⟨xs,qX.out.1,qX.out.2,by rw[q3.out,<-of_decide_eq_true Hb.out.symm];exact (qF.out (by simp)).2,H⟩,rfl,po _ _ _ _ (show Sd.In w9 U9 ⟨0,m,Am,cm,A2,q,c2⟩ from hU9) λb hb=>⟨(k9 b hb).1.elim False.elim id,(k9 b hb).2⟩,hA.out,qZ.out⟩,gy.grown⟩
  ·have m6:=Et w5 m Am cm A2 c2 H
   go_wp2_with fail;refine m6.mono ?_;rintro e w7 ⟨rfl,YG⟩;have fD:=fH.grow YG;go_wp2_with (first|(refine d_ fD 3 rfl 45 _ _ rfl 0 rfl (Ms.zero.cells none 0 none 0) rfl (bf rfl) rfl aw (mH Ms.zero none 0 none 0) rfl rfl ?_;intro w9 gy;refine stay ?_));refine dI ?_;go_wp2;refine bodyPost_ret (dZ rfl _ x rfl (gy.blk 3 rfl) bG aw) rfl ?_;exact⟨.inr ⟨λM hM=>(by obtain⟨I,G⟩:=m_.out M hM;rw[<-((qF.out (by simp)).2.one I).1] at G;have:=G.kind;omega),rfl⟩,gy.grown⟩
theorem Eu(s:aR)(t:aT)(h:s.size<18446744073709551616):gn (some (enc s.size++(s.data.toList++t)))=(s.data.toList,some t):=by have e:s.size=s.data.toList.length:=Array.length_toList.symm;rw[e,<-bp];exact uy t (by rw[<-e];exact h)
theorem Ew:∀(ds:List Dl)(t:aT),(∀d∈ds,Small d)->mg ds.length (some (o7 ds++t))=(ds,some t)
 | [],_,_=>rfl
 | d::ds,t,h=>by
   have I:=h d (by simp);have ih:=Ew ds t λx Y=>h x (by simp[Y]);have e:o7 (d::ds)++t=enc d.1.size++(d.1.data.toList++(enc d.2++(o7 ds++t))):=by simp[o7,dB]
   show ((⟨(gn _).1.toArray⟩,(kO (gn _).2).1)::(mg ds.length (kO (gn _).2).2).1,(mg ds.length (kO (gn _).2).2).2)=_;rw[e,Eu _ _ (by have:=I.1;omega)];dsimp only;rw[xC _ I.2];dsimp only;rw[ih]
theorem lO(n:Nat)(t:aT)(h:n<256):nB (some (UInt8.ofNat n::t))=(n,some t):=by unfold nB;dsimp only;rw[nT h]
theorem P8{d:Dl}(h:DN d):Small d:=⟨h.2.2.2,by have:=h.2.1;omega⟩
theorem AZ{e:En}(h:e.Ok):C5 (pg e) e:=by
 refine⟨?_,h⟩;obtain⟨⟨⟨f1,f2⟩,t1,t2⟩,h⟩:=h;obtain⟨k,ag,sh,sq,ep,ds,se,fr,tg⟩:=e;dsimp only at *;rcases h with ⟨rfl,rfl,⟨a1,a2⟩,⟨s1,s2⟩,⟨q1,q2⟩,⟨e1,e2⟩,⟨d1,d2⟩,hd⟩|⟨rfl,rfl,rfl,rfl,rfl,rfl,I,G⟩
 ·dsimp only at *
  have e:pg ⟨1,ag,sh,sq,ep,ds,⟨#[]⟩,fr,tg⟩=UInt8.ofNat 1::(enc fr.toNat++(enc tg.toNat++(enc ag.toNat++(enc sh.toNat++(enc sq.toNat++(enc ep.toNat++(enc ds.length++(o7 ds++[])))))))):=by simp[pg]
  unfold yc;dsimp only;rw[e,lO 1 _ am];dsimp only;rw[iW _ ap ap];dsimp only;rw[iI _ ap];dsimp only;rw[aB am,iW _ ap ap];dsimp only;rw[iW _ ap ap];dsimp only;rw[iI _ ap];dsimp only;rw[iI _ ap];dsimp only;rw[iW _ ap ap];dsimp only;rw[Ew ds [] λd Iv=>P8 (hd d Iv)];dsimp only;rw[cP f1,cP t1,cP a1,cP s1,cP (by omega:0<=sq),cP (by omega:0<=ep)];rfl
 ·dsimp only at *
  have e:pg ⟨2,0,0,0,0,[],se,fr,tg⟩=UInt8.ofNat 2::(enc fr.toNat++(enc tg.toNat++(enc se.size++(se.data.toList++[])))):=by simp[pg]
  unfold yc;dsimp only;rw[e,lO 2 _ am];dsimp only;rw[iW _ ap ap];dsimp only;rw[iI _ ap];dsimp only;rw[aA rfl,Eu _ _ ap];dsimp only;rw[cP f1,cP t1];rfl
theorem Ex{e:En}(h:e.Ok):(pg e).length<18446744073709551616:=by have:=vZ h;omega
theorem A_:∀(l:List En)(t:aT),(∀e∈l,e.Ok)->oE l.length (some (r_ l++t)) l (some t)
 | [],_,_=>⟨rfl,rfl⟩
 | e::l,t,h=>by
   have I:=h e (by simp);have e1:r_ (e::l)++t=enc (pg e).length++pg e++(r_ l++t):=by simp[r_,eB]
   have e2:=uy (r_ l++t) (Ex I);show ∃e' q1,e::l=e'::q1∧(gn _).2≠none∧C5 (gn _).1 e'∧oE l.length (gn _).2 q1 (some t);rw[e1,e2];exact⟨e,l,rfl,(λh=>by cases h),AZ I,A_ l t λx Y=>h x (by simp[Y])⟩
theorem yq(l:List En)(t:aT)(h:∀e∈l,e.Ok)(hl:l.length<=128):qo (some (enc l.length++(r_ l++t))) l (some t):=by unfold qo;rw[iW _ ap hl];exact⟨A_ l t h,λh=>by cases h⟩
def jj(m:Ms):List UInt8:=
 if m.k=1 then [UInt8.ofNat 1]++enc (pg m.e).length++pg m.e
 else if m.k=2 then [UInt8.ofNat 2]++enc m.tag.toNat++enc m.code.toNat++enc m.n
 else if m.k=4 then [UInt8.ofNat 4]++enc m.term.toNat++enc m.had.toNat++enc m.log.length++r_ m.log
 else if m.k=5 then [UInt8.ofNat 5]++enc m.term.toNat++enc m.commit.toNat++enc m.log.length++r_ m.log
 else if m.k=6 then [UInt8.ofNat 6]++enc m.term.toNat++enc m.len.toNat
 else [UInt8.ofNat 3]++enc m.term.toNat
theorem LK{m:Ms}(h:m.Gd):H7 (nB (some (jj m))).1 (nB (some (jj m))).2 m (some []):=by
 cases h with
 | ask e h=>
   have e1:jj (kW e)=UInt8.ofNat 1::(enc (pg e).length++pg e++[]):=by simp[jj,kW]
   rw[e1,lO 1 _ am];show ∃e',C5 (gn _).1 e'∧kW e=kW e'∧some []=(gn _).2;rw[uy _ (Ex h)];exact⟨e,AZ h,rfl,rfl⟩
 | ans tg co n I G L=>
   have e1:jj (fx (tg:Int) (co:Int) n)=UInt8.ofNat 2::(enc tg++(enc co++(enc n++[]))):=by simp[jj,fx]
   rw[e1,lO 2 _ am];show fx (tg:Int) (co:Int) n=fx ((gu _).1:Int) ((gb 255 (gu _).2).1:Int) (kO (gb 255 (gu _).2).2).1∧some []=(kO (gb 255 (gu _).2).2).2;rw[iI _ I];dsimp only;rw[iW _ ap G];dsimp only;rw[xC _ L];exact⟨rfl,rfl⟩
 | vD t h=>
   have e1:jj (jX t)=UInt8.ofNat 3::(enc t++[]):=by simp[jj,jX]
   rw[e1,lO 3 _ am];unfold H7;dsimp only;rw[aB am,aB am,aB am,aB am,aB am,iI _ h];exact⟨rfl,rfl⟩
 | prom t ha l I G L h4=>
   have e1:jj (i9 t ha l)=UInt8.ofNat 4::(enc t++(enc ha++(enc l.length++(r_ l++[])))):=by simp[jj,i9]
   rw[e1,lO 4 _ am];show ∃q,qo (gu (gu _).2).2 q (some [])∧i9 t ha l=i9 (gu _).1 (gu (gu _).2).1 q;rw[iI _ I];dsimp only;rw[iI _ G];exact⟨l,yq l [] L h4,rfl⟩
 | acc t l c I G L h4=>
   have e1:jj (kR t l c)=UInt8.ofNat 5::(enc t++(enc c++(enc l.length++(r_ l++[])))):=by simp[jj,kR]
   rw[e1,lO 5 _ am];show ∃q,qo (gb 128 (gu _).2).2 q (some [])∧kR t l c=kR (gu _).1 q (gb 128 (gu _).2).1;rw[iI _ I];dsimp only;rw[iW _ ap G];exact⟨l,yq l [] L h4,rfl⟩
 | Mq t n I G=>
   have e1:jj (m8 t n)=UInt8.ofNat 6::(enc t++(enc n++[])):=by simp[jj,m8]
   rw[e1,lO 6 _ am];show m8 t n=m8 (gu _).1 (gb 128 (gu _).2).1∧some []=(gb 128 (gu _).2).2;rw[iI _ I];dsimp only;rw[iW _ ap G];exact⟨rfl,rfl⟩
def kX(m:Ms):Bool:=decide ((jj m).length<=65536)
def mB(m:Ms):List UInt8:=frame (jj m)
theorem tJ{m:Ms}(h:m.Gd)(hf:kX m=true):sk (mB m) m:=⟨jj m,rfl,of_decide_eq_true hf,LK h,h⟩
theorem sk.one{l:aT}{m m':Ms}(h:sk l m)(h':sk l m'):m=m':=by
 obtain⟨x,I,_,G,_⟩:=h;obtain⟨y,Mx,_,Ym,_⟩:=h';have hp:frame y <+: l:=by rw[Mx];exact List.prefix_refl _
 have hq:frame x <+: l:=by rw[I];exact List.prefix_refl _
 obtain rfl:x=y:=uf hq hp;exact (G.one Ym).1
def isW(b:aT)(t h:Nat)(es:List En):Prop:=(gu (some b)).1=t∧(gu (gu (some b)).2).1=h∧qo (gu (gu (some b)).2).2 es (some [])
theorem LL{t h:Nat}{es:List En}(I:t<=9223372036854775807)(G:h<=9223372036854775807)(L:∀e∈es,e.Ok)(h4:es.length<=128):isW (nC t h es) t h es:=by
 have e1:nC t h es=enc t++(enc h++(enc es.length++(r_ es++[]))):=by simp[nC]
 unfold isW;rw[e1,iI _ I];dsimp only;rw[iI _ G];exact⟨rfl,rfl,yq es [] L h4⟩
set_option maxRecDepth 100000
set_option maxHeartbeats 1000000
theorem SO(w:X)(A:aU)(n c t h:Nat)(es:List En)(b:aT)(hb:Bytes w (w:Nat) A n b)(uV:b.length<=65536)(iS:n<=c)(iO:c<=dG)(hW:isW b t h es):dz W 114 #[Z A n c] w λe O=>∃(A2:aU)(c2:Nat)(q:List El),e=b5 (a_ #[aZ #[J t,J h,Z A2 q.length c2],aY true])∧(jO O (New w O) A2 q∧q.map El.e=es∧q.length<=c2∧c2<=dG)∧Grow w O:=by
 obtain⟨w1e,w2e,w3e⟩:=hW;have fN:=St.begin_ (l:=[]) (w:=w) (V:=λ_=>False) trivial (λ_ h=>h.elim) trivial;obtain⟨x,wa,HX,HA,ej⟩:=fN.new' aL 204;have Qx:=OA wa A n c;go_in;go_wp2_with fail;rw[<-HA.out,<-HX.out];refine Qx.mono ?_;rintro e w1 ⟨r,rfl,V8,ky,eD⟩;have dV:=ej.made eD ky V8;have lT:km r (w:Nat) 65536 (some b) w1:=⟨bB ej.grown.size V8,A,n,c,b,false,uV,ky,Reads.below hb dV.grown,⟨iS,iO⟩,rfl⟩;clear ky Qx hb;go_wp2_with fail;refine (mO w1 r _ _ _ lT).mono ?_;rintro e w2 ⟨tt,s2,q2,htt,rfl,gS,pN⟩;obtain⟨cs2,dX⟩:=gX dV 0 rfl gS pN;go_wp2_with fail;refine (mO w2 r _ _ _ gS).mono ?_;rintro e w3 ⟨hh,s3,q3,hhh,rfl,jN,oM⟩;obtain⟨Ju,eO⟩:=gX dX 0 rfl jN oM;obtain rfl:tt=t:=by rw[<-w1e,q2.out]
 obtain rfl:hh=h:=by rw[<-w2e,q2.out];dsimp only;rw[q3.out]
 have CP:qo s3 es (some []):=by rw[q2.out] at w3e;dsimp only at w3e;rw[q3.out] at w3e;exact w3e
 clear w1e w2e w3e dV dX lT gS;replace eO:St (λ_=>False) w [.c r 237 Ju,.c x 204 aL] w3:=eO;obtain⟨y,wy,HY,HYA,eF⟩:=eO.new' #[J tt,J hh,ay] 204;have om:=jN.grow (show Grow w3 wy by rw[HYA.out];exact fb _ _);go_wp2_with fail;rw[<-HYA.out,<-HY.out];refine (H5 wy r _ _ s3 om am eF.grown.size).mono ?_;rintro e w5 ⟨s5,⟨A2,c2,q,bq,rfl,Fj,⟨kM,lV⟩,vv,ig,qF,kh⟩,qM,ra⟩;obtain rfl:bq=true:=by
  cases bq with
  | true=>rfl
  | false=>exact absurd CP (kh rfl _ _)
 obtain⟨kZ,rfl⟩:=(qF rfl).one CP;obtain⟨_,A',n',c',l',b',_,hB5,_⟩:=id qM;have eN:=(eF.front 1 rfl).qg ra hB5 (fT.framed A2 q) (U:=New wy w5) Fj (λb hb=>hb);replace eN:St (λ_=>False) w [.o (fT A2 q),.c r 237 #[Z A' n' c',aY b'],.c y 204 #[J tt,J hh,ay],.c x 204 aL] w5:=eN;clear hB5 Fj ra qF kh eO eF om CP fN ej;go_wp2_with (refine fv eN 2 rfl 43 _ _ rfl 2 rfl (Z A2 q.length c2) rfl (bf rfl) rfl aw rfl ?_;intro w6 fH;refine stay ?_);refine dI ?_;have vC:=kI qM eN fH 1 1 rfl rfl;replace fH:St (λ_=>False) w [.o (fT A2 q),.c r 237 #[Z A' n' c',aY b'],.c y 204 #[J tt,J hh,Z A2 q.length c2],.c x 204 aL] w6:=fH;go_wp2_with fail;have gD:∀O,St (λ_=>False) w [.o (fT A2 q),.c r 237 #[Z A' n' c',aY b'],.c y 204 #[J tt,J hh,Z A2 q.length c2],.c x 204 aL] O->O.cell? ⟨y,0,none⟩=some (J tt)∧O.cell? ⟨y,1,none⟩=some (J hh)∧O.cell? ⟨y,2,none⟩=some (Z A2 q.length c2):=λO h=>by have G:=(h.front 2 rfl).facts.1.1;exact⟨G 0,G 1,G 2⟩
 have a5m:∀O,St (λ_=>False) w [.o (fT A2 q),.c r 237 #[Z A' n' c',aY b'],.c y 204 #[J tt,J hh,Z A2 q.length c2],.c x 204 #[J tt,J hh,Z A2 q.length c2]] O->O.cell? ⟨y,0,none⟩=some (J tt)∧O.cell? ⟨y,1,none⟩=some (J hh)∧O.cell? ⟨y,2,none⟩=some (Z A2 q.length c2):=λO h=>by have G:=(h.front 2 rfl).facts.1.1;exact⟨G 0,G 1,G 2⟩
 have eW:=fH.grow (Grow.refl _).drew;have Nj:=vC.grow (Grow.refl w6).drew;have eA:=gD _ eW;refine dJ rfl ?_;refine fC (λO=>O.cell? ⟨y,0,none⟩=some (J tt)∧O.cell? ⟨y,1,none⟩=some (J hh)∧O.cell? ⟨y,2,none⟩=some (Z A2 q.length c2)) [7] 8 rfl [0,1,2,3] ?_;iterate 4 (refine eV rfl eA (λw1 ⟨I,G,L⟩=>aM) ?_)
 refine eZ 4 [5] rfl ?_;have hD:=BP w6.drew r _ _ _ Nj;go_wp2_with fail;refine hD.mono ?_;rintro e w8 ⟨rfl,rfl⟩;go_wp2_with fail;refine⟨λ_=>eA,?_⟩;refine eV rfl eA (λw1 ⟨I,G,L⟩=>aM) ?_;refine eZ 6 [] rfl ?_;refine d_ eW 3 rfl 204 (.tmp 2) (.tmp 22) rfl 0 rfl [J tt,J hh,Z A2 q.length c2] rfl (bf rfl) rfl aw #[J tt,J hh,Z A2 q.length c2] rfl rfl ?_;intro w9 gy;refine wpList_nil ⟨λ_=>a5m _ gy,?_⟩;refine fY 7 rfl aw ?_;go_wp2;refine bodyPost_ret (dZ rfl _ x rfl (gy.blk 3 rfl) Tryz.underlying204 aw) rfl ?_;obtain⟨U9,hU9,k9⟩:=gy.own.see 0 rfl;exact⟨A2,c2,q,rfl,⟨jO.mono (show jO w9 U9 A2 q from hU9) λb hb=>⟨(k9 b hb).1.elim False.elim id,(k9 b hb).2⟩,kZ,kM,lV⟩,gy.grown⟩
theorem Xh(ws:List Wo)(h:k<ws.length):(Vs.mk (ws.take (k+1))).c=ws[k]:=by rw[br h];exact Vs.m7 _ _
theorem Ey{ws:List Wo}{j:Nat}(hs:l8 l (ws.map Wo.B) j):l.take j=ye ws∧j=(ye ws).length:=by
 have h0:ye ws=(ws.map Wo.B).flatMap frame:=by rw[List.flatMap_map];rfl
 have I:=hs.1;have G:=hs.2.1;rw[<-h0] at I G;refine⟨?_,G⟩;conv=>lhs;rw[<-I]
 rw[G,List.take_left' rfl]
theorem a0z{V:aV}{w0 w:X}{l:List Bl}{A:aU}{n c:Nat}{xs:List (List UInt8)}(hS:St V w0 l w)(i:Nat)(hi:l[i]?=some (.o (CL (Z A n c) xs)))(N:k<xs.length):∃(ad:dA)(Ak:aU)(nk ck:Nat),A=some ad∧n=xs.length∧w.cell? (ad.add k)=some (Z Ak nk ck)∧Bytes w (w:Nat) Ak nk xs[k]∧nk<=ck∧ck<=dG:=by obtain⟨U,⟨A',c',q,e,hB,hq,_,_⟩,_⟩:=hS.own.see i (iD hi);injection e with e1 e2 e3;subst e1 e2 e3;subst hq;rw[bj] at N;obtain⟨ad,CQ,rfl,_,lA,e0,_⟩:=In.mr (cells:=Bx.cells) hB.row ap ui N;have e0:w.cell? (ad.add (k*1))=some (.slice q[k].A q[k].m q[k].c):=e0 _ rfl;rw[cM] at e0;have Fa:=hB.all q[k] (bF N);refine⟨ad,q[k].A,q[k].m,q[k].c,rfl,(bj ..).symm,e0,?_,Fa.le,Fa.max⟩;rw[di];exact In.reads Fa.bs
set_option maxRecDepth 100000
set_option maxHeartbeats 1000000
theorem SP(w:X)(D:aV)(d k:Nat)(l:aT)(ws:List Wo)(j:Nat)(hs:l8 l (ws.map Wo.B) j)(gC:∀y∈ws,y.Ok):Lw W D 53 #[d] [.o (jK d l k)] (λ(i:Nat×Nat)e=>e=b5 (.pointer (some ⟨i.1,0,none⟩))) (λi=>[.o (qP i.1 i.2 d ⟨ws⟩)]) w:=by
 intro V hM hV;have hS:=St.begin_ hM (λb hb=>(hV b hb).1) ⟨jK.framed _ _ _,trivial⟩;obtain⟨U0,hU0,_⟩:=hS.own.see 0 rfl;have hwl:ws.length<=1048576:=by
  have I:l.length<=1048576:=(show g9 120 d l k w U0 from hU0).2.2.1;have G:=Jn ws;obtain⟨L,h4⟩:=Ey hs;have h5:(ye ws).length<=l.length:=by rw[<-L,bn];omega
  omega
 go_in;go_wp2_with fail;refine (St.call (a:=[.o (jK d l k)]) (b:=[]) (show St V w ([.o (jK d l k)]++[]) w from hS) (a':=λ(i:OpI)=>[.o (eC i.x d (i.xs.length:Int) (l.take i.j) i.j),.o (CL i.u i.xs)]) (λi=>⟨eC.framed _ _ _ _ _,CL.framed _ _,trivial⟩) hS.no (OM w _ d k l)).mono ?_;rintro e w1 ⟨⟨x,u,xs,j'⟩,⟨vQ,rfl⟩,ej⟩;dsimp only at vQ ej;obtain⟨rfl,rfl⟩:=vQ.one hs;obtain⟨hl,Ix⟩:=Ey hs;have QF:∀y∈ws,y.B.length<=65536:=λy hy=>hs.2.2.1 _ (cT hy);rw[hl,bj,Ix] at ej;clear hs vQ hl hS;obtain⟨U1,jV,_⟩:=ej.own.see 1 rfl;obtain⟨A1,c1,q1,rfl,_,Fg,_⟩:=jV;have a0A:q1.length=ws.length:=by rw[<-bj (f:=Bx.bs),Fg,bj]
 rw[a0A] at ej ⊢;clear Fg a0A;obtain⟨s,wa,HS,HA,dV⟩:=ej.new' #[(),(),ay,x] 206;go_wp2_with fail;rw[<-HA.out,<-HS.out];replace dV:St V w (.o (fT none [])::.c s 206 (lY 0 0 (Z none 0 0) x)::.o (eC x d ws.length (ye ws) (ye ws).length)::[.o (CL (Z A1 ws.length c1) (ws.map Wo.B))]) wa:=St.join dV (fT.framed none []) (Grow.refl _) (U:=λ_=>False) jO.nil (λ_ h=>h.elim);clear ej HA HS;go_loopw [22] (λi wr=>∃(k:Nat)(A:aU)(c:Nat)(q:List El),k<=ws.length∧i=J k∧(q.map El.e=(Vs.mk (ws.take k)).c.es∧q.length<=c∧c<=dG)∧St V w (.o (fT A q)::.c s 206 (lY (Vs.mk (ws.take k)).c.t (Vs.mk (ws.take k)).c.h (Z A q.length c) x)::.o (eC x d ws.length (ye ws) (ye ws).length)::[.o (CL (Z A1 ws.length c1) (ws.map Wo.B))]) wr) (λi _=>ws.length-(intOf i).toNat);case atStart=>exact⟨0,none,0,[],bo _,rfl,⟨rfl,bh _,bo _⟩,dV⟩
 case round=>
  obtain⟨k,A,c,q,N,rfl,hq,dX⟩:=hrel;by_cases fS:k<ws.length
  ·have dk:decide (k<ws.length)=true:=aC fS
   have kM:=Xh ws fS;have YI:=gC ws[k] (bF fS);have uV:=QF ws[k] (bF fS);obtain⟨ad,Ak,nk,ck,rfl,-,e0,hb,hnk,o9⟩:=a0z dX 3 rfl (k:=k) (by rw[bj];exact fS);rw[di] at hb;have hVr:=SO wr Ak nk ck ws[k].t ws[k].h ws[k].es _ hb uV hnk o9 (LL YI.t YI.h YI.es YI.len);generalize ws[k]=y at kM YI hVr;replace kM:=Q kM;replace hq:=Q hq;clear hb YI uV;go_wp2_with fail;refine hVr.mono ?_;rintro e w4 ⟨A2,c2,q2,rfl,⟨hE,kZ,lV,zE⟩,Bi⟩;have eO:=St.join dX (fT.framed A2 q2) Bi (U:=New wr w4) hE (λb hb=>hb);obtain⟨g,wg,HG,HGA,eF⟩:=eO.new' #[J y.t,J y.h,Z A2 q2.length c2] 204;clear hE hVr e0 dX eO;go_wp2_with (first|(rw[<-HGA.out,<-HG.out];refine d_ eF 3 rfl 204 (.tmp 35) (.tmp 33) rfl 0 rfl [J y.t,J y.h,Z A2 q2.length c2] rfl (bf rfl) rfl aw (lY y.t y.h (Z A2 q2.length c2) x) rfl rfl ?_;intro w6 eN;refine stay ?_));refine dI ?_;replace eN:St V w (.c g 204 #[J y.t,J y.h,Z A2 q2.length c2]::.o (fT A2 q2)::.o (fT A q)::.c s 206 (lY (Vs.mk (ws.take (k+1))).c.t (Vs.mk (ws.take (k+1))).c.h (Z A2 q2.length c2) x)::.o (eC x d ws.length (ye ws) (ye ws).length)::[.o (CL (Z (some ad) ws.length c1) (ws.map Wo.B))]) w6:=by rw[kM.out];exact eN
   have fH:=(eN.dO 2 rfl).dO 0 rfl;clear eF eN HG HGA;go_wp2_with fail;exact⟨⟨k+1,A2,c2,q2,by omega,by go_num,⟨by rw[kM.out];exact kZ,lV,zE⟩,fH⟩,by simp[intOf];omega⟩
  ·obtain rfl:k=ws.length:=by omega
   have dk:decide (ws.length<ws.length)=false:=aD fS;rw[dq] at hq dX;replace hq:=Q hq;go_wp2;go_ret;have eO:=kJ (y:=⟨ws⟩) (l:=[.o (CL (Z A1 ws.length c1) (ws.map Wo.B))]) (A:=A) (c:=c) (q:=q) (dX.perm ((List.Perm.swap _ _ _).trans (.cons _ (.swap _ _ _)))) hq.out;obtain⟨r1,r2⟩:=(eO.dO 1 rfl).fin;first|exact⟨(s,x),rfl,r1,r2⟩|exact⟨s,rfl,x,r1,r2⟩|exact⟨s,x,rfl,r1,r2⟩
def Rp.open_(node nodes:Nat)(ws:List Wo):Rp:=⟨node,nodes,⟨ws⟩,j4.new,0,none,false,0⟩
set_option maxRecDepth 100000
theorem SS(w:X)(D:aV)(d k node nodes:Nat)(l:aT)(ws:List Wo)(j:Nat)(hs:l8 l (ws.map Wo.B) j)(gC:∀y∈ws,y.Ok)(hn:node<nodes∧nodes<=8):Lw W D 15 #[J node,J nodes,d] [.o (jK d l k)] (λ(p:pj)e=>p.d=d∧e=b5 (.pointer (some ⟨p.r,0,none⟩))) (λp=>dP p 0 (Rp.open_ node nodes ws)) w:=by intro V hM hV;have hS:=St.begin_ hM (λb hb=>(hV b hb).1) ⟨jK.framed _ _ _,trivial⟩;have d1:decide ((nodes:Int)<1)=false:=aD ap;have d2:decide ((8:Int)<(nodes:Int))=false:=aD ap;have d3:decide ((node:Int)<0)=false:=aD ap;have d4:decide (nodes<=node)=false:=aD ap;go_in;go_wp2_with fail;refine (St.call (a:=[.o (jK d l k)]) (b:=[]) (show St V w ([.o (jK d l k)]++[]) w from hS) (a':=λ(i:Nat×Nat)=>[.o (qP i.1 i.2 d ⟨ws⟩)]) (λi=>⟨gG.framed _ _ _ _ _ _ _ _,trivial⟩) hS.no (SP w _ d k l ws j hs gC)).mono ?_;rintro e w1 ⟨⟨s,x⟩,rfl,ej⟩;go_wp2_with fail;refine (GI w1).mono ?_;rintro e w2 ⟨m,rfl,hMa,fk⟩;have dV:=St.join ej (gR.framed m j4.new) fk (U:=New w1 w2) hMa (λb hb=>hb);obtain⟨r,w3,HR,H3,dX⟩:=dV.new' #[J node,J nodes,s,m,(),.pointer none,aY false,()] 118;go_wp2_with fail;rw[<-H3.out,<-HR.out];go_ret;obtain⟨r1,r2⟩:=(show St V w (dP ⟨r,s,x,d,m⟩ 0 (Rp.open_ node nodes ws)) w3 from dX).fin;first|exact⟨⟨r,s,x,d,m⟩,⟨rfl,rfl⟩,r1,r2⟩|exact⟨⟨r,s,x,d,m⟩,rfl,rfl,r1,r2⟩
set_option maxRecDepth 100000
set_option maxHeartbeats 1000000
theorem LM(w:X)(e:En)(V:aV)(A:aU)(c:Nat)(A2:aU)(c2:Nat)(gC:e.Ok)(hd:jM w V A e.ds.length e.ds):dz W 277 #[aZ (mH (kW e) A c A2 c2)] w λen O=>∃v,en=b5 v∧Grow w O∧eM (ZK e) v O:=by
 have hB:=λ(w1:X)(H:Grow w w1)=>DW w1 e V A c gC (In.grow hd H);have fj:=vZ gC;obtain⟨bs,HB⟩:=az (pg e);have uX:ZK e=[UInt8.ofNat 1]++enc bs.length++bs:=by rw[HB.out];rfl
 rw[uX];rw[<-HB.out] at hB fj;clear uX gC hd;unfold mH Ms.cells kW Ms.zero;obtain⟨k,ag,sh,sq,ep,ds,se,fr,tg⟩:=e;unfold En.agg at hB;dsimp only[cx] at hB ⊢;go_in;go_wp2_with fail;have gl:=(dT w (.cells #[J 1,J k,J ag,J sh,J sq,J ep,Z A ds.length c,aX se,J fr,J tg,(),(),ae ah 0,(),(),Z A2 0 c2,(),()] 45)).trans (dT _ (.cells #[.int .u8 1] 5));refine (hB _ gl).mono ?_;rintro e w1 ⟨v1,rfl,eD,lU⟩;have I:eM [UInt8.ofNat 1] (Z (some ⟨(w:Nat)+1,0,none⟩) 1 1) w1:=by have G:=wP (w.alloc (.cells #[J 1,J k,J ag,J sh,J sq,J ep,Z A ds.length c,aX se,J fr,J tg,(),(),ae ah 0,(),(),Z A2 0 c2,(),()] 45)) #[.int .u8 1] 5 1 [UInt8.ofNat 1] rfl rfl am;rw[fp] at G;exact G.below eD
 have cv:=IF w1 lU;have hT:=t8 w1 _ _ ⟨bs.toArray⟩ I (by simp) (by show bs.toArray.size<=_;simp;omega);rw[show (ByteArray.mk bs.toArray).size=bs.length by show bs.toArray.size=_;simp,show (ByteArray.mk bs.toArray).data.toList=bs from rfl] at hT;go_wp2_with fail;refine hT.mono ?_;rintro e w2 ⟨v2,rfl,fk,lA⟩;go_wp2;go_ret;exact⟨v2,rfl,gl.trans (eD.trans fk),lA⟩
theorem LN(w:X)(TG CO n:Nat)(A:aU)(c:Nat)(A2:aU)(c2:Nat)(ht:TG<=9223372036854775807)(E:CO<=255)(hn:n<18446744073709551616):dz W 277 #[aZ (mH (fx (TG:Int) (CO:Int) n) A c A2 c2)] w λen O=>∃v,en=b5 v∧Grow w O∧eM (Wj (TG:Int) (CO:Int) n) v O:=by
 have uX:Wj (TG:Int) (CO:Int) n=[UInt8.ofNat 2]++enc TG++enc CO++enc n:=by unfold Wj;rw[cA,cA]
 rw[uX];clear uX;obtain⟨LB,Ez⟩:=az ([UInt8.ofNat 2]++enc TG++enc CO++enc n);rw[<-Ez.out];unfold mH Ms.cells fx Ms.zero En.zero;dsimp only[cx];have gl:=(dT w (.cells #[J 2,(),(),(),(),(),Z A 0 c,"",(),(),J TG,J CO,ae ah n,(),(),Z A2 0 c2,(),()] 45)).trans (dT _ (.cells #[.int .u8 2] 5));have i4:=(eJ.made w 45 #[J 2,(),(),(),(),(),Z A 0 c,"",(),(),J TG,J CO,ae ah n,(),(),Z A2 0 c2,(),()]).alloc (.cells #[.int .u8 2] 5);have G:=wP (w.alloc (.cells #[J 2,(),(),(),(),(),Z A 0 c,"",(),(),J TG,J CO,ae ah n,(),(),Z A2 0 c2,(),()] 45)) #[.int .u8 2] 5 1 [UInt8.ofNat 2] rfl rfl am;rw[fp] at G;obtain⟨x,HX⟩:=az ((w:Nat):Nat);obtain⟨wa,HA⟩:=az ((w.alloc (.cells #[J 2,(),(),(),(),(),Z A 0 c,"",(),(),J TG,J CO,ae ah n,(),(),Z A2 0 c2,(),()] 45)).alloc (.cells #[.int .u8 2] 5):X);rw[<-HA.out] at gl i4 G;rw[<-HX.out] at i4 G;have wT:IntKind.u64.wrap (TG:Int)=(TG:Int):=by rw[wrap_u64];omega
 have wC:IntKind.u64.wrap (CO:Int)=(CO:Int):=by rw[wrap_u64];omega
 go_in;go_wp2_with fail;rw[<-HA.out,<-HX.out];have gd:Grow wa wa.drew:=(Grow.refl _).drew;refine dJ rfl ?_;refine gi (Grow wa) 13 rfl ?_;refine held 0 rfl gd (λw1 E R T=>by have c0:=(i4.grow E).cell 10;have c7:=(i4.grow E).cell 11;have c8:=(i4.grow E).cell 12;go_simp;exact T) ?_;refine held 1 rfl gd (λw1 E R T=>by have c0:=(i4.grow E).cell 10;have c7:=(i4.grow E).cell 11;have c8:=(i4.grow E).cell 12;go_simp;exact T) ?_;refine held 2 rfl gd (λw1 E R T=>by have c0:=(i4.grow E).cell 10;have c7:=(i4.grow E).cell 11;have c8:=(i4.grow E).cell 12;go_simp;exact T) ?_;refine held 3 rfl gd (λw1 E R T=>by have c0:=(i4.grow E).cell 10;have c7:=(i4.grow E).cell 11;have c8:=(i4.grow E).cell 12;go_simp;exact T) ?_;refine held 5 rfl gd (λw1 E R T=>by have c0:=(i4.grow E).cell 10;have c7:=(i4.grow E).cell 11;have c8:=(i4.grow E).cell 12;go_simp;exact T) ?_;refine held 6 rfl gd (λw1 E R T=>by have c0:=(i4.grow E).cell 10;have c7:=(i4.grow E).cell 11;have c8:=(i4.grow E).cell 12;go_simp;exact T) ?_;refine held 7 rfl gd (λw1 E R T=>by have c0:=(i4.grow E).cell 10;have c7:=(i4.grow E).cell 11;have c8:=(i4.grow E).cell 12;go_simp;exact T) ?_;refine held 9 rfl gd (λw1 E R T=>by have c0:=(i4.grow E).cell 10;have c7:=(i4.grow E).cell 11;have c8:=(i4.grow E).cell 12;go_simp;exact T) ?_;refine held 10 rfl gd (λw1 E R T=>by have c0:=(i4.grow E).cell 10;have c7:=(i4.grow E).cell 11;have c8:=(i4.grow E).cell 12;go_simp;exact T) ?_;refine dY 4 rfl ?_;go_wp2_with fail;refine (ic _ _ [UInt8.ofNat 2] TG (G.below gd) (by simp) ap).mono ?_;rintro en u0 ⟨v30,rfl,eD,lU⟩;replace eD:=gd.trans eD;go_wp2_with fail;refine⟨eD,?_⟩;refine dY 8 rfl ?_;go_wp2_with fail;refine (ic u0 v30 _ CO lU (by have:=eE (n:=TG) ap;simp only[bd,bv];omega) ap).mono ?_;rintro en u1 ⟨v34,rfl,fk,lA⟩;replace fk:=eD.trans fk;go_wp2_with fail;refine⟨fk,?_⟩;refine dY 11 rfl ?_;go_wp2_with fail;refine (ic u1 v34 _ n lA (by have:=eE (n:=TG) ap;have:=eE (n:=CO) ap;simp only[bd,bv];omega) ap).mono ?_;rintro en w1 ⟨v37,rfl,H,hE⟩;replace H:=fk.trans H;go_wp2_with fail;refine⟨H,?_⟩;refine held 12 rfl H (λw1 E=>aM) ?_;refine eU ?_;go_wp2;go_ret;exact⟨v37,rfl,gl.trans H,by rw[Ez.out];exact hE⟩
def B0(k abm abj C abp:Nat)(l:List En):List UInt8:=if k=4 then [UInt8.ofNat k]++enc abm++enc abj++enc l.length++r_ l else if k=5 then [UInt8.ofNat k]++enc abm++enc C++enc l.length++r_ l else if k=6 then [UInt8.ofNat k]++enc abm++enc abp else [UInt8.ofNat k]++enc abm
theorem Cf(w:X)(D:aV)(k abm abj C abp:Nat)(N:3<=k∧k<=6)(hT:abm<=9223372036854775807)(hH:abj<=9223372036854775807)(hC:C<=128)(hN:abp<=128)(A:aU)(c:Nat)(A2:aU)(c2:Nat)(q:List El)(hq:jO w D A2 q)(gC:∀x∈q,x.e.Ok)(hl:q.length<=128):dz W 277 #[aZ #[J k,(),(),(),(),(),Z A 0 c,"",(),(),(),(),ae ah 0,J abm,J abj,Z A2 q.length c2,J C,J abp]] w λen O=>∃v,en=b5 v∧Grow w O∧eM (B0 k abm abj C abp (q.map El.e)) v O:=by
 obtain⟨LB,Ez⟩:=az (B0 k abm abj C abp (q.map El.e));rw[<-Ez.out];have fN:=St.begin_ (l:=[]) (w:=w) (V:=λ_=>False) trivial (λ_ h=>h.elim) trivial;obtain⟨y,wa,HY,HA,ej⟩:=fN.new' #[J k,(),(),(),(),(),Z A 0 c,"",(),(),(),(),ae ah 0,J abm,J abj,Z A2 q.length c2,J C,J abp] 45;have Yn:=wP wa #[.int .u8 k] 5 1 [UInt8.ofNat k] rfl (by show _=[Value.int .u8 _];rw[nT ap]) am;obtain⟨z,wb,HZ,HB,dV⟩:=ej.new' #[.int .u8 k] 5;rw[<-HB.out,<-HZ.out] at Yn;have ez:z=y+1:=by rw[HZ.out,HA.out,HY.out];simp
 have w8:IntKind.u8.wrap (k:Int)=(k:Int):=by rw[IntKind.wrap_u8];omega
 have wT:IntKind.u64.wrap (abm:Int)=(abm:Int):=by rw[wrap_u64];omega
 have wH:IntKind.u64.wrap (abj:Int)=(abj:Int):=by rw[wrap_u64];omega
 have wC:IntKind.u64.wrap (C:Int)=(C:Int):=by rw[wrap_u64];omega
 have wN:IntKind.u64.wrap (abp:Int)=(abp:Int):=by rw[wrap_u64];omega
 have e1:((k:Int) == 1)=false:=by simp;omega
 have e2:((k:Int) == 2)=false:=by simp;omega
 have k0:wb.cell? ⟨y,0,none⟩=some (J k):=(dV.front 1 rfl).facts.1.1 0;have hP:=ic wb _ [UInt8.ofNat k] abm Yn (by simp) ap;go_in;go_wp2_with fail;rw[<-HA.out,<-HB.out,<-HY.out,<-ez];refine hP.mono ?_;rintro e w1 ⟨v1,rfl,eD,lU⟩;have dX:=dV.grow eD;have yX:jO w1 D A2 q:=hq.grow (dX.grown);clear k0 hP Yn HA HB ez HY HZ fN ej dV hq;have k0:w1.cell? ⟨y,0,none⟩=some (J k):=(dX.front 1 rfl).facts.1.1 0;have hel:=eE (n:=abm) ap;have gD:∀O,Grow w1 O->(O.cell? ⟨y,14,none⟩=some (J abj)∧O.cell? ⟨y,15,none⟩=some (Z A2 q.length c2))∧O.cell? ⟨y,16,none⟩=some (J C)∧O.cell? ⟨y,17,none⟩=some (J abp):=λO H=>by have h:=((dX.grow H).front 1 rfl).facts.1.1;exact⟨⟨h 14,h 15⟩,h 16,h 17⟩
 by_cases j5:k=4
 ·have d4:((k:Int) == 4)=true:=by simp;omega
  have Xi:Hid (LB=[UInt8.ofNat k]++enc abm++enc abj++enc q.length++r_ (q.map El.e)):=Q (by rw[Ez.out];unfold B0;rw[aA j5,bj]);replace j5:=Q j5;clear N Ez;obtain⟨v1A,v1n,v1c,rfl,a1X⟩:=id lU;go_wp2_with fail;have eA:=gD _ (Grow.refl w1).drew;refine dJ rfl ?_;refine fC (λO=>(O.cell? ⟨y,14,none⟩=some (J abj)∧O.cell? ⟨y,15,none⟩=some (Z A2 q.length c2))∧O.cell? ⟨y,16,none⟩=some (J C)∧O.cell? ⟨y,17,none⟩=some (J abp)) [] 9 rfl [0,1,2,3,5,6] ?_;iterate 6 (refine eV rfl eA (λw1 ⟨⟨I,G⟩,L,h4⟩=>aM) ?_)
  refine eZ 4 [] rfl ?_;have hP:=ic w1.drew _ _ abj (lU.below (Grow.refl w1).drew) (by simp;omega) ap;go_wp2_with fail;refine hP.mono ?_;rintro e w2 ⟨v2,rfl,fk,lA⟩;have uN:Grow w1 w2:=(Grow.refl w1).drew.trans fk;obtain⟨v2A,v2n,v2c,rfl,a6y⟩:=id lA;have a5o:=eE (n:=abj) ap;have hM:=xM w2 _ _ D A2 c2 q lA (by simp;omega) (yX.grow uN) gC ap;go_wp2_with fail;refine⟨λ_=>gD _ uN,?_⟩;refine eZ 7 [8] rfl ?_;go_wp2_with fail;refine hM.mono ?_;rintro e w3 ⟨v3,rfl,ib,MB⟩;go_wp2_with fail;refine⟨λ_=>gD _ (uN.trans ib),?_⟩;refine eV rfl (gD _ (uN.trans ib)) (λw1 _=>aM) ?_;refine gj ?_;go_wp2;go_ret;exact⟨_,rfl,dX.grown.trans (uN.trans ib),by rw[Xi.out];exact MB⟩
 have d4:((k:Int) == 4)=false:=by simp;omega
 by_cases nS:k=5
 ·have d5:((k:Int) == 5)=true:=by simp;omega
  have Xi:Hid (LB=[UInt8.ofNat k]++enc abm++enc C++enc q.length++r_ (q.map El.e)):=Q (by rw[Ez.out];unfold B0;rw[aB j5,aA nS,bj]);replace nS:=Q nS;clear N Ez j5;obtain⟨v1A,v1n,v1c,rfl,a1X⟩:=id lU;go_wp2_with fail;have eA:=gD _ (Grow.refl w1).drew;refine dJ rfl ?_;refine fC (λO=>(O.cell? ⟨y,14,none⟩=some (J abj)∧O.cell? ⟨y,15,none⟩=some (Z A2 q.length c2))∧O.cell? ⟨y,16,none⟩=some (J C)∧O.cell? ⟨y,17,none⟩=some (J abp)) [] 9 rfl [0,1,2,3,5,6] ?_;iterate 6 (refine eV rfl eA (λw1 ⟨⟨I,G⟩,L,h4⟩=>aM) ?_)
  refine eZ 4 [] rfl ?_;have hP:=ic w1.drew _ _ C (lU.below (Grow.refl w1).drew) (by simp;omega) ap;go_wp2_with fail;refine hP.mono ?_;rintro e w2 ⟨v2,rfl,fk,lA⟩;have uN:Grow w1 w2:=(Grow.refl w1).drew.trans fk;obtain⟨v2A,v2n,v2c,rfl,a6y⟩:=id lA;have a5o:=eE (n:=C) ap;have hM:=xM w2 _ _ D A2 c2 q lA (by simp;omega) (yX.grow uN) gC ap;go_wp2_with fail;refine⟨λ_=>gD _ uN,?_⟩;refine eZ 7 [8] rfl ?_;go_wp2_with fail;refine hM.mono ?_;rintro e w3 ⟨v3,rfl,ib,MB⟩;go_wp2_with fail;refine⟨λ_=>gD _ (uN.trans ib),?_⟩;refine eV rfl (gD _ (uN.trans ib)) (λw1 _=>aM) ?_;refine gj ?_;go_wp2;go_ret;exact⟨_,rfl,dX.grown.trans (uN.trans ib),by rw[Xi.out];exact MB⟩
 have d5:((k:Int) == 5)=false:=by simp;omega
 obtain⟨v1A,v1n,v1c,rfl,a1X⟩:=id lU;by_cases UR:k=6
 ·have d6:((k:Int) == 6)=true:=by simp;omega
  have Xi:Hid (LB=[UInt8.ofNat k]++enc abm++enc abp):=Q (by rw[Ez.out];unfold B0;rw[aB j5,aB nS,aA UR]);have E:=(gD w1 (Grow.refl w1)).2.2;have hP:=ic w1 _ _ abp lU (by simp;omega) ap;clear N Ez j5 nS UR gD;go_wp2_with fail;refine hP.mono ?_;rintro e w2 ⟨v2,rfl,fk,lA⟩;go_wp2;go_ret;exact⟨_,rfl,dX.grown.trans fk,by rw[Xi.out];exact lA⟩
 ·have d6:((k:Int) == 6)=false:=by simp;omega
  have Xi:Hid (LB=[UInt8.ofNat k]++enc abm):=Q (by rw[Ez.out];unfold B0;rw[aB j5,aB nS,aB UR]);clear N Ez j5 nS UR gD;go_wp2;go_ret;exact⟨_,rfl,dX.grown,by rw[Xi.out];exact lU⟩
theorem Xj(w:X)(D:aV)(m:Ms)(A:aU)(c:Nat)(A2:aU)(c2:Nat)(q:List El)(h:m.Gd)(he:jM w D A m.e.ds.length m.e.ds)(hq:jO w D A2 q)(kZ:q.map El.e=m.log):dz W 277 #[aZ (mH m A c A2 c2)] w λen O=>∃v,en=b5 v∧Grow w O∧eM (jj m) v O:=by
 have ig:q.length=m.log.length:=by rw[<-kZ,bj]
 have vv:(∀e∈m.log,e.Ok)->∀x∈q,x.e.Ok:=λh x Y=>h x.e (kZ▸cT Y);cases h with
 | ask e h=>
   exact LM w e D A c A2 c2 h he
 | ans tg co n I G L=>
   exact LN w tg co n A c A2 c2 I G L
 | vD t h=>
   obtain rfl:q=[]:=List.length_eq_zero_iff.1 ig;exact Cf w D 3 t 0 0 0 am h am am am A c A2 c2 [] hq (λx Y=>absurd Y (by simp)) am
 | prom t ha l I G L h4=>
   have:=Cf w D 4 t ha 0 0 am I G am am A c A2 c2 q hq (vv L) (by rw[ig];exact h4);rw[kZ,ig] at this;exact this
 | acc t l cm I G L h4=>
   have:=Cf w D 5 t 0 cm 0 am I am G am A c A2 c2 q hq (vv L) (by rw[ig];exact h4);rw[kZ,ig] at this;exact this
 | Mq t n I G=>
   obtain rfl:q=[]:=List.length_eq_zero_iff.1 ig;exact Cf w D 6 t 0 0 n am I am am G A c A2 c2 [] hq (λx Y=>absurd Y (by simp)) am
set_option maxRecDepth 100000
theorem P9(w:X)(D:aV)(m:Ms)(A:aU)(c:Nat)(A2:aU)(c2:Nat)(q:List El)(h:m.Gd)(he:jM w D A m.e.ds.length m.e.ds)(hq:jO w D A2 q)(kZ:q.map El.e=m.log):dz W 216 #[aZ (mH m A c A2 c2)] w λen O=>Grow w O∧((kX m=true∧∃v,en=b5 (a_ #[v,()])∧eM (mB m) v O)∨(kX m=false∧∃v,en=b5 (a_ #[v,J 3]))):=by
 have T:=λw1(H:Grow w w1)=>Eh w1 D m A c A2 c2 q h (In.grow he H) (hq.grow H) kZ;have pL:=λw1(H:Grow w w1)=>Xj w1 D m A c A2 c2 q h (In.grow he H) (hq.grow H) kZ;clear h he hq kZ;obtain⟨LB,Ez⟩:=az (jj m:aT);have sv:kX m=decide (LB.length<=65536):=by rw[Ez.out];rfl
 have Wy:mB m=frame LB:=by rw[Ez.out];rfl
 rw[sv,Wy];rw[<-Ez.out] at pL;clear sv Wy Ez;obtain⟨k,⟨ek,ag,sh,sq,ep,ds,se,fr,tg⟩,tag,code,n,term,had,log,commit,len⟩:=m;unfold mH Ms.cells at *;dsimp only at *;have fN:=St.begin_ (l:=[]) (w:=w) (V:=λ_=>False) trivial (λ_ h=>h.elim) trivial;obtain⟨y,wa,HY,HA,ej⟩:=fN.new' #[J k,J ek,J ag,J sh,J sq,J ep,Z A ds.length c,aX se,J fr,J tg,J tag,J code,ae ah n,J term,J had,Z A2 log.length c2,J commit,J len] 45;have fu:Grow w wa:=ej.grown;have T:=T wa fu;have hX:=ej.blk 0 rfl;have hXw:=HA.out▸HY.out▸hX;go_in;go_wp2_with (refine dU rfl 45 _ rfl _ rfl hXw bG aw ?_);rw[<-HA.out,<-HY.out];refine T.mono ?_;rintro e w1 ⟨rfl,eD⟩;have jV:=hX.grow eD;have pL:=pL w1 (fu.trans eD);clear T hXw HA HY hX ej fN;go_wp2_with (refine dU rfl 45 _ rfl _ rfl (jV) bG aw ?_);refine pL.mono ?_;rintro e w2 ⟨v2,rfl,fk,lA⟩;clear pL;obtain⟨A3,n3,c3,rfl,MB,hnc3,a4E⟩:=lA;have fj:=MB.len;by_cases Fe:LB.length<=65536
 ·have hB:=uj w2 A3 n3 c3 _ MB ap
  replace Fe:=Q Fe;replace fj:=Q fj;go_wp2_with fail;refine hB.mono ?_;rintro e w3 ⟨v3,rfl,nt,ib⟩;go_wp2;go_ret2;exact⟨fu.trans (eD.trans (fk.trans ib)),.inl ⟨aC Fe.out,v3,rfl,nt.isBytes⟩⟩
 ·have hB:=xl w2 A3 n3 c3 ap
  replace Fe:=Q Fe;replace fj:=Q fj;go_wp2_with fail;refine hB.mono ?_;rintro e w3 ⟨rfl,rfl⟩;go_wp2;go_ret2;exact⟨fu.trans (eD.trans fk),.inr ⟨aD Fe.out,_,rfl⟩⟩
end Go.Proofs.YtpeepcmdehhbgaaGreatDoor
end
namespace Go.Proofs.YtpeepcmdehhbgaaGreatDoor
open RowKit Hop V
def Ag.jw(x:Ag)(tg:Nat):lp:=(qR x.ask (tg:Int)).getD (0,0,0)
def Ag.took(x:Ag)(f tg code:Nat):Ag:=
 let x1:={ x with ask:=gV x.ask (tg:Int) }
 let x2:=if code=6 then x1 else { x1 with last:=f }
 let i:=x.jw tg
 if i=(0,0,0) then (if code=6∧f=x2.last then { x2 with last:=(x2.last+1) % x.eX } else x2)
 else if code=1∨code=2∨code=3 then x2.fin i.1.toNat i.2.1.toNat i.2.2.toNat
 else if code=6 then { x2 with tr:=si x2.tr i ((x2.tries i).1,x.now) } else x2
set_option maxRecDepth 100000
set_option maxHeartbeats 1000000
theorem He(w:X)(D:aV)(p:vE)(x:Ag)(Y:x.Ok)(f:Int)(tg code n:Nat)(I:tg<=9223372036854775807)(G:code<=255)(hf:0<=f∧f<x.eX)(kT:(qR x.ask (tg:Int)).isSome=true)(hid:x.jw tg=(0,0,0)∨∃a k s:Nat,x.jw tg=((a:Int),(k:Int),(s:Int))∧1<=a∧k<4∧s<=9223372036854775807):Lw W D 210 #[.pointer (some ⟨p.a,0,none⟩),J f,aZ (jc (tg:Int) (code:Int) n)] (dR p x) (λ(_:Unit)e=>e=b5 (a_ #[iK (x.jw tg),J code])) (λ_=>dR p (x.took f.toNat tg code)) w:=by
 obtain⟨R,HR⟩:=az (x.took f.toNat tg code);obtain⟨i,HI⟩:=az (x.jw tg);rw[<-HR.out,<-HI.out];have m6:=λw1=>yj w1 (tg:Int) (code:Int) n ap ap;unfold jc at m6 ⊢;intro V hM hV;have fN:=St.begin_ hM (λb hb=>(hV b hb).1) (fB _ _);have z1:(w.alloc (.cells #[J 2,(),(),(),(),(),ay,"",(),(),J tg,J code,ae ah n,(),(),ay,(),()] 45)).heap.size=(w:Nat)+1:=by simp
 obtain⟨y,wa,HY,HA,ej⟩:=fN.new' #[J 2,(),(),(),(),(),ay,"",(),(),J tg,J code,ae ah n,(),(),ay,(),()] 45;rw[<-HA.out,<-HY.out] at z1;obtain⟨z,wb,HZ,HB,dV⟩:=ej.new' #[(),(),()] 37;have ez:z=y+1:=by rw[HZ.out,z1]
 obtain⟨i0,i1,i2⟩:=i;unfold iK;have yr:∀(l:List Bl)(O:X),St V w (.c p.a 192 (qm p x)::.o (iq p.st p.z x.b)::.o (eC p.x p.d x.rs.length x.bs x.k)::.o (eI o0 p.bK (gB iK x.ask))::l) O->(Instr.lookup 190 (.map (some p.bK)) (J tg) true).run W O=.ok (a_ #[aZ #[J i0,J i1,J i2],aY true]) O:=λl O h=>by
  have I:=h.IV Og Tryz.underlying190 (z:=iK (0,0,0)) aw 3 rfl (tg:Int) true;have G:(uk (gB iK x.ask) (tg:Int)).getD (iK (0,0,0))=iK (i0,i1,i2)∧(uk (gB iK x.ask) (tg:Int)).isSome=true:=by
   rw[tE,HI.out];unfold Ag.jw;cases N:qR x.ask (tg:Int) with
   | none=>rw[N] at kT;cases kT
   | some v=>exact⟨rfl,rfl⟩
  rw[aA rfl,G.1,G.2] at I;exact I
 go_in;go_wp2_with fail;rw[<-HA.out,<-HY.out,<-HB.out,<-ez];have dV:St V w (.c z 37 #[(),(),()]::.c y 45 (jc (tg:Int) (code:Int) n)::dR p x) wb:=dV;have eW:=dV.grow (Grow.refl _).drew;have gD:∀O,St V w (.c z 37 #[(),(),()]::.c y 45 (jc (tg:Int) (code:Int) n)::dR p x) O->(O.cell? ⟨p.a,8,none⟩=some (.map (some p.bK))∧O.cell? ⟨y,10,none⟩=some (J tg))∧(Instr.lookup 190 (.map (some p.bK)) (J tg) true).run W O=.ok (a_ #[aZ #[J i0,J i1,J i2],aY true]) O:=λO h=>
  ⟨⟨(h.front 2 rfl).facts.1.1 8,h.facts.2.1.1 10⟩,yr _ O (h.perm (bg (l₁:=[_,_]) (l₂:=dR p x)))⟩
 have eA:=gD _ eW;clear HA HB HY HZ ez z1 ej;refine dJ rfl ?_;refine fC (λO=>(O.cell? ⟨p.a,8,none⟩=some (.map (some p.bK))∧O.cell? ⟨y,10,none⟩=some (J tg))∧(Instr.lookup 190 (.map (some p.bK)) (J tg) true).run W O=.ok (a_ #[aZ #[J i0,J i1,J i2],aY true]) O) [12] 13 rfl [0,1,2,3,4,5,6,7,8,9] ?_;iterate 6 (refine eV rfl eA (λw1 ⟨⟨I,G⟩,L⟩=>aM) ?_)
 refine eV rfl eA (v := a_ #[aZ #[J i0,J i1,J i2],aY true]) (λw1 ⟨⟨I,G⟩,L⟩=>aM) ?_;iterate 3 (refine eV rfl eA (λw1 ⟨⟨I,G⟩,L⟩=>aM) ?_)
 refine eZ 10 [] rfl ?_;obtain⟨y8,wc,HY8,HC8,vB⟩:=dV.new' #[(),(),()] 37;go_wp2_with fail;rw[<-HC8.out,<-HY8.out];have vB:=vB.grow (Grow.refl _).drew;refine⟨λ_=>gD _ (vB.dO 0 rfl),?_⟩;refine eZ 11 [] rfl ?_;refine d_ vB 0 rfl 37 (.tmp 8) (.tmp 19) rfl 0 rfl [J i0,J i1,J i2] rfl (bf rfl) rfl aw #[J i0,J i1,J i2] rfl rfl ?_;intro w3 dX;refine wpList_nil ⟨λ_=>gD _ (dX.dO 0 rfl),?_⟩;refine fY 12 rfl aw ?_;have dX:St V w (.c y8 37 #[J i0,J i1,J i2]::.c z 37 #[(),(),()]::.c y 45 (jc (tg:Int) (code:Int) n)::dR p x) w3:=dX;clear vB HC8 HY8 eA gD eW dV yr fN;have dfn:decide (f<0)=false:=aD ap;have dfr:decide ((x.eX:Int)<=f)=false:=aD ap;have gU:=dX.blk 2 rfl;unfold jc at gU;have m0:w3.cell? ⟨y,0,none⟩=some (J 2):=gU.cell 0;have Z6:w3.cell? ⟨p.a,1,none⟩=some (J x.eX):=(dX.front 3 rfl).facts.1.1 1;go_wp2_with (refine dU rfl 45 _ rfl _ rfl gU bG aw ?_);refine (m6 w3).mono ?_;rintro e w4 ⟨rfl,Bi⟩;have eO:=dX.grow Bi;clear m0 gU Z6 m6;have Z6:w4.cell? ⟨p.a,1,none⟩=some (J x.eX):=(eO.front 3 rfl).facts.1.1 1;go_wp2_with fail;clear Z6;have eW:=eO.grow (Grow.refl _).drew;have eA:w4.drew.cell? ⟨p.a,8,none⟩=some (.map (some p.bK))∧w4.drew.cell? ⟨y,10,none⟩=some (J tg):=⟨(eW.front 3 rfl).facts.1.1 8,(eW.front 2 rfl).facts.1.1 10⟩;refine dJ rfl ?_;refine fC (λO=>O.cell? ⟨p.a,8,none⟩=some (.map (some p.bK))∧O.cell? ⟨y,10,none⟩=some (J tg)) [] 7 rfl [0,1,2,3,4,5] ?_;iterate 6 (refine eV rfl eA (λw1 ⟨I,G⟩=>aM) ?_)
 refine eZ 6 [] rfl ?_;obtain⟨w6,eR,eF⟩:=eW.Zu Og Tryz.underlying190 6 rfl (tg:Int);unfold o0 at eR;rw[mI] at eF;have eF:St V w (.c y8 37 #[J i0,J i1,J i2]::.c z 37 #[(),(),()]::.c y 45 (jc (tg:Int) (code:Int) n)::dR p { x with ask:=gV x.ask (tg:Int) }) w6:=eF;go_wp2_with fail;refine⟨λ_=>⟨(eF.front 3 rfl).facts.1.1 8,(eF.front 2 rfl).facts.1.1 10⟩,?_⟩;refine gj ?_;clear eA eW eO eR dX;obtain⟨x1,CM⟩:=az (({ x with ask:=gV x.ask (tg:Int) }:Ag));rw[<-CM.out] at eF;have m11:w6.cell? ⟨y,11,none⟩=some (J code):=(eF.front 2 rfl).facts.1.1 11;have hx1n:x1.node=x.node∧x1.eX=x.eX∧x1.last=x.last:=by rw[CM.out];exact⟨rfl,rfl,rfl⟩
 rw[<-HI.out] at hid;have LO:∀(x2:Ag)(w7:X),x.took f.toNat tg code=x2->St V w (.c y8 37 #[J i0,J i1,J i2]::.c z 37 #[J i0,J i1,J i2]::.c y 45 (jc (tg:Int) (code:Int) n)::dR p x2) w7->dN (px (dR p R)) w7 (iY V w w7)∧dM V w w7:=λx2 w7 h hS=>by rw[HR.out,h];exact (((hS.drop).drop).drop).fin
 rcases bC ((code:Int) != 6) with h6|h6
 ·have kU:code≠6:=by intro h;subst h;exact absurd h6 am
  have e6:((code:Int) == 6)=false:=by simp;omega
  obtain⟨x2,jS⟩:=az (({ x1 with last:=f.toNat }:Ag));go_wp2_with (refine fv eF 3 rfl 3 (.tmp 58) (.tmp 56) rfl 6 rfl (J f) rfl (bf rfl) rfl aw rfl ?_;intro w7 fH;refine stay ?_);refine dI ?_;replace fH:St V w (.c y8 37 #[J i0,J i1,J i2]::.c z 37 #[(),(),()]::.c y 45 (jc (tg:Int) (code:Int) n)::dR p x2) w7:=by rw[jS.out];have:=fH;simp only[bz,bA,dR,qm] at this ⊢;rw[cP hf.1];exact this
  clear eF;have b0:w7.cell? ⟨y8,0,none⟩=some (J i0):=fH.facts.1.1 0;have b1:w7.cell? ⟨y8,1,none⟩=some (J i1):=fH.facts.1.1 1;have b2:w7.cell? ⟨y8,2,none⟩=some (J i2):=fH.facts.1.1 2;have bc:w7.cell? ⟨y,11,none⟩=some (J code):=(fH.front 2 rfl).facts.1.1 11;rcases hid with hid|⟨a,k,s,hid,ha,N,hs⟩
  ·injection hid with e0 e12
   injection e12 with e1 e2;subst e0 e1 e2;go_wp2_with fail;refine dJ rfl ?_;have eW:=fH.grow (Grow.refl _).drew;have a0D:∀O,St V w (.c y8 37 #[(),(),()]::.c z 37 #[(),(),()]::.c y 45 (jc (tg:Int) (code:Int) n)::dR p x2) O->(O.cell? ⟨y8,0,none⟩=some (J 0)∧O.cell? ⟨y8,1,none⟩=some (J 0)∧O.cell? ⟨y8,2,none⟩=some (J 0))∧O.cell? ⟨y,11,none⟩=some (J code):=λO h=>⟨⟨h.facts.1.1 0,h.facts.1.1 1,h.facts.1.1 2⟩,(h.front 2 rfl).facts.1.1 11⟩;have eA:=a0D _ eW;refine fC (λO=>(O.cell? ⟨y8,0,none⟩=some (J 0)∧O.cell? ⟨y8,1,none⟩=some (J 0)∧O.cell? ⟨y8,2,none⟩=some (J 0))∧O.cell? ⟨y,11,none⟩=some (J code)) [4] 5 rfl [0,1,2] ?_;iterate 3 (refine eV rfl eA (λw1 ⟨⟨I,G,L⟩,h4⟩=>aM) ?_)
   refine eZ 3 [] rfl ?_;refine d_ eW 1 rfl 37 (.tmp 6) (.tmp 86) rfl 0 rfl [(),(),()] rfl (bf rfl) rfl aw #[(),(),()] rfl rfl ?_;intro w8 fD;refine wpList_nil ⟨λ_=>a0D _ fD,?_⟩;refine fY 4 rfl aw ?_;go_wp2_with fail;refine bodyPost_ret (dZ rfl _ z rfl (fD.blk 1 rfl) Tryz.underlying37 aw) rfl ?_;refine⟨(),rfl,LO x2 w8 ?_ fD⟩;unfold Ag.took;dsimp only;rw[<-HI.out,aA rfl,aB kU,aB (by rintro ⟨h,_⟩;exact kU h),jS.out,CM.out]
  ·injection hid with e0 e12
   injection e12 with e1 e2;subst e0 e1 e2;have Ue:¬ (a:Int)=0:=by omega
   have lw:x2.Ok:=by rw[jS.out,CM.out];exact⟨Y.node,Y.eX,by show f.toNat<x.eX;omega,Y.b,Y.sh,Y.bs,Y.rs,Y.qk⟩
   have Xk:=(show St V w ([.c y8 37 #[J a,J k,J s],.c z 37 #[(),(),()],.c y 45 (jc (tg:Int) (code:Int) n)]++dR p x2) w7 from fH).perm bg;have J_:code=1∨code=2∨code=3->x.took f.toNat tg code=x2.fin a k s:=λCF=>by unfold Ag.took;dsimp only;rw[<-HI.out,aB (by intro h;injection h with h _;exact Ue h),aA CF,aB kU,jS.out,CM.out];rfl
   go_wp2_with fail;iterate 3 (
    have CF:code=1∨code=2∨code=3:=by simp at *;omega
    refine (St.call (a:=dR p x2) (a':=λ_=>dR p (x2.fin a k s)) Xk (λ_=>fB _ _) Xk.no (SN w7 _ p x2 lw a k s N hs)).mono ?_
    rintro e w8 ⟨_,rfl,fD⟩
    replace fD:=fD.perm bg
    clear fH Xk
    go_wp2_with fail
    refine dJ rfl ?_
    have eW:=fD.grow (Grow.refl _).drew
    have Ft:∀zc O,St V w (.c y8 37 #[J a,J k,J s]::.c z 37 zc::.c y 45 (jc (tg:Int) (code:Int) n)::dR p (x2.fin a k s)) O->(O.cell? ⟨y8,0,none⟩=some (J a)∧O.cell? ⟨y8,1,none⟩=some (J k)∧O.cell? ⟨y8,2,none⟩=some (J s))∧O.cell? ⟨y,11,none⟩=some (J code):=λ_ O h=>⟨⟨h.facts.1.1 0,h.facts.1.1 1,h.facts.1.1 2⟩,(h.front 2 rfl).facts.1.1 11⟩
    have eA:=Ft _ _ eW
    refine fC (λO=>(O.cell? ⟨y8,0,none⟩=some (J a)∧O.cell? ⟨y8,1,none⟩=some (J k)∧O.cell? ⟨y8,2,none⟩=some (J s))∧O.cell? ⟨y,11,none⟩=some (J code)) [4] 5 rfl [0,1,2] ?_
    iterate 3 (refine eV rfl eA (λw1 ⟨⟨I,G,L⟩,h4⟩=>aM) ?_)
    refine eZ 3 [] rfl ?_
    refine d_ eW 1 rfl 37 (.tmp 6) (.tmp 117) rfl 0 rfl [J a,J k,J s] rfl (bf rfl) rfl aw #[J a,J k,J s] rfl rfl ?_
    intro wf k_
    refine wpList_nil ⟨λ_=>Ft _ _ k_,?_⟩
    refine fY 4 rfl aw ?_
    go_wp2_with fail
    refine bodyPost_ret (dZ rfl _ z rfl (k_.blk 1 rfl) Tryz.underlying37 aw) rfl ?_
    refine⟨(),rfl,LO (x2.fin a k s) wf ?_ k_⟩
    exact J_ CF)
   have CF:¬ (code=1∨code=2∨code=3):=by simp at *;omega
   refine dJ rfl ?_;have eW:=fH.grow (Grow.refl _).drew;have Ft:∀zc O,St V w (.c y8 37 #[J a,J k,J s]::.c z 37 zc::.c y 45 (jc (tg:Int) (code:Int) n)::dR p x2) O->(O.cell? ⟨y8,0,none⟩=some (J a)∧O.cell? ⟨y8,1,none⟩=some (J k)∧O.cell? ⟨y8,2,none⟩=some (J s))∧O.cell? ⟨y,11,none⟩=some (J code):=λ_ O h=>⟨⟨h.facts.1.1 0,h.facts.1.1 1,h.facts.1.1 2⟩,(h.front 2 rfl).facts.1.1 11⟩;have eA:=Ft _ _ eW;refine fC (λO=>(O.cell? ⟨y8,0,none⟩=some (J a)∧O.cell? ⟨y8,1,none⟩=some (J k)∧O.cell? ⟨y8,2,none⟩=some (J s))∧O.cell? ⟨y,11,none⟩=some (J code)) [4] 5 rfl [0,1,2] ?_;iterate 3 (refine eV rfl eA (λw1 ⟨⟨I,G,L⟩,h4⟩=>aM) ?_)
   refine eZ 3 [] rfl ?_;refine d_ eW 1 rfl 37 (.tmp 6) (.tmp 117) rfl 0 rfl [J a,J k,J s] rfl (bf rfl) rfl aw #[J a,J k,J s] rfl rfl ?_;intro wf k_;refine wpList_nil ⟨λ_=>Ft _ _ k_,?_⟩;refine fY 4 rfl aw ?_;go_wp2_with fail;refine bodyPost_ret (dZ rfl _ z rfl (k_.blk 1 rfl) Tryz.underlying37 aw) rfl ?_;refine⟨(),rfl,LO x2 wf ?_ k_⟩;unfold Ag.took;dsimp only;rw[<-HI.out,aB (by intro h;injection h with h _;exact Ue h),aB CF,aB kU,aB kU,jS.out,CM.out]
 ·have kU:Hid (code=6):=Q (by simp at h6;omega)
  have:=kU.out;have e1:((code:Int) == 1)=false:=by simp;omega
  have e2:((code:Int) == 2)=false:=by simp;omega
  have e3:((code:Int) == 3)=false:=by simp;omega
  have e6:((code:Int) == 6)=true:=by simp;omega
  clear this;have b0:w6.cell? ⟨y8,0,none⟩=some (J i0):=eF.facts.1.1 0;have b1:w6.cell? ⟨y8,1,none⟩=some (J i1):=eF.facts.1.1 1;have b2:w6.cell? ⟨y8,2,none⟩=some (J i2):=eF.facts.1.1 2;have hla:∀l O,St V w (l++dR p x1) O->(O.cell? ⟨p.a,6,none⟩=some (J x.last)∧O.cell? ⟨p.a,1,none⟩=some (J x.eX)):=λl O h=>by have G:=(h.perm bg).facts.1.1;exact⟨by rw[G 6,CM.out];rfl,by rw[G 1,CM.out];rfl⟩
  have ba:=hla [_,_,_] _ eF;rcases hid with hid|⟨a,k,s,hid,ha,N,hs⟩
  ·injection hid with e0 e12
   injection e12 with e1 e2;subst e0 e1 e2;rcases bC (f == (x.last:Int)) with Qr|Qr
   ·go_wp2_with fail
    have eW:=eF.grow (Grow.refl _).drew;have eA:=hla [_,_,_] _ eW;refine dJ rfl ?_;refine fC (λO=>(O.cell? ⟨p.a,6,none⟩=some (J x.last)∧O.cell? ⟨p.a,1,none⟩=some (J x.eX))) [11,12,13] 14 rfl [0,1,2,3,4,5,6,7,8,9,10] ?_;have hrp:¬ x.eX=0:=by have:=Y.eX.1;omega
    have hwm:(IntKind.i64.wrap ((x.last:Int)+1)).tmod (x.eX:Int)=(((x.last+1) % x.eX:Nat):Int):=by have I:=Y.last;have G:=Y.eX.2;rw[show IntKind.i64.wrap ((x.last:Int)+1)=(x.last:Int)+1 by rw[IntKind.wrap_i64];omega,Int.tmod_eq_emod_of_nonneg ap];push_cast;rfl
    iterate 11 (refine eV rfl eA (λw1 ⟨I,G⟩=>aM) ?_)
    refine fY 11 rfl aw ?_;go_wp2_with (refine fv eW 3 rfl 3 (.tmp 85) (.tmp 83) rfl 6 rfl (J (((x.last+1) % x.eX:Nat):Int)) rfl (bf rfl) rfl aw rfl ?_;intro w7 fH;refine stay ?_);refine dI ?_;obtain⟨x2,jS⟩:=az (({ x1 with last:=(x.last+1) % x.eX }:Ag));replace fH:St V w (.c y8 37 #[(),(),()]::.c z 37 #[(),(),()]::.c y 45 (jc (tg:Int) (code:Int) n)::dR p x2) w7:=by rw[jS.out];exact fH
    clear eF eW eA;go_wp2_with fail;refine dJ rfl ?_;have eW:=fH.grow (Grow.refl _).drew;have Ft:∀zc O,St V w (.c y8 37 #[(),(),()]::.c z 37 zc::.c y 45 (jc (tg:Int) (code:Int) n)::dR p x2) O->(O.cell? ⟨y8,0,none⟩=some (J 0)∧O.cell? ⟨y8,1,none⟩=some (J 0)∧O.cell? ⟨y8,2,none⟩=some (J 0))∧O.cell? ⟨y,11,none⟩=some (J code):=λ_ O h=>⟨⟨h.facts.1.1 0,h.facts.1.1 1,h.facts.1.1 2⟩,(h.front 2 rfl).facts.1.1 11⟩;have eA:=Ft _ _ eW;refine fC (λO=>(O.cell? ⟨y8,0,none⟩=some (J 0)∧O.cell? ⟨y8,1,none⟩=some (J 0)∧O.cell? ⟨y8,2,none⟩=some (J 0))∧O.cell? ⟨y,11,none⟩=some (J code)) [4] 5 rfl [0,1,2] ?_;iterate 3 (refine eV rfl eA (λw1 ⟨⟨I,G,L⟩,h4⟩=>aM) ?_)
    refine eZ 3 [] rfl ?_;refine d_ eW 1 rfl 37 (.tmp 6) (.tmp 86) rfl 0 rfl [(),(),()] rfl (bf rfl) rfl aw #[(),(),()] rfl rfl ?_;intro wf k_;refine wpList_nil ⟨λ_=>Ft _ _ k_,?_⟩;refine fY 4 rfl aw ?_;go_wp2_with fail;refine bodyPost_ret (dZ rfl _ z rfl (k_.blk 1 rfl) Tryz.underlying37 aw) rfl ?_;refine⟨(),rfl,LO x2 wf ?_ k_⟩;unfold Ag.took;dsimp only;have Y8:f.toNat=x.last:=by simp at Qr;omega
    rw[<-HI.out,aA rfl,aA kU.out,aA (by exact⟨kU.out,Y8⟩),jS.out,CM.out]
   ·go_wp2_with fail
    refine dJ rfl ?_;have eW:=eF.grow (Grow.refl _).drew;have Ft:∀zc O,St V w (.c y8 37 #[(),(),()]::.c z 37 zc::.c y 45 (jc (tg:Int) (code:Int) n)::dR p x1) O->(O.cell? ⟨y8,0,none⟩=some (J 0)∧O.cell? ⟨y8,1,none⟩=some (J 0)∧O.cell? ⟨y8,2,none⟩=some (J 0))∧O.cell? ⟨y,11,none⟩=some (J code):=λ_ O h=>⟨⟨h.facts.1.1 0,h.facts.1.1 1,h.facts.1.1 2⟩,(h.front 2 rfl).facts.1.1 11⟩;have eA:=Ft _ _ eW;refine fC (λO=>(O.cell? ⟨y8,0,none⟩=some (J 0)∧O.cell? ⟨y8,1,none⟩=some (J 0)∧O.cell? ⟨y8,2,none⟩=some (J 0))∧O.cell? ⟨y,11,none⟩=some (J code)) [4] 5 rfl [0,1,2] ?_;iterate 3 (refine eV rfl eA (λw1 ⟨⟨I,G,L⟩,h4⟩=>aM) ?_)
    refine eZ 3 [] rfl ?_;refine d_ eW 1 rfl 37 (.tmp 6) (.tmp 86) rfl 0 rfl [(),(),()] rfl (bf rfl) rfl aw #[(),(),()] rfl rfl ?_;intro wf k_;refine wpList_nil ⟨λ_=>Ft _ _ k_,?_⟩;refine fY 4 rfl aw ?_;go_wp2_with fail;refine bodyPost_ret (dZ rfl _ z rfl (k_.blk 1 rfl) Tryz.underlying37 aw) rfl ?_;refine⟨(),rfl,LO x1 wf ?_ k_⟩;unfold Ag.took;dsimp only;rw[<-HI.out,aA rfl,aA kU.out,aB (by rintro ⟨_,h⟩;simp at Qr;have G:f.toNat=x.last:=h;exact Qr (by have:=hf.1;omega)),CM.out]
  ·injection hid with e0 e12
   injection e12 with e1 e2;subst e0 e1 e2;have Ue:¬ (a:Int)=0:=by omega
   go_wp2_with fail;obtain⟨⟨t1,t2⟩,HT⟩:∃t:Nat×Nat,Hid (t=x1.tries ((a:Int),(k:Int),(s:Int))):=⟨_,Q rfl⟩;have yr:∀(l:List Bl)(O:X),St V w (dR p x1++l) O->(Instr.lookup 189 (.map (some p.bT)) (aZ #[J a,J k,J s]) false).run W O=.ok (aZ #[J t1,J t2]) O:=λl O h=>by
    have I:=h.IV Oh Tryz.underlying189 (z:=rn (0,0)) aw 4 rfl ((a:Int),(k:Int),(s:Int)) false;have G:(uk (gB rn x1.tr) ((a:Int),(k:Int),(s:Int))).getD (rn (0,0))=rn (t1,t2):=by rw[tE,HT.out];unfold Ag.tries;cases qR x1.tr ((a:Int),(k:Int),(s:Int))<;>rfl
    rw[G] at I;exact I
   have gD:∀O,St V w (.c y8 37 #[J a,J k,J s]::.c z 37 #[(),(),()]::.c y 45 (jc (tg:Int) (code:Int) n)::dR p x1) O->((O.cell? ⟨y8,0,none⟩=some (J a)∧O.cell? ⟨y8,1,none⟩=some (J k)∧O.cell? ⟨y8,2,none⟩=some (J s))∧O.cell? ⟨p.a,7,none⟩=some (.map (some p.bT)))∧(Instr.lookup 189 (.map (some p.bT)) (aZ #[J a,J k,J s]) false).run W O=.ok (aZ #[J t1,J t2]) O:=λO h=>⟨⟨⟨h.facts.1.1 0,h.facts.1.1 1,h.facts.1.1 2⟩,(h.front 3 rfl).facts.1.1 7⟩,yr _ O (h.perm (bg (l₁:=[_,_,_]) (l₂:=dR p x1)))⟩;have eW:=eF.grow (Grow.refl _).drew;have eA:=gD _ eW;refine dJ rfl ?_;refine fC (λO=>((O.cell? ⟨y8,0,none⟩=some (J a)∧O.cell? ⟨y8,1,none⟩=some (J k)∧O.cell? ⟨y8,2,none⟩=some (J s))∧O.cell? ⟨p.a,7,none⟩=some (.map (some p.bT)))∧(Instr.lookup 189 (.map (some p.bT)) (aZ #[J a,J k,J s]) false).run W O=.ok (aZ #[J t1,J t2]) O) [7] 8 rfl [0,1,2,3,4,5] ?_;iterate 5 (refine eV rfl eA (λw1 ⟨⟨⟨g0,g1,g2⟩,G⟩,L⟩=>aM) ?_)
   refine eV rfl eA (v := aZ #[J t1,J t2]) (λw1 ⟨⟨⟨g0,g1,g2⟩,G⟩,L⟩=>aM) ?_;refine eZ 6 [] rfl ?_;obtain⟨yZ,wc,Pb,Pf,vB⟩:=eF.new' #[(),()] 364;go_wp2_with fail;rw[<-Pf.out,<-Pb.out];have vB:=vB.grow (Grow.refl _).drew;refine⟨λ_=>gD _ (vB.dO 0 rfl),?_⟩;refine fY 7 rfl aw ?_;refine d_ vB 0 rfl 364 (.tmp 10) (.tmp 105) rfl 0 rfl [J t1,J t2] rfl (bf rfl) rfl aw #[J t1,J t2] rfl rfl ?_;intro w7 fH;have a5p:w7.cell? ⟨p.a,4,none⟩=some (J x.now):=by rw[(fH.front 4 rfl).facts.1.1 4,CM.out];rfl
   go_wp2_with (refine fv fH 0 rfl 2 (.tmp 110) (.tmp 109) rfl 1 rfl (J x.now) rfl (bf rfl) rfl aw rfl ?_;intro w8 fD;refine stay ?_);refine dI ?_;replace fD:St V w (.c yZ 364 #[J t1,J x.now]::.c y8 37 #[J a,J k,J s]::.c z 37 #[(),(),()]::.c y 45 (jc (tg:Int) (code:Int) n)::dR p x1) w8:=fD;clear vB Pf Pb eA gD yr eW a5p fH;go_wp2_with fail;have eW:=fD.grow (Grow.refl _).drew;have gD:∀O,St V w (.c yZ 364 #[J t1,J x.now]::.c y8 37 #[J a,J k,J s]::.c z 37 #[(),(),()]::.c y 45 (jc (tg:Int) (code:Int) n)::dR p x1) O->(((O.cell? ⟨y8,0,none⟩=some (J a)∧O.cell? ⟨y8,1,none⟩=some (J k)∧O.cell? ⟨y8,2,none⟩=some (J s))∧O.cell? ⟨p.a,7,none⟩=some (.map (some p.bT)))∧O.cell? ⟨yZ,0,none⟩=some (J t1)∧O.cell? ⟨yZ,1,none⟩=some (J x.now)):=λO h=>⟨⟨⟨(h.front 1 rfl).facts.1.1 0,(h.front 1 rfl).facts.1.1 1,(h.front 1 rfl).facts.1.1 2⟩,(h.front 4 rfl).facts.1.1 7⟩,h.facts.1.1 0,h.facts.1.1 1⟩;have eA:=gD _ eW;refine dJ rfl ?_;refine fC (λO=>(((O.cell? ⟨y8,0,none⟩=some (J a)∧O.cell? ⟨y8,1,none⟩=some (J k)∧O.cell? ⟨y8,2,none⟩=some (J s))∧O.cell? ⟨p.a,7,none⟩=some (.map (some p.bT)))∧O.cell? ⟨yZ,0,none⟩=some (J t1)∧O.cell? ⟨yZ,1,none⟩=some (J x.now))) [6] 7 rfl [0,1,2,3,4,5] ?_;iterate 6 (refine eV rfl eA (λw1 ⟨⟨⟨g0,g1,g2⟩,G⟩,L,h4⟩=>aM) ?_)
   refine eZ 6 [] rfl ?_;obtain⟨w9,eR,gy⟩:=eW.VR Oh Tryz.underlying189 8 rfl ((a:Int),(k:Int),(s:Int)) (rn (t1,x.now));unfold iK rn at eR;go_wp2_with fail;refine gj ?_;go_wp2_with fail;obtain⟨x2,jS⟩:=az (({ x1 with tr:=si x1.tr ((a:Int),(k:Int),(s:Int)) (t1,x.now) }:Ag));rw[uL] at gy;replace gy:St V w (.c y8 37 #[J a,J k,J s]::.c z 37 #[(),(),()]::.c y 45 (jc (tg:Int) (code:Int) n)::dR p x2) w9:=by rw[jS.out];exact gy.dO 0 rfl
   clear eW gD eA eR fD eF;refine dJ rfl ?_;have eW:=gy.grow (Grow.refl _).drew;have Ft:∀zc O,St V w (.c y8 37 #[J a,J k,J s]::.c z 37 zc::.c y 45 (jc (tg:Int) (code:Int) n)::dR p x2) O->(O.cell? ⟨y8,0,none⟩=some (J a)∧O.cell? ⟨y8,1,none⟩=some (J k)∧O.cell? ⟨y8,2,none⟩=some (J s))∧O.cell? ⟨y,11,none⟩=some (J code):=λ_ O h=>⟨⟨h.facts.1.1 0,h.facts.1.1 1,h.facts.1.1 2⟩,(h.front 2 rfl).facts.1.1 11⟩;have eA:=Ft _ _ eW;refine fC (λO=>(O.cell? ⟨y8,0,none⟩=some (J a)∧O.cell? ⟨y8,1,none⟩=some (J k)∧O.cell? ⟨y8,2,none⟩=some (J s))∧O.cell? ⟨y,11,none⟩=some (J code)) [4] 5 rfl [0,1,2] ?_;iterate 3 (refine eV rfl eA (λw1 ⟨⟨I,G,L⟩,h4⟩=>aM) ?_)
   refine eZ 3 [] rfl ?_;refine d_ eW 1 rfl 37 (.tmp 6) (.tmp 117) rfl 0 rfl [J a,J k,J s] rfl (bf rfl) rfl aw #[J a,J k,J s] rfl rfl ?_;intro wf k_;refine wpList_nil ⟨λ_=>Ft _ _ k_,?_⟩;refine fY 4 rfl aw ?_;go_wp2_with fail;refine bodyPost_ret (dZ rfl _ z rfl (k_.blk 1 rfl) Tryz.underlying37 aw) rfl ?_;refine⟨(),rfl,LO x2 wf ?_ k_⟩;unfold Ag.took;dsimp only;have CF:¬ (code=1∨code=2∨code=3):=by have:=kU.out;omega
   rw[<-HI.out,aB (by intro h;injection h with h _;exact Ue h),aB CF,aA kU.out,aA kU.out,jS.out,show t1=(x1.tries ((a:Int),(k:Int),(s:Int))).1 by rw[<-HT.out],CM.out]
set_option maxRecDepth 100000
set_option maxHeartbeats 1000000
theorem EA(w:X)(D:aV)(p:vE)(x:Ag)(f:Int)(tg code n:Nat)(I:tg<=9223372036854775807)(G:code<=255)(hf:0<=f∧f<x.eX)(kT:qR x.ask (tg:Int)=none):Lw W D 210 #[.pointer (some ⟨p.a,0,none⟩),J f,aZ (jc (tg:Int) (code:Int) n)] (dR p x) (λ(_:Unit)e=>e=b5 (a_ #[iK (0,0,0),()])) (λ_=>dR p x) w:=by
 have m6:=λw1=>yj w1 (tg:Int) (code:Int) n ap ap;unfold jc at m6 ⊢;intro V hM hV;have fN:=St.begin_ hM (λb hb=>(hV b hb).1) (fB _ _);have z1:(w.alloc (.cells #[J 2,(),(),(),(),(),ay,"",(),(),J tg,J code,ae ah n,(),(),ay,(),()] 45)).heap.size=(w:Nat)+1:=by simp
 obtain⟨y,wa,HY,HA,ej⟩:=fN.new' #[J 2,(),(),(),(),(),ay,"",(),(),J tg,J code,ae ah n,(),(),ay,(),()] 45;rw[<-HA.out,<-HY.out] at z1;obtain⟨z,wb,HZ,HB,dV⟩:=ej.new' #[(),(),()] 37;have ez:z=y+1:=by rw[HZ.out,z1]
 unfold iK;have yr:∀(l:List Bl)(O:X),St V w (.c p.a 192 (qm p x)::.o (iq p.st p.z x.b)::.o (eC p.x p.d x.rs.length x.bs x.k)::.o (eI o0 p.bK (gB iK x.ask))::l) O->(Instr.lookup 190 (.map (some p.bK)) (J tg) true).run W O=.ok (a_ #[aZ #[(),(),()],aY false]) O:=λl O h=>by
  have I:=h.IV Og Tryz.underlying190 (z:=iK (0,0,0)) aw 3 rfl (tg:Int) true;have G:(uk (gB iK x.ask) (tg:Int)).getD (iK (0,0,0))=iK (0,0,0)∧(uk (gB iK x.ask) (tg:Int)).isSome=false:=by rw[tE,kT];exact⟨rfl,rfl⟩
  rw[aA rfl,G.1,G.2] at I;exact I
 go_in;go_wp2_with fail;rw[<-HA.out,<-HY.out,<-HB.out,<-ez];have dV:St V w (.c z 37 #[(),(),()]::.c y 45 (jc (tg:Int) (code:Int) n)::dR p x) wb:=dV;have eW:=dV.grow (Grow.refl _).drew;have gD:∀O,St V w (.c z 37 #[(),(),()]::.c y 45 (jc (tg:Int) (code:Int) n)::dR p x) O->(O.cell? ⟨p.a,8,none⟩=some (.map (some p.bK))∧O.cell? ⟨y,10,none⟩=some (J tg))∧(Instr.lookup 190 (.map (some p.bK)) (J tg) true).run W O=.ok (a_ #[aZ #[(),(),()],aY false]) O:=λO h=>
  ⟨⟨(h.front 2 rfl).facts.1.1 8,h.facts.2.1.1 10⟩,yr _ O (h.perm (bg (l₁:=[_,_]) (l₂:=dR p x)))⟩
 have eA:=gD _ eW;clear HA HB HY HZ ez z1 ej;refine dJ rfl ?_;refine fC (λO=>(O.cell? ⟨p.a,8,none⟩=some (.map (some p.bK))∧O.cell? ⟨y,10,none⟩=some (J tg))∧(Instr.lookup 190 (.map (some p.bK)) (J tg) true).run W O=.ok (a_ #[aZ #[(),(),()],aY false]) O) [12] 13 rfl [0,1,2,3,4,5,6,7,8,9] ?_;iterate 6 (refine eV rfl eA (λw1 ⟨⟨I,G⟩,L⟩=>aM) ?_)
 refine eV rfl eA (v := a_ #[aZ #[(),(),()],aY false]) (λw1 ⟨⟨I,G⟩,L⟩=>aM) ?_;iterate 3 (refine eV rfl eA (λw1 ⟨⟨I,G⟩,L⟩=>aM) ?_)
 refine eZ 10 [] rfl ?_;obtain⟨y8,wc,HY8,HC8,vB⟩:=dV.new' #[(),(),()] 37;go_wp2_with fail;rw[<-HC8.out,<-HY8.out];have vB:=vB.grow (Grow.refl _).drew;refine⟨λ_=>gD _ (vB.dO 0 rfl),?_⟩;refine eZ 11 [] rfl ?_;refine d_ vB 0 rfl 37 (.tmp 8) (.tmp 19) rfl 0 rfl [(),(),()] rfl (bf rfl) rfl aw #[(),(),()] rfl rfl ?_;intro w3 dX;refine wpList_nil ⟨λ_=>gD _ (dX.dO 0 rfl),?_⟩;refine fY 12 rfl aw ?_;have dX:St V w (.c y8 37 #[(),(),()]::.c z 37 #[(),(),()]::.c y 45 (jc (tg:Int) (code:Int) n)::dR p x) w3:=dX;clear vB HC8 HY8 eA gD eW dV yr fN;have dfn:decide (f<0)=false:=aD ap;have dfr:decide ((x.eX:Int)<=f)=false:=aD ap;have gU:=dX.blk 2 rfl;unfold jc at gU;have m0:w3.cell? ⟨y,0,none⟩=some (J 2):=gU.cell 0;have Z6:w3.cell? ⟨p.a,1,none⟩=some (J x.eX):=(dX.front 3 rfl).facts.1.1 1;go_wp2_with (refine dU rfl 45 _ rfl _ rfl gU bG aw ?_);refine (m6 w3).mono ?_;rintro e w4 ⟨rfl,Bi⟩;have eO:=dX.grow Bi;clear m0 Z6 m6 gU;have Z6:w4.cell? ⟨p.a,1,none⟩=some (J x.eX):=(eO.front 3 rfl).facts.1.1 1;go_wp2_with (refine d_ eO 1 rfl 37 (.tmp 6) (.tmp 45) rfl 0 rfl [(),(),()] rfl (bf rfl) rfl aw #[(),(),()] rfl rfl ?_;intro w5 eF;refine stay ?_);refine dI ?_;go_wp2;refine bodyPost_ret (dZ rfl _ z rfl (eF.blk 1 rfl) Tryz.underlying37 aw) rfl ?_;obtain⟨r1,r2⟩:=(((eF.drop).drop).drop).fin;exact⟨(),rfl,r1,r2⟩
theorem vl{k:Nat}(N:k<4):(bV 4).drop k=k::(bV 4).drop (k+1):=by rw[bP (by simpa using N),List.getElem_range]
theorem ix0(w:X)(z:aQ):(Instr.index 184 (aZ #[pz z 0,pz z 1,pz z 2,pz z 3]) (J 0)).run W w=.ok (pz z 0) w:=by kernel_rfl
theorem ix1(w:X)(z:aQ):(Instr.index 184 (aZ #[pz z 0,pz z 1,pz z 2,pz z 3]) (J 1)).run W w=.ok (pz z 1) w:=by kernel_rfl
theorem ix2(w:X)(z:aQ):(Instr.index 184 (aZ #[pz z 0,pz z 1,pz z 2,pz z 3]) (J 2)).run W w=.ok (pz z 2) w:=by kernel_rfl
theorem ix3(w:X)(z:aQ):(Instr.index 184 (aZ #[pz z 0,pz z 1,pz z 2,pz z 3]) (J 3)).run W w=.ok (pz z 3) w:=by kernel_rfl
theorem SU(w:X)(D:aV)(p:vE)(x:Ag)(Y:x.Ok)(abp:Nat)(ht:x.Tm abp)(hN:abp<=576460752303423488)(n:Nat)(hn:n<=1024):Lw W D 208 #[.pointer (some ⟨p.a,0,none⟩),J n] (dR p x) (λ(j:K×List Sd)e=>e=b5 j.1∧eS j.2=(x.f_ n []).2) (λj => .o (dS j.1 j.2)::dR p (x.f_ n []).1) w:=by
 obtain⟨abm,HT⟩:=az (x.f_ n []);rw[<-HT.out];have Qf:∀ts t w,(Builtin.min_ ts t #[J n,J 1024]).run W w=.ok (J n) w:=λts t w=>by rw[run_min_int2];congr 2;split<;>omega
 have Bb:∀ts t w,(Builtin.max_ ts t #[(),J n]).run W w=.ok (J n) w:=λts t w=>by rw[run_max_int2];congr 2;split<;>omega
 have Qp:∀(w:X)(k:Nat),k<4->(Instr.index 184 (aZ #[pz p.z 0,pz p.z 1,pz p.z 2,pz p.z 3]) (J k)).run W w=.ok (.pointer (some ⟨p.z.getD k 0,0,none⟩)) w:=λw k N=>by
  have h4:k=0∨k=1∨k=2∨k=3:=by omega
  rcases h4 with rfl|rfl|rfl|rfl
  ·exact ix0 w p.z
  ·exact ix1 w p.z
  ·exact ix2 w p.z
  ·exact ix3 w p.z
 intro V hM hV;have fN:=St.begin_ hM (λb hb=>(hV b hb).1) (fB _ _);have ej:=(fN.join (mX.framed []) (Grow.refl _) (U:=λ_=>False) (mX.nil _ _) (λ_ h=>h.elim)).join (fK.framed 218 19 (Z none 0 0) 0 []) (Grow.refl _) (U:=λ_=>False) Row.nil (λ_ h=>h.elim);go_in;go_wp2_with fail;go_loopw [5,15] (λu i wr=>∃(r:Nat)(y:Ag)(q:List Sd),i=J r∧(r<=n∧q.length<=16*r)∧y.f_ (n-r) (eS q)=abm∧(y.Ok∧y.Tm (abp+17*r))∧St V w (.o (fK 218 19 u q.length (q.flatMap Sd.cells))::.o (mX q)::dR p y) wr) (λ_ i _=>n-(intOf i).toNat);case atStart=>exact⟨0,x,[],rfl,⟨bo _,bo _⟩,HT.out.symm,⟨Y,ht⟩,ej⟩
 case round=>
  obtain⟨r,y,q,rfl,⟨Z5,ig⟩,hT,⟨hy,hty⟩,hS⟩:=hrel;obtain⟨Ao,co,rfl,hco,Y_⟩:=fK.nW hS 0 rfl;by_cases hr:r<n
  ·have dr:decide (r<n)=true:=aC hr
   obtain⟨f,hf⟩:∃f,n-r=f+1:=⟨n-r-1,by omega⟩;rw[hf] at hT;obtain⟨T1,HT1⟩:=az (y.lN (eS q));have hT1:T1.1.f_ f T1.2=abm:=by rw[HT1.out];exact hT
   have hnw:IntKind.i64.wrap ((y.now:Int)+1)=((y.now+1:Nat):Int):=by have:=hty.now;rw[IntKind.wrap_i64];omega
   obtain⟨nw,Hnw⟩:=az (y.now+1);rw[<-Hnw.out] at hnw;have ha4:wr.cell? ⟨p.a,4,none⟩=some (J y.now):=(hS.front 2 rfl).facts.1.1 4;have Xl:({ y with now:=nw }:Ag).Tm (abp+17*r+1):=⟨dw hty.tag,by show nw<=_;rw[Hnw.out];exact Nat.succ_le_succ hty.now,(hty.mono (Nat.le_succ _)).tr⟩;have SV:T1=Ag.fZ ((bV 4).drop 0) { y with now:=nw } (eS q):=by rw[HT1.out,Hnw.out];rfl
   replace hT1:=Q hT1;replace SV:=Q SV;go_wp2_with (refine fv hS 2 rfl 2 (.tmp 23) (.tmp 21) rfl 4 rfl (J nw) rfl (bf rfl) rfl aw rfl ?_;intro w2 dV;refine stay ?_);refine dI ?_;have dV:St V w (.o (fK 218 19 (Z Ao q.length co) q.length (q.flatMap Sd.cells))::.o (mX q)::dR p { y with now:=nw }) w2:=dV;have vw:({ y with now:=nw }:Ag).Ok:=hy.Hc nw;generalize ({ y with now:=nw }:Ag)=y1 at dV vw Xl SV;obtain⟨hz,sl,cu,dX⟩:=iq.nH dV 3 rfl;have UU:w2.cell? ⟨p.a,3,none⟩=some (.pointer (some ⟨p.st,0,none⟩)):=(dV.front 2 rfl).facts.1.1 3;have hb:=(dX.front 6 rfl).facts.1.1;have q3:w2.cell? ⟨p.st,3,none⟩=some (pz p.z 0):=hb 3;have q4:w2.cell? ⟨p.st,4,none⟩=some (pz p.z 1):=hb 4;have q5:w2.cell? ⟨p.st,5,none⟩=some (pz p.z 2):=hb 5;have q6:w2.cell? ⟨p.st,6,none⟩=some (pz p.z 3):=hb 6;clear hb dX ha4;go_wp2_with fail;clear q3 q4 q5 q6 UU;have hM2:abp+17*r+1<=1152921504606840000:=by omega
   obtain⟨M,HM⟩:=az (abp+17*r+1);rw[<-HM.out] at Xl hM2;go_loopw [5,31] (λu i wr=>∃(k:Nat)(y2:Ag)(q2:List Sd),i=J k∧(k<=4∧q2.length<=16*r+4*k)∧Ag.fZ ((bV 4).drop k) y2 (eS q2)=T1∧(y2.Ok∧y2.Tm (M+4*k))∧St V w (.o (fK 218 19 u q2.length (q2.flatMap Sd.cells))::.o (mX q2)::dR p y2) wr) (λ_ i _=>4-(intOf i).toNat);case atStart=>exact⟨0,y1,q,rfl,⟨bo _,by omega⟩,SV.out.symm,⟨vw,Xl⟩,dV⟩
   case round=>
    obtain⟨k,y2,q2,rfl,⟨j5,a4G⟩,H9,⟨vr,a0E⟩,hSk⟩:=hrel;obtain⟨A2,c2,rfl,lV,zE⟩:=fK.nW hSk 0 rfl;by_cases N:k<4
    ·have dk:decide (k<4)=true:=aC N
     have Xm:=λw=>Qp w k N;rw[vl N] at H9;obtain⟨fl,Xn⟩:=az ((y2.b.qu k).l.take 4);obtain⟨T2,HT2⟩:=az (Ag.ff k fl y2 (eS q2));have Xo:Ag.fZ ((bV 4).drop (k+1)) T2.1 T2.2=T1:=by rw[HT2.out,Xn.out];exact H9
     obtain⟨hz,sl,cu,dX⟩:=iq.nH hSk 3 rfl;obtain⟨U,hQ,_⟩:=dX.own.see (k+9) (iD (show (_:List Bl)[k+9]?=some (.o (abo.eh (p.z.getD k 0) (y2.b.qu k).l (y2.b.qu k).k)) from lh hz.1 hz.2 N));obtain⟨m,Hm⟩:=az (min (y2.b.qu k).l.length 4);have hFl:=abo.KM _ _ _ _ _ hQ m Hm.out.symm;have VP:m<=4:=by rw[Hm.out];omega
     have Vm:fl.length=m:=by rw[Xn.out,Hm.out,bn];omega
     obtain⟨g,Hg⟩:=az (p.z.getD k 0);simp only[<-Hg.out] at Xm hFl;rw[<-Xn.out] at hFl;clear hQ dX H9 hz Qp;replace Xo:=Q Xo;go_wp2_with fail;refine hFl.mono ?_;rintro e w3 ⟨A3,bs,rfl,UF,QP,ib⟩;have eO:=hSk.join (mj.framed A3 m bs) ib (U:=New _ w3) UF (λb hb=>hb);go_wp2_with fail;have hM3:M+4*k+4<=1152921504606846000:=by omega
     go_loopw [5,38] (λu i wr=>∃(j:Nat)(y3:Ag)(q3:List Sd),i=J j∧(j<=m∧q3.length<=16*r+4*k+j)∧Ag.ff k (fl.drop j) y3 (eS q3)=T2∧(y3.Ok∧y3.Tm (M+4*k+j))∧St V w (.o (mj A3 m bs)::.o (fK 218 19 u q3.length (q3.flatMap Sd.cells))::.o (mX q3)::dR p y3) wr) (λ_ i _=>m-(intOf i).toNat);case atStart=>exact⟨0,y2,q2,rfl,⟨bo _,by omega⟩,HT2.out.symm,⟨vr,a0E⟩,eO⟩
     case round=>
      obtain⟨j,y3,q3,rfl,⟨hjm,hql3⟩,EB,⟨Vl,zq⟩,MC⟩:=hrel;obtain⟨A4,c4,rfl,q_,a5s⟩:=fK.nW MC 1 rfl;by_cases hj:j<m
      ·have dj:decide (j<m)=true:=aC hj
       obtain⟨U,hU,_⟩:=MC.own.see 0 rfl;have hU:abo.lW _ U U A3 m bs:=hU;obtain⟨ad,TW,rfl,_,_,e0,e1⟩:=hU.row.mr ap abo.nz hj;have jE:=hU.all _ (bF TW);have e0:=e0 _ rfl;have e1:=e1 0 _ rfl;have hjf:j<fl.length:=by omega
       have Z7:fl[j]=(bs[j]).abs:=by simp[<-QP]
       rw[bP hjf,Z7] at EB;have hEj:=List.getElem?_eq_getElem TW;replace hEj:=Q hEj;generalize bs[j]=b at jE e0 e1 EB hEj;obtain⟨sq,Ab,mb,cb,ds⟩:=b;dsimp only[abo.iE.cells,abo.iE.abs] at e0 e1 EB;have hmb:mb=ds.length:=by have:=jE.ds.1;rw[ka] at this;dsimp only at this;omega
       subst hmb;obtain⟨y9,wa,HY9,UN,mh⟩:=MC.new' #[J sq,Z Ab ds.length cb] 196;clear hU hSk eO dV ej fN hFl;replace EB:=Q EB;replace Z7:=Q Z7;go_wp2_with fail;rw[<-UN.out,<-HY9.out];have eW:=mh.grow (Grow.refl _).drew;have eA:wa.drew.cell? ⟨p.a,0,none⟩=some (J y3.node)∧wa.drew.cell? ⟨y9,0,none⟩=some (J sq):=⟨(eW.front 4 rfl).facts.1.1 0,eW.facts.1.1 0⟩;refine dJ rfl ?_;refine fC (λO=>O.cell? ⟨p.a,0,none⟩=some (J y3.node)∧O.cell? ⟨y9,0,none⟩=some (J sq)) [9] 10 rfl [0,1,2,3,4,5,6,7] ?_;iterate 8 (refine eV rfl eA (λw1 ⟨I,G⟩=>aM) ?_)
       refine eZ 8 [] rfl ?_;obtain⟨EC,wb,SX,SY,yV⟩:=mh.new' #[(),(),()] 37;go_wp2_with fail;rw[<-SY.out,<-SX.out];have yV:=yV.grow (Grow.refl _).drew;refine⟨λ_=>⟨((yV.dO 0 rfl).front 4 rfl).facts.1.1 0,(yV.dO 0 rfl).facts.1.1 0⟩,?_⟩;refine fY 9 rfl aw ?_;refine d_ yV 0 rfl 37 (.tmp 10) (.tmp 49) rfl 0 rfl [J y3.node,J k,J sq] rfl (bf rfl) rfl aw #[J y3.node,J k,J sq] rfl rfl ?_;intro w6 eN;have eN:St V w (.c EC 37 #[J y3.node,J k,J sq]::.c y9 196 #[J sq,Z Ab ds.length cb]::.o (mj (some ad) m bs)::.o (fK 218 19 (Z A4 q3.length c4) q3.length (q3.flatMap Sd.cells))::.o (mX q3)::dR p y3) w6:=eN;clear yV SY SX eA eW mh UN HY9 MC e0 e1;go_wp2_with fail;obtain⟨id,SZ⟩:=az (y3.iX k sq:lp);obtain⟨t,Ht_⟩:=az (y3.tries id:Nat×Nat);have yr:∀(l:List Bl)(O:X),St V w (.c p.a 192 (qm p y3)::.o (iq p.st p.z y3.b)::.o (eC p.x p.d y3.rs.length y3.bs y3.k)::.o (eI o0 p.bK (gB iK y3.ask))::.o (eI iK p.bT (gB rn y3.tr))::l) O->(Instr.lookup 189 (.map (some p.bT)) (aZ #[J y3.node,J k,J sq]) false).run W O=.ok (aZ #[J t.1,J t.2]) O:=λl O h=>by
        have I:=h.IV Oh Tryz.underlying189 (z:=rn (0,0)) aw 4 rfl (y3.iX k sq) false;have G:(uk (gB rn y3.tr) (y3.iX k sq)).getD (rn (0,0))=rn t:=by rw[tE,Ht_.out,SZ.out];unfold Ag.tries;cases qR y3.tr (y3.iX k sq)<;>rfl
        rw[G] at I;exact I
       have gD:∀(O:X),St V w (.c EC 37 #[J y3.node,J k,J sq]::.c y9 196 #[J sq,Z Ab ds.length cb]::.o (mj (some ad) m bs)::.o (fK 218 19 (Z A4 q3.length c4) q3.length (q3.flatMap Sd.cells))::.o (mX q3)::dR p y3) O->(eJ O EC 37 #[J y3.node,J k,J sq]∧O.cell? ⟨p.a,7,none⟩=some (.map (some p.bT)))∧(Instr.lookup 189 (.map (some p.bT)) (aZ #[J y3.node,J k,J sq]) false).run W O=.ok (aZ #[J t.1,J t.2]) O:=λO h=>
        ⟨⟨h.blk 0 rfl,(h.front 5 rfl).facts.1.1 7⟩,yr _ O (h.perm (bg (l₁:=[_,_,_,_,_]) (l₂:=dR p y3)))⟩
       have eW:=eN.grow (Grow.refl _).drew;have eA:=gD _ eW;refine dJ rfl ?_;refine fC (λO=>(eJ O EC 37 #[J y3.node,J k,J sq]∧O.cell? ⟨p.a,7,none⟩=some (.map (some p.bT)))∧(Instr.lookup 189 (.map (some p.bT)) (aZ #[J y3.node,J k,J sq]) false).run W O=.ok (aZ #[J t.1,J t.2]) O) [7] 8 rfl [0,1,2,3,4,5] ?_;iterate 4 (refine eV rfl eA (λw1 ⟨⟨I,G⟩,L⟩=>aM) ?_)
       refine eV rfl eA (λw1 ⟨⟨I,G⟩,L⟩ R T=>by have c0:=I.cell 0;have c1:=I.cell 1;have c2:=I.cell 2;go_simp;exact T) ?_
       refine eV rfl eA (v := aZ #[J t.1,J t.2]) (λw1 ⟨⟨I,G⟩,L⟩=>aM) ?_;refine eZ 6 [] rfl ?_;obtain⟨yZ,wc,Pb,Pf,vB⟩:=eN.new' #[(),()] 364;go_wp2_with fail;rw[<-Pf.out,<-Pb.out];have vB:=vB.grow (Grow.refl _).drew;refine⟨λ_=>gD _ (vB.dO 0 rfl),?_⟩;refine fY 7 rfl aw ?_;refine d_ vB 0 rfl 364 (.tmp 11) (.tmp 55) rfl 0 rfl [J t.1,J t.2] rfl (bf rfl) rfl aw #[J t.1,J t.2] rfl rfl ?_;intro w7 fH;have fH:St V w (.c yZ 364 #[J t.1,J t.2]::.c EC 37 #[J y3.node,J k,J sq]::.c y9 196 #[J sq,Z Ab ds.length cb]::.o (mj (some ad) m bs)::.o (fK 218 19 (Z A4 q3.length c4) q3.length (q3.flatMap Sd.cells))::.o (mX q3)::dR p y3) w7:=fH;clear vB Pf Pb eA gD yr eW eN;go_wp2_with fail;obtain⟨t1,t2⟩:=t;dsimp only at fH;have uO:=EB.out;unfold Ag.ff at uO;dsimp only at uO;rw[<-SZ.out,<-Ht_.out] at uO;dsimp only at uO;have htt:=zq.tries id;rw[<-Ht_.out] at htt;dsimp only at htt;have eW:=fH.grow (Grow.refl _).drew;have hnw3:=zq.now;have eA:(w7.drew.cell? ⟨yZ,0,none⟩=some (J t1)∧w7.drew.cell? ⟨yZ,1,none⟩=some (J t2))∧w7.drew.cell? ⟨p.a,4,none⟩=some (J y3.now):=⟨⟨eW.facts.1.1 0,eW.facts.1.1 1⟩,(eW.front 6 rfl).facts.1.1 4⟩;obtain⟨nn,LP⟩:=az (y3.now);rw[<-LP.out] at eA uO;refine dJ rfl ?_;by_cases h0:t1=0;case' pos=>
        obtain rfl:=h0;rw[aA (.inl rfl)] at uO;refine fC (λO=>(O.cell? ⟨yZ,0,none⟩=some (J ((0:Nat):Int))∧O.cell? ⟨yZ,1,none⟩=some (J t2))∧O.cell? ⟨p.a,4,none⟩=some (J nn)) [] 12 rfl [0,1,2,3,4,5,6,7,8,9,10,11] ?_;iterate 4 (refine eV rfl eA (λw1 ⟨⟨I,G⟩,L⟩=>aM) ?_)
        iterate 7 (refine Ru rfl eA ?_)
        refine eV rfl eA (λw1 ⟨⟨I,G⟩,L⟩=>aM) ?_;refine gj ?_;replace uO:=Q uO;clear eA fH;obtain⟨abl,HE⟩:=az (y3.tI id ds);obtain⟨TO,HTO⟩:=az (y3.to 0);have ED:dz W 272 #[.pointer (some ⟨p.a,0,none⟩),aZ #[J y3.node,J k,J sq],aZ #[J ((0:Nat):Int),J t2],aZ #[J sq,Z Ab ds.length cb]] w7.drew (λe O=>∃B,e=b5 (o4 TO abl B ds.length).val∧St V w ((.o (yb ⟨abl,B,ds.length⟩)::dR p (y3.send id (0,t2)))++[.c yZ 364 #[J ((0:Nat):Int),J t2],.c EC 37 #[J y3.node,J k,J sq],.c y9 196 #[J sq,Z Ab ds.length cb],.o (mj (some ad) m bs),.o (fK 218 19 (Z A4 q3.length c4) q3.length (q3.flatMap Sd.cells)),.o (mX q3)]) O):=by
         rw[HE.out,HTO.out];have Jj:St V w (dR p y3++[.c yZ 364 #[J ((0:Nat):Int),J t2],.c EC 37 #[J y3.node,J k,J sq],.c y9 196 #[J sq,Z Ab ds.length cb],.o (mj (some ad) m bs),.o (fK 218 19 (Z A4 q3.length c4) q3.length (q3.flatMap Sd.cells)),.o (mX q3)]) w7.drew:=eW.perm (bg (l₁:=[_,_,_,_,_,_]) (l₂:=dR p y3));have hid:=SZ.out;subst hid;exact St.py (D:=λ_=>False) Jj (a':=λB => .o (yb ⟨y3.tI (y3.iX k sq) ds,B,ds.length⟩)::dR p (y3.send (y3.iX k sq) (0,t2))) (λ_=>⟨yb.framed _,fB _ _⟩) Jj.no (λU hU jR=>Jv _ _ p y3 Vl (y3.iX k sq) (0,t2) sq Ab cb ds (by obtain⟨U',h5,h6⟩:=nV hU 3 rfl;exact In.mono ((show mj (some ad) m bs w7.drew U' from h5).all _ (List.mem_of_getElem? hEj.out)).ds λb hb => .inl (h6 b hb)) jE.le jE.max (bB jE.small am) (λb hb=>hb.elim (jR b) False.elim) (by have:=zq.tag;omega) (by have:=zq.now;omega) (by dsimp only;omega) (by dsimp only;omega))
        have g0:w7.drew.cell? ⟨yZ,0,none⟩=some (J ((0:Nat):Int)):=eW.facts.1.1 0;have g1:w7.drew.cell? ⟨yZ,1,none⟩=some (J t2):=eW.facts.1.1 1;have g2:w7.drew.cell? ⟨EC,0,none⟩=some (J y3.node):=eW.facts.2.1.1 0;have g3:w7.drew.cell? ⟨EC,1,none⟩=some (J k):=eW.facts.2.1.1 1;have g4:w7.drew.cell? ⟨EC,2,none⟩=some (J sq):=eW.facts.2.1.1 2;have g5:w7.drew.cell? ⟨y9,0,none⟩=some (J sq):=eW.facts.2.2.1.1 0;have g6:w7.drew.cell? ⟨y9,1,none⟩=some (Z Ab ds.length cb):=eW.facts.2.2.1.1 1;go_wp2_with fail;refine ED.mono ?_;rintro e w8 ⟨B,rfl,fD⟩;clear g0 g1 g2 g3 g4 g5 g6 ED eW;obtain⟨y12,wd,Xp,Hh,gy⟩:=fD.new' (o4 TO abl B ds.length).cells.toArray 218;have Hh:Hid (wd=w8.alloc (.cells #[J TO,J 1,J abl.k,J abl.ag,J abl.sh,J abl.sq,J abl.ep,Z B abl.ds.length ds.length,aX abl.se,J abl.fr,J abl.tg,(),(),ae ah 0,(),(),ay,(),()] 218)):=Hh;simp only[Sd.val,Sd.cells,o4,Ms.cells];go_wp2_with (at_builtin;refine stay ?_);refine dI ?_;rw[<-Hh.out,<-Xp.out];refine g_ AH rfl (.tmp 68) (.tmp 74) rfl rfl (gy.front 11 rfl) (A:=some ⟨y12,0,none⟩) (m:=1) (c:=1) (news:=(o4 TO abl B ds.length).cells) rfl (In.reads ((gy.blk 0 rfl).jL (size:=19) (n:=1) rfl)) (uH _) ap ?_;intro v' w9 iA;have kQ:=St.cnt (x:=⟨abl,B,ds.length⟩) (((((((iA.dO 1 rfl).dO 9 rfl).dO 8 rfl).dO 7 rfl).front 8 rfl).front 2 rfl).front 1 rfl) (o4 TO abl B ds.length) rfl ⟨rfl,rfl,rfl,rfl⟩;have ll:=(kQ.front 1 rfl).front 7 rfl;clear fD gy iA kQ;go_wp2_with fail;skip;refine⟨⟨j+1,y3.send id (0,t2),q3++[o4 TO abl B ds.length],by go_num,⟨by omega,by rw[bd,bv];omega⟩,?_,⟨Vl.send _ _,(zq.send id (t:=(0,t2)) (by dsimp only;omega)).mono ap⟩,ll.cast ?_⟩,by simp[intOf];omega⟩
        ·rw[<-uO.out,HTO.out,HE.out]
         unfold eS;rw[bI];rfl
        ·rw[bd,bL]
         simp;rfl
       case' neg=>
        refine fC (λO=>(O.cell? ⟨yZ,0,none⟩=some (J t1)∧O.cell? ⟨yZ,1,none⟩=some (J t2))∧O.cell? ⟨p.a,4,none⟩=some (J nn)) [] 12 rfl [0,1,2,3,4,5,6,7,8,9,10,11] ?_;have d0:(t1:Int)≠0:=by omega
        iterate 2 (refine eV rfl eA (λw1 ⟨⟨I,G⟩,L⟩=>aM) ?_)
        refine eV rfl eA (v := aY false) (λw1 ⟨⟨I,G⟩,L⟩ R T=>by go_simp;rw[show ((t1:Int) == 0)=false from beq_eq_false_iff_ne.2 d0];exact T) ?_;iterate 8 (refine eV rfl eA (λw1 ⟨⟨I,G⟩,L⟩=>aM) ?_)
        refine eV rfl eA (λw1 ⟨⟨I,G⟩,L⟩=>aM) ?_;refine gj ?_;by_cases G:t2<=nn;case' neg=>
         rw[aB ap] at uO;have fD:=((eW.dO 2 rfl).dO 1 rfl).dO 0 rfl;replace uO:=Q uO;clear eA eW fH;go_wp2_with fail;exact⟨⟨j+1,y3,q3,by go_num,⟨by omega,by omega⟩,uO.out,⟨Vl,zq.mono ap⟩,fD⟩,by simp[intOf];omega⟩
        case' pos=>
         rw[aA (.inr G)] at uO;replace uO:=Q uO;clear eA fH;obtain⟨abl,HE⟩:=az (y3.tI id ds);obtain⟨TO,HTO⟩:=az (y3.to t1);have ED:dz W 272 #[.pointer (some ⟨p.a,0,none⟩),aZ #[J y3.node,J k,J sq],aZ #[J ((t1:Nat):Int),J t2],aZ #[J sq,Z Ab ds.length cb]] w7.drew (λe O=>∃B,e=b5 (o4 TO abl B ds.length).val∧St V w ((.o (yb ⟨abl,B,ds.length⟩)::dR p (y3.send id (t1,t2)))++[.c yZ 364 #[J ((t1:Nat):Int),J t2],.c EC 37 #[J y3.node,J k,J sq],.c y9 196 #[J sq,Z Ab ds.length cb],.o (mj (some ad) m bs),.o (fK 218 19 (Z A4 q3.length c4) q3.length (q3.flatMap Sd.cells)),.o (mX q3)]) O):=by
          rw[HE.out,HTO.out];have Jj:St V w (dR p y3++[.c yZ 364 #[J ((t1:Nat):Int),J t2],.c EC 37 #[J y3.node,J k,J sq],.c y9 196 #[J sq,Z Ab ds.length cb],.o (mj (some ad) m bs),.o (fK 218 19 (Z A4 q3.length c4) q3.length (q3.flatMap Sd.cells)),.o (mX q3)]) w7.drew:=eW.perm (bg (l₁:=[_,_,_,_,_,_]) (l₂:=dR p y3));have hid:=SZ.out;subst hid;exact St.py (D:=λ_=>False) Jj (a':=λB => .o (yb ⟨y3.tI (y3.iX k sq) ds,B,ds.length⟩)::dR p (y3.send (y3.iX k sq) (t1,t2))) (λ_=>⟨yb.framed _,fB _ _⟩) Jj.no (λU hU jR=>Jv _ _ p y3 Vl (y3.iX k sq) (t1,t2) sq Ab cb ds (by obtain⟨U',h5,h6⟩:=nV hU 3 rfl;exact In.mono ((show mj (some ad) m bs w7.drew U' from h5).all _ (List.mem_of_getElem? hEj.out)).ds λb hb => .inl (h6 b hb)) jE.le jE.max (bB jE.small am) (λb hb=>hb.elim (jR b) False.elim) (by have:=zq.tag;omega) (by have:=zq.now;omega) (by dsimp only;omega) (by dsimp only;omega))
         have g0:w7.drew.cell? ⟨yZ,0,none⟩=some (J ((t1:Nat):Int)):=eW.facts.1.1 0;have g1:w7.drew.cell? ⟨yZ,1,none⟩=some (J t2):=eW.facts.1.1 1;have g2:w7.drew.cell? ⟨EC,0,none⟩=some (J y3.node):=eW.facts.2.1.1 0;have g3:w7.drew.cell? ⟨EC,1,none⟩=some (J k):=eW.facts.2.1.1 1;have g4:w7.drew.cell? ⟨EC,2,none⟩=some (J sq):=eW.facts.2.1.1 2;have g5:w7.drew.cell? ⟨y9,0,none⟩=some (J sq):=eW.facts.2.2.1.1 0;have g6:w7.drew.cell? ⟨y9,1,none⟩=some (Z Ab ds.length cb):=eW.facts.2.2.1.1 1;go_wp2_with fail;refine ED.mono ?_;rintro e w8 ⟨B,rfl,fD⟩;clear g0 g1 g2 g3 g4 g5 g6 ED eW;obtain⟨y12,wd,Xp,Hh,gy⟩:=fD.new' (o4 TO abl B ds.length).cells.toArray 218;have Hh:Hid (wd=w8.alloc (.cells #[J TO,J 1,J abl.k,J abl.ag,J abl.sh,J abl.sq,J abl.ep,Z B abl.ds.length ds.length,aX abl.se,J abl.fr,J abl.tg,(),(),ae ah 0,(),(),ay,(),()] 218)):=Hh;simp only[Sd.val,Sd.cells,o4,Ms.cells];go_wp2_with (at_builtin;refine stay ?_);refine dI ?_;rw[<-Hh.out,<-Xp.out];refine g_ AH rfl (.tmp 68) (.tmp 74) rfl rfl (gy.front 11 rfl) (A:=some ⟨y12,0,none⟩) (m:=1) (c:=1) (news:=(o4 TO abl B ds.length).cells) rfl (In.reads ((gy.blk 0 rfl).jL (size:=19) (n:=1) rfl)) (uH _) ap ?_;intro v' w9 iA;have kQ:=St.cnt (x:=⟨abl,B,ds.length⟩) (((((((iA.dO 1 rfl).dO 9 rfl).dO 8 rfl).dO 7 rfl).front 8 rfl).front 2 rfl).front 1 rfl) (o4 TO abl B ds.length) rfl ⟨rfl,rfl,rfl,rfl⟩;have ll:=(kQ.front 1 rfl).front 7 rfl;clear fD gy iA kQ;go_wp2_with fail;skip;refine⟨⟨j+1,y3.send id (t1,t2),q3++[o4 TO abl B ds.length],by go_num,⟨by omega,by rw[bd,bv];omega⟩,?_,⟨Vl.send _ _,(zq.send id (t:=(t1,t2)) (by dsimp only;omega)).mono ap⟩,ll.cast ?_⟩,by simp[intOf];omega⟩
         ·rw[<-uO.out,HTO.out,HE.out]
          unfold eS;rw[bI];rfl
         ·rw[bd,bL]
          simp;rfl
      ·have a0I:j=m:=by omega
       have dj:decide (j<m)=false:=aD hj;rw[show fl.drop j=[] from cH ap] at EB;have uO:=Xo.out;rw[<-EB] at uO;replace uO:=Q uO;replace a0I:=Q a0I;have fD:=MC.dO 0 rfl;have mn:M+4*k+j<=M+4*(k+1):=by omega
       go_wp2_with fail;exact⟨⟨k+1,y3,q3,by go_num,⟨by omega,by omega⟩,uO.out,⟨Vl,zq.mono mn⟩,fD⟩,by simp[intOf];omega⟩
    ·have Xq:k=4:=by omega
     subst Xq;rw[show (bV 4).drop 4=[] from rfl] at H9;have hT5:=hT1.out;rw[<-H9] at hT5;replace hT5:=Q hT5;have mn:M+4*4<=abp+17*(r+1):=by rw[HM.out];omega
     go_wp2_with fail;exact⟨⟨r+1,y2,q2,by go_num,⟨by omega,by omega⟩,by rw[show n-(r+1)=f by omega];exact hT5.out,⟨vr,a0E.mono mn⟩,hSk⟩,by simp[intOf];omega⟩
  ·have a5w:r=n:=by omega
   subst a5w;have dr:decide (r<r)=false:=aD (Nat.lt_irrefl r);rw[Nat.sub_self] at hT;have hT0:abm=(y,eS q):=hT.symm;replace hT0:=Q hT0;clear hT;go_wp2;go_ret;rw[hT0.out];obtain⟨r1,r2⟩:=(St.a0w hS).fin;exact⟨(_,q),⟨rfl,rfl⟩,r1,r2⟩
end Go.Proofs.YtpeepcmdehhbgaaGreatDoor
namespace Go.Proofs.YtpeepcmdehhbgaaGreatDoor
open RowKit Hop V
end Go.Proofs.YtpeepcmdehhbgaaGreatDoor
