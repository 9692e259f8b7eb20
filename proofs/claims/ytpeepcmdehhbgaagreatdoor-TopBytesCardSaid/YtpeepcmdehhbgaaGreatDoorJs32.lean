/- Rg7, Vg4, Mr1, Me1, Aq1, Ao1, Ao2, Ao3, Ao4. -/
import Derived.Test.YtpeepcmdehhbgaaGreatDoorJs31
set_option linter.all false
set_option maxRecDepth 100000
set_option maxHeartbeats 2000000
open Go.Value renaming int->ae,slice->Z,string->aX,bool->aY,agg->aZ,tuple->a_
open Go.Ending renaming returned->b5
open Go.IntKind renaming i64->af,u64->ah
open Go (J az aE aA aB aC aD ay aj am ap aw aL aK aJ aI aH aV aU aT aR aQ aP aO aN)
open Go.Proofs.Tryz renaming prog->W,underlying45->bG
open Go.Lib renaming hid->Q
open List renaming length_append->bd,perm_append_comm->bg,length_map->bj,length_take->bn,take_succ_eq_append_getElem->br,length_singleton->bv,set_cons_succ->bz,set_cons_zero->bA,length_cons->bD,getElem_mem->bF,flatMap_cons->bJ,flatMap_append->bL,length_drop->bO,map_cons->bQ,mem_of_mem_take->bW,nil_append->ch,length_nil->cx,cons_append->cD,mem_of_mem_drop->cX,length_filter_le->c_,length_range->da,take_length->dq
open Nat renaming le_refl->bh,lt_of_lt_of_le->bw,le_trans->bB
open Bool renaming eq_false_or_eq_true->bC
open Go renaming Value->K,World->X,Calls->dz,maxLen->dG
variable{w0 w:X}{sl:K}
namespace Go.Proofs.YtpeepcmdehhbgaaGreatDoor
open RowKit Hop V
theorem OG(leads:Bool)(own:Nat):∀(l:List En)(k:Nat)(x:j4)(out:List Sd),(∀e∈l,e.Ok)->AL (8*k) x->AL (8*(k+l.length)) (CJ leads own l k x out).1
 | [],_,_,_,_,h=>h
 | e::l,k,x,out,he,h=>by
   obtain⟨h8,pi⟩:=Oz (he e (by simp));have:=OG leads own l (k+1) (ei x e).2.2 (if leads&&decide (own<=k) then out++[rk e.fr e.tg (ei x e).1 (ei x e).2.1] else out) (λe' h'=>he e' (by simp[h'])) ((h.step e pi).more ap);rw[show k+(e::l).length=k+1+l.length by simp;omega];exact this
namespace Rp
variable{x:Rp}
theorem Ok.apply(h:x.Ok)(abp:Nat):(x.apply abp).1.Ok:=by have E:=h.commit;refine⟨h.s,?_,h.v,h.node,by have:=h.s.c.len;show max x.commit (min abp x.s.c.es.length)<=128;omega,h.lv⟩;have I:=OG x.leads x.own ((x.s.c.es.take abp).drop x.commit) x.commit x.m [] (λe he=>h.s.c.es e (bW (cX he))) h.m;rw[bO,bn] at I;exact I.more (by show 8*_<=8*max x.commit (min abp x.s.c.es.length);omega)
theorem Ok.down(h:x.Ok):x.down.Ok:=⟨h.s,h.m,λ_ h'=>(by cases h'),h.node,h.commit,λh'=>by cases h'⟩
theorem Ok.vote(h:x.Ok){v:Vt}(hv:v.Ok)(hn:v.nodes=x.nodes):Rp.Ok { x with v:=some v }:=⟨h.s,h.m,λv' h'=>by cases h';exact⟨hv,hn⟩,h.node,h.commit,λ_=>⟨_,rfl⟩⟩
theorem Ok.counted(h:x.Ok){v:Vt}(hv:x.v=some v)(i n:Nat):(x.counted v i n).1.Ok:=by obtain⟨I,G⟩:=h.v v hv;exact (h.vote (I.told i n) G).apply _
theorem Ok.word(h:x.Ok){s:Vs}(hs:s.Ok)(l:Bool)(o:Nat)(hl:l=true->∃v,x.v=some v):Rp.Ok { x with s:=s,leads:=l,own:=o }:=⟨hs,h.m,h.v,h.node,h.commit,hl⟩
end Rp
theorem Jo(leads:Bool)(own:Nat):∀(l:List En)(k:Nat)(x:j4)(out:List Sd),(CJ leads own l k x out).2.length<=out.length+l.length
 | [],_,_,_=>by simp[CJ]
 | e::l,k,x,out=>by
   have:=Jo leads own l (k+1) (ei x e).2.2 (if leads&&decide (own<=k) then out++[rk e.fr e.tg (ei x e).1 (ei x e).2.1] else out);simp only[CJ,bD];split at this;·rename_i hh;rw[aA hh];rw[bd,bv] at this;omega
   ·rename_i hh;rw[aB hh];omega
theorem nF(x:Rp)(Y:x.Ok)(v:Vt)(i n:Nat):(x.counted v i n).2.length<=128:=by unfold Rp.counted Rp.apply;rw[bj];refine bB (Jo _ _ _ _ _ _) ?_;have I:=Y.s.c.len;simp only[cx,bO,bn];omega
theorem nG(x:Rp)(Y:x.Ok):x.accepts.length<=8:=by unfold Rp.accepts tD;rw[bj];refine bB (c_ _ _) ?_;rw[da];exact Y.node.2
theorem Vs.kp{s s':Vs}(h:s.Ok){t:Nat}{l:List En}(ht:t<=9223372036854775807)(hl:∀e∈l,e.Ok)(he:s.accept t l=some s'):s'.Ok:=by
 unfold Vs.accept at he;split at he;·cases he
 ·rename_i I
  split at he;·cases he;exact h
  ·refine (Vs.Ok.keep h ?_ he).1
   unfold Vs.next;split;·exact⟨ht,ht,hl,by show l.length<=128;omega⟩
   ·exact⟨ht,h.c.h,h.c.es,h.c.len⟩
theorem GY(w:X)(D:aV)(s x d:Nat)(y:Vs)(TE:Nat)(A9:aU)(c9:Nat)(q9:List El)(hq9:jO w D A9 q9)(j6:∀b,D b->b<(w:Nat))(X_:∀x∈q9,x.e.Rt)(kh:∃x∈q9,¬ x.e.Ok)(hn9:q9.length<=128):Lw W D 121 #[s,J TE,Z A9 q9.length c9] [.o (qP s x d y)] (λ(_:Unit)e=>e=b5 (aY false)) (λ_=>[.o (qP s x d y)]) w:=by
 intro V hM hV;have hS:=St.begin_ hM (λb hb=>(hV b hb).1) ⟨gG.framed _ _ _ _ _ _ _ _,trivial⟩;obtain⟨A,c,q,hq,hS⟩:=GX hS;have E:=hS.facts;simp only[ik,cD,ch,ec,lY] at E;obtain⟨m,HM⟩:=az (q9.length);have a0e:m<=128:=by rw[HM.out];exact hn9
 have d3:decide ((m:Int) > 128)=false:=aD ap;have d3':decide ((128:Int)<(m:Int))=false:=aD ap;rw[<-HM.out];have fin:∀O,Grow w O->dN (px [.o (qP s x d y)]) O (iY V w O)∧dM V w O:=λO H=>(kJ (l:=[]) (hS.grow H) hq).fin;by_cases Vi:TE<y.c.t∨TE<1
 ·have hX:decide (TE<y.c.t)=true∨(decide (TE<y.c.t)=false∧decide ((TE:Int)<1)=true):=by
   simp only[decide_eq_true_eq,decide_eq_false_iff_not];omega
  clear Vi
  rcases hX with I|⟨I,G⟩
  all_goals
   go_in
   go_wp2
   go_ret
   obtain⟨r1,r2⟩:=fin _ (Grow.refl _)
   first|exact⟨(),rfl,r1,r2⟩|exact⟨rfl,r1,r2⟩
 have d1:decide (TE<y.c.t)=false:=aD ap;have d2:decide ((TE:Int)<1)=false:=aD ap;replace Vi:=Q Vi;go_in;go_wp2_with fail;clear E;go_loopw [29] (λi wr=>∃k:Nat,k<=m∧i=J k∧(∀x∈q9.take k,x.e.Ok)∧Grow w wr) (λi _=>m-(intOf i).toNat);case atStart=>exact⟨0,by omega,rfl,by simp,Grow.refl _⟩
 case round=>
  obtain⟨k,oL,rfl,fS,gP⟩:=hrel;by_cases N:k<m
  ·have ip:k<q9.length:=by have:=HM.out;omega
   have Iy:=hq9.grow gP;obtain⟨ad,vo,rfl,hVk,S3,e0,e1⟩:=Iy.1.mr ap pf ip;have jE:=Iy.2 _ (bF vo);have WN:=X_ _ (bF vo);have j9:q9[k].e.Ok->∀x∈q9.take (k+1),x.e.Ok:=λho x Y=>by
    rw[br vo] at Y;rcases List.mem_append.1 Y with Y|Y
    ·exact fS x Y
    ·rw[List.mem_singleton.1 Y];exact ho
   generalize q9[k]=b at jE e0 e1 WN j9;have m6:=λw1(eD:Grow wr w1)=>oy w1 b.e D b.A b.c WN (In.grow jE.1 eD);obtain⟨abq,HW⟩:=az (b.e.Ok);rw[<-HW.out] at m6 j9;clear WN;obtain⟨⟨bk,ag,sh,sq,ep,ds,se,fr,tg⟩,Ab,cb⟩:=b;dsimp only[El.cells,En.agg] at e0 e1 m6;have e1:=e1 0 _ rfl;have e0:=e0 _ rfl;have fu:=dT wr (.cells #[J bk,J ag,J sh,J sq,J ep,Z Ab ds.length cb,aX se,J fr,J tg] 40);have m6:=m6 _ fu;replace fS:=Q fS;replace j9:=Q j9;clear jE Iy;go_wp2_with fail;refine m6.mono ?_;rintro e w2 ⟨⟨abl,rfl,hE⟩,fk⟩;replace hE:=Q hE;by_cases h0:abl=0
   ·subst h0
    go_wp2_with fail;exact⟨⟨k+1,by omega,by go_num,j9.out (hE.out.1 (by trivial)),gP.trans (fu.trans fk)⟩,by simp[intOf];omega⟩
   ·have I:(abl != 0)=true:=by simp[h0]
    replace h0:=Q h0;go_wp2;go_ret;obtain⟨r1,r2⟩:=fin _ (gP.trans (fu.trans fk));first|exact⟨(),rfl,r1,r2⟩|exact⟨rfl,r1,r2⟩
  ·obtain rfl:k=m:=by omega
   rw[HM.out,dq] at fS;obtain⟨x,Y,h⟩:=kh;exact absurd (fS x Y) h
def kW(e:En):Ms:={ Ms.zero with k:=1,e:=e }
inductive Ms.Gd:Ms->Prop
 | ask (e:En) (h:e.Ok):Gd (kW e)
 | ans (tag code n:Nat) (I:tag<=9223372036854775807) (G:code<=255) (L:n<18446744073709551616):Gd (fx tag code n)
 | vD (t:Nat) (h:t<=9223372036854775807):Gd (jX t)
 | prom (t h:Nat) (l:List En) (I:t<=9223372036854775807) (G:h<=9223372036854775807) (L:∀e∈l,e.Ok) (h4:l.length<=128):Gd (i9 t h l)
 | acc (t:Nat) (l:List En) (c:Nat) (I:t<=9223372036854775807) (G:c<=128) (L:∀e∈l,e.Ok) (h4:l.length<=128):Gd (kR t l c)
 | Mq (t n:Nat) (I:t<=9223372036854775807) (G:n<=128):Gd (m8 t n)
def mH(m:Ms)(A:aU)(c:Nat)(A2:aU)(c2:Nat):Array K:=(m.cells A c A2 c2).toArray
def OH(m:Ms)(A:aU)(c:Nat)(A2:aU)(c2:Nat):Prop:=∀w,dz W 124 #[aZ (mH m A c A2 c2)] w λen O=>en=b5 (aY true)∧Grow w O
theorem oC(w:X)(D:aV)(m:Ms)(A:aU)(c:Nat)(A2:aU)(c2:Nat)(q:List El)(hZ:OH m A c A2 c2)(N:2<=m.k∧m.k<=6)(hr:0<=m.tag∧0<=m.term∧0<=m.had∧0<=m.commit∧0<=m.len∧0<=m.code∧m.code<=255∧m.commit<=128∧m.len<=128)
 (hq:jO w D A2 q) (kZ:q.map El.e=m.log) (gC:∀x∈q,x.e.Ok) (hl:q.length<=128):dz W 65 #[aZ (mH m A c A2 c2)] w λen O=>en=b5 (J 0)∧Grow w O:=by
 have hZ:=λ(w1:X)=>hZ w1;obtain⟨r1,r2,r3,r4,r5,r6,r7,r8,r9⟩:=hr;have d1:=aD (show ¬ m.k<1 by omega);have d2:=aD (show ¬ 6<m.k by omega);have d3:(m.k == 1)=false:=beq_eq_false_iff_ne.2 ap;have e1:=aD (show ¬ m.tag<0 by omega);have e2:=aD (show ¬ m.term<0 by omega);have e3:=aD (show ¬ m.had<0 by omega);have e4:=aD (show ¬ m.commit<0 by omega);have e5:=aD (show ¬ m.len<0 by omega);have e6:=aD (show ¬ m.code<0 by omega);have e7:=aD (show ¬ 255<m.code by omega);have e8:=aD (show ¬ 128<m.commit by omega);have e9:=aD (show ¬ 128<m.len by omega);clear r1 r2 r3 r4 r5 r6 r7 r8 r9 N;obtain⟨k,⟨ek,ag,sh,sq,ep,ds,se,fr,tg⟩,tag,code,n,term,had,log,commit,len⟩:=m;unfold mH Ms.cells at *;dsimp only at *;have wu:log.length=q.length:=by rw[<-kZ,bj]
 rw[wu] at hZ ⊢;clear kZ wu;obtain⟨abp,HN⟩:=az (q.length);have hl':abp<=128:=by rw[HN.out];exact hl
 have d4:decide ((128:Int)<(abp:Int))=false:=aD ap;rw[<-HN.out] at hZ ⊢;have hX:=eJ.made w 45 #[J k,J ek,J ag,J sh,J sq,J ep,Z A ds.length c,aX se,J fr,J tg,J tag,J code,ae ah n,J term,J had,Z A2 abp c2,J commit,J len];obtain⟨x,HX⟩:=az ((w:Nat):Nat);go_in;go_wp2_with (refine dU rfl 45 _ rfl _ rfl (hX) bG aw ?_);refine (hZ _).mono ?_;rintro e w1 ⟨rfl,H⟩;have jV:=hX.grow H;have fu:=(dT w _).trans H;rw[<-HX.out] at jV ⊢;have c0:=jV.cell 0;have c10:=jV.cell 10;have c11:=jV.cell 11;have c13:=jV.cell 13;have c14:=jV.cell 14;have c15:=jV.cell 15;have c16:=jV.cell 16;have c17:=jV.cell 17;clear hX hZ;go_wp2_with fail;clear c0 c10 c11 c13 c14 c15 c16 c17 jV;go_loopw [79] (λi wr=>∃k:Nat,k<=abp∧i=J k∧Grow w1 wr) (λi _=>abp-(intOf i).toNat);case atStart=>exact⟨0,by omega,rfl,Grow.refl _⟩
 case round=>
  obtain⟨j,Cw,rfl,gP⟩:=hrel;by_cases hj:j<abp
  ·have k7:j<q.length:=by have:=HN.out;omega
   have Iy:=hq.grow (fu.trans gP);obtain⟨ad,vo,rfl,hVk,S3,f0,f1⟩:=Iy.1.mr ap pf k7;have jE:=Iy.2 _ (bF vo);have re:=gC _ (bF vo);generalize q[j]=b at jE f0 f1 re;have m6:=λw1(eD:Grow wr w1)=>ju w1 b.e D b.A b.c re (In.grow jE.1 eD);obtain⟨⟨bk,ag,sh,sq,ep,ds,se,fr,tg⟩,Ab,cb⟩:=b;dsimp only[El.cells,En.agg] at f0 f1 m6;have g2:=f1 1 _ rfl;have g3:=f1 2 _ rfl;have g4:=f1 3 _ rfl;have g5:=f1 4 _ rfl;have g6:=f1 5 _ rfl;have g7:=f1 6 _ rfl;have g8:=f1 7 _ rfl;have g1:=f1 0 _ rfl;have g0:=f0 _ rfl;have mK:=dT wr (.cells #[J bk,J ag,J sh,J sq,J ep,Z Ab ds.length cb,aX se,J fr,J tg] 40);have m6:=m6 _ mK;clear jE re Iy f0 f1;go_wp2_with fail;refine m6.mono ?_;rintro e w2 ⟨rfl,fk⟩;go_wp2_with fail;exact⟨⟨j+1,by omega,by go_num,gP.trans (mK.trans fk)⟩,by simp[intOf];omega⟩
  ·obtain rfl:j=abp:=by omega
   go_wp2;go_ret;exact⟨rfl,fu.trans gP⟩
set_option maxRecDepth 100000
set_option maxHeartbeats 1000000
theorem OI(w:X)(A:aU)(c:Nat):dz W 100 #[Z A 0 c,ay] w λe O=>e=b5 (aY true)∧Grow w O:=by
 go_in;go_wp2_with fail;go_loopw [13] (λi wr=>i=J 0∧Grow w wr) (λ_ _=>0);case atStart=>exact⟨rfl,Grow.refl _⟩
 case round=>
  obtain⟨rfl,H⟩:=hrel;go_wp2;go_ret;exact⟨rfl,H⟩
theorem Eg(w:X)(A:aU)(c:Nat):dz W 223 #[Z A 0 c,ay,.func (.func 224) #[] #[]] w λe O=>e=b5 (aY true)∧Grow w O:=by
 go_in;go_wp2_with fail;go_loopw [17] (λi wr=>i=J 0∧Grow w wr) (λ_ _=>0);case atStart=>exact⟨rfl,Grow.refl _⟩
 case round=>
  obtain⟨rfl,H⟩:=hrel;go_wp2;go_ret;exact⟨rfl,H⟩
theorem WO(w:X)(A:aU)(c:Nat):dz W 162 #[Z A 0 c,ay] w λe O=>e=b5 (aY true)∧Grow w O:=by have hE:=Eg w A c;go_in;go_wp2_with fail;refine hE.mono ?_;rintro e w1 ⟨rfl,H⟩;go_wp2;go_ret;exact⟨rfl,H⟩
theorem WQ(w:X)(A:aU)(c:Nat):dz W 224 #[aZ #[(),(),(),(),(),Z A 0 c,"",(),()],aZ aK] w λe O=>e=b5 (aY true)∧Grow w O:=by have hE:=λw=>OI w A c;have fu:=(dT w (.cells #[(),(),(),(),(),Z A 0 c,"",(),()] 40)).trans (dT _ (.cells aK 40));have Y:=eJ.made w 40 #[(),(),(),(),(),Z A 0 c,"",(),()];have hy:=eJ.made (w.alloc (.cells #[(),(),(),(),(),Z A 0 c,"",(),()] 40)) 40 aK;have Y:=Y.alloc (.cells aK 40);rw[fp] at hy;go_in;go_wp2_with fail;refine (hE _).mono ?_;rintro e w1 ⟨rfl,H⟩;have rI:=Y.grow H;have vw:=hy.grow H;have a6:=rI.cell 6;have a7:=rI.cell 7;have a8:=rI.cell 8;have b6:=vw.cell 6;have b7:=vw.cell 7;have b8:=vw.cell 8;go_wp2;go_ret;exact⟨rfl,fu.trans H⟩
theorem wm(w:X)(A:aU)(c:Nat)(A2:aU)(c2:Nat):dz W 184 #[aZ #[(),(),(),(),(),(),Z A 0 c,"",(),(),(),(),ae ah 0,(),(),Z A2 0 c2,(),()],aZ aJ] w λe O=>e=b5 (aY true)∧Grow w O:=by have fu:=(dT w (.cells #[(),(),(),(),(),(),Z A 0 c,"",(),(),(),(),ae ah 0,(),(),Z A2 0 c2,(),()] 45)).trans (dT _ (.cells aJ 45));have Y:=(eJ.made w 45 #[(),(),(),(),(),(),Z A 0 c,"",(),(),(),(),ae ah 0,(),(),Z A2 0 c2,(),()]).alloc (.cells aJ 45);have hy:=eJ.made (w.alloc (.cells #[(),(),(),(),(),(),Z A 0 c,"",(),(),(),(),ae ah 0,(),(),Z A2 0 c2,(),()] 45)) 45 aJ;rw[fp] at hy;go_in;go_wp2_with fail;refine (WQ _ A c).mono ?_;rintro e w1 ⟨rfl,H⟩;have rI:=Y.grow H;have vw:=hy.grow H;have a0:=rI.cell 0;have a10:=rI.cell 10;have a11:=rI.cell 11;have a12:=rI.cell 12;have a13:=rI.cell 13;have a14:=rI.cell 14;have a15:=rI.cell 15;have a16:=rI.cell 16;have a17:=rI.cell 17;have b0:=vw.cell 0;have b10:=vw.cell 10;have b11:=vw.cell 11;have b12:=vw.cell 12;have b13:=vw.cell 13;have b14:=vw.cell 14;have b15:=vw.cell 15;have b16:=vw.cell 16;have b17:=vw.cell 17;go_wp2_with fail;refine (WO _ A2 c2).mono ?_;rintro e w2 ⟨rfl,fk⟩;have lw:=rI.grow fk;have vr:=vw.grow fk;clear a0 b0 a10 b10 a11 b11 a12 b12 a13 b13 a14 b14 a15 b15 a16 b16 a17 b17;have a0:=lw.cell 0;have a10:=lw.cell 10;have a11:=lw.cell 11;have a12:=lw.cell 12;have a13:=lw.cell 13;have a14:=lw.cell 14;have a15:=lw.cell 15;have a16:=lw.cell 16;have a17:=lw.cell 17;have b0:=vr.cell 0;have b10:=vr.cell 10;have b11:=vr.cell 11;have b12:=vr.cell 12;have b13:=vr.cell 13;have b14:=vr.cell 14;have b15:=vr.cell 15;have b16:=vr.cell 16;have b17:=vr.cell 17;go_wp2;go_ret;exact⟨rfl,fu.trans (H.trans fk)⟩
theorem OJ{m:Ms}(h:m.Gd)(A:aU)(c:Nat)(A2:aU)(c2:Nat):OH m A c A2 c2:=by
 intro w;unfold mH Ms.cells;cases h;case ask e _=>
  obtain⟨k,ag,sh,sq,ep,ds,se,fr,tg⟩:=e;dsimp only[kW,Ms.zero,En.zero,cx];go_in;go_wp2_with (refine dU rfl 45 _ rfl _ rfl (eJ.made w 45 _) bG aw ?_);refine (wm _ none 0 A2 c2).mono ?_;rintro e w1 ⟨rfl,H⟩;go_wp2;go_ret;exact⟨rfl,Below.trans (dT w _) (H.mono (by rw[fp];omega))⟩
 case ans|vD|Mq=>
  all_goals
   dsimp only[fx,jX,i9,kR,m8,Ms.zero,En.zero,cx]
   go_in
   go_wp2_with (refine dU rfl 45 _ rfl _ rfl (eJ.made w 45 _) bG aw ?_)
   refine (wm _ A c A2 c2).mono ?_
   rintro e w1 ⟨rfl,H⟩
   go_wp2
   go_ret
   exact⟨rfl,Below.trans (dT w _) (H.mono (by rw[fp];omega))⟩
 case prom|acc=>
  all_goals
   dsimp only[fx,jX,i9,kR,m8,Ms.zero,En.zero,cx]
   go_in
   go_wp2_with (refine dU rfl 45 _ rfl _ rfl (eJ.made w 45 _) bG aw ?_)
   refine (wm _ A c none 0).mono ?_
   rintro e w1 ⟨rfl,H⟩
   go_wp2
   go_ret
   exact⟨rfl,Below.trans (dT w _) (H.mono (by rw[fp];omega))⟩
theorem vj(w:X)(e:En)(V:aV)(A:aU)(c:Nat)(A2:aU)(cc2:Nat)(gC:e.Ok)(hd:jM w V A e.ds.length e.ds):dz W 65 #[aZ (mH (kW e) A c A2 cc2)] w λen O=>en=b5 (J 0)∧Grow w O:=by have T:=λ(w1:X)(H:Grow w w1)=>ju w1 e V A c gC (In.grow hd H);have hZ:=λ(w1:X)=>OJ (.ask e gC) A c A2 cc2 w1;unfold mH Ms.cells kW Ms.zero at hZ ⊢;obtain⟨k,ag,sh,sq,ep,ds,se,fr,tg⟩:=e;unfold En.agg at T;dsimp only[cx] at hZ T ⊢;have hX:=eJ.made w 45 #[J 1,J k,J ag,J sh,J sq,J ep,Z A ds.length c,aX se,J fr,J tg,(),(),ae ah 0,(),(),Z A2 0 cc2,(),()];obtain⟨x,HX⟩:=az ((w:Nat):Nat);go_in;go_wp2_with (refine dU rfl 45 _ rfl _ rfl (hX) bG aw ?_);refine (hZ _).mono ?_;rintro e w1 ⟨rfl,H⟩;have jV:=hX.grow H;have fu:=(dT w _).trans H;rw[<-HX.out] at jV ⊢;have c0:=jV.cell 0;have c1:=jV.cell 1;have c2:=jV.cell 2;have c3:=jV.cell 3;have c4:=jV.cell 4;have c5:=jV.cell 5;have c6:=jV.cell 6;have c7:=jV.cell 7;have c8:=jV.cell 8;have c9:=jV.cell 9;have c10:=jV.cell 10;have c11:=jV.cell 11;have c13:=jV.cell 13;have c14:=jV.cell 14;have c15:=jV.cell 15;have c16:=jV.cell 16;have c17:=jV.cell 17;have T:=T w1 fu;clear hX hZ gC hd;go_wp2_with fail;refine T.mono ?_;rintro e w2 ⟨rfl,fk⟩;go_wp2;go_ret;exact⟨rfl,fu.trans fk⟩
theorem Eh(w:X)(D:aV)(m:Ms)(A:aU)(c:Nat)(A2:aU)(c2:Nat)(q:List El)(h:m.Gd)(he:jM w D A m.e.ds.length m.e.ds)(hq:jO w D A2 q)(kZ:q.map El.e=m.log):dz W 65 #[aZ (mH m A c A2 c2)] w λen O=>en=b5 (J 0)∧Grow w O:=by
 have hZ:=OJ h A c A2 c2;have fj:q.length=m.log.length:=by rw[<-kZ,bj]
 have m9:∀x∈q,x.e∈m.log:=λx Y=>by rw[<-kZ];exact List.mem_map.2 ⟨x,Y,rfl⟩
 cases h with
 | ask e h=>
   exact vj w e D A c A2 c2 h he
 | ans tag code n I G L=>
   exact oC w D _ A c A2 c2 q hZ (by simp[fx]) (by simp[fx,Ms.zero];omega) hq kZ (λx Y=>absurd (m9 x Y) (by simp[fx,Ms.zero])) (by rw[fj];simp[fx,Ms.zero])
 | vD t h=>exact oC w D _ A c A2 c2 q hZ (by simp[jX]) (by simp[jX,Ms.zero]) hq kZ (λx Y=>absurd (m9 x Y) (by simp[jX,Ms.zero])) (by rw[fj];simp[jX,Ms.zero])
 | prom t h l I G L h4=>exact oC w D _ A c A2 c2 q hZ (by simp[i9]) (by simp[i9,Ms.zero]) hq kZ (λx Y=>L _ (m9 x Y)) (by rw[fj];exact h4)
 | acc t l cm I G L h4=>exact oC w D _ A c A2 c2 q hZ (by simp[kR]) (by simp[kR,Ms.zero];omega) hq kZ (λx Y=>L _ (m9 x Y)) (by rw[fj];exact h4)
 | Mq t n I G=>exact oC w D _ A c A2 c2 q hZ (by simp[m8]) (by simp[m8,Ms.zero];omega) hq kZ (λx Y=>absurd (m9 x Y) (by simp[m8,Ms.zero])) (by rw[fj];simp[m8,Ms.zero])
theorem ln(w:X)(D:aV)(m:Ms)(A:aU)(c:Nat)(A2:aU)(c2:Nat)(q:List El)(h:m.Gd)(_:m.k≠1->A=none∧c=0)(_:m.k≠4->m.k≠5->A2=none∧c2=0)(he:jM w D A m.e.ds.length m.e.ds)(hq:jO w D A2 q)(kZ:q.map El.e=m.log):dz W 65 #[aZ (mH m A c A2 c2)] w λen O=>en=b5 (J 0)∧Grow w O:=Eh w D m A c A2 c2 q h he hq kZ
theorem GZ(w:X)(e:En)(V:aV)(A:aU)(c:Nat)(gC:e.Ok)(hd:jM w V A e.ds.length e.ds):dz W 65 #[aZ (S5 e A c)] w λen O=>en=b5 (J 0)∧Grow w O:=vj w e V A c none 0 gC hd
theorem OL(w:X)(tag code:Int)(n:Nat):OH (fx tag code n) none 0 none 0:=by intro w;show dz W 124 #[aZ (jc tag code n)] w _;unfold jc;go_in;go_wp2_with (refine dU rfl 45 _ rfl _ rfl (eJ.made w 45 _) bG aw ?_);refine (wm _ none 0 none 0).mono ?_;rintro e w1 ⟨rfl,H⟩;go_wp2;go_ret;exact⟨rfl,Below.trans (dT w _) (H.mono (by rw[fp];omega))⟩
theorem yj(w:X)(tag code:Int)(n:Nat)(ht:0<=tag)(E:0<=code∧code<=255):dz W 65 #[aZ (jc tag code n)] w λen O=>en=b5 (J 0)∧Grow w O:=oC w (λ_=>False) (fx tag code n) none 0 none 0 [] (OL w tag code n) (by simp[fx]) (by simp[fx,Ms.zero];omega) jO.nil rfl (by simp) (by simp)
def CL(u:K)(xs:List (List UInt8)):dW:=λw V=>∃(A:aU)(c:Nat)(q:List Bx),u=Z A q.length c∧IR w V V A q.length q∧q.map Bx.bs=xs∧q.length<=c∧c<=dG
theorem CL.framed(u:K)(xs:List (List UInt8)):eu (CL u xs):=λw O V ⟨A,c,q,I,G,L⟩ N=>⟨A,c,q,I,⟨In.keep G.row λb hb _=>N b hb,λb hb=>⟨In.keep (G.all b hb).bs λx Y _=>N x Y,(G.all b hb).le,(G.all b hb).max⟩⟩,L⟩
def jK(d:Nat)(l:aT)(k:Nat):dW:=g9 120 d l k
theorem jK.framed(d:Nat)(l:aT)(k:Nat):eu (jK d l k):=g9.framed _ _ _ _
structure OpI where
 (x:Nat) (u:K) (xs:List (List UInt8)) (j:Nat)
theorem OM(w:X)(D:aV)(d k:Nat)(l:aT):Lw W D 113 #[d] [.o (jK d l k)] (λ(i:OpI)e=>l8 l i.xs i.j∧e=b5 (a_ #[.pointer (some ⟨i.x,0,none⟩),i.u])) (λi=>[.o (eC i.x d (i.xs.length:Int) (l.take i.j) i.j),.o (CL i.u i.xs)]) w:=by
 intro V hM hV;have hS:=St.begin_ hM (λb hb=>(hV b hb).1) ⟨jK.framed _ _ _,trivial⟩;obtain⟨U,hU,_⟩:=hS.own.see 0 rfl;have hl:l.length<=1048576:=(show g9 120 d l k w U from hU).2.2.1;have a0h:=vU w d l k U hU;go_in;go_wp2_with fail;refine a0h.mono ?_;rintro e w1 ⟨v1,rfl,kv,eD⟩;obtain⟨A1,c1,rfl,lT,oK,ry⟩:=kv.reads;have ej:=hS.grow eD;go_wp2_with fail;refine (Ni w1 A1 l.length c1 l lT oK ry ap).mono ?_;rintro e w2 ⟨xs,j,u,hs,rfl,hX,fk⟩;have Ix:j<=l.length:=by rw[hs.2.1,<-hs.1,bd];omega
 obtain⟨A2,c2,q,rfl,lS,hq,Z2,iO⟩:=hX;have dV:=ej.join (CL.framed (Z A2 q.length c2) xs) fk (U:=New w1 w2) ⟨A2,c2,q,rfl,lS,hq,Z2,iO⟩ (λb hb=>hb);clear kv lT a0h;go_wp2_with fail;refine (dV.Fo 1 rfl (λ_=>jK.framed d (l.take j) j) dV.no (λU' _ _=>Lw.turns (IJ w2 d l k j Ix))).mono ?_;rintro e w3 ⟨_,rfl,dX⟩;go_wp2;go_ret2;have eO:=dX.new #[d,J q.length] 278;have eF:St V w ([.c (w3:Nat) 278 #[d,J q.length],.o (jK d (l.take j) j)]++[.o (CL (Z A2 q.length c2) xs)]) _:=eO.perm (.cons _ (.swap _ _ _));have eN:=eF.cls (eC.framed (w3:Nat) d (xs.length:Int) (l.take j) j) (λU' Va=>by obtain⟨U1,U2,⟨I,G⟩,L,k1,k2,k3⟩:=Va;obtain⟨U3,U4,h4,_,k4,_⟩:=L;refine⟨k1 _ I,?_,g9.wide h4 λb hb=>⟨k2 b (k4 b hb),λe=>k3 b (e▸I) (k4 b hb)⟩⟩;rw[<-hq,bj];exact G)
 obtain⟨r1,r2⟩:=eN.fin;exact⟨⟨(w3:Nat),_,xs,j⟩,⟨hs,rfl⟩,r1,r2⟩
end Go.Proofs.YtpeepcmdehhbgaaGreatDoor
section
namespace Go.Hop
open Go.RowKit
section
variable{κ α:Type}[DecidableEq κ]
def qR(q:List (κ×α))(k:κ):Option α:=(q.find? λp=>decide (p.1=k)).map (·.2)
def si(q:List (κ×α))(k:κ)(v:α):List (κ×α):=if k∈q.map Prod.fst then q.map (λp=>if p.1=k then (k,v) else p) else q++[(k,v)]
def gV(q:List (κ×α))(k:κ):List (κ×α):=q.filter λp=>decide (p.1≠k)
def gB(f:α->K)(q:List (κ×α)):List (κ×K):=q.map λp=>(p.1,f p.2)
theorem yk(f:α->K)(q:List (κ×α)):(gB f q).map Prod.fst=q.map Prod.fst:=by unfold gB;rw[List.map_map];rfl
theorem tE(f:α->K)(q:List (κ×α))(k:κ):uk (gB f q) k=(qR q k).map f:=by
 unfold uk qR gB;induction q with
 | nil=>rfl
 | cons p q ih=>
   simp only[bQ,List.find?_cons];cases h:decide (p.1=k);·exact ih
   ·rfl
theorem uL(f:α->K)(q:List (κ×α))(k:κ)(v:α):l9 (gB f q) k (f v)=gB f (si q k v):=by
 unfold l9 si;rw[yk];split
 ·unfold gB
  rw[List.map_map,List.map_map];congr 1;funext p;simp only[Function.comp];split<;>rfl
 ·unfold gB;simp
theorem mI(f:α->K)(q:List (κ×α))(k:κ):lD (gB f q) k=gB f (gV q k):=by unfold lD gV gB;rw[List.filter_map];rfl
end
end Go.Hop
namespace Go.Proofs.YtpeepcmdehhbgaaGreatDoor
open Go.RowKit Go.Hop V
abbrev lp:=Int×Int×Int
structure Ag where
 (node eX:Nat) (b:Bk) (now tag last:Nat) (tr:List (lp×(Nat×Nat))) (ask:List (Int×lp)) (rs:List Rc) (k:Nat)
def rm(rs:List Rc):List UInt8:=rs.flatMap λr=>frame r.B
theorem oD(rs:List Rc)(r:Rc):rm (rs++[r])=rm rs++frame r.B:=by simp[rm]
def Ag.bs(x:Ag):List UInt8:=rm x.rs
def rn(t:Nat×Nat):K := aZ #[J t.1,J t.2]
structure vE where
 (a st x d bT bK:Nat) (z:aQ)
def qm(p:vE)(x:Ag):Array K:=#[J x.node,J x.eX,.pointer (some ⟨p.x,0,none⟩),.pointer (some ⟨p.st,0,none⟩),J x.now,J x.tag,J x.last,.map (some p.bT),.map (some p.bK)]
def dR(p:vE)(x:Ag):List Bl:=[.c p.a 192 (qm p x),.o (iq p.st p.z x.b),.o (eC p.x p.d x.rs.length x.bs x.k),.o (eI o0 p.bK (gB iK x.ask)),.o (eI iK p.bT (gB rn x.tr))]
theorem fB(p:vE)(x:Ag):pF (dR p x):=⟨trivial,iq.framed _ _ _,eC.framed _ _ _ _ _,eI.framed _ _,eI.framed _ _,trivial⟩
structure Ag.Ok(x:Ag):Prop where
 node:x.node<8
 eX:1<=x.eX∧x.eX<=8
 last:x.last<x.eX
 b:x.b.Lm x.rs.length
 sh:1<=x.b.sh∧x.b.sh<=4
 bs:x.bs.length<=1048576
 rs:∀r∈x.rs,r.Ok
 qk:∀k,0<=(x.b.qu k).k∧(x.b.qu k).k<=9223372036854775807
theorem Ca:∀l:List Rc,5*l.length<=(rm l).length
 | []=>bh _
 | x::l=>by
   have:=Ca l;have:=oW x.B;simp only[rm,bJ,bd,bD] at *;omega
theorem Ag.Ok.few{x:Ag}(h:x.Ok):x.rs.length<=209715:=by have I:=Ca x.rs;have G:=h.bs;unfold Ag.bs at G;omega
def Ag.sync(x:Ag):Ag:={ x with k:=x.bs.length }
def Ag.i6(x:Ag)(r:Rc):Int:=V.i6 x.bs r.B
theorem qS(w:X)(D:aV)(x d n k:Nat)(l b:aT)(u:K)(hb:eM b u w)(hn:n<=1099511627776):Lw W D 241 #[x,u] [.o (eC x d n l k)] (λ(_:Unit)e=>e=b5 (J (V.i6 l b))) (λ_=>[.o (eC x d (if V.i6 l b=0 then n+1 else n:Nat) (V.zg l b) k)]) w:=by obtain⟨A,m,c,rfl,K8,_⟩:=hb;have h:=Lw.turns (D:=D) (va w x d n l k A m c b K8 ap);rw[show ((if V.i6 l b=0 then n+1 else n:Nat):Int)=if V.i6 l b=0 then (n:Int)+1 else (n:Int) by split<;>simp];exact h
theorem mJ{l b:aT}(h:V.i6 l b=0):V.zg l b=l++frame b∧room l b=true:=by
 rcases bC (room l b) with I|I
 ·exact⟨((mG l b).1 I).2,I⟩
 ·have:=((mG l b).2 I).1
  rw[h] at this;cases this
theorem tF{l b:aT}(h:V.i6 l b≠0):V.zg l b=l∧room l b=false:=by
 rcases bC (room l b) with I|I
 ·exact absurd ((mG l b).1 I).1 h
 ·exact⟨((mG l b).2 I).2,I⟩
theorem Jp(w:X)(D:aV)(p:vE)(x:Ag):Lw W D 221 #[.pointer (some ⟨p.a,0,none⟩)] (dR p x) (λ(_:Unit)e=>e=b5 (a_ #[])) (λ_=>dR p x.sync) w:=by intro V hM hV;have hS:=St.begin_ hM (λb hb=>(hV b hb).1) (fB _ _);have E:=hS.facts.1;simp only[qm] at E;go_in;go_wp2_with fail;refine (hS.Fo 2 rfl (λ_=>eC.framed _ _ _ _ _) hS.no (λU _ _=>Lw.turns (um w p.x p.d _ x.bs x.k))).mono ?_;rintro e w1 ⟨_,rfl,ej⟩;go_wp2;go_end0;obtain⟨r1,r2⟩:=ej.fin;exact⟨(),rfl,r1,r2⟩
end Go.Proofs.YtpeepcmdehhbgaaGreatDoor
end
namespace Go.Proofs.YtpeepcmdehhbgaaGreatDoor
open RowKit Hop V
theorem _root_.Go.Hop.St.cast{V:aV}{l l':List Bl}(h:St V w0 l w)(e:l=l'):St V w0 l' w:=e▸h
section
variable{V:aV}{O:X}{l:List Bl}{st:Nat}{z:aQ}{b:Bk}
theorem iq.nH(h:St V w0 l w)(i:Nat)(hi:l[i]?=some (.o (iq st z b))):(z.length=4∧b.q.length=4)∧∃sl cu,St V w0 (l.eraseIdx i++gQ st z sl cu b) w:=by obtain⟨I,sl,cu,G⟩:=iq.opn (h.front i hi);exact⟨I,sl,cu,G.perm bg⟩
theorem iq.yl{cu:K}(hz:z.length=4∧b.q.length=4)(h:St V w0 (l++gQ st z sl cu b) w):St V w0 (.o (iq st z b)::l) w:=iq.cls hz (h.perm bg)
theorem WR{U:aV}(h:iq st z b w U)(hl:b.ZT)(s:aR)(x:Nat)(hs:s.size<=1000000)(Y:x<=18446744073709551615):dz W 278 #[st,aZ #[aX s,ae ah x]] w λe O=>e=b5 (J (iV b.eP (s,x)))∧Grow w O:=by obtain⟨_,sl,cu,hM⟩:=h;obtain⟨_,hB⟩:=xe hM 0 rfl;obtain⟨U',T,_⟩:=nV hM 1 rfl;obtain⟨A,c,rfl,hI,_⟩:=Row.jL (show Row w U' 147 2 sl b.eP.length (fm b.eP) from T);exact NZ w st A b.eP.length c b.eP U' hI (hB.cell 1) hB.lt (by have:=hl.eP;omega) hl.u64 s x hs Y
end
def Ag.fX(x:Ag)(d:Dl):Ag×Int:=if iV x.b.eP d≠0 then (x,iV x.b.eP d) else if x.i6 (.eP d)≠0 then (x,x.i6 (.eP d)) else ({ x with b:={ x.b with eP:=x.b.eP++[d] },rs:=x.rs++[.eP d] },0)
theorem Ls(w:X)(D:aV)(p:vE)(x:Ag)(Y:x.Ok)(s:aR)(n:Nat)(hs:s.size<=1000000)(hn:n<=18446744073709551615):Lw W D 217 #[.pointer (some ⟨p.a,0,none⟩),aX s,ae ah n] (dR p x) (λ(_:Unit)e=>e=b5 (J (x.fX (s,n)).2)) (λ_=>dR p (x.fX (s,n)).1) w:=by
 obtain⟨R,HR⟩:=az (x.fX (s,n));rw[<-HR.out];intro V hM hV;have Uc:=Y.b.lim (by have:=Y.few;omega);obtain⟨y,wa,HY,HA,hS⟩:=(St.begin_ hM (λb hb=>(hV b hb).1) (fB _ _)).new' #[aX s,ae ah n] 147;have gD:∀b O,St V w (.c y 147 #[aX s,ae ah n]::.c p.a 192 (qm p x)::b) O->O.cell? ⟨p.a,3,none⟩=some (.pointer (some ⟨p.st,0,none⟩))∧O.cell? ⟨p.a,2,none⟩=some (.pointer (some ⟨p.x,0,none⟩))∧O.cell? ⟨y,0,none⟩=some (aX s)∧O.cell? ⟨y,1,none⟩=some (ae ah n):=λb O h=>
  ⟨h.facts.2.1.1 3,h.facts.2.1.1 2,h.facts.1.1 0,h.facts.1.1 1⟩
 go_in;go_wp2_with fail;rw[<-HA.out,<-HY.out];have eW:=hS.grow (Grow.refl _).drew;have eA:=gD _ _ eW;refine dJ rfl ?_;refine fC (λO=>O.cell? ⟨p.a,3,none⟩=some (.pointer (some ⟨p.st,0,none⟩))∧O.cell? ⟨p.a,2,none⟩=some (.pointer (some ⟨p.x,0,none⟩))∧O.cell? ⟨y,0,none⟩=some (aX s)∧O.cell? ⟨y,1,none⟩=some (ae ah n)) [] 7 rfl [0,1,2,3,4] ?_;iterate 5 (refine eV rfl eA (λw1 ⟨I,G,L,h4⟩=>aM) ?_)
 refine eZ 5 [6] rfl ?_;obtain⟨U,hU,_⟩:=eW.own.see 2 rfl;have YC:=WR hU Uc s n hs hn;obtain⟨abl,HE⟩:=az (iV x.b.eP (s,n));rw[<-HE.out] at YC;have jJ:R=if abl≠0 then (x,abl) else if x.i6 (.eP (s,n))≠0 then (x,x.i6 (.eP (s,n))) else ({ x with b:={ x.b with eP:=x.b.eP++[(s,n)] },rs:=x.rs++[.eP (s,n)] },0):=by rw[HR.out,HE.out];rfl
 clear HR;go_wp2_with fail;refine YC.mono ?_;rintro e w1 ⟨rfl,eD⟩;have ej:=eW.grow eD;have kM:=gD _ _ ej;clear eW hS eA hU YC;go_wp2_with fail;refine⟨λ_=>kM,?_⟩;refine eV rfl kM (λw1 ⟨I,G,L,h4⟩=>aM) ?_;refine gj ?_;by_cases h0:abl=0;case neg=>
  rw[aA h0] at jJ;have Mc:(abl != 0)=true:=by simp[h0]
  replace h0:=Q h0;replace jJ:=Q jJ;go_wp2;go_ret;rw[jJ.out];obtain⟨r1,r2⟩:=(ej.dO 0 rfl).fin;exact⟨(),rfl,r1,r2⟩
 case pos=>
 rw[aB (by simp[h0])] at jJ;have a0i:jh (s,n):=by
  have I:=(wi (HE.out.symm.trans h0)).2;have G:abn.fW s=0:=by simp[gZ] at I;exact I.1
  exact⟨I,jt G,by show n<_;omega⟩
 have hl31:=(wi (HE.out.symm.trans h0)).1;subst h0;clear HE;replace jJ:=Q jJ;go_wp2_with fail;have eW:=ej.grow (Grow.refl _).drew;have lV:=gD _ _ eW;refine dJ rfl ?_;refine fC (λO=>O.cell? ⟨p.a,3,none⟩=some (.pointer (some ⟨p.st,0,none⟩))∧O.cell? ⟨p.a,2,none⟩=some (.pointer (some ⟨p.x,0,none⟩))∧O.cell? ⟨y,0,none⟩=some (aX s)∧O.cell? ⟨y,1,none⟩=some (ae ah n)) [] 8 rfl [0,1,2,3,4] ?_;iterate 5 (refine eV rfl lV (λw1 ⟨I,G,L,h4⟩=>aM) ?_)
 refine eZ 5 [] rfl ?_;have hSm:=D_ w1.drew s n a0i.2;go_wp2_with fail;refine hSm.mono ?_;rintro e w2 ⟨u,rfl,fk,vz⟩;have dV:=eW.grow fk;have lV:=gD _ _ dV;obtain⟨Au,mu,cu,rfl,ON⟩:=id vz;go_wp2_with fail;refine⟨λ_=>lV,?_⟩;refine eZ 6 [7] rfl ?_;go_wp2_with fail;refine (dV.Fo 3 rfl (λ_=>eC.framed _ _ _ _ _) dV.no (λU _ _=>qS w2 _ p.x p.d x.rs.length x.k x.bs (Rc.eP (s,n)).B _ vz (by have:=Y.few;omega))).mono ?_;rintro e w3 ⟨_,rfl,dX⟩;obtain⟨E2,HE2⟩:=az (x.i6 (.eP (s,n)));have Ff:i6 x.bs (Rc.eP (s,n)).B=E2:=HE2.out.symm;rw[Ff] at dX ⊢;have jJ:=jJ.out;rw[<-HE2.out] at jJ;simp only[bz,bA,dR] at dX;have sy:=gD _ _ dX;clear eW dV ej lV kM;by_cases I:E2=0;case neg=>
  rw[aA I] at jJ;rw[(tF (by rw[Ff];exact I)).1,aB I] at dX;have Mc:(E2 != 0)=true:=by simp[I]
  replace I:=Q I;replace jJ:=Q jJ;clear Ff HE2;go_wp2_with fail;refine⟨λ_=>sy,?_⟩;refine eV rfl sy (λw1 ⟨I,G,L,h4⟩=>aM) ?_;refine gj ?_;go_wp2;go_ret;rw[jJ.out];obtain⟨r1,r2⟩:=(dX.dO 0 rfl).fin;exact⟨(),rfl,r1,r2⟩
 case pos=>
 rw[aB (by simp[I])] at jJ;rw[(mJ (Ff.trans I)).1,aA I] at dX;subst I;replace jJ:=Q jJ;clear Ff HE2;go_wp2_with fail;refine⟨λ_=>sy,?_⟩;refine eV rfl sy (λw1 ⟨I,G,L,h4⟩=>aM) ?_;refine gj ?_;obtain⟨hz,sl,cu2,eO⟩:=iq.nH dX 2 rfl;obtain⟨A1,c1,rfl,_,_⟩:=fK.nW eO 6 rfl;go_wp2_with fail;have eW:=eO.grow (Grow.refl _).drew;have hcT:∀r b O,St V w (.c y 147 #[aX s,ae ah n]::.c p.a 192 (qm p x)::r) O->St V w (.c p.st 186 (Fp p.z (Z A1 x.b.eP.length c1) cu2 x.b)::b) O->(O.cell? ⟨p.a,3,none⟩=some (.pointer (some ⟨p.st,0,none⟩))∧O.cell? ⟨p.st,1,none⟩=some (Z A1 x.b.eP.length c1)∧O.cell? ⟨y,0,none⟩=some (aX s)∧O.cell? ⟨y,1,none⟩=some (ae ah n)):=λr b O h G=>⟨h.facts.2.1.1 3,G.facts.1.1 1,h.facts.1.1 0,h.facts.1.1 1⟩;have q_:=hcT _ _ _ eW (eW.front 5 rfl);refine dJ rfl ?_;refine fC (λO=>O.cell? ⟨p.a,3,none⟩=some (.pointer (some ⟨p.st,0,none⟩))∧O.cell? ⟨p.st,1,none⟩=some (Z A1 x.b.eP.length c1)∧O.cell? ⟨y,0,none⟩=some (aX s)∧O.cell? ⟨y,1,none⟩=some (ae ah n)) [14,15,16] 17 rfl [0,1,2,3,4,5,6,7,8,9,10,11] ?_;iterate 12 (refine eV rfl q_ (λw1 ⟨I,G,L,h4⟩=>aM) ?_)
 refine eZ 12 [] rfl ?_;obtain⟨y2,wb,xL,HB,eF⟩:=eO.new' #[aX s,ae ah n] 147;go_wp2_with fail;rw[<-HB.out,<-xL.out];have eN:=eF.grow (Grow.refl _).drew;refine⟨λ_=>hcT _ _ _ (eN.dO 0 rfl) (eN.front 6 rfl),?_⟩;refine eZ 13 [] rfl ?_;refine g_ oQ rfl (.tmp 42) (.tmp 44) rfl rfl (eN.front 7 rfl) (A:=some ⟨y2,0,none⟩) (m:=1) (c:=1) (news:=[aX s,ae ah n]) rfl (In.reads ((eN.blk 0 rfl).jL (size:=2) (n:=1) rfl)) (by simp[Value.oneCell']) ap ?_;intro v' w8 fD;obtain⟨A8,c8,rfl,hc8,hm8⟩:=fK.nW fD 0 rfl;refine wpList_nil ⟨λ_=>hcT _ _ _ ((fD.dO 0 rfl).dO 0 rfl) (fD.front 7 rfl),?_⟩;refine fY 14 rfl aw ?_;have hf8:=(fD.front 7 rfl).facts.1;simp only[Fp] at hf8;go_wp2_with fail;have gy:=(((fD.put 7 rfl 1 (Z A8 (x.b.eP.length+1) c8)).dO 1 rfl).dO 1 rfl);go_ret;rw[jJ.out];have iA:=iq.yl (b:={ x.b with eP:=x.b.eP++[(s,n)] }) (sl := Z A8 (x.b.eP.length+1) c8) (cu:=cu2) (l:=[.c p.a 192 (qm p x),.o (eC p.x p.d (x.rs.length+1:Nat) (x.bs++frame (Rc.eP (s,n)).B) x.k),.o (eI o0 p.bK (gB iK x.ask)),.o (eI iK p.bT (gB rn x.tr))]) hz (by unfold gQ fm;dsimp only;rw[bd,bL];exact gy.back 5)
 have kQ:=(iA.back 1).cast (l':=dR p { x with b:={ x.b with eP:=x.b.eP++[(s,n)] },rs:=x.rs++[.eP (s,n)] }) (by unfold dR Ag.bs;dsimp only;rw[oD,bd];rfl)
 obtain⟨r1,r2⟩:=kQ.fin;exact⟨(),rfl,r1,r2⟩
def G_(x d n k:Nat)(l b:aT)(abl:Int):dW:=if abl=0 then eC x d (n+1:Nat) (l++frame b) (l++frame b).length else eC x d n l k
theorem Ei(x d n k:Nat)(l b:aT)(abl:Int):eu (G_ x d n k l b abl):=by unfold G_;split<;>exact eC.framed _ _ _ _ _
theorem OO(w:X)(D:aV)(x d n k:Nat)(l b:aT)(u:K)(hb:eM b u w)(hn:n<=1099511627776):Lw W D 183 #[x,u] [.o (eC x d n l k)] (λ(_:Unit)e=>e=b5 (J (i6 l b))) (λ_=>[.o (G_ x d n k l b (i6 l b))]) w:=by
 intro V hM hV;have hS:=St.begin_ hM (λb hb=>(hV b hb).1) ⟨eC.framed _ _ _ _ _,trivial⟩;have hA:=hS.Fo 0 rfl (λ_=>eC.framed _ _ _ _ _) hS.no (λU _ _=>qS w _ x d n k l b u hb hn);obtain⟨Au,mu,cu,rfl,_⟩:=hb;have r0:=@mJ l b;have r1:=@tF l b;obtain⟨abl,HE⟩:=az (i6 l b);rw[<-HE.out] at hA r0 r1 ⊢;obtain⟨abm,HT⟩:=az (G_ x d n k l b abl);rw[<-HT.out];clear HE;go_in;go_wp2_with fail;refine hA.mono ?_;rintro e w1 ⟨_,rfl,ej⟩;by_cases h:abl=0
 ·rw[aA h,(r0 h).1] at ej
  have hT:abm=eC x d (n+1:Nat) (l++frame b) (l++frame b).length:=by rw[HT.out];unfold G_;rw[aA h]
  clear r0 r1 hA HT;subst h;replace hT:=Q hT;go_wp2_with fail;refine (ej.Fo 0 rfl (λ_=>eC.framed _ _ _ _ _) ej.no (λU _ _=>Lw.turns (um w1 x d ((n+1:Nat):Int) (l++frame b) k))).mono ?_;rintro e w2 ⟨_,rfl,dV⟩;go_wp2;go_ret;obtain⟨k1,k2⟩:=dV.fin;exact⟨(),rfl,by rw[hT.out];exact k1,k2⟩
 ·rw[aB h,(r1 h).1] at ej
  have hT:abm=eC x d n l k:=by rw[HT.out];unfold G_;rw[aB h]
  have hE:(abl == 0)=false:=beq_eq_false_iff_ne.2 h;clear r0 r1 hA HT;replace hT:=Q hT;replace h:=Q h;go_wp2;go_ret;obtain⟨k1,k2⟩:=ej.fin;exact⟨(),rfl,by rw[hT.out];exact k1,k2⟩
def Ag.next(x:Ag)(i:lp):Ag:={ x with tag:=x.tag+1,ask:=si x.ask ((x.tag+1:Nat):Int) i }
theorem Jq(w:X)(D:aV)(p:vE)(x:Ag)(ht:x.tag<=4611686018427387904)(i:lp):Lw W D 285 #[.pointer (some ⟨p.a,0,none⟩),iK i] (dR p x) (λ(_:Unit)e=>e=b5 (J ((x.tag+1:Nat):Int))) (λ_=>dR p (x.next i)) w:=by
 obtain⟨R,HR⟩:=az (x.next i);rw[<-HR.out];obtain⟨k0,k1,k2⟩:=i;intro V hM hV;have fN:=St.begin_ hM (λb hb=>(hV b hb).1) (fB _ _);have E:=(fN.new #[J k0,J k1,J k2] 37).facts.2.1;simp only[qm] at E;obtain⟨y,wa,HY,HA,hS⟩:=fN.new' #[J k0,J k1,J k2] 37;unfold iK;obtain⟨abm,HT⟩:=az (x.tag+1:Nat);have hT:IntKind.i64.wrap ((x.tag:Int)+1)=(abm:Int):=by rw[HT.out,IntKind.wrap_i64];omega
 go_in;go_wp2_with fail;rw[<-HA.out,<-HY.out];have ej:=hS.put 1 rfl 5 (J abm);generalize wa.setCell ⟨p.a,5,none⟩ (J abm)=w1 at ej;clear E HA HY hT;have eW:=ej.grow (Grow.refl _).drew;have eA:w1.drew.cell? ⟨p.a,8,none⟩=some (.map (some p.bK))∧w1.drew.cell? ⟨p.a,5,none⟩=some (J abm)∧w1.drew.cell? ⟨y,0,none⟩=some (J k0)∧w1.drew.cell? ⟨y,1,none⟩=some (J k1)∧w1.drew.cell? ⟨y,2,none⟩=some (J k2):=by have hf:=eW.facts;exact⟨hf.2.1.1 8,hf.2.1.1 5,hf.1.1 0,hf.1.1 1,hf.1.1 2⟩
 refine dJ rfl ?_;refine fC (λO=>O.cell? ⟨p.a,8,none⟩=some (.map (some p.bK))∧O.cell? ⟨p.a,5,none⟩=some (J abm)∧O.cell? ⟨y,0,none⟩=some (J k0)∧O.cell? ⟨y,1,none⟩=some (J k1)∧O.cell? ⟨y,2,none⟩=some (J k2)) [9] 10 rfl [0,1,2,3,4,5,6,7,8] ?_;iterate 9 (refine eV rfl eA (λw1 ⟨I,G,L,h4,h5⟩=>aM) ?_)
 refine fY 9 rfl aw ?_;obtain⟨w2,eR,dV⟩:=eW.VR Og Tryz.underlying190 4 rfl (abm:Int) (iK (k0,k1,k2));unfold o0 iK at eR;clear eA;have C9:w2.cell? ⟨p.a,5,none⟩=some (J abm):=dV.facts.2.1.1 5;go_wp2;go_ret;have dX:=(dV.dO 0 rfl).cast (l':=dR p R) (by rw[HR.out];unfold dR Ag.next qm;dsimp only;rw[<-uL,HT.out];rfl)
 obtain⟨r1,r2⟩:=dX.fin;first|exact⟨(),by rw[HT.out];rfl,r1,r2⟩|exact⟨by rw[HT.out];rfl,r1,r2⟩
theorem OP(w:X)(D:aV)(p:vE)(x:Ag):Lw W D 92 #[.pointer (some ⟨p.a,0,none⟩)] (dR p x) (λ(_:Unit)e=>e=b5 (J x.b.eP.length)) (λ_=>dR p x) w:=by intro V hM hV;have hS:=St.begin_ hM (λb hb=>(hV b hb).1) (fB _ _);obtain⟨_,sl,cu,ej⟩:=iq.nH hS 1 rfl;obtain⟨A,c,rfl,_⟩:=fK.nW ej 5 rfl;have E:=hS.facts.1;have hb:=(ej.front 4 rfl).facts.1;simp only[qm] at E;simp only[Fp] at hb;go_in;go_wp2;go_ret;obtain⟨r1,r2⟩:=hS.fin;exact⟨(),rfl,r1,r2⟩
def Ag.pH(x:Ag)(k:Nat)(ds:List Dl):Rc := .pH k ((x.b.qu k).k+1).toNat ds
def Ag.kx(x:Ag)(k:Nat)(ds:List Dl):Option Ag:=if 16<=(x.b.qu k).l.length∨(x.b.qu k).k=9223372036854775807∨x.i6 (x.pH k ds)≠0 then none else some { x with b:=x.b.add k ((x.b.qu k).k+1) ds,rs:=x.rs++[x.pH k ds] }
def zo(p:vE)(y:Nat)(sq:Int)(sl:K)(w:X):Prop:=(w.cell? ⟨p.a,2,none⟩=some (.pointer (some ⟨p.x,0,none⟩))∧w.cell? ⟨p.a,3,none⟩=some (.pointer (some ⟨p.st,0,none⟩)))∧w.cell? ⟨y,0,none⟩=some (J sq)∧w.cell? ⟨y,1,none⟩=some sl
theorem zo.of{V:aV}{p:vE}{x:Ag}{y:Nat}{sq:Int}{l:List Bl}(h:St V w0 (.c y 196 #[J sq,sl]::.c p.a 192 (qm p x)::l) w):zo p y sq sl w:=⟨⟨h.facts.2.1.1 2,h.facts.2.1.1 3⟩,h.facts.1.1 0,h.facts.1.1 1⟩
theorem WT(w:X)(D:aV)(p:vE)(x:Ag)(Y:x.Ok)(k:Nat)(N:k<4)(ds:List Dl)(A:aU)(c:Nat)(hd:jM w D A ds.length ds)(vt:ds.length<=c)(iO:c<=dG)(tS:ds.length<=8)(sB:∀d∈ds,Small d)(j6:∀b,D b->b<(w:Nat)):Lw W D 282 #[.pointer (some ⟨p.a,0,none⟩),J k,Z A ds.length c] (dR p x) (λ(_:Unit)e=>e=b5 (aY (x.kx k ds).isSome)) (λ_=>dR p ((x.kx k ds).getD x)) w:=by
 obtain⟨R,HR⟩:=az (x.kx k ds);rw[<-HR.out];intro V hM hV;have kV:∀x,D x->x<(w:Nat)∧¬ V x:=λx Y=>⟨j6 x Y,λh=>(hV x h).2 Y⟩;have hS:=St.begin_ hM (λb hb=>(hV b hb).1) (fB _ _);obtain⟨hz,sl,cu,ej⟩:=iq.nH hS 1 rfl;obtain⟨g,Hg⟩:=az (p.z.getD k 0);obtain⟨ql,qk,Hq⟩:∃ql qk,Hid (x.b.qu k=⟨ql,qk⟩):=⟨_,_,Q rfl⟩;have hqu:(n_ p.z x.b.q)[k]?=some (.o (abo.eh g ql qk)):=by rw[lh hz.1 hz.2 N,Hg.out];have:=Hq.out;unfold Bk.qu at this;rw[this]
 have Iy:0<=qk∧qk<=9223372036854775807:=by have:=Y.qk k;rw[Hq.out] at this;exact this
 have a4W:x.pH k ds=.pH k (qk+1).toNat ds:=by unfold Ag.pH;rw[Hq.out]
 have K5:(Fp p.z sl cu x.b)[3+k]?=some ((g:K)):=by
  have h4:k=0∨k=1∨k=2∨k=3:=by omega
  rw[Hg.out];rcases h4 with rfl|rfl|rfl|rfl<;>rfl
 have hca:w.cell? ⟨p.a,3,none⟩=some (.pointer (some ⟨p.st,0,none⟩)):=hS.facts.1.1 3;have jQ:w.cell? ⟨p.st,3+k,none⟩=some ((g:K)):=((ej.front 4 rfl).facts.1.1 (3+k)).trans K5;have jJ:R=if 16<=ql.length∨qk=9223372036854775807∨x.i6 (.pH k (qk+1).toNat ds)≠0 then none else some { x with b:=x.b.add k (qk+1) ds,rs:=x.rs++[.pH k (qk+1).toNat ds] }:=by rw[HR.out];unfold Ag.kx;rw[a4W,Hq.out]
 obtain⟨U,hQ,_⟩:=ej.own.see (k+7) (iD (show (_:List Bl)[k+7]?=some (.o (abo.eh g ql qk)) from hqu));have UP:=uG w g ql qk U hQ;obtain⟨sq,HSQ⟩:=az (IntKind.i64.wrap (qk+1):Int);obtain⟨y,wa,HY,HA,dV⟩:=ej.new' #[J sq,Z A ds.length c] 196;have YU:=zo.of dV;clear hQ;go_in;go_wp2_with fail;refine UP.mono ?_;rintro e w1 ⟨rfl,rfl⟩;replace jJ:=Q jJ;have a4X:IntKind.i64.wrap (qk+1)=sq:=HSQ.out.symm;go_wp2_with fail;rw[<-HA.out,<-HY.out];clear hca jQ UP;have eW:=dV.grow (Grow.refl _).drew;have eA:=zo.of eW;obtain⟨U,hQ,_⟩:=eW.own.see (k+8) (iD (show (_:List Bl)[k+8]?=some (.o (abo.eh g ql qk)) from hqu));have Me:=abo.Rs wa.drew g ql qk U hQ;have UP:=uG wa.drew g ql qk U hQ;clear hQ;have fin:∀O,St V w (.c y 196 #[J sq,Z A ds.length c]::.c p.a 192 (qm p x)::.o (eC p.x p.d x.rs.length x.bs x.k)::.o (eI o0 p.bK (gB iK x.ask))::.o (eI iK p.bT (gB rn x.tr))::gQ p.st p.z sl cu x.b) O->dN (px (dR p x)) O (iY V w O)∧dM V w O:=λO h=>
  (((iq.yl (l:=[.c y 196 #[J sq,Z A ds.length c],.c p.a 192 (qm p x),.o (eC p.x p.d x.rs.length x.bs x.k),.o (eI o0 p.bK (gB iK x.ask)),.o (eI iK p.bT (gB rn x.tr))]) hz h).dO 1 rfl).back 1).fin
 refine dJ rfl ?_;refine fC (zo p y sq (Z A ds.length c)) [] 19 rfl [0] ?_;refine eV rfl eA (λw1 h=>aM) ?_;refine eZ 1 [2,3] rfl ?_;go_wp2_with fail;refine Me.mono ?_;rintro e w1 ⟨rfl,rfl⟩;go_wp2_with fail;refine⟨λ_=>eA,?_⟩;by_cases h16:16<=ql.length
 ·have d16:decide ((ql.length:Int) >= 16)=true:=aC ap
  have hR0:Hid (R=none):=Q (by rw[jJ.out,aA (.inl h16)]);iterate 2 (refine eV rfl eA (λw1 h=>aM) ?_)
  refine vX [4,5,6,7,8,9,10,11,12,13,14,15,16,17,18] ?_;iterate 3 (refine Ru rfl eA ?_)
  iterate 2 (refine eV rfl eA (λw1 h=>aM) ?_)
  iterate 9 (refine Ru rfl eA ?_)
  refine eV rfl eA (λw1 h=>aM) ?_;refine gj ?_;go_wp2;go_ret;rw[hR0.out];obtain⟨r1,r2⟩:=fin _ eW;first|exact⟨(),rfl,r1,r2⟩|exact⟨rfl,r1,r2⟩
 have d16:decide ((ql.length:Int) >= 16)=false:=aD ap;iterate 2 (refine eV rfl eA (λw1 h=>aM) ?_)
 refine vX [4] ?_;refine eV rfl eA (λw1 h=>aM) ?_;refine eZ 5 [6,7,8] rfl ?_;go_wp2_with fail;refine UP.mono ?_;rintro e w1 ⟨rfl,rfl⟩;go_wp2_with fail;refine⟨λ_=>eA,?_⟩;by_cases Bb:qk=9223372036854775807
 ·have hR0:Hid (R=none):=Q (by rw[jJ.out,aA (.inr (.inl Bb))])
  have dmx:(qk == 9223372036854775807)=true:=by rw[Bb];rfl
  replace Bb:=Q Bb;iterate 3 (refine eV rfl eA (λw1 h=>aM) ?_)
  refine vX [9,10,11,12,13,14,15,16,17,18] ?_;iterate 9 (refine Ru rfl eA ?_)
  refine eV rfl eA (λw1 h=>aM) ?_;refine gj ?_;go_wp2;go_ret;rw[hR0.out];obtain⟨r1,r2⟩:=fin _ eW;first|exact⟨(),rfl,r1,r2⟩|exact⟨rfl,r1,r2⟩
 have dmx:(qk == 9223372036854775807)=false:=beq_eq_false_iff_ne.2 Bb;obtain⟨s',rfl,vQ,z6⟩:∃s':Nat,sq=(s':Int)∧s'<=9223372036854775807∧qk+1=(s':Int):=⟨(qk+1).toNat,by rw[HSQ.out,IntKind.wrap_i64];omega,by omega,by omega⟩;have jJ:Hid (R=if x.i6 (.pH k s' ds)≠0 then none else some { x with b:=x.b.add k s' ds,rs:=x.rs++[.pH k s' ds] }):=Q (by
  rw[jJ.out,z6,show ((s':Int)).toNat=s' by omega];by_cases he:x.i6 (.pH k s' ds)=0;·rw[aB (by simp[h16,Bb,he]),aB (by simp[he])]
  ·rw[aA (.inr (.inr he)),aA he])
 clear a4X;replace Bb:=Q Bb;iterate 3 (refine eV rfl eA (λw1 h=>aM) ?_)
 refine vX [9,10,11,12,13,14] ?_;iterate 6 (refine eV rfl eA (λw1 ⟨⟨I,G⟩,L,h4⟩=>aM) ?_)
 refine eZ 15 [] rfl ?_;have hB:=Gy wa.drew k s' A ds.length c ds D (In.keep hd λb hb _=>eW.keep kV b hb) tS ap vQ sB;go_wp2_with fail;refine hB.mono ?_;rintro e w2 ⟨u,rfl,fk,vz⟩;have dX:=eW.grow fk;obtain⟨Au,mu,cu2,rfl,ON⟩:=id vz;go_wp2_with fail;refine⟨λ_=>zo.of dX,?_⟩;refine eZ 16 [17,18] rfl ?_;go_wp2_with fail;refine (dX.Fo 2 rfl (λ_=>eC.framed _ _ _ _ _) dX.no (λU _ _=>qS w2 _ p.x p.d x.rs.length x.k x.bs (Rc.pH k s' ds).B _ vz (by have:=Y.few;omega))).mono ?_;rintro e w3 ⟨_,rfl,eO⟩;obtain⟨E2,HE2⟩:=az (x.i6 (.pH k s' ds));have Ff:i6 x.bs (Rc.pH k s' ds).B=E2:=HE2.out.symm;rw[Ff] at eO ⊢;have jJ:=jJ.out;rw[<-HE2.out] at jJ;simp only[bz,bA] at eO;have q_:=zo.of eO;clear eW dX eA Me UP;by_cases I:E2=0;case neg=>
  rw[aA I] at jJ;rw[(tF (by rw[Ff];exact I)).1,aB I] at eO;have Mc:(E2 != 0)=true:=by simp[I]
  replace I:=Q I;replace jJ:=Q jJ;clear Ff HE2;go_wp2_with fail;refine⟨λ_=>q_,?_⟩;iterate 2 (refine eV rfl q_ (λw1 h=>aM) ?_)
  refine gj ?_;go_wp2;go_ret;rw[jJ.out];obtain⟨r1,r2⟩:=fin _ eO;first|exact⟨(),rfl,r1,r2⟩|exact⟨rfl,r1,r2⟩
 case pos=>
 rw[aB (by simp[I])] at jJ;rw[(mJ (Ff.trans I)).1,aA I] at eO;subst I;replace jJ:=Q jJ;clear Ff HE2 fin;go_wp2_with fail;refine⟨λ_=>q_,?_⟩;iterate 2 (refine eV rfl q_ (λw1 h=>aM) ?_)
 refine gj ?_;have eF:=(iq.yl (l:=[.c y 196 #[J s',Z A ds.length c],.c p.a 192 (qm p x),.o (eC p.x p.d (x.rs.length+1:Nat) (x.bs++frame (Rc.pH k s' ds).B) x.k),.o (eI o0 p.bK (gB iK x.ask)),.o (eI iK p.bT (gB rn x.tr))]) hz eO).back 2;have eW:=eF.grow (Grow.refl _).drew;have C9:=zo.of eW;go_wp2_with fail;refine dJ rfl ?_;refine fC (zo p y s' (Z A ds.length c)) [] 7 rfl [0,1,2,3,4,5] ?_;iterate 6 (refine eV rfl C9 (λw1 ⟨⟨I,G⟩,L,h4⟩=>aM) ?_)
 refine eZ 6 [] rfl ?_;have Uc:=Y.b.lim (by have:=Y.few;omega);go_wp2_with fail;refine (eW.Fo 2 rfl (λ_=>iq.framed _ _ _) (St.far kV) (λU _ jR=>O2 _ (λz=>U z∨D z) p.st p.z x.b k N (s':Int) ds A c (In.mono (In.keep hd λb hb _=>eW.keep kV b hb) λ_ h => .inr h) vt iO ap (λz hz=>hz.elim (jR z) λh=>bw (j6 z h) eW.size) (by have:=Uc.eP;omega) (by have:=Uc.cuts;omega))).mono ?_;rintro e w6 ⟨_,rfl,eN⟩;go_wp2_with fail;refine⟨λ_=>zo.of eN,?_⟩;refine gj ?_;go_wp2;go_ret;rw[jJ.out];have fH:=(eN.dO 0 rfl).cast (l':=dR p { x with b:=x.b.add k s' ds,rs:=x.rs++[.pH k s' ds] }) (by unfold dR Ag.bs;dsimp only;rw[oD,show (x.rs++[Rc.pH k s' ds]).length=x.rs.length+1 by simp];rfl)
 obtain⟨r1,r2⟩:=fH.fin;first|exact⟨(),rfl,r1,r2⟩|exact⟨rfl,r1,r2⟩
end Go.Proofs.YtpeepcmdehhbgaaGreatDoor
