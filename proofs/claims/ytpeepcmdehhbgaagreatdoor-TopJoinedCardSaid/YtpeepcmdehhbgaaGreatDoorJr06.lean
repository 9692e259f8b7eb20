/- So9, Tj1, Tj2, Tj3. -/
import Derived.Test.YtpeepcmdehhbgaaGreatDoorJr05
import Derived.Laws.Bits128
set_option linter.all false
set_option maxRecDepth 100000
open Go.Value renaming int->ae,slice->Y,string->aX,bool->aY,agg->aZ,tuple->a_
open Go.Ending renaming returned->b5
open Go.IntKind renaming i64->af,u64->ah
open Go (J az aE aA aB aC aD ay aj am ap aw aL aK aJ aI aH aV aU aT aR aQ aP aO aN)
open Go.Proofs.Tryz renaming prog->N
open Go.Lib renaming hid->Q
open List renaming length_append->bd,perm_append_comm->bg,length_map->bj,eq_nil_of_length_eq_zero->bv,map_append->bM
open Nat renaming le_of_ble_eq_true->bf,le_refl->bh,zero_le->bo,min_eq_left->cF
open Go renaming World->G,Calls->dF
open Go.Proofs.YtpeepcmdehhbgaaGreatDoor (En WS jy lZ)
variable{n B aeq Bd k g1 g2 g3 g4 m:Nat}{p:WS}{tr:List (lZ×(Nat×Nat))}{es:List En}{ms:jy}{node:Int}{ns:aQ}{w0 w:G}
namespace Go.Proofs.YtpeepcmdehhbgaaGreatDoor
open RowKit Hop V
def SA.a4b{a:Ag}{eW ds:List Dl}{gs:aQ}{g:Nat}(h:SA a n eW [((n:Int),ds)] tr (wk n gs) B)(XZ:∀z∈tr,z.1=l5 n)(H:g∈gs)(oX:1<=n)(hn:n<1000000)(hB:B<=1000000){code:Nat}(hc:code=1∨code=2∨code=3):SA (a.took 0 g code) n eW [] [] [] (B+100):=by
 obtain⟨r1,r2⟩:=yj (a:=a) (r := .dn 0 n) h.bs hB (SP ap);have l9:∀z∈wk n gs,z.2=l5 n:=λz hz=>by obtain⟨k,_,rfl⟩:=List.mem_map.1 hz;rfl
 have vi:a.jO g=l5 n:=by
  unfold Ag.jO;rw[h.ask];cases hf:r_ (wk n gs) (g:Int) with
  | none=>
    unfold r_ at hf;rw[Option.map_eq_none_iff,List.find?_eq_none] at hf;exact absurd (hf ((g:Int),l5 n) (List.mem_map.2 ⟨g,H,rfl⟩)) (by simp)
  | some i=>
    obtain⟨z,hz,rfl⟩:=Er hf;exact l9 z hz
 have kr:l5 n≠(0,0,0):=λe=>by have:(1:Int)=0:=congrArg (·.1) e;omega
 have h6:code≠6:=by omega
 have Is:a.took 0 g code=Ag.fin { a with ask:=ij a.ask (g:Int),last:=0 } 1 0 n:=by unfold Ag.took;dsimp only;rw[vi,aB kr,aB h6,aA hc];rfl
 rw[Is];have EL:Ag.put { a with ask:=ij a.ask (g:Int),last:=0 } (.dn 0 n)={ a with ask:=ij a.ask (g:Int),last:=0,rs:=a.rs++[.dn 0 n] }:=by unfold Ag.put;exact aA r1
 unfold Ag.fin;rw[EL];have qJ:aes.ra (a.b.qu 0).l (n:Int)=[]:=by rw[h.SS];unfold aes.ra aes.uq;simp
 refine⟨h.node,h.f9,rfl,h.ep,h.eW,h.sh,?_,?_,?_,r2⟩
 ·show a.b.q.set 0 ⟨aes.ra (a.b.qu 0).l (n:Int),(a.b.qu 0).k⟩=_
  rw[qJ,h.SS,h.q];rfl
 ·show ij a.tr ((1:Int),(0:Int),(n:Int))=_
  rw[h.tr];unfold ij;rw[List.filter_eq_nil_iff];intro z hz;simp[XZ z hz,l5]
 ·show xF (ij a.ask (g:Int)) ((1:Int),(0:Int),(n:Int))=_
  rw[h.ask];unfold xF;rw[List.filter_eq_nil_iff];intro z hz;have:=l9 z (Ag.Al hz);simp[this,l5]
def oE{d:Dr}(node:Int){ev:Ev}{x1:Wl}(I:(d.x.lu 0).1=ev)(Z:(d.x.lu 0).2=x1)(hw:ev.why=0):∃v,d.step node=⟨d.n+1,x1,d.s.add 2 ev,v⟩:=⟨_,step_eq I Z hw⟩
def EH(h:p.1.net.length=0):xH p=p:=by obtain⟨x,t⟩:=p;rw[KE,m8 (-1) (d:=⟨0,x,t,none⟩) h]
namespace SW
variable{x:Wl}{eW:List Dl}{q:List aes.Ab}{ask:List (Int×lZ)}{rest:List Lt3}
def a0j{d:Dr}{l:Lt3}{rest:List Lt3}(h:d.x.net=l::rest):fh node (k+1) d=fh node k (d.step node):=rL node k (by rw[h];simp)
theorem lead(h:SW x es ms aeq Bd n eW q tr ask B [])(qE:Bd<=1000000)(hn:es.length<=51)(hT:aeq<1000000):SW (x.gY 0) es ms (aeq+1) (Bd+36000) n eW q tr ask B []:=by
 obtain⟨I,Z⟩:=h.rp.again qE hn hT;have X:x.gY 0=x.rF 0 ((x.rp 0).lead).1:=by show (x.rF 0 ((x.rp 0).lead).1).send 0 ((x.rp 0).lead).2=_;rw[Z];rfl
 rw[X];refine⟨h.nr,h.na,h.cut,h.net,?_,h.ag⟩;show SR (at_ x.rp 0 ((x.rp 0).lead).1 0) _ _ _ _;rw[ox];exact I
theorem mH(h:SW x es ms aeq Bd n eW q tr ask B []):SW (x.mH 0 1) es ms aeq Bd n eW q tr ask B []:=by
 have ht:(x.rp 0).ticks=[]:=by unfold Rp.ticks;rw[aA h.rp.leads];unfold Rp.accepts;rw[h.rp.node,h.rp.nodes];rfl
 refine⟨h.nr,h.na,h.cut,?_,h.rp,h.ag⟩;show iL (x.nr+x.na) 0 x.net (x.rp 0).ticks=_;rw[ht,h.net];rfl
def D7(h:SW x es ms aeq Bd n [] q tr ask B rest):SW (x.gi 0) es ms aeq Bd n [] q tr ask B rest:=h.jQ h.ag.Md.1
def T3(h:SW x es ms aeq Bd n eW [] tr ask B [])(r:Nat):SW (x.jR 0 r) es ms aeq Bd n eW [] tr ask B []:=by obtain⟨I,Z⟩:=h.ag.Hk r [];have:=h.jQ I;unfold Wl.jR;rw[Z];exact this
theorem idle(h:SW x es ms aeq Bd n [] [] tr ask B rest):x.idle=true:=by
 unfold Wl.idle;rw[h.na];show ((x.ag 0).idle&&true)=true;have I:(x.ag 0).b.eW.length=0:=by rw[h.ag.eW];rfl
 have Z:(x.ag 0).queued=[]:=by unfold Ag.queued;show (((x.ag 0).b.qu 0).l.map _++(((x.ag 0).b.qu 1).l.map _++(((x.ag 0).b.qu 2).l.map _++(((x.ag 0).b.qu 3).l.map _++[]))))=[];rw[h.ag.SS,h.ag.quk (k:=1) (by simp),h.ag.quk (k:=2) (by simp),h.ag.quk (k:=3) (by simp)];rfl
 unfold Ag.idle;rw[I,Z];rfl
def a0k{d:Dl}(h:SW x es ms aeq Bd n eW q tr ask B [])(hd:DS d)(hn:1<=n∧n<=1000000)(H:g1<=9223372036854775807∧g2<=9223372036854775807∧g3<=9223372036854775807∧g4<=9223372036854775807):SW (x.send (x.nr+0) (EG n d [g1,g2,g3,g4])) es ms aeq Bd n eW q tr ask B [(1,0,gH (mI n d g1)),(1,0,gH (mI n d g2)),(1,0,gH (mI n d g3)),(1,0,gH (mI n d g4))]:=by
 refine⟨h.nr,h.na,h.cut,?_,h.rp,h.ag⟩;have f:∀g,g<=9223372036854775807->lJ (gH (mI n d g))=true:=λg H=>H8 (EF hd ⟨hn.1,by omega⟩ H);show iL (x.nr+x.na) (x.nr+0) x.net (EG n d [g1,g2,g3,g4])=_;rw[h.net,h.nr,h.na];have hs:∀(g:Nat)(b:List Lt3)(l:Sends),g<=9223372036854775807->b.length<64->iL (1+1) (1+0) b (((0:Int),gH (mI n d g))::l)=iL (1+1) (1+0) (b++[(1,0,gH (mI n d g))]) l:=λg b l H hb=>by show iL (1+1) (1+0) (if lJ (gH (mI n d g))=true∧_∧b.length<64 then _ else _) l=_;rw[aA ⟨f g H,(by decide:(0:Int)<=0∧(0:Int)<((1+1:Nat):Int)),hb⟩];rfl
 show iL (1+1) (1+0) [] [((0:Int),gH (mI n d g1)),((0:Int),gH (mI n d g2)),((0:Int),gH (mI n d g3)),((0:Int),gH (mI n d g4))]=_;rw[hs g1 _ _ H.1 am,hs g2 _ _ H.2.1 (by simp),hs g3 _ _ H.2.2.1 (by simp),hs g4 _ _ H.2.2.2 (by simp)];rfl
def go_step{d d':Dr}{l:Lt3}{rest:List Lt3}(h:d.x.net=l::rest)(hs:d.step node=d'):fh node (k+1) d=fh node k d':=by rw[a0j h,hs]
def four{d:Dl}{c:Nat}{ms':jy}(h:SW x es ms aeq Bd n eW [((n:Int),[d])] tr (wk n [g1,g2,g3,g4]) B [(1,0,gH (mI n d g1)),(1,0,gH (mI n d g2)),(1,0,gH (mI n d g3)),(1,0,gH (mI n d g4))])(XZ:∀z∈tr,z.1=l5 n)(hd:DS d)(hn:1<=n∧n<1000000)(hB:B<=1000000)(qE:Bd<=900000)(EZ:es.length<=40)
 (H:g1<=9223372036854775807∧g2<=9223372036854775807∧g3<=9223372036854775807∧g4<=9223372036854775807) (hc:ey ms (mI n d 0)=((c:Int),0,ms')) (tP:c=1∨c=2∨c=3) {c2:Nat} (mL:ey ms' (mI n d 0)=((c2:Int),0,ms')) (sD:c2<=255) (t:ja):SW (xH (x,t)).1 (es++[mI n d g1]++[mI n d g2]++[mI n d g3]++[mI n d g4]) ms' aeq (Bd+72000) n eW [] [] [] (B+100) []∧(xH (x,t)).2=t.told c (l5 n) 0:=by
 have ok:∀g,g<=9223372036854775807->Oy (mI n d g):=λg H=>EF hd ⟨hn.1,by omega⟩ H;have s1:∀g,ey ms (mI n d g)=((c:Int),0,ms'):=λg=>(Hc ms n d g).trans hc;have s2:∀g,ey ms' (mI n d g)=((c2:Int),0,ms'):=λg=>(Hc ms' n d g).trans mL;have a8Q:c<=255:=by omega
 obtain⟨e1,w1⟩:=h.Az (show 3<=62 by decide) ap ap (ok g1 H.1) rfl rfl H.1 (c:=c) (by rw[s1]) a8Q (m:=0) (by rw[s1]) am;rw[s1] at w1;obtain⟨x1,EV⟩:=aE ((x.lu 0).2);rw[<-EV] at w1;obtain⟨e2,w2⟩:=SW.Az w1 (show 3<=62 by decide) ap (by simp;omega) (ok g2 H.2.1) rfl rfl H.2.1 (c:=c2) (by rw[s2]) sD (m:=0) (by rw[s2]) am;rw[s2] at w2;obtain⟨x2,kq⟩:=aE ((x1.lu 0).2);rw[<-kq] at w2;obtain⟨e3,w3⟩:=SW.Az w2 (show 3<=62 by decide) ap (by simp;omega) (ok g3 H.2.2.1) rfl rfl H.2.2.1 (c:=c2) (by rw[s2]) sD (m:=0) (by rw[s2]) am;rw[s2] at w3;obtain⟨x3,rB⟩:=aE ((x2.lu 0).2);rw[<-rB] at w3;obtain⟨e4,w4⟩:=SW.Az w3 (show 3<=62 by decide) ap (by simp;omega) (ok g4 H.2.2.2) rfl rfl H.2.2.2 (c:=c2) (by rw[s2]) sD (m:=0) (by rw[s2]) am;rw[s2] at w4;obtain⟨x4,OT⟩:=aE ((x3.lu 0).2);rw[<-OT] at w4;obtain⟨i,hi,hid⟩:∃i,r_ (wk n [g1,g2,g3,g4]) (g1:Int)=some i∧i=l5 n:=⟨_,by unfold r_ wk;simp,rfl⟩;subst hid;obtain⟨e5,w5⟩:=SW.SX w4 hi (w4.ag.a4b XZ (by simp) hn.1 hn.2 hB tP);obtain⟨x5,HX5⟩:=aE ((x4.lu 0).2);rw[<-HX5] at w5;obtain⟨e6,w6⟩:=SW.KD w5 rfl;obtain⟨x6,HX6⟩:=aE ((x5.lu 0).2);rw[<-HX6] at w6;obtain⟨e7,w7⟩:=SW.KD w6 rfl;obtain⟨x7,HX7⟩:=aE ((x6.lu 0).2);rw[<-HX7] at w7;obtain⟨e8,w8⟩:=SW.KD w7 rfl;obtain⟨x8,HX8⟩:=aE ((x7.lu 0).2);rw[<-HX8] at w8;have z:∀s:ja,s.add 2 { Ev.zero with node:=1 }=s:=λ_=>rfl;obtain⟨v1,d1⟩:=oE (d:=⟨0,x,t,none⟩) (-1) e1 EV.symm rfl;obtain⟨v2,d2⟩:=oE (d:=⟨1,x1,t,v1⟩) (-1) e2 kq.symm rfl;obtain⟨v3,d3⟩:=oE (d:=⟨2,x2,t,v2⟩) (-1) e3 rB.symm rfl;obtain⟨v4,d4⟩:=oE (d:=⟨3,x3,t,v3⟩) (-1) e4 OT.symm rfl;obtain⟨v5,d5⟩:=oE (d:=⟨4,x4,t,v4⟩) (-1) e5 HX5.symm rfl;obtain⟨v6,d6⟩:=oE (d:=⟨5,x5,t.told c (l5 n) 0,v5⟩) (-1) e6 HX6.symm rfl;obtain⟨v7,d7⟩:=oE (d:=⟨6,x6,t.told c (l5 n) 0,v6⟩) (-1) e7 HX7.symm rfl;obtain⟨v8,d8⟩:=oE (d:=⟨7,x7,t.told c (l5 n) 0,v7⟩) (-1) e8 HX8.symm rfl;have dd1:Dr.step ⟨0,x,t,none⟩ (-1)=⟨1,x1,t,v1⟩:=d1;have dd2:Dr.step ⟨1,x1,t,v1⟩ (-1)=⟨2,x2,t,v2⟩:=d2;have dd3:Dr.step ⟨2,x2,t,v2⟩ (-1)=⟨3,x3,t,v3⟩:=d3;have dd4:Dr.step ⟨3,x3,t,v3⟩ (-1)=⟨4,x4,t,v4⟩:=d4;have dd5:Dr.step ⟨4,x4,t,v4⟩ (-1)=⟨5,x5,t.told c (l5 n) 0,v5⟩:=d5;have dd6:Dr.step ⟨5,x5,t.told c (l5 n) 0,v5⟩ (-1)=⟨6,x6,t.told c (l5 n) 0,v6⟩:=d6;have dd7:Dr.step ⟨6,x6,t.told c (l5 n) 0,v6⟩ (-1)=⟨7,x7,t.told c (l5 n) 0,v7⟩:=d7;have dd8:Dr.step ⟨7,x7,t.told c (l5 n) 0,v7⟩ (-1)=⟨8,x8,t.told c (l5 n) 0,v8⟩:=d8;have hdr:∀k,fh (-1) (k+1+1+1+1+1+1+1+1) ⟨0,x,t,none⟩=⟨8,x8,t.told c (l5 n) 0,v8⟩:=λk=>by rw[go_step (d:=⟨0,x,t,none⟩) h.net dd1,go_step (d:=⟨1,x1,t,v1⟩) w1.net dd2,go_step (d:=⟨2,x2,t,v2⟩) w2.net dd3,go_step (d:=⟨3,x3,t,v3⟩) w3.net dd4,go_step (d:=⟨4,x4,t,v4⟩) w4.net dd5,go_step (d:=⟨5,x5,t.told c (l5 n) 0,v5⟩) w5.net dd6,go_step (d:=⟨6,x6,t.told c (l5 n) 0,v6⟩) w6.net dd7,go_step (d:=⟨7,x7,t.told c (l5 n) 0,v7⟩) w7.net dd8];exact m8 (-1) (by show x8.net.length=0;rw[w8.net];rfl) k
 rw[show Bd+18000+18000+18000+18000=Bd+72000 by omega] at w8;rw[KE,hdr 392];exact⟨w8,rfl⟩
end SW
def a0l(k:Nat)(oW:aR)(p:WS):H2 k oW p=fh ((p.1.nr+k:Nat):Int) 400 ⟨0,p.1.oB k oW,p.2,none⟩:=by unfold H2;rfl
def SW.asked{eW:List Dl}{q:List aes.Ab}(h:SW p.1 es ms aeq Bd n eW q tr [] B [])(qE:Bd<=1000000)(EZ:es.length<=50)(ht:(p.1.ag 0).tag<9223372036854775807){s:aR}(hs:aev.gl s=0)(hz:s.size<=20)(hm:aer.gt ms.q s<18446744073709551616)(r:Nat):∃(y:Wl)(tg:Nat),tH 0 s (r+1) p=((y,p.2.told 8 (0,0,0) (aer.gt ms.q s)),some (aer.gt ms.q s))∧SW y (es++[k_ s 1 tg]) ms aeq (Bd+18000) n eW q tr [] B []:=by
 obtain⟨tg,HT⟩:=aE ((p.1.ag 0).tag+1);have I:=h.jQ (h.ag.look hs);have Z:=I.sent (e:=k_ s 1 tg) (SU hs hz ap);have X:p.1.oB 0 s=(p.1.jQ 0 ((p.1.ag 0).look s).1).send ((p.1.jQ 0 ((p.1.ag 0).look s).1).nr+0) [((0:Int),gH (k_ s 1 tg))]:=by unfold Wl.oB;rw[h.ag.last,h.ag.node,<-HT];rfl
 rw[<-X,<-HT] at Z;have kc:ey ms (k_ s 1 tg)=(8,aer.gt ms.q s,ms):=aA rfl;obtain⟨y,g1,g2⟩:=Z.two qE EZ (SU hs hz ap) rfl rfl ap (c:=8) (by rw[kc];rfl) am (m:=aer.gt ms.q s) (by rw[kc]) hm (λa ha=>ha.seen) ((p.1.nr+0:Nat):Int) 398 0 p.2 none;rw[kc] at g2;have hv:(if ((8:Nat):Int)=8∧(1:Int)=((p.1.nr+0:Nat):Int) then some (aer.gt ms.q s) else none)=some (aer.gt ms.q s):=aA ⟨rfl,by rw[h.nr];rfl⟩;rw[hv] at g1;have g1:H2 0 s p=⟨0+2,y,p.2.told 8 (0,0,0) (aer.gt ms.q s),some (aer.gt ms.q s)⟩:=by rw[a0l];exact g1
 refine⟨y,tg,?_,g2⟩;unfold tH;rw[g1,aB (by simp)]
def sC(ns:aQ):List Dl:=ns.map λn=>(lw,n)
theorem Hl:∀(ns:aQ)(a:Nat),a+ns.sum<=18446744073709551615->xv lw (sC ns) a=some (a+ns.sum)
 | [],a,_=>rfl
 | n::ns,a,h=>by
   rw[List.sum_cons] at h ⊢;show xv lw ((lw,n)::sC ns) a=_;rw[Ct,aA rfl,aB (by show ¬ (18446744073709551615-n<a);omega)];rw[Hl ns (a+n) ap];congr 1;omega
def a0m(hn:1<=n)(hl:ns.length<32)(h:n+ns.sum<=18446744073709551615):jl (sC ns) (lw,n)=0:=by
 unfold jl;have hr:iq (lw,n)=true:=by unfold iq;rw[aC pA1,aC (show 0<n by omega)];rfl
 rw[hr,aB am,aB (by unfold sC;rw[bj];omega),aB (by rw[Hl ns n h];simp)]
theorem Me:∀(ns:aQ)(a:Nat),a+ns.sum<=18446744073709551615->(sC ns).foldl mD [(lw,a)]=[(lw,a+ns.sum)]
 | [],_,_=>rfl
 | n::ns,a,h=>by
   rw[List.sum_cons] at h ⊢;show (sC ns).foldl mD (mD [(lw,a)] (lw,n))=_;have:mD [(lw,a)] (lw,n)=[(lw,a+n)]:=by unfold mD;rw[aA rfl,cF (by show a+n<=_;omega)]
   rw[this,Me ns (a+n) ap,Nat.add_assoc]
theorem T4(hn:ns≠[])(h:ns.sum<=18446744073709551615):qB (sC ns)=[(lw,ns.sum)]:=by
 match ns,hn with
 | n::ns,_=>
   show (sC ns).foldl mD [(lw,n)]=_;rw[Me ns n (by rw[List.sum_cons] at h;exact h),List.sum_cons]
def a0n{x:jy}{e:En}(I:e.k≠2)(Z:aeu.seen (x.at_ e).F (x.at_ e).M e.sq=false)(T:¬ e.ep<Gl x.gp e.ag)(h4:aeu.far (x.at_ e).F e.sq=false)(h5:aer.jl x.q e.ds=0):ey x e=(1,0,⟨aer.o5 x.q e.ds,uL x.gp e.ag e.ep,jr x.pl (e.ag,e.sh) ⟨(aeu.iJ (x.at_ e).F (x.at_ e).M e.sq).1,(aeu.iJ (x.at_ e).F (x.at_ e).M e.sq).2,(x.at_ e).B⟩⟩):=by unfold ey;rw[aB I,aB (by rw[Z];simp),aB T,aB (by rw[h4];simp),aA h5]
def a0o{x:jy}{e:En}(I:e.k≠2)(Z:aeu.seen (x.at_ e).F (x.at_ e).M e.sq=true)(T:e.sq ∉ (x.at_ e).B):ey x e=(2,0,x):=by unfold ey;rw[aB I,aA Z,aB T]
def msJ(m:Nat):jy:=(ey jy.new (mI 1 (lw,m) 0)).2.2
def a4c(h:m<=18446744073709551615):aer.jl [] [(lw,m)]=0:=by
 unfold aer.jl;have I:aer.iz [] [] [(lw,m)]=true:=by show (decide (0+m+0<=aer.oU)&&true)=true;rw[aC (show 0+m+0<=aer.oU by unfold aer.oU;omega)];rfl
 rw[aA I,aB];exact (by decide:¬ (1 > 16))
def stepJ(h:m<=18446744073709551615):ey jy.new (mI 1 (lw,m) 0)=(((1:Nat):Int),0,msJ m)∧ey (msJ m) (mI 1 (lw,m) 0)=(((2:Nat):Int),0,msJ m)∧aer.gt (msJ m).q lw=m:=by
 have e:ey jy.new (mI 1 (lw,m) 0)=(1,0,⟨aer.o5 [] [(lw,m)],uL [] 1 1,jr [] (1,0) ⟨(aeu.iJ 0 0 1).1,(aeu.iJ 0 0 1).2,[]⟩⟩):=a0n (show ¬ (1:Int)=2 by decide) (show aeu.seen 0 0 1=false by decide) (show ¬ ((1:Int)<0) by decide) (show aeu.far 0 1=false by decide) (a4c h)
 have e2:msJ m=⟨aer.o5 [] [(lw,m)],uL [] 1 1,jr [] (1,0) ⟨(aeu.iJ 0 0 1).1,(aeu.iJ 0 0 1).2,[]⟩⟩:=by unfold msJ;rw[e]
 refine⟨by rw[e2];exact e,?_,?_⟩
 ·rw[e2]
  exact a0o (show ¬ (1:Int)=2 by decide) (show aeu.seen (ik (jr [] (1,0) ⟨(aeu.iJ 0 0 1).1,(aeu.iJ 0 0 1).2,[]⟩) (1,0)).F (ik (jr [] (1,0) ⟨(aeu.iJ 0 0 1).1,(aeu.iJ 0 0 1).2,[]⟩) (1,0)).M 1=true by decide) (show ¬ ((1:Int)∈(ik (jr [] (1,0) ⟨(aeu.iJ 0 0 1).1,(aeu.iJ 0 0 1).2,[]⟩) (1,0)).B) by decide)
 ·rw[e2]
  show aer.gt (aer.o5 [] [(lw,m)]) lw=m;unfold aer.o5;rw[aA (a4c h)];show aer.gt [(lw,0+m)] lw=m;unfold aer.gt;rw[aer.jk,aA rfl];simp
def CK(x:Wl):Prop:=(x.ag 0).now=0∧(x.ag 0).tag=4294967296
def CK.begun:CK (kn 1 1).1:=by
 have hn:((Wl.new 1 1).gY 0).net.length=0:=by
  have X:(Wl.new 1 1).gY 0=(Wl.new 1 1).rF 0 ((Rp.open_ 0 1 []).lead).1:=by show ((Wl.new 1 1).rF 0 ((Rp.open_ 0 1 []).lead).1).send 0 ((Rp.open_ 0 1 []).lead).2=_;rw[SR.begin_.2];rfl
  rw[X];rfl
 unfold kn CK;rw[m8 (-1) (d:=⟨0,(Wl.new 1 1).gY 0,ja.new,none⟩) hn];exact⟨rfl,rfl⟩
theorem CK.jQ{x:Wl}(h:CK x){a:Ag}(hs:Ag.oA (x.ag 0) a):CK (x.jQ 0 a):=by unfold CK;show (at_ x.ag 0 a 0).now=0∧(at_ x.ag 0 a 0).tag=_;rw[ox,hs.now,hs.tag];exact h
def a0q{ms:aQ}(h:SW p.1 [] jy.new 1 100 0 (sC ms) [] [] [] B [])(hc:CK p.1)(hB:B<=900000)(hn:1<=n)(hl:ms.length<32)(hs:n+ms.sum<=18446744073709551615):SW (p.1.gZ 0 (lw,n)) [] jy.new 1 100 0 (sC (ms++[n])) [] [] [] (B+100) []∧CK (p.1.gZ 0 (lw,n))∧((p.1.ag 0).gn (lw,n)).2=0:=by
 obtain⟨a1,a2⟩:=h.ag.gn ap (d:=(lw,n)) ⟨pA1,⟨hn,by show n<=_;omega⟩,(by decide:lw.size<=20)⟩ (a0m hn hl hs);have e:sC (ms++[n])=sC ms++[(lw,n)]:=by unfold sC;rw[bM];rfl
 rw[e];exact⟨h.jQ a1,hc.jQ (Ag.oA.gn _ _),a2⟩
def Mf{q:WS}(h:q.1.na=1):xI q=xH ((q.1.gi 0).jR 0 48,q.2):=by unfold xI;rw[h];rfl
def Hp{q:WS}{ask:List (Int×lZ)}(h:SW q.1 es ms aeq Bd n [] [] tr ask B []):SW (xI q).1 es ms aeq Bd n [] [] tr ask B []∧(xI q).2=q.2:=by have Z:=h.D7.T3 48;rw[Mf h.na,EH (p:=((q.1.gi 0).jR 0 48,q.2)) (by show ((q.1.gi 0).jR 0 48).net.length=0;rw[Z.net];rfl)];exact⟨Z,rfl⟩
def Mg{es':List En}{ms':jy}{Bd' n' B':Nat}{q:List aes.Ab}(h:SW p.1 es ms aeq Bd n [] q [] [] B [])(qE:Bd<=1000000)(EZ:es.length<=51)(hT:aeq<1000000){t':ja}
 (hr:∀z:WS,z=(p.1.gY 0,p.2)->SW z.1 es ms (aeq+1) (Bd+36000) n [] q [] [] B []->SW (xI z).1 es' ms' (aeq+1) Bd' n' [] [] [] [] B' []∧(xI z).2=t'):SW (jJ 2 p).1 es' ms' (aeq+1) Bd' n' [] [] [] [] B' []∧(jJ 2 p).2=t':=by
 have I:=h.lead qE EZ hT;have d1:xH (p.1.gY 0,p.2)=(p.1.gY 0,p.2):=EH (by show (p.1.gY 0).net.length=0;rw[I.net];rfl);obtain⟨r1,r2⟩:=hr _ rfl I;obtain⟨s1,s2⟩:=Hp r1;have hq:pJ 2 (xH (p.1.gY 0,p.2))=xI (xI (p.1.gY 0,p.2)):=by rw[d1];rfl
 obtain⟨z,HZ⟩:=aE (xI (xI (p.1.gY 0,p.2)));rw[<-HZ] at s1 s2 hq;have T:=s1.mH;have e:jJ 2 p=(z.1.mH 0 1,z.2):=by unfold jJ;rw[hq];exact EH (by show (z.1.mH 0 1).net.length=0;rw[T.net];rfl)
 rw[e];exact⟨T,s2.trans r2⟩
def KF{ms:aQ}(h:SW p.1 [] jy.new 1 100 0 (sC ms) [] [] [] B [])(hc:CK p.1)(hB:B<=10000)(I:∀n∈ms,1<=n)(hs:ms.sum<=18446744073709551615)(kc:p.2=ja.new):(p.1.ag 0).cut.2.length=min ms.length 1∧(jJ 2 (p.1.gi 0,p.2)).1.idle=true∧(jJ 2 (p.1.gi 0,p.2)).2.ak.length=min ms.length 1∧∃(es:List En)(m:jy)(aeq Bd n B:Nat),SW (jJ 2 (p.1.gi 0,p.2)).1 es m aeq Bd n [] [] [] [] B []∧Bd<=1000000∧es.length<=50∧aer.gt m.q lw=ms.sum:=by
 by_cases hm:ms=[]
 ·subst hm
  obtain⟨c1,c2⟩:=h.ag.Md;have hb:SW (p.1.gi 0) [] jy.new 1 100 0 [] [] [] [] B []:=h.jQ c1;obtain⟨s1,s2⟩:=Mg (p:=(p.1.gi 0,p.2)) hb am am am (λz hz hw=>by obtain⟨r1,r2⟩:=Hp hw;exact⟨r1,r2.trans (by rw[hz])⟩)
  refine⟨by rw[c2];rfl,s1.idle,?_,_,_,_,_,_,_,s1,by omega,by decide,rfl⟩;show (jJ 2 (p.1.gi 0,p.2)).2.ak.length=0;rw[s2,kc];rfl
 ·have BM:1<=ms.sum:=by
   match ms,hm with
   | n::l,_=>have:=I n (by simp);rw[List.sum_cons];omega
  obtain⟨S,HS⟩:=aE (ms.sum)
  rw[<-HS] at hs BM ⊢
  have hd:DS (lw,S):=⟨pA1,⟨BM,hs⟩,(by decide:lw.size<=20)⟩
  have a52:min ms.length 1=1:=by have:ms.length≠0:=λe=>hm (bv e);omega
  obtain⟨c1,c2⟩:=h.ag.cut (n:=0) ap am hd (by rw[HS];exact T4 hm ap) (λz hz=>by unfold sC at hz;obtain⟨k,_,rfl⟩:=List.mem_map.1 hz;rfl)
  have hb:SW (p.1.gi 0) [] jy.new 1 100 (0+1) [] [(((0+1:Nat):Int),[(lw,S)])] [] [] (B+100) []:=h.jQ c1
  have Ik:CK (p.1.gi 0):=hc.jQ (Ag.oA.cut _)
  obtain⟨st1,st2,st3⟩:=stepJ hs
  obtain⟨s1,s2⟩:=Mg (p:=(p.1.gi 0,p.2)) (es':=[mI 1 (lw,S) 4294967297,mI 1 (lw,S) 4294967298,mI 1 (lw,S) 4294967299,mI 1 (lw,S) 4294967300]) (ms':=msJ S) (Bd':=36100+72000) (n':=1) (B':=B+100+100) (t':=ja.new.told 1 (l5 1) 0) hb am am am (λz hz hw=>by
   have oY:CK z.1:=by rw[hz];exact Ik
   have w1:=hw.D7;have ck1:CK (z.1.gi 0):=oY.jQ (Ag.oA.cut _);obtain⟨a1,a2⟩:=SA.ticks (n:=1) (d:=(lw,S)) 48 (u:=⟨0,4294967296,0,0⟩) (gs:=[]) [] w1.ag ck1.1 ck1.2 (λ_ h=>by simp at h) rfl;rw[a8P] at a1 a2;have w2:=(w1.jQ a1).a0k hd ⟨by decide,by decide⟩ (g1:=4294967297) (g2:=4294967298) (g3:=4294967299) (g4:=4294967300) ⟨by decide,by decide,by decide,by decide⟩;have X:(z.1.gi 0).jR 0 48=((z.1.gi 0).jQ 0 (((z.1.gi 0).ag 0).gv 48 []).1).send (((z.1.gi 0).jQ 0 (((z.1.gi 0).ag 0).gv 48 []).1).nr+0) (EG 1 (lw,S) [4294967297,4294967298,4294967299,4294967300]):=by unfold Wl.jR;rw[a2];rfl
   rw[<-X] at w2;have w3:=w2.four (λy hy=>by
    unfold Hh at hy;split at hy;·simp at hy
    ·rw[List.mem_singleton.1 hy]) hd ⟨by decide,by decide⟩ ap am am ⟨by decide,by decide,by decide,by decide⟩ (c:=1) st1 (.inl rfl) (c2:=2) st2 am z.2
   rw[Mf hw.na];refine⟨w3.1,w3.2.trans ?_⟩;rw[hz];show p.2.told 1 (l5 1) 0=_;rw[kc])
  refine⟨by rw[c2,a52];rfl,s1.idle,?_,_,_,_,_,_,_,s1,by decide,by simp,st3⟩
  rw[s2,a52];rfl
set_option maxRecDepth 100000
set_option maxHeartbeats 1000000
def a4d(n:Int):bits .and .i64 n 16777215=n % 16777216:=by
 have a9z:(BitVec.ofInt 64 16777215).toNat=2 ^ 24-1:=by decide
 have key:(BitVec.ofInt 64 n &&& BitVec.ofInt 64 16777215).toNat=(n % ((2 ^ 64:Nat):Int)).toNat % 2 ^ 24:=by rw[BitVec.toNat_and,BitVec.toNat_ofInt,a9z,Nat.and_two_pow_sub_one_eq_mod]
 show IntKind.i64.wrap ((BitVec.ofInt 64 n &&& BitVec.ofInt 64 16777215).toNat:Nat)=n % 16777216;rw[key,IntKind.wrap_i64];omega
def Mh{l:List Bl}(h:St (λ_=>False) w0 l w):Grow w0 w:=Below.trans (Grow.refl w0) (h.just.below (B:=(w0:Nat)) (λ_ hb=>hb.elim False.elim id) (bh _))
def Wx{V:aV}{aeu s y:Nat}{x':Wl}{t:ja}{b:Bool}{l:List Bl}{a:Ac}(L:St V w0 (nZ aeu s p++(.c y 75 ([a].flatMap Kv).toArray::l)) w)(hr:l4 aeu p.1 p.2 [a] b x' t)(ho:p.2.Ok)(hl:p.2.len<=900000):dF N 32 #[aeu,s,Y (some (y,0)) 1 1] w λe O=>e=b5 (aY b)∧St V w0 (nZ aeu s (x',t)++l) O:=by have I:St V w0 ([.o (iP aeu p.1),.o (g9 s p.2),.c y 75 ([a].flatMap Kv).toArray]++l) w:=L;have:=St.call I (a':=λ(_:Unit)=>[.o (iP aeu x'),.o (g9 s t),.c y 75 ([a].flatMap Kv).toArray]) (λ_=>⟨iP.framed _ _,g9.framed _ _,trivial,trivial⟩) I.no (SG w (λ_=>False) aeu s y p.1 x' p.2 t [a] b hr ho (by show p.2.len+1<=_;omega));refine this.mono λe O ⟨_,Z,T⟩=>⟨Z,?_⟩;have T:St V w0 (.o (iP aeu x')::.o (g9 s t)::.c y 75 ([a].flatMap Kv).toArray::l) O:=T;exact T.dT 2 rfl
def Hw(w:G)(A0:aU)(no co:Nat)(lo:aN)(hr:Reads w (w:Nat) 1 A0 no (lo.map (Value.int .i64))):dF N 5 #[Y A0 no co] w λe O=>e=b5 (aY true)∧Grow w O:=by
 have XT:lo.length=no:=by have:=hr.1;simpa using this
 obtain⟨k,HK⟩:=az (min no 20);have T8:∀ts t w,(Builtin.min_ ts t #[J no,J 20]).run N w=.ok (J k) w:=by intro ts t w;rw[run_min_int2,HK.out];split<;>(congr 2;omega)
 obtain⟨k1,HK1⟩:=az (min k 1);have hmn1:∀ts t w,(Builtin.min_ ts t #[J k,J 1]).run N w=.ok (J k1) w:=by intro ts t w;rw[run_min_int2,HK1.out];split<;>(congr 2;omega)
 have fY:St (λ_=>False) w ([]++[]) w:=St.begin_ (l:=[]) trivial (λ_ h=>h.elim) trivial;have hB:=St.call (a:=[]) (b:=[]) fY (a':=λi:Nat×Nat=>nZ i.1 i.2 (kn 1 1)) (λ_=>qo _ _ _) fY.no (Mc w 1 1 am am am xe);have hB:dF N 26 #[J 1,J 1] w _:=hB;obtain⟨p,HP⟩:=az (kn 1 1);have hp:=Ax (nr:=1) (na:=1) am am;have hw:=SW.begun;have oY:=CK.begun;rw[<-HP.out] at hB hp hw oY;clear HP;go_in;go_wp2_with fail;refine hB.mono ?_;rintro e w1 ⟨⟨aeu,s⟩,rfl,eC⟩;have eC:St (λ_=>False) w (nZ aeu s p++[]) w1:=eC;clear hB fY;go_wp2_with fail;go_loopw [5,7] (λu i wr=>∃(j:Nat)(q:WS)(ms:aQ),i=J j∧u=ae ah ((ms.sum:Nat):Int)∧(j<=k∧ms.length=j∧ms.sum<=16777216*j)∧(∀n∈ms,1<=n)∧SW q.1 [] jy.new 1 100 0 (sC ms) [] [] [] (100+100*j) []∧CK q.1∧ip q 1 1 2 100∧Hid (q.2=ja.new)∧St (λ_=>False) w (nZ aeu s q++[]) wr) (λ_ i _=>k-(intOf i).toNat);case atStart=>exact⟨0,p,[],rfl,rfl,⟨bo _,rfl,bh _⟩,λ_ h=>by simp at h,hw.1,oY,hp,Q hw.2,eC⟩
 case round=>
  clear eC hw oY hp;obtain⟨j,q,ms,rfl,rfl,⟨hj,hml,hsum⟩,hms,hw,oY,hq,kc,L⟩:=hrel;have hk20:k<=20∧k<=no:=by rw[HK.out];omega
  by_cases EJ:j<k
  ·have c1:decide ((j:Int)<(k:Int))=true:=aC ap
   obtain⟨ad,u0,rfl,hb,X,hc⟩:=hr.at_ (k:=j) ap;have xg:j<lo.length:=by omega
   rw[List.getElem?_map,List.getElem?_eq_getElem xg] at X;injection X with X;rw[<-X] at hc;have H:=Mh L;have hcw:wr.cell? (ad.add j)=some (J lo[j]):=(H.cell (p:=ad.add j) (by rw[block_add];exact hb)).trans hc;obtain⟨z,HZ⟩:=az (lo[j]);rw[<-HZ.out] at hcw;obtain⟨m,Hm⟩:∃m:Nat,Hid (z % 16777216=(m:Int)):=⟨(z % 16777216).toNat,Q ap⟩;have hm24:m<=16777215:=by have:=Hm.out;omega
   have hand:bits .and .i64 z 16777215=(m:Int):=(a4d z).trans Hm.out;obtain⟨m1,Hm1⟩:=az (m+1);have sF:1<=m1∧m1<=16777216:=by have:=Hm1.out;omega
   have yk:IntKind.i64.wrap (1+(m:Int))=(m1:Int):=by rw[IntKind.wrap_i64,Hm1.out];omega
   have De:IntKind.u64.wrap (m1:Int)=(m1:Int):=by rw[IntKind.wrap_u64];omega
   clear hc X;have WZ:0<q.1.na:=by rw[hq.na];decide
   obtain⟨i1,i2,i3⟩:=a0q hw oY ap (n:=m1) sF.1 ap ap;have a1:=hq.good.H1 (aeu:=aeu) WZ 0 (n:=m1) (s:=lw) am ap;rw[hq.nr] at a1;have eM:l4 aeu q.1 q.2 [⟨9,1,0,(m1:Int),lw⟩] true (q.1.gZ 0 (lw,m1)) q.2:=l4.ok (x':=q.1.gZ 0 (lw,m1)) a1 i3 (show (0:Nat)<18446744073709551616 by decide) (l4.nil _ _);obtain⟨y,wa,HY,HA,ec⟩:=L.new' #[J 9,J 1,(),J m1,aX ⟨#[97,61,49]⟩] 75;have ec:St (λ_=>False) w (nZ aeu s q++[.c y 75 (([⟨9,1,0,(m1:Int),lw⟩]:List Ac).flatMap Kv).toArray]) wa:=ec.perm (bg (l₁:=[_]) (l₂:=nZ aeu s q++[]));have W:=Wx ec eM hq.ok (by have:=hq.len;omega);have E_:ip (q.1.gZ 0 (lw,m1),q.2) 1 1 2 100:=⟨hq.good.gZ WZ (by show m1<=_;omega),hq.ok,hq.len,hq.nr,hq.na⟩;clear eM a1 i3 H ec hw;go_wp2_with fail;rw[<-HA.out,<-HY.out];refine W.mono ?_;rintro e w2 ⟨rfl,eh⟩;clear W HA HY;go_wp2_with fail;refine⟨⟨j+1,(q.1.gZ 0 (lw,m1),q.2),ms++[m1],by go_num,?_,⟨by omega,by rw[bd,hml];rfl,by rw[List.sum_append];simp;omega⟩,λn hn=>?_,by rw[show 100+100*(j+1)=100+100*j+100 by omega];exact i1,i2,E_,kc,eh⟩,by simp[intOf];omega⟩
   ·rw[List.sum_append]
    have:IntKind.u64.wrap (((ms.sum:Nat):Int)+(m1:Int))=((ms.sum+m1:Nat):Int):=by rw[IntKind.wrap_u64];omega
    simp
   ·rcases List.mem_append.1 hn with hn|hn
    ·exact hms n hn
    ·rw[List.mem_singleton.1 hn];exact sF.1
  ·have c1:decide ((j:Int)<(k:Int))=false:=aD ap
   have WZ:0<q.1.na:=by rw[hq.na];decide
   have a8R:Hid (j=k):=Q ap;obtain⟨S,HS⟩:=az (ms.sum);obtain⟨e1,e2,e3,es,mf,aeq,Bd,nf,Bf,hwf,qE,EZ,OV⟩:=KF hw oY ap hms ap kc.out;have jb:min ms.length 1=k1:=by rw[HK1.out,hml,a8R.out]
   rw[jb] at e1 e3;rw[<-HS.out] at OV ⊢;have hSS:S<18446744073709551616:=by rw[HS.out];omega
   have Wy:=D6 L (hq.good.EC WZ 0 0 ⟨#[]⟩);rw[hq.nr,e1] at Wy;unfold jz at Wy;dsimp only at Wy;have Wy:dF N 33 #[aeu,aZ #[J 10,J 1,(),(),""]] wr _:=Wy;obtain⟨ev,HE⟩:=az ({ ({ Ev.zero with code:=(k1:Int) }:Ev) with bag:=((q.1.gi 0).net.length:Int) }:Ev);have a54:ev.code=(k1:Int):=by rw[HE.out]
   rw[<-HE.out] at Wy;have hqb:=hq.batch (i:=0) am;obtain⟨pb,HPB⟩:=az ((q.1.gi 0,q.2):WS);rw[<-HPB.out] at Wy hqb e2 e3 hwf;clear e1 hw oY hms kc T8;go_wp2_with fail;refine Wy.mono ?_;rintro e w2 ⟨rfl,ec⟩;clear Wy L c1;have eh:=ec.new aH 77;go_wp2_with (refine er eh 0 rfl 77 _ _ rfl 0 rfl [J ev.why,J ev.node,J ev.code,J ev.id.1,J ev.id.2.1,J ev.id.2.2,ae ah ev.n,J ev.bag] rfl (bf rfl) rfl aw (li ev) rfl rfl ?_;clear eh;intro w3 eU;refine stay ?_);refine dN ?_;obtain⟨z,HZ⟩:=az ((w2:Nat));rw[<-HZ.out] at eU ⊢;clear ec;have eU:St (λ_=>False) w (.c z 77 (li ev)::(nZ aeu s pb++[])) w3:=eU;have c2:w3.cell? (z,2)=some (J ev.code):=eU.facts.1.1 2;rw[a54] at c2;have eI:St (λ_=>False) w (nZ aeu s pb++[]) w3:=eU.drop;have P4:=St.call eI (a':=λ(_:Unit)=>nZ aeu s (jJ 2 pb)) (λ_=>qo _ _ _) eI.no (SK w3 (λ_=>False) aeu s 1 1 2 100 2 pb hqb am am am);rw[e2] at P4;have Xf:=hqb.settle (n:=2) am am;obtain⟨ps,HPS⟩:=az (jJ 2 pb);rw[<-HPS.out] at P4 Xf e3 hwf;have P4:dF N 34 #[aeu,s,J 2] w3 _:=P4;go_wp2_with fail;refine P4.mono ?_;rintro e w4 ⟨_,rfl,eS⟩;clear P4 eI eU c2;obtain⟨y,tg,ha,hwa⟩:=hwf.asked qE EZ (AA Xf am) pA1 am (by rw[OV];exact hSS) 7;rw[OV] at ha;have hAs:=St.call eS (a':=λ(_:Unit)=>nZ aeu s (tH 0 lw 8 ps).1) (λ_=>qo _ _ _) eS.no (a47 w4 (λ_=>False) aeu s 1 1 _ _ 0 ps Xf am am am lw pA1);have AZ:=Xf.tH pA1 (k:=0) am 8 am;rw[ha] at hAs AZ;obtain⟨pa,HPA⟩:=az ((y,ps.2.told 8 (0,0,0) S):WS);have hka:pa.2.ak.length=k1:=by rw[HPA.out];exact e3
   dsimp only at hAs AZ;rw[<-HPA.out] at hAs AZ;have hAs:dF N 35 #[aeu,s,J 1,aX ⟨#[97,61,49]⟩] w4 (λe O=>∃_:Unit,e=b5 (a_ #[ae ah S,aY true])∧St (λ_=>False) w (nZ aeu s pa++[]) O):=hAs;go_wp2_with fail;refine hAs.mono ?_;rintro e w5 ⟨_,rfl,fQ⟩;clear hAs eS;have hAk:=He fQ AZ am;rw[hka] at hAk;go_wp2_with fail;refine hAk.mono ?_;rintro e w6 ⟨A,c,rfl,fK⟩;clear hAk fQ;have fK:St (λ_=>False) w ([]++[]) w6:=fK.drop.drop.drop;have hAw:=St.call (a:=[]) (b:=[]) fK (a':=λ(_:Unit)=>[]) (λ_=>trivial) fK.no (Wu w6);go_wp2_with fail;refine hAw.mono ?_;rintro e w7 ⟨_,rfl,gM⟩;go_wp2;go_ret;exact⟨rfl,Mh gM⟩
end Go.Proofs.YtpeepcmdehhbgaaGreatDoor
