/- So6, So7, So8, So9, Tj1, Lm3, Tape, Tnames, Nok, Tl1. -/
import Derived.Test.YtpeepcmdehhbgaaGreatDoorJs52
import Derived.Laws.Bits128
set_option linter.all false
set_option maxRecDepth 100000
open Go.Value renaming int->ae,slice->Z,string->aX,bool->aY,agg->aZ,tuple->a_
open Go.Ending renaming returned->b5
open Go.IntKind renaming i64->af,u64->ah
open Go (J az aE aA aB aC aD ay aj am ap aw aL aK aJ aI aH aV aU aT aR aQ aP aO aN)
open Go.Proofs.Tryz renaming prog->W
open Go.Lib renaming hid->Q
open List renaming length_append->bd,getElem_mem->bF,map_cons->bQ,not_mem_nil->cF,mem_cons->cI,length_filter_le->c_
open Nat renaming le_refl->bh,zero_le->bo,lt_of_lt_of_le->bw,le_trans->bB,zero_add->cJ
open Bool renaming eq_false_or_eq_true->bC
open Go renaming Value->K,World->X,Calls->dz,Addr->dA,maxLen->dG
open Go.Hop (Bl)
open Go.Proofs.YtpeepcmdehhbgaaGreatDoor (Dl En WS j4)
variable{n B M abm Bd:Nat}{p:WS}{w w0:X}{d:Dl}{es:List En}{ms x:j4}{l:List Bl}{s:aR}{V:aV}{z:Int}
namespace Go.Proofs.YtpeepcmdehhbgaaGreatDoor
open RowKit Hop V
theorem Io(x:Wl)(t:iN):vJ (x,t)=((eY (-1) 400 ⟨0,x,t,none⟩).x,(eY (-1) 400 ⟨0,x,t,none⟩).s):=by unfold vJ;rfl
theorem EW(d:Dl)(p:WS):tQ d p=((eY (-1) 400 ⟨0,nQ p.1 d,p.2,none⟩).x,(eY (-1) 400 ⟨0,nQ p.1 d,p.2,none⟩).s):=by unfold tQ;exact Io _ _
theorem yI{abn:Nat}(h:gY p 1 1 M abn)(hM:M<=1048576):(p.1.ag 0).tag<9223372036854775807:=by have:=(h.good.ag 0 (by rw[h.na];decide)).ti.tm.tag;omega
theorem SW.give(h:SW p.1 es ms abm Bd n [] [] [] [] B [])(hd:DS d)(pL:Bd<=1000000)(CP:es.length<=50)(hn:n<900000)(hB:B<=900000)(ht:(p.1.ag 0).tag<9223372036854775807){c:Nat}(E:(ei ms (lQ (n+1) d 0)).1=(c:Int))(sy:c=1∨c=2∨c=3)(hm:(ei ms (lQ (n+1) d 0)).2.1=0):∃tg,(tQ d p).2=p.2.told c (ku (n+1)) 0∧SW (tQ d p).1 (es++[lQ (n+1) d tg]) (ei ms (lQ (n+1) d 0)).2.2 abm (Bd+18000) (n+1) [] [] [] [] (B+300) []:=by
 obtain⟨t,tg,KS,I,_⟩:=h.nQ hd ap hB ht;have za:c<=255:=by omega
 have Yb:∀a,SA a (n+1) [] [(((n+1:Nat):Int),[d])] [(ku (n+1),t)] [((tg:Int),ku (n+1))] (B+200)->SA (a.took 0 tg c) (n+1) [] [] [] [] (B+300):=λa ha=>ha.done ap ap ap sy;obtain⟨y,G,L⟩:=I.two pL CP (Cr hd ⟨by omega,by omega⟩ KS) rfl rfl KS (c:=c) E za (m:=0) hm am Yb (-1) 398 0 p.2 none;refine⟨tg,?_⟩;have G:eY (-1) 400 ⟨0,Go.Proofs.YtpeepcmdehhbgaaGreatDoor.nQ p.1 d,p.2,none⟩=_:=G;rw[EW,G];exact⟨rfl,L⟩
theorem Q8{abq:Nat}{abn:Nat}(hp:gY p 1 1 M abn)(hM:M<=1000000)(h:SW p.1 es ms abm Bd n [] [] [] [] B [])(hd:DS d)(Ye:d.2<=9223372036854775807)(hn:n<900000)(hB:B<=900000):kr abq p.1 p.2 (EO 1 (d.2:Int) d.1) true (nQ p.1 d) p.2∧gY (nQ p.1 d,p.2) 1 1 (M+1) abn:=by
 obtain⟨_,_,_,_,hi⟩:=h.nQ hd ap hB (yI hp ap);have h0:0<p.1.na:=by rw[hp.na];decide
 have g1:=hp.good.gI h0 (d:=d) ap;have g2:=g1.fU h0;have g3:=g2.jy ap h0 (n:=1) am;have a1:=hp.good.EM (abq:=abq) h0 0 (n:=d.2) (s:=d.1) (by have:=hd.s;omega) Ye;rw[hp.nr] at a1;have a2:=g1.Ck (abq:=abq) (x:=p.1.gI 0 d) h0 0 0 ⟨#[]⟩;rw[show (p.1.gI 0 d).nr=1 from hp.nr] at a2;have a3:=g2.JH (abq:=abq) (x:=(p.1.gI 0 d).fU 0) ap h0 0 (n:=1) ⟨#[]⟩ ⟨by decide,by decide⟩;rw[show ((p.1.gI 0 d).fU 0).nr=1 from hp.nr] at a3;refine⟨?_,g3,hp.ok,hp.len,hp.nr,hp.na⟩;refine kr.ok (x':=p.1.gI 0 d) a1 hi (show (0:Nat)<18446744073709551616 by decide) ?_;refine kr.ok (x':=(p.1.gI 0 d).fU 0) a2 rfl (show (0:Nat)<18446744073709551616 by decide) ?_;refine kr.ok (x':=nQ p.1 d) a3 rfl (show (0:Nat)<18446744073709551616 by decide) ?_;exact kr.nil _ _
theorem SW.begun:SW (jP 1 1).1 [] j4.new 1 100 0 [] [] [] [] 100 []∧(jP 1 1).2=iN.new:=by
 obtain⟨I,G⟩:=SR.begin_;have Y:(Wl.new 1 1).gH 0=(Wl.new 1 1).qv 0 ((Rp.open_ 0 1 []).lead).1:=by show ((Wl.new 1 1).qv 0 ((Rp.open_ 0 1 []).lead).1).send 0 ((Rp.open_ 0 1 []).lead).2=_;rw[G];rfl
 have hn:((Wl.new 1 1).gH 0).net.length=0:=by rw[Y];rfl
 unfold jP;rw[ls (-1) (d:=⟨0,(Wl.new 1 1).gH 0,iN.new,none⟩) hn];refine⟨?_,rfl⟩;show SW ((Wl.new 1 1).gH 0) _ _ _ _ _ _ _ _ _ _ _;rw[Y];refine⟨rfl,rfl,rfl,rfl,?_,SA.new⟩;show SR (at_ (Wl.new 1 1).rp 0 _ 0) _ _ _ _;rw[nK];exact I
theorem vm:((jP 1 1).1.rp 0).leads=true:=SW.begun.1.rp.leads
theorem TI{abq s abn:Nat}(hS:St V w0 (mZ abq s p++l) w)(hp:gY p 1 1 M abn)(hM:M<=1000000)(hL:abn<=900000)(h:SW p.1 es ms abm Bd n [] [] [] [] B [])(hd:DS d)(Ye:d.2<=9223372036854775807)(hn:n<900000)(hB:B<=900000):(dz W 28 #[abq,s,J 1,aX d.1,J d.2] w λe O=>e=b5 (aY true)∧St V w0 (mZ abq s (tQ d p)++l) O)∧gY (tQ d p) 1 1 (M+1) (abn+400):=by
 obtain⟨hr,H⟩:=Q8 (abq:=abq) hp hM h hd Ye hn hB;have hq:gY (tQ d p) 1 1 (M+1) (abn+400):=by unfold tQ;exact H.YN
 refine⟨?_,hq⟩;have a29:(nQ p.1 d).Good (M+1):=H.good;have fj:=hp.len;have hG:=XH w (λ_=>False) abq s (M+1) p.1 (nQ p.1 d) p.2 p.2 1 (d.2:Int) d.1 hr hp.ok hp.ok a29 ap ap;have e:=EW d p;generalize eY (-1) 400 ⟨0,nQ p.1 d,p.2,none⟩=R at hG e;rw[e];have:=St.call (a:=mZ abq s p) (a':=λ(_:Unit)=>mZ abq s (R.x,R.s)) hS (λ_=>pu _ _ _) hS.no hG;exact this.mono λe O ⟨_,I,G⟩=>⟨I,G⟩
set_option maxRecDepth 100000
set_option maxHeartbeats 1000000
def kL:ByteArray:=⟨#[97,61,49]⟩
theorem XN:abn.fW kL=0:=by decide +kernel
theorem dA7:DS (kL,7):=⟨XN,⟨by decide,by decide⟩,by decide⟩
theorem sA7:(ei j4.new (lQ 1 (kL,7) 0)).1=((1:Nat):Int)∧(ei j4.new (lQ 1 (kL,7) 0)).2.1=0:=by constructor<;>decide +kernel
theorem EY{abq s abn nr na:Nat}(hS:St V w0 (mZ abq s p++l) w)(hp:gY p nr na M abn)(hL:abn<=1000000):dz W 36 #[s] w λe O=>∃(A:aU)(c:Nat),e=b5 (Z A p.2.ak.length c)∧St V w0 (.o (qz (Z A p.2.ak.length c) p.2.ak)::(mZ abq s p++l)) O:=by have I:St V w0 ([.o (fR s p.2)]++(.o (iw abq p.1)::l)) w:=hS.front 1 rfl;have:=St.call (a:=[.o (fR s p.2)]) (b := .o (iw abq p.1)::l) I (a':=λj:Option dA×Nat=>[Bl.o (qz (Z j.1 p.2.ak.length j.2) p.2.ak),Bl.o (fR s p.2)]) (λ_=>⟨qz.framed _ _,fR.framed _ _,trivial⟩) I.no (Ij w (λ_=>False) s p.2 (by have:=hp.len;omega));exact this.mono λe O ⟨j,I,G⟩=>⟨j.1,j.2,I,G.perm (List.Perm.cons _ (List.Perm.swap _ _ _))⟩
theorem TJ(w:X):Lw W (λ_=>False) 24 #[] [] (λ(_:Unit)e=>e=b5 (aY true)) (λ_=>[]) w:=by
 intro V hM hV;have fN:St V w ([]++[]) w:=St.begin_ hM (λb hb=>(hV b hb).1) trivial;have hB:=St.call (a:=[]) (b:=[]) fN (a':=λi:Nat×Nat=>mZ i.1 i.2 (jP 1 1)) (λ_=>pu _ _ _) fN.no (JO w 1 1 am am am vm);have hB:dz W 26 #[J 1,J 1] w _:=hB;obtain⟨p,HP⟩:=az (jP 1 1);have hp:=yF (nr:=1) (na:=1) am am;have hw:=SW.begun;rw[<-HP.out] at hB hp hw;obtain⟨tg,g1,g2⟩:=hw.1.give dA7 am (bo _) am am (yI hp am) (c:=1) sA7.1 (.inl rfl) sA7.2;go_in;go_wp2_with fail;refine hB.mono ?_;rintro e w1 ⟨⟨abq,s⟩,rfl,ej⟩;have ej:St V w (mZ abq s p++[]) w1:=ej;obtain⟨hG,hq⟩:=TI ej hp am am hw.1 dA7 am am am;have hG:dz W 28 #[abq,s,J 1,aX ⟨#[97,61,49]⟩,J 7] w1 _:=hG;obtain⟨q,HQ⟩:=az (tQ (kL,7) p);rw[<-HQ.out] at hG hq g1;have fj:q.2.ak.length=1:=by rw[g1,hw.2];rfl
 go_wp2_with fail;refine hG.mono ?_;rintro e w2 ⟨rfl,dV⟩;have hA:=EY dV hq am;rw[fj] at hA;go_wp2_with fail;refine hA.mono ?_;rintro e w3 ⟨A,c,rfl,dX⟩;go_wp2;go_ret;obtain⟨r1,r2⟩:=(St.drop (St.drop (St.drop dX))).fin;exact⟨(),rfl,r1,r2⟩
structure Au where
 (now tag c at_:Nat)
def Au.due(u:Au):Bool:=decide (u.c=0)||decide (u.at_<=u.now+1)
def Au.next(u:Au):Au:=if u.due then ⟨u.now+1,u.tag+1,u.c+1,u.now+1+rD (u.tag+1) u.c⟩ else ⟨u.now+1,u.tag,u.c,u.at_⟩
def Au.run:Nat->Au->List Nat->Au×List Nat
 | 0,u,l=>(u,l)
 | r+1,u,l=>Au.run r u.next (if u.due then l++[u.tag+1] else l)
namespace SA
variable{a:Ag}{eP:List Dl}{q:List abo.Ab}{tr:List (lp×(Nat×Nat))}{ask:List (Int×lp)}
theorem Hc(h:SA a n eP q tr ask B)(m:Nat):SA { a with now:=m } n eP q tr ask B:=⟨h.node,h.eX,h.last,h.ep,h.eP,h.sh,h.q,h.tr,h.ask,h.bs⟩
end SA
end Go.Proofs.YtpeepcmdehhbgaaGreatDoor
section
namespace Go.Proofs.YtpeepcmdehhbgaaGreatDoor
open Go.RowKit Go.Hop V
namespace SW
variable{x:Wl}{eP:List Dl}{q:List abo.Ab}{tr:List (lp×(Nat×Nat))}{ask:List (Int×lp)}{rest:List Lt3}
theorem lead(h:SW x es ms abm Bd n eP q tr ask B [])(pL:Bd<=1000000)(hn:es.length<=51)(hT:abm<1000000):SW (x.gH 0) es ms (abm+1) (Bd+36000) n eP q tr ask B []:=by
 obtain⟨I,G⟩:=h.rp.again pL hn hT;have Y:x.gH 0=x.qv 0 ((x.rp 0).lead).1:=by show (x.qv 0 ((x.rp 0).lead).1).send 0 ((x.rp 0).lead).2=_;rw[G];rfl
 rw[Y];refine⟨h.nr,h.na,h.cut,h.net,?_,h.ag⟩;show SR (at_ x.rp 0 ((x.rp 0).lead).1 0) _ _ _ _;rw[nK];exact I
end SW
end Go.Proofs.YtpeepcmdehhbgaaGreatDoor
end
namespace Go.Proofs.YtpeepcmdehhbgaaGreatDoor
open RowKit Hop V
theorem XS{e:En}(I:e.k≠2)(G:abq.seen (x.at_ e).F (x.at_ e).M e.sq=false)(L:¬ e.ep<Ec x.fQ e.ag)(h4:abq.far (x.at_ e).F e.sq=false)(h5:abk.iV x.q e.ds=0):ei x e=(1,0,⟨abk.nj x.q e.ds,tC x.fQ e.ag e.ep,i_ x.pl (e.ag,e.sh) ⟨(abq.ij (x.at_ e).F (x.at_ e).M e.sq).1,(abq.ij (x.at_ e).F (x.at_ e).M e.sq).2,(x.at_ e).B⟩⟩):=by unfold ei;rw[aB I,aB (by rw[G];simp),aB L,aB (by rw[h4];simp),aA h5]
set_option maxRecDepth 100000
set_option maxHeartbeats 1000000
theorem ab3(h:St (λ_=>False) w0 l w):Grow w0 w:=Below.trans (Grow.refl w0) (h.just.below (B:=(w0:Nat)) (λ_ hb=>hb.elim False.elim id) (bh _))
theorem abH(l:List (Int×Int))(k n:Int):Ec (tC l k n) k=n:=by
 unfold Ec tC;split
 ·rename_i h
  induction l with
  | nil=>simp at h
  | cons a l ih=>
    rw[bQ,List.find?_cons];by_cases ha:a.1=k;·rw[aA ha];simp
    ·rw[aB ha,aD ha]
     refine ih ?_;rw[bQ,cI] at h;exact h.resolve_left λe=>ha e.symm
 ·rename_i h
  have:l.find? (λa=>decide (a.1=k))=none:=by rw[List.find?_eq_none];intro a ha E;exact h (List.mem_map.2 ⟨a,ha,of_decide_eq_true E⟩)
  rw[List.find?_append,this];simp
structure MsN(x:j4)(n:Nat):Prop where
 pl:gW x.pl (1,0)=⟨(n:Int),0,[]⟩
 ep:Ec x.fQ 1<=1
 pB:abk.Rh x.q
 len:x.q.length<=n
 sz:∀d∈x.q,d.1.size<=20
theorem MsN.new:MsN j4.new 0:=⟨rfl,by decide,List.Pairwise.nil,bh _,λ_ h=>by cases h⟩
theorem put_mem{q:abk.Sm}{x:aR}{v:Nat}{e:Dl}(h:e∈abk.put q x v):e=(x,v)∨e∈q:=by
 unfold abk.put at h;split at h
 ·obtain⟨d,hd,rfl⟩:=List.mem_map.1 h
  split;·exact .inl rfl
  ·exact .inr hd
 ·rcases List.mem_append.1 h with h|h
  ·exact .inr ((List.takeWhile_sublist _).subset h)
  ·rcases List.mem_cons.1 h with h|h
   ·exact .inl h
   ·exact .inr ((List.dropWhile_sublist _).subset h)
theorem abP(n:Nat):abq.ij (n:Int) 0 ((n+1:Nat):Int)=(((n+1:Nat):Int),0):=by
 have e:((n+1:Nat):Int)-(n:Int)-1=0:=by omega
 have hf:abq.far (n:Int) ((n+1:Nat):Int)=false:=by unfold abq.far;rw[e];simp
 have hs:abq.seen (n:Int) 0 ((n+1:Nat):Int)=false:=by unfold abq.seen;rw[aD ap];simp
 have hb:abq.Kf (n:Int) 0 ((n+1:Nat):Int)=true:=by unfold abq.Kf;rw[hf,hs];rfl
 unfold abq.ij;rw[aA hb];unfold abq.put;rw[e];rfl
theorem MsN.step(h:MsN x n)(hn:n<=14)(hz:d.1.size<=20)(hs:abn.aaq (λ_=>true) x.q+d.2<=18446744073709551615)(tg:Nat):∃y:j4,ei x (lQ (n+1) d tg)=(((1:Nat):Int),0,y)∧MsN y (n+1)∧y.q=abk.put x.q d.1 (abk.gt x.q d.1+d.2):=by
 have hp:x.at_ (lQ (n+1) d tg)=⟨(n:Int),0,[]⟩:=h.pl;have H:=abn.abZ (x:=d.1) x.q;have gC:abk.i7 x.q [] [d]=true:=by show (decide (0+d.2+abk.gt x.q d.1<=abk.o6)&&true)=true;rw[aC (show 0+d.2+abk.gt x.q d.1<=abk.o6 by unfold abk.o6;omega)];rfl
 have hnews:abk.news x.q (abk.add [] [d])<=1:=by unfold abk.news;refine bB (c_ _ _) ?_;show (abk.put [] d.1 (0+d.2)).length<=1;rw[abk.xi];split<;>simp
 have yR:abk.iV x.q [d]=0:=by unfold abk.iV;rw[aA gC,aB];have:=h.len;omega
 have qC:abk.nj x.q [d]=abk.put x.q d.1 (abk.gt x.q d.1+d.2):=by unfold abk.nj;rw[aA yR];rfl
 have e:=XS (x:=x) (e:=lQ (n+1) d tg) (show ¬ (1:Int)=2 by decide) (by
  rw[hp];show abq.seen (n:Int) 0 ((n+1:Nat):Int)=false;unfold abq.seen;rw[aD ap];simp) (show ¬ (1:Int)<Ec x.fQ 1 by have:=h.ep;omega) (by rw[hp];show abq.far (n:Int) ((n+1:Nat):Int)=false;unfold abq.far;rw[show ((n+1:Nat):Int)-(n:Int)-1=0 by omega];simp) yR
 refine⟨_,e,⟨?_,?_,?_,?_,λy hy=>?_⟩,qC⟩
 ·show gW (i_ x.pl (1,0) _) (1,0)=_
  rw[AJ,aA rfl,hp];show Pl.mk (abq.ij (n:Int) 0 ((n+1:Nat):Int)).1 (abq.ij (n:Int) 0 ((n+1:Nat):Int)).2 []=_;rw[abP]
 ·show Ec (tC x.fQ 1 1) 1<=1
  rw[abH];decide
 ·show abk.Rh (abk.nj x.q [d])
  rw[qC];exact abk.BD h.pB _ _
 ·show (abk.nj x.q [d]).length<=_
  have:=h.len;rw[qC,abk.xi];split<;>omega
 ·have hy:y∈abk.nj x.q [d]:=hy
  rw[qC] at hy;rcases put_mem hy with rfl|hy
  ·exact hz
  ·exact h.sz y hy
theorem ab0{f:ByteArray->Bool}{y:j4}(h:MsN x n)(hq:y.q=abk.put x.q d.1 (abk.gt x.q d.1+d.2)):abn.aaq f y.q=abn.aaq f x.q+if f d.1 then d.2 else 0:=by have:=abn.abK (f:=f) (x:=d.1) (v:=abk.gt x.q d.1+d.2) h.pB;rw[<-hq] at this;revert this;split<;>intro<;>omega
theorem abQ{U:aV}{m:Nat}(h:gR m x w U)(hq:x.q.length<=1048576):abk.Right x.q∧dz W 22 #[m] w λe O=>∃A,e=b5 (Z A x.q.length x.q.length)∧In O (New w O) 2 A x.q.length (fm x.q)∧Grow w O:=by obtain⟨sp,bE,bS,abn,_,hM⟩:=h;obtain⟨U3,hC,_⟩:=dN.mem hM (S:=Cell m 138 #[sp,.map (some bE),.map (some bS)]) (by simp[qf]);obtain⟨U4,hSm,_⟩:=dN.mem hM (S:=abk.gT sp x.q) (by simp[qf]);refine⟨hSm.2.1,?_⟩;have c0:=hC.2.cell 0;have hA:=abk.abN abk.abG w sp _ U4 hSm hq;generalize x.q=qq at hA ⊢;clear hM hC hSm;go_in;go_wp2_with fail;refine hA.mono ?_;rintro e w1 ⟨A,rfl,hI,H⟩;go_wp2;go_ret;exact⟨A,rfl,hI,H⟩
theorem abY{abq s:Nat}(h:St V w0 (mZ abq s p++l) w){i:Nat}(hi:i<p.1.nr)(hq:(p.1.rp i).m.q.length<=1048576):abk.Right (p.1.rp i).m.q∧∃r m:Nat,dz W 31 #[abq,J i] w (λe O=>e=b5 ((r:K))∧w=O)∧dz W 17 #[r] w (λe O=>e=b5 ((m:K))∧w=O)∧
  dz W 22 #[m] w λe O=>∃A,e=b5 (Z A (p.1.rp i).m.q.length (p.1.rp i).m.q.length)∧In O (New w O) 2 A (p.1.rp i).m.q.length (fm (p.1.rp i).m.q)∧Grow w O:=by
 obtain⟨P,hP,hQ,hS⟩:=iw.opn h
 have Uf:=qT (iM hS hQ) hQ hi
 rw[hP] at Uf
 obtain⟨U,⟨q,g,I,_,L⟩,_⟩:=(hS.front (5+i) (Ph P p.1 hi _)).own.see 0 rfl
 obtain⟨_,hB⟩:=xe L 0 rfl
 obtain⟨U2,hM,_⟩:=nV L 1 rfl
 unfold iu at hB
 rw[I] at hB
 obtain⟨hr,E⟩:=abQ hM hq
 exact⟨hr,P.r i,q.m,Uf,ES hB,E⟩
end Go.Proofs.YtpeepcmdehhbgaaGreatDoor
namespace Go.Proofs.YtpeepcmdehhbgaaGreatDoor.Tp
open RowKit Hop abk
def aat(x:Nat)(D:aV)(w:X):Prop:=¬ D x∧∃(A:aU)(n c:Nat)(xs:aN)(p:Nat),eJ w x 34 #[Z A n c,J p]∧In w D 1 A n (xs.map (Value.int .i64))∧p<=n∧n<=9223372036854775807∧∀z∈xs,-9223372036854775808<=z∧z<=9223372036854775807
theorem aat.keep{x:Nat}{D:aV}{w O:X}(h:aat x D w)(Y:O.heap[x]?=w.heap[x]?)(N:∀b,D b->b<(w:Nat)->O.heap[b]?=w.heap[b]?):aat x D O:=by obtain⟨h0,A,n,c,xs,p,I,G,L⟩:=h;exact⟨h0,A,n,c,xs,p,Y.trans I,G.keep N,L⟩
theorem aat.lt{x:Nat}{D:aV}{w:X}(h:aat x D w):x<(w:Nat):=by obtain⟨_,_,_,_,_,_,I,_⟩:=h;exact I.lt
theorem aat.grow{x:Nat}{D:aV}{O:X}(h:aat x D w)(H:Grow w O):aat x D O:=h.keep (H.block x h.lt) λb _ hb=>H.block b hb
def aaI:List ByteArray:=[{ data:=#[97,61,49] },{ data:=#[97,61,50] },{ data:=#[97,61,49,44,98,61,120] },{ data:=#[106,111,98,61,97,112,105,44,122,111,110,101,61,101,117] },{ data:=#[106,111,98,61,119,101,98] },{ data:=#[107,61,118] },{ data:=#[110,61,48] },{ data:=#[97,61,51,44,99,61,57] }]
def abR:Array K:=#[.string { data:=#[97,61,49] },.string { data:=#[97,61,50] },.string { data:=#[97,61,49,44,98,61,120] },.string { data:=#[106,111,98,61,97,112,105,44,122,111,110,101,61,101,117] },.string { data:=#[106,111,98,61,119,101,98] },.string { data:=#[107,61,118] },.string { data:=#[110,61,48] },.string { data:=#[97,61,51,44,99,61,57] }]
theorem abS{k:Nat}(N:k<8):∃s:aR,s∈aaI∧abR[k]?=some (aX s):=by
 have:∀k:Fin 8,∃s:aR,s∈aaI∧abR[k.val]?=some (aX s):=by
  intro k;match k with
  | 0=>exact⟨_,List.mem_of_getElem? (i:=0) rfl,rfl⟩
  | 1=>exact⟨_,List.mem_of_getElem? (i:=1) rfl,rfl⟩
  | 2=>exact⟨_,List.mem_of_getElem? (i:=2) rfl,rfl⟩
  | 3=>exact⟨_,List.mem_of_getElem? (i:=3) rfl,rfl⟩
  | 4=>exact⟨_,List.mem_of_getElem? (i:=4) rfl,rfl⟩
  | 5=>exact⟨_,List.mem_of_getElem? (i:=5) rfl,rfl⟩
  | 6=>exact⟨_,List.mem_of_getElem? (i:=6) rfl,rfl⟩
  | 7=>exact⟨_,List.mem_of_getElem? (i:=7) rfl,rfl⟩
 exact this ⟨k,N⟩
theorem aaJ(h:s∈aaI):s.size<=16:=by
 have:∀s∈aaI,s.size<=16:=by decide +kernel
 exact this s h
theorem abI(w:X):dz W 27 #[] w λe O=>∃g,e=b5 (Z (some ⟨g,0,none⟩) 8 8)∧(w:Nat)<=g∧eJ O g 9 abR∧Grow w O:=by go_in;go_wp2;go_ret;exact⟨_,rfl,bh _,eJ.made w _ _,(Below.refl _ w).alloc (bh _) _⟩
def Kept(l:List Dl):Prop:=∀d∈l,d.1∈aaI∧1<=d.2∧d.2<=o6
theorem Kept.ok{l:List Dl}(h:Kept l):∀d∈l,d.1.size<=dG∧d.2<=o6:=λd hd=>⟨by have:=aaJ (h d hd).1;unfold dG;omega,(h d hd).2.2⟩
theorem aaD(a b:abn.Lb)(I:abn.fM s=[a,b])(G:(!abn.slt b.1 a.1)=true)(L:abn.gK [a,b]=0)(h4:abn.txt [a,b]=s):abn.fW s=0:=by
 have E:abn.can [a,b]=[a,b]:=by unfold abn.can;exact List.mergeSort_of_pairwise (by simpa using G)
 unfold abn.fW abn.mx;rw[I,E,L,h4];simp
theorem ab7(h:s∈aaI):abn.fW s=0:=by
 simp only[aaI,cI,cF,or_false] at h;rcases h with rfl|rfl|rfl|rfl|rfl|rfl|rfl|rfl
 ·decide +kernel
 ·decide +kernel
 ·exact aaD (⟨#[97]⟩,⟨#[49]⟩) (⟨#[98]⟩,⟨#[120]⟩) (by decide +kernel) (by decide +kernel) (by decide +kernel) (by decide +kernel)
 ·exact aaD (⟨#[106,111,98]⟩,⟨#[97,112,105]⟩) (⟨#[122,111,110,101]⟩,⟨#[101,117]⟩) (by decide +kernel) (by decide +kernel) (by decide +kernel) (by decide +kernel)
 ·decide +kernel
 ·decide +kernel
 ·decide +kernel
 ·exact aaD (⟨#[97]⟩,⟨#[51]⟩) (⟨#[99]⟩,⟨#[57]⟩) (by decide +kernel) (by decide +kernel) (by decide +kernel) (by decide +kernel)
end Go.Proofs.YtpeepcmdehhbgaaGreatDoor.Tp
namespace Go.Proofs.YtpeepcmdehhbgaaGreatDoor
open RowKit Hop V
set_option maxRecDepth 100000
set_option maxHeartbeats 1000000
theorem and7(h:0<=z∧z<4294967296):bits .and .u32 z 7=z % 8:=by
 have key:(BitVec.ofInt 32 z &&& BitVec.ofInt 32 7).toNat=(z % ((2 ^ 32:Nat):Int)).toNat % 2 ^ 3:=by rw[BitVec.toNat_and,BitVec.toNat_ofInt,(by decide:(BitVec.ofInt 32 7).toNat=2 ^ 3-1),Nat.and_two_pow_sub_one_eq_mod]
 show IntKind.u32.wrap ((BitVec.ofInt 32 z &&& BitVec.ofInt 32 7).toNat:Nat)=z % 8;rw[key,IntKind.wrap_u32];omega
theorem acb(h:0<=z∧z<4294967296):bits .and .u32 z 65535=z % 65536:=by
 have key:(BitVec.ofInt 32 z &&& BitVec.ofInt 32 65535).toNat=(z % ((2 ^ 32:Nat):Int)).toNat % 2 ^ 16:=by rw[BitVec.toNat_and,BitVec.toNat_ofInt,(by decide:(BitVec.ofInt 32 65535).toNat=2 ^ 16-1),Nat.and_two_pow_sub_one_eq_mod]
 show IntKind.u32.wrap ((BitVec.ofInt 32 z &&& BitVec.ofInt 32 65535).toNat:Nat)=z % 65536;rw[key,IntKind.wrap_u32];omega
def ab4:List abn.Lb:=[(⟨#[97]⟩,⟨#[49]⟩)]
theorem ac5:abn.aas ⟨#[97,61,49,44,98,61,120]⟩ ab4=true:=by
 have h:abn.fW ⟨#[97,61,49,44,98,61,120]⟩=0:=Tp.ab7 (List.mem_of_getElem? (i:=2) rfl);have hl:abn.fM ⟨#[97,61,49,44,98,61,120]⟩=[(⟨#[97]⟩,⟨#[49]⟩),(⟨#[98]⟩,⟨#[120]⟩)]:=by decide +kernel
 have G:abn.nY ⟨#[97,61,49,44,98,61,120]⟩=[(⟨#[97]⟩,⟨#[49]⟩),(⟨#[98]⟩,⟨#[120]⟩)]:=by
  unfold abn.nY;unfold abn.fW at h;split;·exact hl
  ·rename_i E;rw[aB E] at h;cases h
 unfold abn.aas;rw[h,G];decide
theorem abT(h:s∈Tp.aaI):abn.fW s=0∧s.size<=16:=⟨Tp.ab7 h,Tp.aaJ h⟩
theorem abU{l:aN}(h:∀z∈l,(Lit.int .u32 z).wf=true):∀z∈l,0<=z∧z<4294967296:=λz hz=>by have:=h z hz;simp[Lit.wf,IntKind.min,IntKind.max,IntKind.signed,IntKind.bits] at this;omega
theorem abC(w:X):In (w.alloc (.cells #[aX ⟨#[97]⟩,aX ⟨#[49]⟩] 66)) (λ_=>True) 2 (some ⟨(w:Nat),0,none⟩) 1 (abn.gF ab4):=by
 refine⟨rfl,λ_=>⟨_,rfl,trivial,(eJ.made w 66 #[aX ⟨#[97]⟩,aX ⟨#[49]⟩]).lt,λj u hu=>?_⟩⟩;have hB:=eJ.made w 66 #[aX ⟨#[97]⟩,aX ⟨#[49]⟩];have e:=hB.cell j;rw[show Addr.add ⟨(w:Nat),0,none⟩ j=⟨(w:Nat),j,none⟩ by unfold Addr.add;split<;>simp_all,e,<-hu];match j with
 | 0=>rfl
 | 1=>rfl
 | j+2=>rfl
theorem ab5(w:X)(A0:aU)(no co:Nat)(lo:aN)(hr:Reads w (w:Nat) 1 A0 no (lo.map (Value.int .u32)))(hlw:∀z∈lo,0<=z∧z<4294967296):dz W 4 #[Z A0 no co] w λe O=>e=b5 (aY true)∧Grow w O:=by
 have Vi:lo.length=no:=by have:=hr.1;simpa using this
 obtain⟨f,Hf⟩:=az (λs=>abn.aas s ab4:ByteArray->Bool);have fN:St (λ_=>False) w ([]++[]) w:=St.begin_ (l:=[]) trivial (λ_ h=>h.elim) trivial;have hB:=St.call (a:=[]) (b:=[]) fN (a':=λi:Nat×Nat=>mZ i.1 i.2 (jP 1 1)) (λ_=>pu _ _ _) fN.no (JO w 1 1 am am am vm);have hB:dz W 26 #[J 1,J 1] w _:=hB;obtain⟨p,HP⟩:=az (jP 1 1);have hp:=yF (nr:=1) (na:=1) am am;have hw:=SW.begun;rw[<-HP.out] at hB hp hw;clear HP;go_in;go_wp2_with fail;refine hB.mono ?_;rintro e w1 ⟨⟨abq,s⟩,rfl,ej⟩;have ej:St (λ_=>False) w (mZ abq s p++[]) w1:=ej;clear hB fN;go_wp2_with fail;go_loopw [5,6] (λu i wr=>∃(j:Nat)(q:WS)(es:List En)(ms:j4),i=J j∧u=ae ah ((abn.aaq f ms.q:Nat):Int)∧(j<=no∧j<=10∧es.length=j∧abn.aaq (λ_=>true) ms.q<=65536*j)∧MsN ms j∧SW q.1 es ms 1 (100+18000*j) j [] [] [] [] (100+300*j) []∧gY q 1 1 (2+j) (100+400*j)∧St (λ_=>False) w (mZ abq s q++[]) wr) (λ_ i _=>10-(intOf i).toNat);case atStart=>exact⟨0,p,[],j4.new,rfl,rfl,⟨bo _,bo _,rfl,bh _⟩,MsN.new,hw.1,hp,ej⟩
 case round=>
  clear ej hw hp;obtain⟨j,q,es,ms,rfl,rfl,⟨hj,hj10,hel,hsum⟩,hms,hw,hq,hS⟩:=hrel;have Vj:0<q.1.nr:=by rw[hq.nr];decide
  by_cases Vb:j<no∧j<10
  ·obtain⟨k1,k2⟩:=Vb
   have c1:decide ((j:Int)<(no:Int))=true:=aC ap;have c2:decide ((j:Int)<10)=true:=aC ap;obtain⟨ad,u0,rfl,hb,Y,E⟩:=hr.at_ (k:=j) ap;have Ix:j<lo.length:=by omega
   rw[List.getElem?_map,List.getElem?_eq_getElem Ix] at Y;injection Y with Y;rw[<-Y] at E;have hcw:wr.cell? (ad.add j)=some (.int .u32 lo[j]):=((ab3 hS).cell (p:=ad.add j) (by rw[block_add];exact hb)).trans E;have hz:=hlw _ (bF Ix);obtain⟨z,HZ⟩:=az (lo[j]);rw[<-HZ.out] at hcw hz;clear E Y HZ;have a7:=and7 hz;have a16:=acb (z:=z / 256) ap;obtain⟨k,Hk⟩:∃k:Nat,Hid (z % 8=(k:Int)):=⟨(z % 8).toNat,Q ap⟩;obtain⟨m,Hm⟩:∃m:Nat,Hid (z / 256 % 65536=(m:Int)):=⟨(z / 256 % 65536).toNat,Q ap⟩;have YK:k<8:=by have:=Hk.out;omega
   have hm16:m<65536:=by have:=Hm.out;omega
   rw[Hk.out] at a7;rw[Hm.out] at a16;clear Hk Hm;obtain⟨m1,Hm1⟩:=az (m+1);have ry:1<=m1∧m1<=65536:=by have:=Hm1.out;omega
   have hw0:IntKind.i64.wrap (m:Int)=(m:Int):=by rw[IntKind.wrap_i64];omega
   have wv:IntKind.i64.wrap (1+(m:Int))=(m1:Int):=by rw[IntKind.wrap_i64,Hm1.out];omega
   have Bg:IntKind.u64.wrap (m1:Int)=(m1:Int):=by rw[IntKind.wrap_u64];omega
   obtain⟨x,hxn,Y⟩:=Tp.abS YK;have Cw:¬ no<=j:=by omega
   have gl:=ab3 hS;go_wp2_with fail;refine dJ rfl ?_;refine gi (λO=>O.cell? (ad.add j)=some (.int .u32 z)) 18 rfl ?_;refine held 1 rfl hcw (λw1 E=>aM) ?_;refine held 2 rfl hcw (λw1 E=>aM) ?_;refine held 3 rfl hcw (λw1 E=>aM) ?_;refine held 4 rfl hcw (λw1 E=>aM) ?_;refine held 5 rfl hcw (λw1 E=>aM) ?_;refine held 8 rfl hcw (λw1 E=>aM) ?_;refine held 9 rfl hcw (λw1 E=>aM) ?_;refine held 10 rfl hcw (λw1 E=>aM) ?_;refine held 11 rfl hcw (λw1 E=>aM) ?_;refine held 12 rfl hcw (λw1 E=>aM) ?_;refine held 13 rfl hcw (λw1 E=>aM) ?_;refine held 14 rfl hcw (λw1 E=>aM) ?_;refine held 15 rfl hcw (λw1 E=>aM) ?_;refine dY 0 rfl ?_;go_wp2_with fail;refine (Tp.abI wr.drew).mono ?_;rintro e w2 ⟨g,rfl,hgs,lS,fk⟩;have abJ:w2.cell? (ad.add j)=some (.int .u32 z):=(fk.cell (p:=ad.add j) (by rw[block_add];exact bw hb gl.size)).trans hcw;have c0:=(lS.cell k).trans Y;have hk8':¬ 8<=k:=by omega
   go_wp2_with fail;refine⟨abJ,?_⟩;refine dY 6 rfl ?_;go_wp2_with fail;refine⟨abJ,?_⟩;refine dY 7 rfl ?_;go_wp2_with fail;refine⟨abJ,?_⟩;refine fL 16 abJ ?_;refine fL 17 abJ ?_;refine eU ?_;obtain⟨hxp,hxs⟩:=abT hxn;have hd:DS (x,m1):=⟨hxp,⟨ry.1,by show m1<=_;omega⟩,by show x.size<=_;omega⟩;obtain⟨ms2,st1,st2,st3⟩:=hms.step ap (d:=(x,m1)) (by show x.size<=_;omega) (by show _+m1<=_;omega) 0;obtain⟨tg,gv1,gv2⟩:=hw.give hd ap ap ap ap (yI hq ap) (c:=1) (by rw[st1]) (.inl rfl) (by rw[st1]);rw[st1] at gv2;have dV:St (λ_=>False) w (mZ abq s q++[]) w2:=hS.grow ((Grow.refl wr).drew.trans fk);obtain⟨hG,CQ⟩:=TI dV hq ap ap hw (d:=(x,m1)) hd (by show m1<=_;omega) ap ap;have sf:=ab0 (f:=f) hms st3;have sa:=ab0 (f:=λ_=>true) hms st3;rw[aA rfl] at sa;obtain⟨q2,Wu⟩:=az (tQ (x,m1) q:WS);rw[<-Wu.out] at hG CQ gv2;clear Wu gv1 hw hq hS dV hcw abJ hms st1 st3;go_wp2_with fail;refine hG.mono ?_;rintro e w3 ⟨rfl,dX⟩;clear hG;have hMa:=abn.aaB _ x ap _ _ 1 1 ab4 (abC w3) am;rw[show abn.aas x ab4=f x by rw[Hf.out]] at hMa;have z8:=dT w3 (.cells #[aX ⟨#[97]⟩,aX ⟨#[49]⟩] 66);have sf:abn.aaq f ms2.q=abn.aaq f ms.q+if f x then m1 else 0:=sf;have sa:abn.aaq (λ_=>true) ms2.q=abn.aaq (λ_=>true) ms.q+m1:=sa;have mn:=abn.ab2 f ms2.q;obtain⟨a,Ha⟩:=az (abn.aaq f ms.q);rw[<-Ha.out] at sf ⊢;obtain⟨b,Hb⟩:=az (abn.aaq f ms2.q);rw[<-Hb.out] at sf mn;rcases bC (f x) with Y8|Y8
   ·rw[Y8,aA rfl] at sf
    rw[Y8] at hMa;have qC:IntKind.u64.wrap ((a:Int)+(m1:Int))=(b:Int):=by rw[IntKind.wrap_u64];omega
    replace sf:=Q sf;go_wp2_with fail;refine hMa.mono ?_;rintro e w4 ⟨rfl,Bi⟩;clear hMa;have eO:=dX.grow (z8.trans Bi);go_wp2_with fail;refine⟨⟨j+1,q2,es++[lQ (j+1) (x,m1) tg],ms2,by go_num,by rw[<-Hb.out],⟨by omega,by omega,by rw[bd,hel];rfl,by omega⟩,st2,by rw[show 100+18000*(j+1)=100+18000*j+18000 by omega,show 100+300*(j+1)=100+300*j+300 by omega];exact gv2,by rw[show 2+(j+1)=2+j+1 by omega,show 100+400*(j+1)=100+400*j+400 by omega];exact CQ,eO⟩,by simp[intOf];omega⟩
   ·rw[Y8,aB am] at sf
    rw[Y8] at hMa;replace sf:=Q sf;go_wp2_with fail;refine hMa.mono ?_;rintro e w4 ⟨rfl,Bi⟩;clear hMa;have eO:=dX.grow (z8.trans Bi);go_wp2_with fail;refine⟨⟨j+1,q2,es++[lQ (j+1) (x,m1) tg],ms2,by go_num,by rw[<-Hb.out,sf.out];rfl,⟨by omega,by omega,by rw[bd,hel];rfl,by omega⟩,st2,by rw[show 100+18000*(j+1)=100+18000*j+18000 by omega,show 100+300*(j+1)=100+300*j+300 by omega];exact gv2,by rw[show 2+(j+1)=2+j+1 by omega,show 100+400*(j+1)=100+400*j+400 by omega];exact CQ,eO⟩,by simp[intOf];omega⟩
  ·have Vj:0<q.1.nr:=by rw[hq.nr];decide
   obtain⟨T,r,mm,Uf,h17,h22⟩:=abY hS Vj (by rw[hw.rp.m];have:=hms.len;omega);rw[hw.rp.m] at T h22;have Uf:dz W 31 #[abq,()] wr _:=Uf;have mn:=abn.ab2 f ms.q;obtain⟨abm,HT⟩:=az (abn.aaq f ms.q);have acg:abn.aaS ab4 ms.q 0=some abm:=by rw[abn.aaC ab4 ms.q 0 (by rw[<-Hf.out];omega),cJ,HT.out,Hf.out]
   have sv:∀d∈ms.q,d.1.size<=1000000∧d.2<=18446744073709551615:=λd hd=>⟨bB (hms.sz d hd) am,T.num d hd⟩;have wK:ms.q.length<=1048576:=by have:=hms.len;omega
   rw[<-HT.out];obtain⟨n,HN⟩:=az (ms.q.length);rw[<-HN.out] at h22 wK;clear hw hms mn HT;go_wp2_with fail;all_goals
    refine Uf.mono ?_
    rintro e w2 ⟨rfl,rfl⟩
    clear Uf
    go_wp2_with fail
    refine h17.mono ?_
    rintro e w2 ⟨rfl,rfl⟩
    clear h17
    go_wp2_with fail
    refine h22.mono ?_
    rintro e w3 ⟨A,rfl,hI,ib⟩
    clear h22
    have dX:=hS.grow ib
    have z8:=dT w3 (.cells #[aX ⟨#[97]⟩,aX ⟨#[49]⟩] 66)
    have hTo:=abn.abE _ _ _ A _ n n 1 1 abm ms.q ab4 (hI.grow z8) wK sv (abC w3) am acg
    go_wp2_with fail
    refine hTo.mono ?_
    rintro e w4 ⟨rfl,Bi⟩
    clear hTo
    have eO:=dX.grow (z8.trans Bi)
    have acf:=dT w4 (.cells #[aX ⟨#[97]⟩,aX ⟨#[49]⟩] 66)
    have hMa:=abn.aaB _ ⟨#[97,61,49,44,98,61,120]⟩ am _ _ 1 1 ab4 (abC w4) am
    rw[ac5] at hMa
    have d1:decide (abm=abm)=true:=aC rfl
    go_wp2_with fail
    refine hMa.mono ?_
    rintro e w5 ⟨rfl,ng⟩
    clear hMa
    have eF:St (λ_=>False) w ([]++[]) w5:=(eO.grow (acf.trans ng)).drop.drop
    have hAw:=St.call (a:=[]) (b:=[]) eF (a':=λ(_:Unit)=>[]) (λ_=>trivial) eF.no (TJ w5)
    go_wp2_with fail
    refine hAw.mono ?_
    rintro e w7 ⟨_,rfl,gy⟩
    go_wp2
    go_ret
    exact⟨rfl,ab3 gy⟩
end Go.Proofs.YtpeepcmdehhbgaaGreatDoor
