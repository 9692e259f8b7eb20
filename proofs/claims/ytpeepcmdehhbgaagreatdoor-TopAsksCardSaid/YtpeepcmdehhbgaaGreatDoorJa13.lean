import Derived.Test.YtpeepcmdehhbgaaGreatDoorJa12
import Derived.Laws.Bits128
set_option linter.all false
set_option maxRecDepth 100000
open Go.Value renaming int->ae,slice->Z,string->aX,bool->aY,agg->aZ,tuple->a_
open Go.Ending renaming returned->b5
open Go.IntKind renaming i64->af,u64->ah
open Go.Proofs.Tryz renaming prog->W
open Go.Lib renaming hid->Q
open List renaming length_append->bd,perm_append_comm->bg,length_map->bj,getElem_mem->bF,map_append->bI,mem_cons_of_mem->bR,range->bV,nil_append->ch,mem_cons_self->cj,length_filter_le->c_,length_range->da
open Nat renaming le_of_ble_eq_true->bf,le_refl->bh,zero_le->bo,le_trans->bB,zero_add->cJ
open Go renaming Value->K,World->X,Calls->dz
open Go (J az aE aA aB aC aD ay aj am ap aw aL aK aJ aI aH aV aU aT aR aQ aP aO aN)
open Go.Hop (Bl)
open Go.Proofs.YtpeepcmdehhbgaaGreatDoor (WS)
variable{p:WS}{Bd abm B i s m1 y M tg m2:Nat}{w0 w:X}{l:List Bl}{abp abj:Nat->Nat}{V:aV}
namespace Go.Proofs.YtpeepcmdehhbgaaGreatDoor
open RowKit Hop V
theorem setW.give{es:List En}(h:setW p es abm Bd B abp)(hi:i<3){d:Dl}(hd:DS d)(pL:Bd<=900000)(CP:es.length<=49)(hN:abp i<900000)(hB:B<=900000)(ht:(p.1.ag i).tag<9223372036854775807){c:Nat}(E:(ei (abE j4.new es) (enG (3+i) (abp i+1) d 0)).1=(c:Int))(sy:c=1∨c=2∨c=3)(hm:(ei (abE j4.new es) (enG (3+i) (abp i+1) d 0)).2.1=0):∃tg,setW (abM i d p) (es++[enG (3+i) (abp i+1) d tg]) abm (Bd+54000) (B+300) (at_ abp i (abp i+1)):=by
 obtain⟨t,tg,y,KS,w1,n1,g1,hy,_⟩:=h.nQ hi hd hN hB ht;obtain⟨z,d1,w2,n2,g2⟩:=w1.six rfl n1 hi rfl (ada ap hd ⟨by omega,by omega⟩ KS) (g:=tg) rfl (c:=c) (m:=0) E hm (id:=idG (3+i) (abp i+1)) (by rw[g1,nK,hy.ask];unfold qR;simp) pL CP p.2 0 394;refine⟨tg,?_⟩;have hl:(es++[enG (3+i) (abp i+1) d tg]).length=es.length+1:=by rw[bd];rfl
 rw[acp,d1];refine⟨by rw[hl];exact w2,n2,λj hj=>?_⟩;show abD (3+j) 3 (z.ag j) _ _ _ _ _ _;rw[g2,g1,nK,at_at];by_cases e:j=i
 ·subst e
  rw[nK,nK];exact hy.done ap ap ap ap sy
 ·rw[abC _ _ e,abC _ _ e]
  exact (h.ag j hj).mono ap
theorem abP{abn:Nat}(h:gY p 3 3 M abn)(hM:M<=1000000)(hi:i<3):(p.1.ag i).tag<9223372036854775807:=by have:=(h.good.ag i (by rw[h.na];exact hi)).ti.tm.tag;omega
theorem acG{abq abn:Nat}(hS:St V w0 (mZ abq s p++l) w)(hp:gY p 3 3 M abn)(hM:M<=1000000)(hL:abn<=900000){es:List En}(h:setW p es abm Bd B abp)(hi:i<3){d:Dl}(hd:DS d)(Ye:d.2<=9223372036854775807)(hN:abp i<900000)(hB:B<=900000):(dz W 28 #[abq,s,J ((3+i:Nat):Int),aX d.1,J d.2] w λe O=>e=b5 (aY true)∧St V w0 (mZ abq s (abM i d p)++l) O)∧gY (abM i d p) 3 3 (M+1) (abn+400):=by
 obtain⟨_,_,_,_,_,_,_,_,kT⟩:=h.nQ hi hd hN hB (abP hp hM hi);have h0:i<p.1.na:=by rw[hp.na];exact hi
 have g1:=hp.good.gI h0 (d:=d) ap;have g2:=g1.fU h0;have g3:=g2.jy ap h0 (n:=1) am;have a1:=hp.good.EM (abq:=abq) h0 0 (n:=d.2) (s:=d.1) (by have:=hd.s;omega) Ye;rw[hp.nr] at a1;have a2:=g1.Ck (abq:=abq) (x:=p.1.gI i d) h0 0 0 ⟨#[]⟩;rw[show (p.1.gI i d).nr=3 from hp.nr] at a2;have a3:=g2.JH (abq:=abq) (x:=(p.1.gI i d).fU i) ap h0 0 (n:=1) ⟨#[]⟩ ⟨by decide,by decide⟩;rw[show ((p.1.gI i d).fU i).nr=3 from hp.nr] at a3;have hr:kr abq p.1 p.2 (EO ((3+i:Nat):Int) (d.2:Int) d.1) true (abG p.1 i d) p.2:=by refine kr.ok (x':=p.1.gI i d) a1 kT (show (0:Nat)<18446744073709551616 by decide) ?_;refine kr.ok (x':=(p.1.gI i d).fU i) a2 rfl (show (0:Nat)<18446744073709551616 by decide) ?_;refine kr.ok (x':=abG p.1 i d) a3 rfl (show (0:Nat)<18446744073709551616 by decide) ?_;exact kr.nil _ _
 have H:gY (abG p.1 i d,p.2) 3 3 (M+1) abn:=⟨g3,hp.ok,hp.len,hp.nr,hp.na⟩;have hq:gY (abM i d p) 3 3 (M+1) (abn+400):=by unfold abM;exact H.YN
 refine⟨?_,hq⟩;have fj:=hp.len;have hG:=XH w (λ_=>False) abq s (M+1) p.1 (abG p.1 i d) p.2 p.2 ((3+i:Nat):Int) (d.2:Int) d.1 hr hp.ok hp.ok H.good ap ap;have e:=acp i d p;generalize eY (-1) 400 ⟨0,abG p.1 i d,p.2,none⟩=R at hG e;rw[e];have:=St.call (a:=mZ abq s p) (a':=λ(_:Unit)=>mZ abq s (R.x,R.s)) hS (λ_=>pu _ _ _) hS.no hG;exact this.mono λe O ⟨_,I,G⟩=>⟨I,G⟩
def sA2:ByteArray:=⟨#[97,61,50]⟩
def sKV:ByteArray:=⟨#[107,61,118]⟩
theorem pA2:abn.fW sA2=0:=by decide +kernel
theorem pKV:abn.fW sKV=0:=by decide +kernel
theorem acH(h:m1<=1000):∃y:j4,ei j4.new (enG 3 1 (kL,m1) tg)=(((1:Nat):Int),0,y)∧y.q=abk.put [] kL (0+m1)∧gW y.pl (4,0)=⟨0,0,[]⟩∧Ec y.fQ 4=0:=by
 have qC:abk.nj [] [(kL,m1)]=abk.put [] kL (0+m1):=by unfold abk.nj;rw[aA (a1h ap)];rfl
 have e:=XS (x:=j4.new) (e:=enG 3 1 (kL,m1) tg) (show ¬ (1:Int)=2 by decide) (show abq.seen 0 0 1=false by decide) (show ¬ ((1:Int)<0) by decide) (show abq.far 0 1=false by decide) (a1h ap);exact⟨_,e,qC,rfl,rfl⟩
theorem acZ{x:j4}(hq:x.q=abk.put [] kL (0+m1))(hp:gW x.pl (4,0)=⟨0,0,[]⟩)(he:Ec x.fQ 4=0)(h:m2<=1000):∃y:j4,ei x (enG 4 1 (sA2,m2) tg)=(((1:Nat):Int),0,y)∧y.q=abk.put (abk.put [] kL (0+m1)) sA2 m2:=by
 have H:abk.gt x.q sA2=0:=by unfold abk.gt;rw[hq,abk.BB,aB am];rfl
 have gC:abk.i7 x.q [] [(sA2,m2)]=true:=by show (decide (0+m2+abk.gt x.q sA2<=abk.o6)&&true)=true;rw[H,aC (show 0+m2+0<=abk.o6 by unfold abk.o6;omega)];rfl
 have yR:abk.iV x.q [(sA2,m2)]=0:=by
  unfold abk.iV;rw[aA gC,aB];have I:x.q.length<=1:=by rw[hq,abk.xi];split<;>simp
  have G:abk.news x.q (abk.add [] [(sA2,m2)])<=1:=by unfold abk.news;refine bB (c_ _ _) ?_;show (abk.put [] sA2 (0+m2)).length<=1;rw[abk.xi];split<;>simp
  omega
 have qC:abk.nj x.q [(sA2,m2)]=abk.put (abk.put [] kL (0+m1)) sA2 m2:=by unfold abk.nj;rw[aA yR];show abk.put x.q sA2 (abk.gt x.q sA2+m2)=_;rw[H,hq,cJ m2]
 have hat:x.at_ (enG 4 1 (sA2,m2) tg)=⟨0,0,[]⟩:=hp;have e:=XS (x:=x) (e:=enG 4 1 (sA2,m2) tg) (show ¬ (1:Int)=2 by decide) (by rw[hat];show abq.seen 0 0 1=false;decide) (show ¬ ((1:Int)<Ec x.fQ 4) by rw[he];decide) (by rw[hat];show abq.far 0 1=false;decide) yR;exact⟨_,e,qC⟩
theorem adb{x:j4}(hq:x.q=abk.put (abk.put [] kL (0+m1)) sA2 m2):abk.gt x.q kL=m1∧abk.gt x.q sA2=m2∧abk.gt x.q sKV=0:=by
 unfold abk.gt;rw[hq];refine⟨?_,?_,?_⟩;·rw[abk.BB,aB am,abk.BB,aA rfl];exact cJ _
 ·rw[abk.BB,aA rfl];rfl
 ·rw[abk.BB,aB am,abk.BB,aB am];rfl
end Go.Proofs.YtpeepcmdehhbgaaGreatDoor
namespace Go.Proofs.YtpeepcmdehhbgaaGreatDoor.Ne
open RowKit Hop V
set_option maxRecDepth 100000
set_option maxHeartbeats 1000000
theorem adr(w:X)(g:Nat)(nodes:Int)(l:List Lb)(P:aO)(V:aV)(hQ:fc g nodes l P w V):dz W 38 #[g] w λe O=>∃A c,e=b5 (Z A l.length c)∧Grow w O:=by
 obtain⟨A,c,q,HQ,HL,M9,hN,qD,hB,hI,iS,iO⟩:=hQ.lts;have cc1:w.cell? ⟨g,1,none⟩=some (Z A q.length c):=hB.cell 1;obtain⟨n,HN⟩:=az (q.length);have rA:l.length=n:=by rw[HN.out,<-HQ.out,bj]
 rw[rA];rw[<-HN.out] at cc1;have hn64:n<=64:=by rw[HN.out];exact M9
 replace rA:=Q rA;clear HQ HL M9 hN qD hB iS iO;go_in;go_wp2_with fail;go_loopw [3,11] (λs i wr=>∃(k:Nat)(ys:List K)(R:aV),k<=n∧i=J k∧Own wr R 172 3 s k ys∧(∀b,R b->New w wr b)∧Grow w wr) (λ_ i _=>n-(intOf i).toNat);case atStart=>exact⟨0,[],λ_=>False,by omega,rfl,Own.nil,λ_ h=>h.elim,Grow.refl _⟩
 case round=>
  obtain⟨k,ys,R,oL,rfl,hO,T,H⟩:=hrel;obtain⟨A1,c1,rfl,Ma,MZ,ry⟩:=hO.jL;by_cases N:k<n
  ·have d0:decide ((k:Int)<(n:Int))=true:=aC ap
   obtain⟨ad,vo,rfl,hV,hB,e0,e1⟩:=(hI.row.grow H).mr ap rS (show k<q.length by have:=HN.out;omega);have jE:=(hI.all q[k] (bF vo)).grow H;have e0:=e0 _ rfl;have e2:=e1 1 _ rfl;have e1:=e1 0 _ rfl;generalize q[k]=b at jE e0 e1 e2;obtain⟨f,t,Ab,mb,cb,bs⟩:=b;dsimp only[Lt.cells] at e0 e1 e2;have qY:¬ n<=k:=by omega
   have fu:Grow wr (wr.alloc (.cells #[J f,J t,Z Ab mb cb] 172)):=dT _ _;clear Ma cc1;go_wp2_with fail;refine (qH _ V ⟨f,t,Ab,mb,cb,bs⟩ (jE.grow fu)).mono ?_;rintro e w1 ⟨A2,c2,rfl,lA,eD⟩;have QI:=eD.size;simp only[fp] at QI;have pG:=dT w1 (.cells #[J f,J t,Z A2 mb c2] 172);go_wp2_with (at_builtin;refine stay ?_);refine dI ?_;have Fw:=H.size;have l6:∀b,R b->b<(wr:Nat):=λb hb=>(T b hb).2;refine fO (V:=R) sL _ rfl (.tmp 15) (.tmp 18) rfl (Z A1 k c1) k ys rfl (((hO.grow l6 (fu.trans eD)).grow (λb hb=>by have:=l6 b hb;omega) pG)) ((w1:Nat)+1) (some ⟨(w1:Nat),0,none⟩) 1 1 (Lt.cells ⟨f,t,A2,mb,c2,bs⟩) rfl (fF w1 _ 172 _ rfl _ rfl) (FY _) ap ?_;intro v2 w2 sw k7;have z6:=k7.size;simp only[fp] at z6;have hgj:Below (w:Nat) w1 w2:=Below.trans (pG.mono ap) (k7.below (B:=(w:Nat)) (λb hb=>(T b hb).1) (by simp;omega));have fk:Grow w w2:=Below.trans (H.trans (fu.trans eD)) hgj;go_wp2_with fail;go_roundw;case rel=>
    refine⟨k+1,_,_,by omega,by go_num,sw,λb hb=>?_,fk⟩;rcases hb with hb|⟨I,G⟩
    ·exact⟨(T b hb).1,by have:=l6 b hb;omega⟩
    ·simp only[fp] at I
     exact⟨by omega,G⟩
   case measure=>simp[intOf];omega
  ·obtain rfl:k=n:=by omega
   have d0:decide ((k:Int)<(k:Int))=false:=aD ap;go_wp2_with fail;go_ret;exact⟨A1,c1,rfl,H⟩
end Go.Proofs.YtpeepcmdehhbgaaGreatDoor.Ne
namespace Go.Proofs.YtpeepcmdehhbgaaGreatDoor
open RowKit Hop V
def lkS(k:Nat):ByteArray:=if k=0 then kL else if k=1 then sA2 else sKV
theorem ade(k:Nat):abn.fW (lkS k)=0∧(lkS k).size<=20:=by
 unfold lkS;split;·exact⟨XN,by decide⟩
 ·split
  ·exact⟨pA2,by decide⟩
  ·exact⟨pKV,by decide⟩
structure lookW(R:RdP)(x:Wl)(Bd j:Nat):Prop where
 w:abA x R.es0 R.n0 R.n0 R.n0 R.n0 R.abm Bd
 net:x.net=(bV j).map R.abN
 ag:∀k,k<3->abD (3+k) 3 (x.ag k) (R.abp k) [] [] [] (if k<j then [((R.tg k:Int),(0,0,0))] else []) R.B
 tag:∀k,j<=k->k<3->(x.ag k).tag+1=R.tg k
theorem lookW.look{R:RdP}{x:Wl}{Bd j:Nat}(h:lookW R x Bd j)(T:R.Ok)(hj:j<3):lookW R (x.nO j (R.abF j)) Bd (j+1):=by
 have ha:=h.ag j hj;rw[aB (Nat.lt_irrefl j)] at ha;have hl:=ha.look (T.abF j hj).1;have ht:=h.tag j (bh j) hj;rw[ht] at hl;have Y:x.nO j (R.abF j)=(x.jx j ((x.ag j).look (R.abF j)).1).send (x.nr+j) [((0:Int),gp (R.abl j))]:=by unfold Wl.nO;rw[ha.last,ha.node,ht];rfl
 obtain⟨w1,n1⟩:=h.w.sent (i:=j) (y:=((x.ag j).look (R.abF j)).1) (RdP.adF T hj) (by rw[h.net,bj,da];omega);rw[<-Y] at w1 n1;have g1:(x.nO j (R.abF j)).ag=at_ x.ag j ((x.ag j).look (R.abF j)).1:=by rw[Y];rfl
 refine⟨w1,?_,λk N=>?_,λk N zd=>?_⟩;·rw[n1,h.net,List.range_succ,bI];rfl
 ·rw[g1]
  by_cases e:k=j
  ·subst e
   rw[nK,aA (Nat.lt_succ_self _)];exact hl
  ·rw[abC _ _ e]
   have:=h.ag k N;by_cases fS:k<j
   ·rw[aA fS] at this
    rw[aA ap];exact this
   ·rw[aB fS] at this
    rw[aB ap];exact this
 ·rw[g1,abC _ _ ap]
  exact h.tag k ap zd
theorem lookW.start{es:List En}(h:setW p es abm Bd B abp)(v:Nat->Nat):lookW ⟨es,abm,lkS,λk=>(p.1.ag k).tag+1,v,abp,B⟩ p.1 Bd 0:=⟨h.w,h.net,λk N=>by rw[aB (Nat.not_lt_zero k)];exact h.ag k N,λ_ _ _=>rfl⟩
theorem lookW.in3{R:RdP}{x:Wl}(h:lookW R x Bd 3)(pL:Bd+162000<=900000):R.In3 x [0,1,2] [] [] [] [] [] R.n0 R.n0 R.n0 R.n0 Bd:=by
 have hr:R.row []=R.es0:=by unfold RdP.row;simp
 have hl:(R.row []).length=R.n0:=by rw[hr];rfl
 refine⟨by rw[hr];exact h.w,?_,by simp,?_,⟨bh _,bh _⟩,λz hz=>by (cases hz),λz hz=>by (cases hz),.inl hl.symm,.inl hl.symm,λk N=>?_,?_,?_⟩
 ·rw[h.net]
  simp[List.range_succ]
 ·simp
 ·have:=h.ag k N
  rw[aA N] at this;rw[aB (by simp)];exact this
 ·rw[hl];simp
 ·simp;omega
theorem adf{abq:Nat}(h:St V w0 (mZ abq s p++l) w):∃g:Nat,dz W 37 #[abq] w (λe O=>e=b5 ((g:K))∧w=O)∧dz W 38 #[g] w (λe O=>∃A c,e=b5 (Z A p.1.net.length c)∧Grow w O):=by obtain⟨P,hP,hQ,hF,U,hN⟩:=PU h 0 rfl;have h37:=T3 hF;rw[hP] at h37;have h38:=Ne.adr w P.g _ _ _ _ hN;rw[bj] at h38;exact⟨P.g,h37,h38⟩
end Go.Proofs.YtpeepcmdehhbgaaGreatDoor
namespace Go.Proofs.YtpeepcmdehhbgaaGreatDoor
open RowKit Hop
theorem ac9(w:X)(n lo hi:Int)(hn:-9223372036854775808<=n∧n<=9223372036854775807)(h0:-4000000000<=lo)(I:lo<=hi)(G:hi<=4000000000):dz W 39 #[J n,J lo,J hi] w λe O=>∃m:Int,lo<=m∧m<=hi∧e=b5 (J m)∧w=O:=by
 by_cases ha:lo<=n
 ·by_cases hb:n<=hi
  ·go_in
   go_wp2;go_ret;exact⟨n,ha,hb,rfl,rfl⟩
  ·skip
   have hp:=Int.emod_nonneg n (show hi-lo+1≠0 by omega);have hl:=Int.emod_lt_of_pos n (show 0<hi-lo+1 by omega);have q1:=Int.tmod_lt_of_pos n (show 0<hi-lo+1 by omega);have q2:=Int.lt_tmod_of_pos n (show 0<hi-lo+1 by omega);go_in;go_wp2_with fail;all_goals
    go_ret
    refine⟨_,?_,?_,rfl,rfl⟩<;>(try unfold wrap64)<;>omega
 ·skip
  have hp:=Int.emod_nonneg n (show hi-lo+1≠0 by omega);have hl:=Int.emod_lt_of_pos n (show 0<hi-lo+1 by omega);have q1:=Int.tmod_lt_of_pos n (show 0<hi-lo+1 by omega);have q2:=Int.lt_tmod_of_pos n (show 0<hi-lo+1 by omega);go_in;go_wp2_with fail;all_goals
   go_ret
   refine⟨_,?_,?_,rfl,rfl⟩<;>(try unfold wrap64)<;>omega
theorem acU(w:X)(n lo hi:Int)(hn:-9223372036854775808<=n∧n<=9223372036854775807)(h0:0<=lo)(I:lo<=hi)(G:hi<=4000000000):dz W 39 #[J n,J lo,J hi] w λe O=>∃m:Nat,lo<=(m:Int)∧(m:Int)<=hi∧e=b5 (J m)∧w=O:=
 (ac9 w n lo hi hn ap I G).mono λ_ _ ⟨m,a,b,he,hw⟩=>⟨m.toNat,by omega,by omega,by rw[he,show ((m.toNat:Nat):Int)=m by omega],hw⟩
open V
set_option maxRecDepth 100000
set_option maxHeartbeats 1000000
theorem adK(n:Int):bits .and .i64 n 255=n % 256:=by
 have a6G:(BitVec.ofInt 64 255).toNat=2 ^ 8-1:=by decide
 have key:(BitVec.ofInt 64 n &&& BitVec.ofInt 64 255).toNat=(n % ((2 ^ 64:Nat):Int)).toNat % 2 ^ 8:=by rw[BitVec.toNat_and,BitVec.toNat_ofInt,a6G,Nat.and_two_pow_sub_one_eq_mod]
 show IntKind.i64.wrap ((BitVec.ofInt 64 n &&& BitVec.ofInt 64 255).toNat:Nat)=n % 256;rw[key,IntKind.wrap_i64];omega
theorem ads(h:St (λ_=>False) w0 l w):Grow w0 w:=Below.trans (Grow.refl w0) (h.just.below (B:=(w0:Nat)) (λ_ hb=>hb.elim False.elim id) (bh _))
theorem adt{abq:Nat}{x':Wl}{t:iN}{b:Bool}{a:Ac}(hS:St V w0 (mZ abq s p++(.c y 75 ([a].flatMap Ic).toArray::l)) w)(hr:kr abq p.1 p.2 [a] b x' t)(ho:p.2.Ok)(hl:p.2.len<=900000):dz W 32 #[abq,s,Z (some ⟨y,0,none⟩) 1 1] w λe O=>e=b5 (aY b)∧St V w0 (mZ abq s (x',t)++l) O:=by have I:St V w0 ([.o (iw abq p.1),.o (fR s p.2),.c y 75 ([a].flatMap Ic).toArray]++l) w:=hS;have:=St.call I (a':=λ(_:Unit)=>[.o (iw abq x'),.o (fR s t),.c y 75 ([a].flatMap Ic).toArray]) (λ_=>⟨iw.framed _ _,fR.framed _ _,trivial,trivial⟩) I.no (PW w (λ_=>False) abq s y p.1 x' p.2 t [a] b hr ho (by show p.2.len+1<=_;omega));refine this.mono λe O ⟨_,G,L⟩=>⟨G,?_⟩;have L:St V w0 (.o (iw abq x')::.o (fR s t)::.c y 75 ([a].flatMap Ic).toArray::l) O:=L;exact L.dO 2 rfl
def cU3(abf:Nat->Nat):Array K:=#[ae ah (abf 0:Int),ae ah (abf 1:Int),ae ah (abf 2:Int)]
def cI3(abf:Nat->Nat):Array K:=#[J (abf 0:Int),J (abf 1:Int),J (abf 2:Int)]
theorem adh:∀{k:Nat},k<3->abj k=0->(cI3 abj)[k]?=some (J 0)
 | 0,_,h=>by unfold cI3;rw[h];rfl
 | 1,_,h=>by unfold cI3;rw[h];rfl
 | 2,_,h=>by unfold cI3;rw[h];rfl
theorem acr:∀{k:Nat},k<3->(cI3 abj).setIfInBounds k (J y)=cI3 (at_ abj k y)
 | 0,_=>rfl
 | 1,_=>rfl
 | 2,_=>rfl
theorem acs:∀{k:Nat},k<3->(cU3 abj).setIfInBounds k (ae ah y)=cU3 (at_ abj k y)
 | 0,_=>rfl
 | 1,_=>rfl
 | 2,_=>rfl
theorem at_new{D:aQ}{abf v:Nat->Nat}{k:Nat}(hG:∀i,i<3->abf i=if i∈D then v i else 0):∀i,i<3->at_ abf k (v k) i=if i∈k::D then v i else 0:=λi hi=>by
 by_cases e:i=k
 ·subst e
  rw[nK,aA (cj ..)]
 ·rw[abC _ _ e,hG i hi]
  by_cases h:i∈D;·rw[aA h,aA (bR _ h)]
  ·rw[aB h,aB (by simp[e,h])]
@[go_sem] theorem eq85(w:X):(Op.equalIn 10000 85 (aZ #[J 1,J 1,J 1]) (aZ #[J 1,J 1,J 1])).run W w=.ok true w:=by kernel_rfl
theorem ad0(w:X)(nzV whV:Int):dz W 6 #[J nzV,J whV] w λe O=>e=b5 (aY true)∧Grow w O:=by
 obtain⟨k,HK⟩:∃k:Nat,Hid (nzV % 256=(k:Int)):=⟨(nzV % 256).toNat,Q ap⟩;have N:k<=255:=by have:=HK.out;omega
 have hand:bits .and .i64 nzV 255=(k:Int):=(adK nzV).trans HK.out;obtain⟨m1,Hm1⟩:=az (k+1);obtain⟨m2,Hm2⟩:=az (k+2);have ry:1<=m1∧m1<=256:=by have:=Hm1.out;omega
 have zE:1<=m2∧m2<=257:=by have:=Hm2.out;omega
 have wv:IntKind.i64.wrap (1+(k:Int))=(m1:Int):=by rw[IntKind.wrap_i64,Hm1.out];omega
 have sC:IntKind.i64.wrap (2+(k:Int))=(m2:Int):=by rw[IntKind.wrap_i64,Hm2.out];omega
 have fN:St (λ_=>False) w ([]++[]) w:=St.begin_ (l:=[]) trivial (λ_ h=>h.elim) trivial;have hB:=St.call (a:=[]) (b:=[]) fN (a':=λi:Nat×Nat=>mZ i.1 i.2 (jP 3 3)) (λ_=>pu _ _ _) fN.no (JO w 3 3 am am am abA.begun.1.ld.leads);have hB:dz W 26 #[J 3,J 3] w _:=hB;obtain⟨p,HP⟩:=az (jP 3 3);have hp:=yF (nr:=3) (na:=3) am am;have L:=setW.begun;rw[<-HP.out] at hB hp L;clear HP;go_in;go_wp2_with fail;refine hB.mono ?_;rintro e w1 ⟨⟨abq,s⟩,rfl,ej⟩;have ej:St (λ_=>False) w (mZ abq s p++[]) w1:=ej;clear hB fN;obtain⟨_,e1,_⟩:=acH (tg:=0) (m1:=m1) ap;have F6:DS (kL,m1):=⟨XN,⟨ry.1,by show m1<=_;omega⟩,(by decide:kL.size<=20)⟩;have Ye:DS (sA2,m2):=⟨pA2,⟨zE.1,by show m2<=_;omega⟩,(by decide:sA2.size<=20)⟩;obtain⟨hG1,K2⟩:=acG ej hp am am L (i:=0) am F6 (by show m1<=_;omega) am am;obtain⟨t1,g1⟩:=L.give (i:=0) am F6 am am am am (abP hp am am) (c:=1) (by exact congrArg (·.1) e1) (.inl rfl) (by exact congrArg (·.2.1) e1);obtain⟨p1,HP1⟩:=az (abM 0 (kL,m1) p);rw[<-HP1.out] at hG1 K2 g1;have hG1:dz W 28 #[abq,s,J 3,aX ⟨#[97,61,49]⟩,J m1] w1 _:=hG1;clear HP1 L hp ej e1;obtain⟨y1,e1,q1,pl1,ep1⟩:=acH (tg:=t1) (m1:=m1) ap;obtain⟨es1,X7⟩:=az ([enG 3 1 (kL,m1) t1]);have adu:abE j4.new es1=y1:=by rw[X7.out];exact congrArg (·.2.2) e1
 have adH:es1.length=1:=by rw[X7.out];rfl
 have g1:setW p1 ([]++[enG 3 1 (kL,m1) t1]) 3 54100 400 (at_ (λ_=>0) 0 1):=g1;rw[ch,<-X7.out] at g1;clear X7 e1;go_wp2_with fail;refine hG1.mono ?_;rintro e w2 ⟨rfl,dV⟩;clear hG1;obtain⟨_,e2,_⟩:=acZ (tg:=0) (m2:=m2) q1 pl1 ep1 ap;obtain⟨hG2,Cz⟩:=acG dV K2 am am g1 (i:=1) am Ye (by show m2<=_;omega) am am;obtain⟨t2,g2⟩:=g1.give (i:=1) am Ye am ap am am (abP K2 am am) (c:=1) (by rw[adu];exact congrArg (·.1) e2) (.inl rfl) (by rw[adu];exact congrArg (·.2.1) e2);obtain⟨p2,HP2⟩:=az (abM 1 (sA2,m2) p1);rw[<-HP2.out] at hG2 Cz g2;have hG2:dz W 28 #[abq,s,J 4,aX ⟨#[97,61,50]⟩,J m2] w2 _:=hG2;clear HP2 K2 dV e2;obtain⟨y2,e2,q2⟩:=acZ (tg:=t2) (m2:=m2) q1 pl1 ep1 ap;obtain⟨es,HES⟩:=az (es1++[enG 4 1 (sA2,m2) t2]);have hel:es.length=2:=by rw[HES.out,bd,adH];rfl
 have CP:abE j4.new es=y2:=by rw[HES.out,ac1,adu];exact congrArg (·.2.2) e2
 have g2:setW p2 (es1++[enG 4 1 (sA2,m2) t2]) 3 108100 700 (at_ (at_ (λ_=>0) 0 1) 1 1):=g2;rw[<-HES.out] at g2;obtain⟨r1,r2,r3⟩:=adb q2;rw[<-CP] at r1 r2 r3;clear HES CP adu adH q1 q2 pl1 ep1 e2 g1;go_wp2_with fail;refine hG2.mono ?_;rintro e w3 ⟨rfl,dX⟩;clear hG2;go_wp2_with fail;obtain⟨R,HR⟩:=az (⟨es,3,lkS,λk=>(p2.1.ag k).tag+1,λk=>abk.gt (abE j4.new es).q (lkS k),at_ (at_ (λ_=>0) 0 1) 1 1,700⟩:RdP);have T:R.Ok:=by rw[HR.out];exact⟨by show es.length<=40;omega,λk _=>ade k,λk N=>by have:=abP Cz am N;show (p2.1.ag k).tag+1<=_;omega,λ_ _=>rfl⟩
 have Fw:R.abF=lkS:=by rw[HR.out]
 have hv0:R.v 0=m1:=by rw[HR.out];exact r1
 have hv1:R.v 1=m2:=by rw[HR.out];exact r2
 have rK:R.v 2=0:=by rw[HR.out];exact r3
 have Cv:lookW R p2.1 108100 0:=by rw[HR.out];exact lookW.start g2 _
 clear HR r1 r2 r3 g2 hel;go_loopw [7] (λi wr=>∃(j:Nat)(q:WS),i=J j∧j<=3∧lookW R q.1 108100 j∧gY q 3 3 (4+j) 900∧St (λ_=>False) w (mZ abq s q++[]) wr) (λi _=>3-(intOf i).toNat);case atStart=>exact⟨0,p2,rfl,bo _,Cv,Cz,dX⟩
 case round=>
  clear dX Cv Cz;obtain⟨j,q,rfl,hj,hl,hq,hS⟩:=hrel;by_cases mz:j<3
  ·have c1:decide ((j:Int)<3)=true:=aC ap
   have iZ:=hS.size;obtain⟨ad,wa,HY,HA,dV⟩:=hS.new' #[aX ⟨#[97,61,49]⟩,aX ⟨#[97,61,50]⟩,aX ⟨#[107,61,118]⟩] 9;have adI:∀h,([aX ⟨#[97,61,49]⟩,aX ⟨#[97,61,50]⟩,aX ⟨#[107,61,118]⟩]:List K)[j]'h=aX (lkS j):=by
    match j,mz with
    | 0,_=>exact λ_=>rfl
    | 1,_=>exact λ_=>rfl
    | 2,_=>exact λ_=>rfl
   have Ue:j<q.1.na:=by rw[hq.na];exact mz
   have TT:=(ade j).1;have a1:=hq.good.XD (abq:=abq) ap Ue 0 0 TT;rw[hq.nr,show ((3+j:Nat):Int)=3+(j:Int) by omega] at a1;have eR:kr abq q.1 q.2 [⟨13,3+(j:Int),0,0,lkS j⟩] true (q.1.nO j (lkS j)) q.2:=kr.ok (x':=q.1.nO j (lkS j)) a1 rfl (show (0:Nat)<18446744073709551616 by decide) (kr.nil _ _);obtain⟨y,wb,xL,HB,dX⟩:=dV.new' #[J 13,J (3+(j:Int)),(),(),aX (lkS j)] 75;have eO:St (λ_=>False) w (mZ abq s q++[.c y 75 (([⟨13,3+(j:Int),0,0,lkS j⟩]:List Ac).flatMap Ic).toArray]) wb:=(dX.dO 1 rfl).perm (bg (l₁:=[_]) (l₂:=mZ abq s q++[]));have hRn:=adt eO eR hq.ok (by have:=hq.len;omega);have CQ:gY (q.1.nO j (lkS j),q.2) 3 3 (4+j+1) 900:=hq.look ap mz TT;have Be:lookW R (q.1.nO j (lkS j)) 108100 (j+1):=by have:=hl.look T mz;rw[Fw] at this;exact this
   obtain⟨adB,HSJ⟩:=az (lkS j);rw[<-HSJ.out] at adI hRn CQ Be HB dX;rw[HB.out,xL.out,HA.out,fp] at hRn;clear eR a1 dV dX eO hl hq HB xL HA HY;go_wp2_with fail;refine hRn.mono ?_;rintro e w4 ⟨rfl,eF⟩;clear hRn;go_wp2_with fail;exact⟨⟨j+1,(q.1.nO j adB,q.2),by go_num,mz,Be,CQ,eF⟩,by simp[intOf];omega⟩
  ·have c1:decide ((j:Int)<3)=false:=aD ap
   have mz:j=3:=by omega
   subst mz;obtain⟨abY,wa,HY,HA,dV⟩:=hS.new' #[ae ah 0,ae ah 0,ae ah 0] 84;obtain⟨hB,wb,xL,HB,dX⟩:=dV.new' #[(),(),()] 85;have eO:St (λ_=>False) w (mZ abq s q++[.c hB 85 (cI3 λ_=>0),.c abY 84 (cU3 λ_=>0)]) wb:=dX.perm (bg (l₁:=[_,_]) (l₂:=mZ abq s q++[]));have hi3:=hl.in3 am;clear hS hl dV dX c1 hj;go_wp2_with fail;rw[HB.out,HA.out] at eO;have xL:Hid ((wr:Nat)+1=hB):=Q (by rw[xL.out,HA.out,fp]);have HY:Hid ((wr:Nat)=abY):=Q HY.out.symm;clear HA HB;rw[xL.out,HY.out];go_loopw [10] (λi wr=>∃(j:Nat)(q:WS)(A P abo D:aQ)(ac:List (Nat×Nat×Nat))(ad:List (Nat×Nat))(a b r1 r2 Bd:Nat)(abf abj:Nat->Nat),i=J j∧R.In3 q.1 A P abo D ac ad a b r1 r2 Bd∧j+R.wt A P abo ac ad a b<=18∧gY q 3 3 7 900∧(∀k,k<3->abf k=if k∈D then R.v k else 0)∧(∀k,k<3->abj k=if k∈D then 1 else 0)∧St (λ_=>False) w (mZ abq s q++[.c hB 85 (cI3 abj),.c abY 84 (cU3 abf)]) wr) (λi _=>18-(intOf i).toNat);case atStart=>exact⟨0,q,_,_,_,_,_,_,_,_,_,_,_,_,_,rfl,hi3,by rw[cJ];exact hi3.wt,hq,λ_ _=>rfl,λ_ _=>rfl,eO⟩
   case round=>
    clear eO hi3 hq;obtain⟨j,q,A,P,abo,D,ac,ad,a,b,r1,r2,Bd,abf,abj,rfl,hi,hwt,hq,hG,hH,hS⟩:=hrel;have c1:decide ((j:Int)<60)=true:=aC ap;obtain⟨g,h37,h38⟩:=adf hS;have a0f:=hi.few;obtain⟨n,HN⟩:=az (q.1.net.length);rw[<-HN.out] at h38 a0f;by_cases hn:n=0
    ·subst hn
     go_wp2_with fail;refine h37.mono ?_;rintro e w4 ⟨rfl,rfl⟩;go_wp2_with fail;refine h38.mono ?_;rintro e w5 ⟨A1,c1,rfl,H⟩;have eF:=hS.grow H;have hD:=hi.end_ T HN.out.symm;have hm:∀k,k<3->k∈D:=λk N=>hD.mem_iff.2 (by match k,N with|0,_=>decide|1,_=>decide|2,_=>decide);have x0:w5.cell? ⟨hB,0,none⟩=some (J ((abj 0:Nat):Int)):=eF.facts.1.1 0;have x1:w5.cell? ⟨hB,1,none⟩=some (J ((abj 1:Nat):Int)):=eF.facts.1.1 1;have x2:w5.cell? ⟨hB,2,none⟩=some (J ((abj 2:Nat):Int)):=eF.facts.1.1 2;have z0:w5.cell? ⟨abY,0,none⟩=some (ae ah ((abf 0:Nat):Int)):=eF.facts.2.1.1 0;have z1:w5.cell? ⟨abY,1,none⟩=some (ae ah ((abf 1:Nat):Int)):=eF.facts.2.1.1 1;have z2:w5.cell? ⟨abY,2,none⟩=some (ae ah ((abf 2:Nat):Int)):=eF.facts.2.1.1 2;rw[hH 0 am,aA (hm 0 am)] at x0;rw[hH 1 am,aA (hm 1 am)] at x1;rw[hH 2 am,aA (hm 2 am)] at x2;rw[hG 0 am,aA (hm 0 am),hv0] at z0;rw[hG 1 am,aA (hm 1 am),hv1] at z1;rw[hG 2 am,aA (hm 2 am),rK] at z2;have u1:IntKind.u64.wrap (m1:Int)=(m1:Int):=by rw[IntKind.wrap_u64];omega
     have u2:IntKind.u64.wrap (m2:Int)=(m2:Int):=by rw[IntKind.wrap_u64];omega
     clear hD hm hG hH hi hwt hq h37 h38;go_wp2_with fail;have eN:St (λ_=>False) w ([]++[]) w5:=eF.drop.drop.drop.drop;have hAw:=St.call (a:=[]) (b:=[]) eN (a':=λ(_:Unit)=>[]) (λ_=>trivial) eN.no (TJ w5);refine hAw.mono ?_;rintro e w7 ⟨_,rfl,gy⟩;go_wp2;go_ret;exact⟨rfl,ads gy⟩
    ·have c2:decide ((0:Int)<(n:Int))=true:=aC ap
     go_wp2_with fail;refine h37.mono ?_;rintro e w4 ⟨rfl,rfl⟩;go_wp2_with fail;refine h38.mono ?_;rintro e w5 ⟨A1,cc1,rfl,H⟩;have eF:=hS.grow H;obtain⟨g2,adJ,adC⟩:=adf eF;rw[<-HN.out] at adC;clear h37 h38 H hS;go_wp2_with fail;refine adJ.mono ?_;rintro e w6 ⟨rfl,rfl⟩;go_wp2_with fail;refine adC.mono ?_;rintro e w7 ⟨A2,cc2,rfl,H⟩;have eN:=eF.grow H;go_wp2_with fail;obtain⟨z,Hz⟩:=az (wrap64 (whV*(j:Int)));rw[<-Hz.out];refine (acU w7 z 0 ((n:Int)-1) (by rw[Hz.out];unfold wrap64;omega) am ap ap).mono ?_;rintro e w8 ⟨m,_,Qf,rfl,rfl⟩;have Qf:m<q.1.net.length:=by rw[<-HN.out];omega
     obtain⟨y,ev,A',P',Q',D',ac',Ze,a',b',r1',r2',YP,hd,hi2,hwt2,hev⟩:=hi.step T Qf;have tT:=hq.good.kK m;have CQ:gY (y,q.2) 3 3 7 900:=⟨by rw[hd] at tT;exact tT,hq.ok,hq.len,hi2.w.nr,hi2.w.na⟩;have j6:=B9 eN (XC hq.good Qf 0 0 ⟨#[]⟩);rw[hd] at j6;unfold j8 at j6;dsimp only at j6;have j6:dz W 33 #[abq,aZ #[J 2,(),(),J m,""]] w7 _:=j6;obtain⟨acI,HBG⟩:=az ((y.net.length:Int):Int);rw[<-HBG.out] at j6;clear hi hq eF eN tT HBG adC adJ H Hz hd;go_wp2_with fail;refine j6.mono ?_;rintro e w9 ⟨rfl,fH⟩;clear j6;have fD:=fH.new aH 77;go_wp2_with (refine d_ fD 0 rfl 77 _ _ rfl 0 rfl [J ev.why,J ev.node,J ev.code,J ev.id.1,J ev.id.2.1,J ev.id.2.2,ae ah ev.n,J acI] rfl (bf rfl) rfl aw (kB { ev with bag:=acI }) rfl rfl ?_;clear fD;intro UO gy;refine stay ?_);refine dI ?_;obtain⟨z,HZ⟩:=az ((w9:Nat));rw[<-HZ.out] at gy ⊢;clear fH HZ;have gy:St (λ_=>False) w (.c z 77 (kB { ev with bag:=acI })::(mZ abq s (y,q.2)++[.c hB 85 (cI3 abj),.c abY 84 (cU3 abf)])) UO:=gy;rcases hev with ⟨rfl,nn,hnn,he⟩|⟨kk,Kb,hkD,rfl,he⟩
     ·have c3:UO.cell? ⟨z,2,none⟩=some (J 0):=(show _=some (J ev.code) from gy.facts.1.1 2).trans (by rw[he];rfl)
      go_wp2_with fail;exact⟨⟨j+1,(y,q.2),_,_,_,_,_,_,_,_,_,_,_,abf,abj,by go_num,hi2,by omega,CQ,hG,hH,gy.drop⟩,by simp[intOf];omega⟩
     ·have adi:=gy
      rw[he] at adi;have c5:UO.cell? ⟨z,1,none⟩=some (J (3+(kk:Int))):=(show _=some (J ((3+kk:Nat):Int)) from adi.facts.1.1 1).trans (by rw[show ((3+kk:Nat):Int)=3+(kk:Int) by omega]);have c4:UO.cell? ⟨z,6,none⟩=some (ae ah (R.v kk:Int)):=adi.facts.1.1 6;have c3:UO.cell? ⟨z,2,none⟩=some (J 8):=adi.facts.1.1 2;have h0:=adh Kb ((hH kk Kb).trans (aB hkD));have hG2:=at_new (k:=kk) hG;have hH2:=at_new (k:=kk) (v:=λ_=>1) hH;clear adi hG hH hv0 hv1 rK;obtain rfl|rfl|rfl:kk=0∨kk=1∨kk=2:=by omega
      ·go_wp2_with (refine fv gy 4 rfl 42 _ _ rfl 0 rfl (ae ah (R.v 0:Int)) rfl (bf rfl) rfl aw rfl ?_;clear gy;intro w11 gy;refine stay ?_)
       refine dI ?_;rw[acs Kb] at gy;have gy:St (λ_=>False) w (.c z 77 (kB { ev with bag:=acI })::(mZ abq s (y,q.2)++[.c hB 85 (cI3 abj),.c abY 84 (cU3 (at_ abf 0 (R.v 0)))])) w11:=gy;have c5:w11.cell? ⟨z,1,none⟩=some (J (3+((0:Nat):Int))):=(show _=some (J ev.node) from gy.facts.1.1 1).trans (by rw[he];rfl);have c6:w11.cell? ⟨hB,0,none⟩=some (J 0):=(gy.facts.2.1.1 0).trans h0;go_wp2_with (refine fv gy 3 rfl 3 _ _ rfl 0 rfl (J 1) rfl (bf rfl) rfl aw rfl ?_;clear gy;intro w12 gy;refine stay ?_);refine dI ?_;have gy:St (λ_=>False) w (mZ abq s (y,q.2)++[.c hB 85 ((cI3 abj).setIfInBounds 0 (J ((1:Nat):Int))),.c abY 84 (cU3 (at_ abf 0 (R.v 0)))]) w12:=gy.drop;rw[acr Kb] at gy;go_wp2_with fail;exact⟨⟨j+1,(y,q.2),_,_,_,_,_,_,_,_,_,_,_,_,_,by go_num,hi2,by omega,CQ,hG2,hH2,gy⟩,by simp[intOf];omega⟩
      ·go_wp2_with (refine fv gy 4 rfl 42 _ _ rfl 1 rfl (ae ah (R.v 1:Int)) rfl (bf rfl) rfl aw rfl ?_;clear gy;intro w11 gy;refine stay ?_)
       refine dI ?_;rw[acs Kb] at gy;have gy:St (λ_=>False) w (.c z 77 (kB { ev with bag:=acI })::(mZ abq s (y,q.2)++[.c hB 85 (cI3 abj),.c abY 84 (cU3 (at_ abf 1 (R.v 1)))])) w11:=gy;have c5:w11.cell? ⟨z,1,none⟩=some (J (3+((1:Nat):Int))):=(show _=some (J ev.node) from gy.facts.1.1 1).trans (by rw[he];rfl);have c6:w11.cell? ⟨hB,1,none⟩=some (J 0):=(gy.facts.2.1.1 1).trans h0;go_wp2_with (refine fv gy 3 rfl 3 _ _ rfl 1 rfl (J 1) rfl (bf rfl) rfl aw rfl ?_;clear gy;intro w12 gy;refine stay ?_);refine dI ?_;have gy:St (λ_=>False) w (mZ abq s (y,q.2)++[.c hB 85 ((cI3 abj).setIfInBounds 1 (J ((1:Nat):Int))),.c abY 84 (cU3 (at_ abf 1 (R.v 1)))]) w12:=gy.drop;rw[acr Kb] at gy;go_wp2_with fail;exact⟨⟨j+1,(y,q.2),_,_,_,_,_,_,_,_,_,_,_,_,_,by go_num,hi2,by omega,CQ,hG2,hH2,gy⟩,by simp[intOf];omega⟩
      ·go_wp2_with (refine fv gy 4 rfl 42 _ _ rfl 2 rfl (ae ah (R.v 2:Int)) rfl (bf rfl) rfl aw rfl ?_;clear gy;intro w11 gy;refine stay ?_)
       refine dI ?_;rw[acs Kb] at gy;have gy:St (λ_=>False) w (.c z 77 (kB { ev with bag:=acI })::(mZ abq s (y,q.2)++[.c hB 85 (cI3 abj),.c abY 84 (cU3 (at_ abf 2 (R.v 2)))])) w11:=gy;have c5:w11.cell? ⟨z,1,none⟩=some (J (3+((2:Nat):Int))):=(show _=some (J ev.node) from gy.facts.1.1 1).trans (by rw[he];rfl);have c6:w11.cell? ⟨hB,2,none⟩=some (J 0):=(gy.facts.2.1.1 2).trans h0;go_wp2_with (refine fv gy 3 rfl 3 _ _ rfl 2 rfl (J 1) rfl (bf rfl) rfl aw rfl ?_;clear gy;intro w12 gy;refine stay ?_);refine dI ?_;have gy:St (λ_=>False) w (mZ abq s (y,q.2)++[.c hB 85 ((cI3 abj).setIfInBounds 2 (J ((1:Nat):Int))),.c abY 84 (cU3 (at_ abf 2 (R.v 2)))]) w12:=gy.drop;rw[acr Kb] at gy;go_wp2_with fail;exact⟨⟨j+1,(y,q.2),_,_,_,_,_,_,_,_,_,_,_,_,_,by go_num,hi2,by omega,CQ,hG2,hH2,gy⟩,by simp[intOf];omega⟩
end Go.Proofs.YtpeepcmdehhbgaaGreatDoor
