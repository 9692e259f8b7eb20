/- Lplain, Lright. -/
import Derived.Test.YtpeepcmdehhbgaaGreatDoorJs09
import Derived.Test.YtpeepcmdehhbgaaGreatDoorJs07
import Derived.Lib.SplitLaws
import Derived.Lib.CutLaws
import Derived.Lib.IndexBytes
import Derived.Lib.Join
set_option linter.all false
set_option maxRecDepth 100000
set_option maxHeartbeats 2000000
open Go.Value renaming int->ae,slice->Z,string->aX,bool->aY,agg->aZ,tuple->a_
open Go.Ending renaming returned->b5
open Go.IntKind renaming i64->af,u64->ah
open Go (J az aE aA aB aC aD ay aj am ap aw aL aK aJ aI aH aV aU aT aR aQ aP aO aN)
open Go.Proofs.Tryz renaming prog->W
open Go.Lib renaming hid->Q
open List renaming length_append->bd,eq_nil_of_length_eq_zero->bu,length_cons->bD,getElem_mem->bF,map_cons->bQ,mem_cons_of_mem->bR,nil_append->ch,mem_cons_self->cj,cons_append->cD,getElem_map->di
open Nat renaming le_refl->bh,zero_add->cJ
open Bool renaming and_eq_true->bU
open Array renaming length_toList->bZ
open Go renaming World->X,Calls->dz,maxLen->dG
namespace Go.Proofs.YtpeepcmdehhbgaaGreatDoor.abn
open RowKit Hop
def ey(c:UInt8):List UInt8->List (List UInt8)
 | []=>[[]]
 | b::r=>if b=c then []::ey c r else match ey c r with
   | []=>[[b]]
   | p::ps=>(b::p)::ps
theorem Ai{c:UInt8}:∀{a:aT},c ∉ a->ey c a=[a]
 | [],_=>rfl
 | b::r,h=>by
   have I:b≠c:=λe=>h (by rw[e];exact cj);have G:=Ai (c:=c) (a:=r) λhr=>h (bR _ hr);unfold ey;rw[aB I,G]
theorem xE{c:UInt8}{r:aT}:∀{a:aT},c ∉ a->ey c (a++c::r)=a::ey c r
 | [],_=>by rw[ch,ey,aA rfl]
 | b::a,h=>by
   have I:b≠c:=λe=>h (by rw[e];exact cj);have G:=xE (c:=c) (r:=r) (a:=a) λhr=>h (bR _ hr);rw[cD,ey,aB I,G]
def KH(c:UInt8)(s:aT):c ∉ s∨∃a r,s=a++c::r∧c ∉ a:=by
 by_cases h:c∈s
 ·obtain⟨a,r,e,ha⟩:=List.eq_append_cons_of_mem h
  exact .inr ⟨a,r,e,ha⟩
 ·exact .inl h
theorem xF{c:UInt8}{r:aT}:∀{a:aT},c ∉ a->Lib.index (a++c::r) [c]=(a.length:Int)
 | [],_=>by rw[Lib.index_one];simp[Lib.indexByte]
 | b::a,h=>by
   have I:(b == c)=false:=beq_eq_false_iff_ne.2 λe=>h (by rw[e];exact cj);have G:=xF (c:=c) (r:=r) (a:=a) λhr=>h (bR _ hr);rw[Lib.index_one] at G ⊢;rw[cD,Lib.indexByte,I,G];have:((a.length:Int) == -1)=false:=beq_eq_false_iff_ne.2 ap;rw[this];simp
theorem DC(c:UInt8):∀(n:Nat)(s:aT),s.length<=n->Lib.splitK [c] 0 (Lib.count s [c]) s=ey c s
 | 0,s,h=>by
   obtain rfl:s=[]:=bu ap;rfl
 | n+1,s,h=>by
   rw[Lib.count_one];rcases KH c s with kh|⟨a,r,rfl,ha⟩
   ·rw[List.count_eq_zero.2 kh,Ai kh];rfl
   ·rw[List.count_append,List.count_eq_zero.2 ha,List.count_cons_self,cJ]
    rw[xE ha,Lib.splitK,xF ha];have:((a.length:Int) == -1)=false:=beq_eq_false_iff_ne.2 ap;rw[this,<-DC c n r (by simp at h;omega),Lib.count_one];simp
def mk(l:aT):ByteArray:=⟨l.toArray⟩
def mk_data(l:aT):(mk l).data.toList=l:=rfl
def jf(p:aT):Lb:=(mk (Lib.cut p [61]).1,mk (Lib.cut p [61]).2.1)
def fM(s:aR):List Lb:=(ey 44 s.data.toList).map jf
def lg{s:aR}(h:me s=true):1<=s.size∧s.size<=32:=by unfold me at h;simp only[bU,decide_eq_true_eq] at h;exact h.1
def CH(d:Lb):Bool:=me d.1&&me d.2
def ow(l:List Lb):Bool:=l.all CH&&decide ((l.map (·.1)).Nodup)&&!l.isEmpty
def gK(l:List Lb):Int:=if 8<l.length then 3 else if ow l then 0 else 1
theorem mP(l:List Lb):ow l=true↔(∀d∈l,CH d=true)∧(l.map (·.1)).Nodup∧l≠[]:=by
 unfold ow;cases l with
 | nil=>simp
 | cons a l=>simp only[bU,List.all_eq_true,decide_eq_true_eq,List.isEmpty_cons,Bool.not_false,and_true,ne_eq,reduceCtorEq,not_false_eq_true]
def KI{p q:List Lb}(h:p.Perm q):ow p=ow q:=by
 rw[Bool.eq_iff_iff,mP,mP,(h.map (·.1)).nodup_iff];constructor
 ·rintro ⟨I,G,L⟩
  exact⟨λd hd=>I d (h.mem_iff.2 hd),G,λe=>L (by rw[e] at h;exact h.eq_nil)⟩
 ·rintro ⟨I,G,L⟩
  exact⟨λd hd=>I d (h.mem_iff.1 hd),G,λe=>L (by rw[e] at h;exact h.symm.eq_nil)⟩
def xG{p q:List Lb}(h:p.Perm q):gK p=gK q:=by unfold gK;rw[h.length_eq,KI h]
def xH{l:List Lb}(h:gK l=0):l.length<=8∧ow l=true:=by
 unfold gK at h;split at h;·cases h
 ·split at h
  ·exact⟨by omega,by assumption⟩
  ·cases h
def NM{l:List Lb}(h8:l.length<=8)(h:ow l=true):gK l=0:=by unfold gK;rw[aB ap,aA h]
def qK{l:List Lb}(h8:l.length<=8)(h:ow l=false):gK l=1:=by unfold gK;rw[aB ap,aB (by rw[h];simp)]
def Gg{l:List Lb}(h8:8<l.length):gK l=3:=by unfold gK;rw[aA h8]
theorem J9{l:List Lb}{d:Lb}(hd:d∈l)(h:CH d=false):ow l=false:=by
 cases hf:ow l with
 | false=>rfl
 | true=>have:=((mP l).1 hf).1 d hd;rw[h] at this;cases this
theorem RQ{l:List Lb}{i j:Nat}(hi:i<l.length)(hj:j<l.length)(wJ:i<j)(h:l[i].1=l[j].1):ow l=false:=by
 cases hf:ow l with
 | false=>rfl
 | true=>
   have G:=List.pairwise_iff_getElem.1 ((mP l).1 hf).2.1 i j (by simpa using hi) (by simpa using hj) wJ;simp only[di] at G;exact absurd h G
def RR{l:List Lb}(h0:l≠[])(I:∀d∈l,CH d=true)(G:∀i j(hi:i<l.length)(hj:j<l.length),i<j->l[i].1≠l[j].1):ow l=true:=
 (mP l).2 ⟨I,List.pairwise_iff_getElem.2 λi j hi hj wJ=>by simp only[di];exact G i j (by simpa using hi) (by simpa using hj) wJ,h0⟩
def kF.step{q l:List Lb}(h:kF q l)(ha:∀i(hi:i+1<q.length),q[i].1≠q[i+1].1):∀i j(hi:i<q.length)(hj:j<q.length),i<j->q[i].1≠q[j].1:=λi j hi hj wJ e=>by
 have hs:=List.pairwise_iff_getElem.1 h.pB;have I:=hs i (i+1) hi ap ap;by_cases wo:j=i+1;·subst wo;exact ha i ap e
 ·have G:=hs (i+1) j ap hj ap
  rw[<-e] at G;exact ha i ap (oU G I)
def kF.len{q l:List Lb}(h:kF q l):q.length=l.length:=h.perm.length_eq
def can(l:List Lb):List Lb:=l.mergeSort λa b => !slt b.1 a.1
def Gh(l:List Lb):kF (can l) l:=by
 refine⟨List.mergeSort_perm ..,?_⟩;have:=List.pairwise_mergeSort (le:=λa b:Lb => !slt b.1 a.1) (λa b c h k=>by
  simp only[Bool.not_eq_true'] at *;exact IL k h) (λa b=>by
  cases h:slt b.1 a.1 with
  | false=>rfl
  | true=>rw[xg h];rfl) l
 exact this.imp λh=>by simpa using h
theorem xI:∀{p q:List Lb},p.Pairwise (λa b=>slt a.1 b.1=true)->q.Pairwise (λa b=>slt a.1 b.1=true)->p.Perm q->p=q
 | [],q,_,_,h=>h.nil_eq
 | a::p,[],_,_,h=>h.eq_nil
 | a::p,b::q,hp,hq,h=>by
   have V9:=List.pairwise_cons.1 hp;have My:=List.pairwise_cons.1 hq;have e:a=b:=by
    rcases List.mem_cons.1 (h.mem_iff.1 cj) with e|I
    ·exact e
    ·rcases List.mem_cons.1 (h.mem_iff.2 cj) with e|G
     ·exact e.symm
     ·have:=rU (V9.1 b G) (My.1 a I)
      rw[jF] at this;cases this
   subst e;rw[xI V9.2 My.2 ((List.perm_cons a).1 h)]
theorem kF.strict{q l:List Lb}(h:kF q l)(hn:(l.map (·.1)).Nodup):q.Pairwise λa b=>slt a.1 b.1=true:=by
 have hn':(q.map (·.1)).Nodup:=(h.perm.map (·.1)).nodup_iff.2 hn;refine List.pairwise_iff_getElem.2 λi j hi hj wJ=>?_;have I:=List.pairwise_iff_getElem.1 h.pB i j hi hj wJ;cases G:slt q[i].1 q[j].1 with
 | true=>rfl
 | false=>
   have e:=oU G I;have:=List.pairwise_iff_getElem.1 hn' i j (by simpa using hi) (by simpa using hj) wJ;simp only[di] at this;exact absurd e this
def kF.a49{q l:List Lb}(h:kF q l)(hn:(l.map (·.1)).Nodup):q=can l:=xI (h.strict hn) ((Gh l).strict hn) (h.perm.trans (Gh l).perm.symm)
def ox(d:Lb):List UInt8:=d.1.data.toList++61::d.2.data.toList
def Gi(q:List Lb):List UInt8:=Lib.join (q.map ox) [44]
def txt(q:List Lb):ByteArray:=mk (Gi q)
def textOf(l:List Lb):ByteArray:=if gK l=0 then txt (can l) else mk []
def Aj(d:Lb)(q:List Lb):Gi (d::q)=ox d++(q.map λd=>44::ox d).flatten:=by unfold Gi;rw[bQ,Lib.join_cons];unfold Lib.joinTail;rw[List.map_map];rfl
def mx(s:aR):Bool:=decide (gK (fM s)=0)&&decide (txt (can (fM s))=s)
def nY(s:aR):List Lb:=if mx s then fM s else []
def fW(s:aR):Int:=if mx s then 0 else 12
def DD{d:Lb}(h:CH d=true):(ox d).length<=65:=by
 unfold CH at h;simp only[bU] at h;have I:=(lg h.1).2;have G:=(lg h.2).2;have e1:d.1.data.toList.length=d.1.size:=by rw[bZ];rfl
 have e2:d.2.data.toList.length=d.2.size:=by rw[bZ];rfl
 unfold ox;rw[bd,bD];omega
theorem RU:∀(q:List Lb),(∀d∈q,CH d=true)->(Gi q).length<=66*q.length
 | [],_=>by show 0<=_;omega
 | d::q,h=>by
   rw[Aj,bd,bD];have I:=DD (h d cj);have G:∀r:List Lb,(∀d∈r,CH d=true)->((r.map λd=>44::ox d).flatten).length<=66*r.length:=by
    intro r;induction r with
    | nil=>intro _;simp
    | cons a r ih=>
      intro hr;rw[bQ,List.flatten_cons,bd,bD,bD];have:=DD (hr a cj);have:=ih λx Y=>hr x (bR _ Y);omega
   have:=G q λx Y=>h x (bR _ Y);omega
def sZ{a b:aR}(h:a≠b):(a.toList == b.toList)=false:=beq_eq_false_iff_ne.2 λe=>h (FZ.1 e)
def oy(w:X)(V:aV)(A:aU)(n c:Nat)(l:List Lb)(h:In w V 2 A n (gF l))(hl:∀d∈l,d.1.size<=dG∧d.2.size<=dG)(hn:n<=9223372036854775807):dz W 203 #[Z A n c] w λe O=>e=b5 (J (gK l))∧Grow w O:=by
 have wu:=LIn.len h;have kName:∀(vs:aP)(w:X),(callFunc 264 vs).run W w=.ok (.enter 264 vs) w:=λvs w=>by go_simp
 by_cases h8:8<n
 ·have hd:decide ((8:Int)<(n:Int))=true:=aC ap
  rw[Gg ap];clear h;go_in;go_wp2;go_ret;exact⟨rfl,Grow.refl _⟩
 have hd:decide ((8:Int)<(n:Int))=false:=aD ap;have hl8:l.length<=8:=by omega
 have Qm:=xp w V A n c l h ap;obtain⟨R,HR⟩:=az (gK l:Int);rw[<-HR.out];clear h;go_in;go_wp2_with fail;refine Qm.mono ?_;rintro e w1 ⟨A1,q,rfl,hq,hI,eD⟩;clear Qm;have ig:q.length=n:=by rw[hq.len];exact wu
 have Uu:∀d∈q,d.1.size<=dG∧d.2.size<=dG:=λd hd=>hl d (hq.perm.mem_iff.1 hd);have J2:=Q ig;have HLL:=Q wu;clear ig wu;go_wp2_with fail;go_loopw [13] (λi wr=>∃k:Nat,k<=n∧i=J k∧(∀j(hj:j<q.length),j<k->CH q[j]=true)∧(∀j(hj:j+1<q.length),j+1<k->q[j].1≠q[j+1].1)∧Grow w1 wr) (λi _=>n-(intOf i).toNat);case atStart=>exact⟨0,by omega,rfl,λ_ _ h=>absurd h ap,λ_ _ h=>absurd h ap,Grow.refl _⟩
 case round=>
  obtain⟨i,kT,rfl,gC,jT,gP⟩:=hrel;have HOK:=Q gC;have HNE:=Q jT;clear gC jT;have jU:=eQ eD gP eD.size;by_cases hi:i<n
  ·have hit:decide ((i:Int)<(n:Int))=true:=aC ap
   obtain⟨ad,Qh,rfl,e0,e1⟩:=FQ (hI.grow gP) hi;have Mk:=e0 wr (Grow.refl _);have Ut:=e1 wr (Grow.refl _);have hdm:q[i]∈q:=bF Qh;have tS:=Uu _ hdm;obtain⟨d,hdd⟩:=aE (q[i]);rw[<-hdd] at Mk Ut hdm tS;have HD:=Q hdd;clear hdd e0 e1;obtain⟨x,HX⟩:=az ((wr:Nat):Nat);have hB:eJ (wr.alloc (.cells #[aX d.1,aX d.2] 66)) x 66 #[aX d.1,aX d.2]:=by rw[HX.out];exact eJ.made wr _ _
   have vR:Grow wr (wr.alloc (.cells #[aX d.1,aX d.2] 66)):=(Below.refl _ _).alloc (bh _) _;have hN1:=λw1=>Dd w1 d.1 tS.1;have M_:=λw1=>Dd w1 d.2 tS.2;have hin2:¬ n<=i:=by omega
   cases lU:me d.1 with
   | false=>
     have oK:∀w1,dz W 264 #[aX d.1] w1 λe O=>e=b5 (aY false)∧w1=O:=λw1=>by have:=hN1 w1;rwa [lU] at this
     have T:R=1:=by rw[HR.out];exact qK hl8 (J9 (hq.perm.mem_iff.1 hdm) (by unfold CH;rw[lU];rfl))
     have HR1:=Q T;clear T lU hN1 M_;go_wp2_with fail;rw[<-HX.out];generalize Ua:wr.alloc (.cells #[aX d.1,aX d.2] 66)=wb at hB vR ⊢;clear Ua;have c0:=λw1(H:Grow _ w1)=>(hB.grow H).cell 0;refine fh ?_;intro w1 H;clear c0;go_wp2;go_ret;have zh:=eQ jU vR jU.size;exact⟨mq HR1.out.symm,eQ zh H zh.size⟩
   | true=>
     have oK:∀w1,dz W 264 #[aX d.1] w1 λe O=>e=b5 (aY true)∧w1=O:=λw1=>by have:=hN1 w1;rwa [lU] at this
     have HB1:=Q lU;clear lU hN1;cases lA:me d.2 with
     | false=>
       have Ya:∀w1,dz W 264 #[aX d.2] w1 λe O=>e=b5 (aY false)∧w1=O:=λw1=>by have:=M_ w1;rwa [lA] at this
       have T:R=1:=by rw[HR.out];exact qK hl8 (J9 (hq.perm.mem_iff.1 hdm) (by unfold CH;rw[HB1.out,lA];rfl))
       have HR1:=Q T;clear T lA M_;go_wp2_with fail;rw[<-HX.out];generalize Ua:wr.alloc (.cells #[aX d.1,aX d.2] 66)=wb at hB vR ⊢;clear Ua;have c0:=λw1(H:Grow _ w1)=>(hB.grow H).cell 0;have c1:=λw1(H:Grow _ w1)=>(hB.grow H).cell 1;refine fh ?_;intro w1 H;clear c0 c1;go_wp2;go_ret;have zh:=eQ jU vR jU.size;exact⟨mq HR1.out.symm,eQ zh H zh.size⟩
     | true=>
       have Ya:∀w1,dz W 264 #[aX d.2] w1 λe O=>e=b5 (aY true)∧w1=O:=λw1=>by have:=M_ w1;rwa [lA] at this
       have hdo:CH d=true:=by unfold CH;rw[HB1.out,lA];rfl
       have ZH:Hid (∀j(hj:j<q.length),j<i+1->CH q[j]=true):=Q λj hj F3=>by
        rcases Nat.lt_or_ge j i with h|h
        ·exact HOK.out j hj h
        ·obtain rfl:j=i:=by omega
         rw[<-HD.out];exact hdo
       clear lA M_ HB1;by_cases h0:i=0
       ·have sx:decide ((0:Int)<(i:Int))=false:=aD ap
        have hi0:¬ 0<i:=by omega
        have H0:=Q h0;clear h0;go_wp2_with fail;rw[<-HX.out];generalize Ua:wr.alloc (.cells #[aX d.1,aX d.2] 66)=wb at hB vR ⊢;clear Ua;have c0:=λw1(H:Grow _ w1)=>(hB.grow H).cell 0;have c1:=λw1(H:Grow _ w1)=>(hB.grow H).cell 1;refine fh ?_;intro w1 H;clear c0 c1;go_wp2_with fail;go_roundw;case rel=>exact⟨i+1,by omega,by go_num,ZH.out,λj hj F3=>absurd F3 (by have:=H0.out;omega),(gP.trans vR).trans H⟩
        case measure=>simp[intOf];omega
       ·have sx:decide ((0:Int)<(i:Int))=true:=aC ap
        obtain⟨j,HJ⟩:∃j:Nat,Hid (i=j+1):=⟨i-1,Q ap⟩;have Cw:j<n:=by have:=HJ.out;omega
        obtain⟨Ze,hqj,ea,j0,_⟩:=FQ (hI.grow gP) Cw;injection ea with ea;subst ea;have wJ:(i:Int)-1=(j:Int):=by have:=HJ.out;omega
        have hwj:IntKind.i64.wrap (j:Int)=(j:Int):=by rw[IntKind.wrap_i64];omega
        have hjneg:¬ (j:Int)<0:=by omega
        have zD:0<i:=by omega
        obtain⟨p,hpp⟩:=aE (q[j].1);rw[<-hpp] at j0;have HP:=Q hpp;have hp:∀w9,Grow (wr.alloc (.cells #[aX d.1,aX d.2] 66)) w9->w9.cell? (ad.add (j*2))=some (aX p):=λw9 h9=>j0 w9 (vR.trans h9);have a1J:¬ n<=j:=by omega
        clear hpp j0 h0;by_cases heq:p=d.1
        ·have T:R=1:=by
          rw[HR.out,<-xG hq.perm];have e9:i=j+1:=HJ.out;subst e9;exact qK (by have:=J2.out;omega) (RQ hqj Qh ap (by rw[<-HP.out,<-HD.out];exact heq))
         have HR1:=Q T
         have a4c:(p.toList == d.1.toList)=true:=by rw[heq];simp
         have HEQ:=Q heq
         clear T heq
         go_wp2_with fail
         rw[<-HX.out]
         generalize Ua:wr.alloc (.cells #[aX d.1,aX d.2] 66)=wb at hB vR hp ⊢
         clear Ua
         have c0:=λw1(H:Grow _ w1)=>(hB.grow H).cell 0
         have c1:=λw1(H:Grow _ w1)=>(hB.grow H).cell 1
         refine fh ?_
         intro w1 H
         clear c0 c1
         go_wp2
         go_ret
         have zh:=eQ jU vR jU.size
         exact⟨mq HR1.out.symm,eQ zh H zh.size⟩
        ·have HEQ:=Q heq
         have a4c:=sZ heq;clear heq;go_wp2_with fail;rw[<-HX.out];generalize Ua:wr.alloc (.cells #[aX d.1,aX d.2] 66)=wb at hB vR hp ⊢;clear Ua;have c0:=λw1(H:Grow _ w1)=>(hB.grow H).cell 0;have c1:=λw1(H:Grow _ w1)=>(hB.grow H).cell 1;refine fh ?_;intro w1 H;clear c0 c1;go_wp2_with fail;go_roundw;case rel=>
          refine⟨i+1,by omega,by go_num,ZH.out,λk N YY=>?_,(gP.trans vR).trans H⟩;rcases Nat.lt_or_ge (k+1) i with h|h
          ·exact HNE.out k N h
          ·have e9:i=j+1:=HJ.out
           obtain rfl:k=j:=by omega
           subst e9;rw[<-HP.out,<-HD.out];exact HEQ.out
         case measure=>simp[intOf];omega
  ·obtain rfl:n=i:=by omega
   have hit:decide ((n:Int)<(n:Int))=false:=aD ap;by_cases h0:n=0
   ·have T:R=1:=by
     rw[HR.out];refine qK hl8 ?_;obtain rfl:l=[]:=bu (by rw[HLL.out];exact h0);rfl
    have HR1:=Q T
    have h0e:((n:Int) == 0)=true:=beq_iff_eq.2 ap
    clear T
    go_wp2
    go_ret
    exact⟨mq HR1.out.symm,jU⟩
   ·have T:R=0:=by
     rw[HR.out,<-xG hq.perm];refine NM (by have:=J2.out;omega) (RR (λe=>h0 (by rw[<-J2.out,e];rfl)) (λd hd=>?_) (hq.step λi hi=>HNE.out i hi (by have:=J2.out;omega)));obtain⟨j,hj,rfl⟩:=List.getElem_of_mem hd;exact HOK.out j hj (by have:=J2.out;omega)
    have HR1:=Q T
    have h0e:((n:Int) == 0)=false:=beq_eq_false_iff_ne.2 ap
    clear T
    go_wp2
    go_ret
    exact⟨mq HR1.out.symm,jU⟩
end Go.Proofs.YtpeepcmdehhbgaaGreatDoor.abn
