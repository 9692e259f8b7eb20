import Derived.Test.YtpeepcmdehhbgaaGreatDoorJa02
import Derived.Lib.SplitLaws
import Derived.Lib.CutLaws
import Derived.Lib.IndexBytes
import Derived.Lib.Join
import Derived.Shelf.Strings.SplitCore
import Derived.Shelf.Strings.Search3
import Derived.Shelf.Strings.Count
import Derived.Shelf.Strings.OnBuilder
set_option linter.all false
set_option maxRecDepth 100000
set_option maxHeartbeats 2000000
open Go.Value renaming int->ae,slice->Z,string->aX,bool->aY,agg->aZ,tuple->a_
open Go.Ending renaming returned->b5
open Go.IntKind renaming i64->af,u64->ah
open Go.Proofs.Tryz renaming prog->W,underlying9->cW,underlying23->d9,underlying5->dm,underlying3->dp
open Go.Lib renaming hid->Q
open List renaming length_append->bd,eq_nil_of_length_eq_zero->bu,length_cons->bD,getElem_mem->bF,map_cons->bQ,mem_cons_of_mem->bR,nil_append->ch,mem_cons_self->cj,cons_append->cD,getElem_map->di,length_map->bj,append_nil->bm,length_take->bn,append_assoc->bp,length_singleton->bv,map_append->bI,flatMap_cons->bJ,flatMap_append->bL,length_drop->bO,mem_of_mem_take->bW,flatMap_nil->cE,map_nil->cQ,mem_map_of_mem->cT,mem_of_mem_drop->cX,length_set->dh,take_succ_eq_append_getElem->br,take_of_length_le->bH,size_toArray->cy,map_congr_left->cO,not_mem_nil->cF,mem_cons->cI,take_length->dq
open Nat renaming le_refl->bh,zero_add->cJ,lt_of_lt_of_le->bw,le_trans->bB,min_eq_left->cz,zero_le->bo,eq_zero_or_pos->b_,mul_le_mul_right->cK
open Bool renaming and_eq_true->bU
open Array renaming length_toList->bZ
open Go renaming World->X,Calls->dz,maxLen->dG,Value->K,Addr->dA,Oper->dE
open Go.Builtin renaming zeroCells->bM
open Go (J az aE aA aB aC aD ay aj am ap aw aL aK aJ aI aH aV aU aT aR aQ aP aO aN)
namespace Go.Proofs.YtpeepcmdehhbgaaGreatDoor.abn
open RowKit Hop
def ey(c:UInt8):List UInt8->List (List UInt8)
 | []=>[[]]
 | b::r=>if b=c then []::ey c r else match ey c r with
   | []=>[[b]]
   | p::ps=>(b::p)::ps
theorem Ai{c:UInt8}:∀{a:aT},c ∉ a->ey c a=[a]
 | [],_=>rfl
 | b::r,h=>by
   have I:b≠c:=λe=>h (by rw[e];exact cj);have G:=Ai (c:=c) (a:=r) λhr=>h (bR _ hr);unfold ey;rw[aB I,G]
theorem xE{c:UInt8}{r:aT}:∀{a:aT},c ∉ a->ey c (a++c::r)=a::ey c r
 | [],_=>by rw[ch,ey,aA rfl]
 | b::a,h=>by
   have I:b≠c:=λe=>h (by rw[e];exact cj);have G:=xE (c:=c) (r:=r) (a:=a) λhr=>h (bR _ hr);rw[cD,ey,aB I,G]
def KH(c:UInt8)(s:aT):c ∉ s∨∃a r,s=a++c::r∧c ∉ a:=by
 by_cases h:c∈s
 ·obtain⟨a,r,e,ha⟩:=List.eq_append_cons_of_mem h
  exact .inr ⟨a,r,e,ha⟩
 ·exact .inl h
theorem xF{c:UInt8}{r:aT}:∀{a:aT},c ∉ a->Lib.index (a++c::r) [c]=(a.length:Int)
 | [],_=>by rw[Lib.index_one];simp[Lib.indexByte]
 | b::a,h=>by
   have I:(b == c)=false:=beq_eq_false_iff_ne.2 λe=>h (by rw[e];exact cj);have G:=xF (c:=c) (r:=r) (a:=a) λhr=>h (bR _ hr);rw[Lib.index_one] at G ⊢;rw[cD,Lib.indexByte,I,G];have:((a.length:Int) == -1)=false:=beq_eq_false_iff_ne.2 ap;rw[this];simp
theorem DC(c:UInt8):∀(n:Nat)(s:aT),s.length<=n->Lib.splitK [c] 0 (Lib.count s [c]) s=ey c s
 | 0,s,h=>by
   obtain rfl:s=[]:=bu ap;rfl
 | n+1,s,h=>by
   rw[Lib.count_one];rcases KH c s with kh|⟨a,r,rfl,ha⟩
   ·rw[List.count_eq_zero.2 kh,Ai kh];rfl
   ·rw[List.count_append,List.count_eq_zero.2 ha,List.count_cons_self,cJ]
    rw[xE ha,Lib.splitK,xF ha];have:((a.length:Int) == -1)=false:=beq_eq_false_iff_ne.2 ap;rw[this,<-DC c n r (by simp at h;omega),Lib.count_one];simp
def mk(l:aT):ByteArray:=⟨l.toArray⟩
def mk_data(l:aT):(mk l).data.toList=l:=rfl
def jf(p:aT):Lb:=(mk (Lib.cut p [61]).1,mk (Lib.cut p [61]).2.1)
def fM(s:aR):List Lb:=(ey 44 s.data.toList).map jf
def lg{s:aR}(h:me s=true):1<=s.size∧s.size<=32:=by unfold me at h;simp only[bU,decide_eq_true_eq] at h;exact h.1
def CH(d:Lb):Bool:=me d.1&&me d.2
def ow(l:List Lb):Bool:=l.all CH&&decide ((l.map (·.1)).Nodup)&&!l.isEmpty
def gK(l:List Lb):Int:=if 8<l.length then 3 else if ow l then 0 else 1
theorem mP(l:List Lb):ow l=true↔(∀d∈l,CH d=true)∧(l.map (·.1)).Nodup∧l≠[]:=by
 unfold ow;cases l with
 | nil=>simp
 | cons a l=>simp only[bU,List.all_eq_true,decide_eq_true_eq,List.isEmpty_cons,Bool.not_false,and_true,ne_eq,reduceCtorEq,not_false_eq_true]
def KI{p q:List Lb}(h:p.Perm q):ow p=ow q:=by
 rw[Bool.eq_iff_iff,mP,mP,(h.map (·.1)).nodup_iff];constructor
 ·rintro ⟨I,G,L⟩
  exact⟨λd hd=>I d (h.mem_iff.2 hd),G,λe=>L (by rw[e] at h;exact h.eq_nil)⟩
 ·rintro ⟨I,G,L⟩
  exact⟨λd hd=>I d (h.mem_iff.1 hd),G,λe=>L (by rw[e] at h;exact h.symm.eq_nil)⟩
def xG{p q:List Lb}(h:p.Perm q):gK p=gK q:=by unfold gK;rw[h.length_eq,KI h]
def xH{l:List Lb}(h:gK l=0):l.length<=8∧ow l=true:=by
 unfold gK at h;split at h;·cases h
 ·split at h
  ·exact⟨by omega,by assumption⟩
  ·cases h
def NM{l:List Lb}(h8:l.length<=8)(h:ow l=true):gK l=0:=by unfold gK;rw[aB ap,aA h]
def qK{l:List Lb}(h8:l.length<=8)(h:ow l=false):gK l=1:=by unfold gK;rw[aB ap,aB (by rw[h];simp)]
def Gg{l:List Lb}(h8:8<l.length):gK l=3:=by unfold gK;rw[aA h8]
theorem J9{l:List Lb}{d:Lb}(hd:d∈l)(h:CH d=false):ow l=false:=by
 cases hf:ow l with
 | false=>rfl
 | true=>have:=((mP l).1 hf).1 d hd;rw[h] at this;cases this
theorem RQ{l:List Lb}{i j:Nat}(hi:i<l.length)(hj:j<l.length)(wJ:i<j)(h:l[i].1=l[j].1):ow l=false:=by
 cases hf:ow l with
 | false=>rfl
 | true=>
   have G:=List.pairwise_iff_getElem.1 ((mP l).1 hf).2.1 i j (by simpa using hi) (by simpa using hj) wJ;simp only[di] at G;exact absurd h G
def RR{l:List Lb}(h0:l≠[])(I:∀d∈l,CH d=true)(G:∀i j(hi:i<l.length)(hj:j<l.length),i<j->l[i].1≠l[j].1):ow l=true:=
 (mP l).2 ⟨I,List.pairwise_iff_getElem.2 λi j hi hj wJ=>by simp only[di];exact G i j (by simpa using hi) (by simpa using hj) wJ,h0⟩
def kF.step{q l:List Lb}(h:kF q l)(ha:∀i(hi:i+1<q.length),q[i].1≠q[i+1].1):∀i j(hi:i<q.length)(hj:j<q.length),i<j->q[i].1≠q[j].1:=λi j hi hj wJ e=>by
 have hs:=List.pairwise_iff_getElem.1 h.pB;have I:=hs i (i+1) hi ap ap;by_cases wo:j=i+1;·subst wo;exact ha i ap e
 ·have G:=hs (i+1) j ap hj ap
  rw[<-e] at G;exact ha i ap (oU G I)
def kF.len{q l:List Lb}(h:kF q l):q.length=l.length:=h.perm.length_eq
def can(l:List Lb):List Lb:=l.mergeSort λa b => !slt b.1 a.1
def Gh(l:List Lb):kF (can l) l:=by
 refine⟨List.mergeSort_perm ..,?_⟩;have:=List.pairwise_mergeSort (le:=λa b:Lb => !slt b.1 a.1) (λa b c h k=>by
  simp only[Bool.not_eq_true'] at *;exact IL k h) (λa b=>by
  cases h:slt b.1 a.1 with
  | false=>rfl
  | true=>rw[xg h];rfl) l
 exact this.imp λh=>by simpa using h
theorem xI:∀{p q:List Lb},p.Pairwise (λa b=>slt a.1 b.1=true)->q.Pairwise (λa b=>slt a.1 b.1=true)->p.Perm q->p=q
 | [],q,_,_,h=>h.nil_eq
 | a::p,[],_,_,h=>h.eq_nil
 | a::p,b::q,hp,hq,h=>by
   have V9:=List.pairwise_cons.1 hp;have My:=List.pairwise_cons.1 hq;have e:a=b:=by
    rcases List.mem_cons.1 (h.mem_iff.1 cj) with e|I
    ·exact e
    ·rcases List.mem_cons.1 (h.mem_iff.2 cj) with e|G
     ·exact e.symm
     ·have:=rU (V9.1 b G) (My.1 a I)
      rw[jF] at this;cases this
   subst e;rw[xI V9.2 My.2 ((List.perm_cons a).1 h)]
theorem kF.strict{q l:List Lb}(h:kF q l)(hn:(l.map (·.1)).Nodup):q.Pairwise λa b=>slt a.1 b.1=true:=by
 have hn':(q.map (·.1)).Nodup:=(h.perm.map (·.1)).nodup_iff.2 hn;refine List.pairwise_iff_getElem.2 λi j hi hj wJ=>?_;have I:=List.pairwise_iff_getElem.1 h.pB i j hi hj wJ;cases G:slt q[i].1 q[j].1 with
 | true=>rfl
 | false=>
   have e:=oU G I;have:=List.pairwise_iff_getElem.1 hn' i j (by simpa using hi) (by simpa using hj) wJ;simp only[di] at this;exact absurd e this
def kF.a49{q l:List Lb}(h:kF q l)(hn:(l.map (·.1)).Nodup):q=can l:=xI (h.strict hn) ((Gh l).strict hn) (h.perm.trans (Gh l).perm.symm)
def ox(d:Lb):List UInt8:=d.1.data.toList++61::d.2.data.toList
def Gi(q:List Lb):List UInt8:=Lib.join (q.map ox) [44]
def txt(q:List Lb):ByteArray:=mk (Gi q)
def textOf(l:List Lb):ByteArray:=if gK l=0 then txt (can l) else mk []
def Aj(d:Lb)(q:List Lb):Gi (d::q)=ox d++(q.map λd=>44::ox d).flatten:=by unfold Gi;rw[bQ,Lib.join_cons];unfold Lib.joinTail;rw[List.map_map];rfl
def mx(s:aR):Bool:=decide (gK (fM s)=0)&&decide (txt (can (fM s))=s)
def nY(s:aR):List Lb:=if mx s then fM s else []
def fW(s:aR):Int:=if mx s then 0 else 12
def DD{d:Lb}(h:CH d=true):(ox d).length<=65:=by
 unfold CH at h;simp only[bU] at h;have I:=(lg h.1).2;have G:=(lg h.2).2;have e1:d.1.data.toList.length=d.1.size:=by rw[bZ];rfl
 have e2:d.2.data.toList.length=d.2.size:=by rw[bZ];rfl
 unfold ox;rw[bd,bD];omega
theorem RU:∀(q:List Lb),(∀d∈q,CH d=true)->(Gi q).length<=66*q.length
 | [],_=>by show 0<=_;omega
 | d::q,h=>by
   rw[Aj,bd,bD];have I:=DD (h d cj);have G:∀r:List Lb,(∀d∈r,CH d=true)->((r.map λd=>44::ox d).flatten).length<=66*r.length:=by
    intro r;induction r with
    | nil=>intro _;simp
    | cons a r ih=>
      intro hr;rw[bQ,List.flatten_cons,bd,bD,bD];have:=DD (hr a cj);have:=ih λx Y=>hr x (bR _ Y);omega
   have:=G q λx Y=>h x (bR _ Y);omega
def sZ{a b:aR}(h:a≠b):(a.toList == b.toList)=false:=beq_eq_false_iff_ne.2 λe=>h (FZ.1 e)
def oy(w:X)(V:aV)(A:aU)(n c:Nat)(l:List Lb)(h:In w V 2 A n (gF l))(hl:∀d∈l,d.1.size<=dG∧d.2.size<=dG)(hn:n<=9223372036854775807):dz W 203 #[Z A n c] w λe O=>e=b5 (J (gK l))∧Grow w O:=by
 have wu:=LIn.len h;have kName:∀(vs:aP)(w:X),(callFunc 264 vs).run W w=.ok (.enter 264 vs) w:=λvs w=>by go_simp
 by_cases h8:8<n
 ·have hd:decide ((8:Int)<(n:Int))=true:=aC ap
  rw[Gg ap];clear h;go_in;go_wp2;go_ret;exact⟨rfl,Grow.refl _⟩
 have hd:decide ((8:Int)<(n:Int))=false:=aD ap;have hl8:l.length<=8:=by omega
 have Qm:=xp w V A n c l h ap;obtain⟨R,HR⟩:=az (gK l:Int);rw[<-HR.out];clear h;go_in;go_wp2_with fail;refine Qm.mono ?_;rintro e w1 ⟨A1,q,rfl,hq,hI,eD⟩;clear Qm;have ig:q.length=n:=by rw[hq.len];exact wu
 have Uu:∀d∈q,d.1.size<=dG∧d.2.size<=dG:=λd hd=>hl d (hq.perm.mem_iff.1 hd);have J2:=Q ig;have HLL:=Q wu;clear ig wu;go_wp2_with fail;go_loopw [13] (λi wr=>∃k:Nat,k<=n∧i=J k∧(∀j(hj:j<q.length),j<k->CH q[j]=true)∧(∀j(hj:j+1<q.length),j+1<k->q[j].1≠q[j+1].1)∧Grow w1 wr) (λi _=>n-(intOf i).toNat);case atStart=>exact⟨0,by omega,rfl,λ_ _ h=>absurd h ap,λ_ _ h=>absurd h ap,Grow.refl _⟩
 case round=>
  obtain⟨i,kT,rfl,gC,jT,gP⟩:=hrel;have HOK:=Q gC;have HNE:=Q jT;clear gC jT;have jU:=eQ eD gP eD.size;by_cases hi:i<n
  ·have hit:decide ((i:Int)<(n:Int))=true:=aC ap
   obtain⟨ad,Qh,rfl,e0,e1⟩:=FQ (hI.grow gP) hi;have Mk:=e0 wr (Grow.refl _);have Ut:=e1 wr (Grow.refl _);have hdm:q[i]∈q:=bF Qh;have tS:=Uu _ hdm;obtain⟨d,hdd⟩:=aE (q[i]);rw[<-hdd] at Mk Ut hdm tS;have HD:=Q hdd;clear hdd e0 e1;obtain⟨x,HX⟩:=az ((wr:Nat):Nat);have hB:eJ (wr.alloc (.cells #[aX d.1,aX d.2] 66)) x 66 #[aX d.1,aX d.2]:=by rw[HX.out];exact eJ.made wr _ _
   have vR:Grow wr (wr.alloc (.cells #[aX d.1,aX d.2] 66)):=(Below.refl _ _).alloc (bh _) _;have hN1:=λw1=>Dd w1 d.1 tS.1;have M_:=λw1=>Dd w1 d.2 tS.2;have hin2:¬ n<=i:=by omega
   cases lU:me d.1 with
   | false=>
     have oK:∀w1,dz W 264 #[aX d.1] w1 λe O=>e=b5 (aY false)∧w1=O:=λw1=>by have:=hN1 w1;rwa [lU] at this
     have T:R=1:=by rw[HR.out];exact qK hl8 (J9 (hq.perm.mem_iff.1 hdm) (by unfold CH;rw[lU];rfl))
     have HR1:=Q T;clear T lU hN1 M_;go_wp2_with fail;rw[<-HX.out];generalize Ua:wr.alloc (.cells #[aX d.1,aX d.2] 66)=wb at hB vR ⊢;clear Ua;have c0:=λw1(H:Grow _ w1)=>(hB.grow H).cell 0;refine fh ?_;intro w1 H;clear c0;go_wp2;go_ret;have zh:=eQ jU vR jU.size;exact⟨mq HR1.out.symm,eQ zh H zh.size⟩
   | true=>
     have oK:∀w1,dz W 264 #[aX d.1] w1 λe O=>e=b5 (aY true)∧w1=O:=λw1=>by have:=hN1 w1;rwa [lU] at this
     have HB1:=Q lU;clear lU hN1;cases lA:me d.2 with
     | false=>
       have Ya:∀w1,dz W 264 #[aX d.2] w1 λe O=>e=b5 (aY false)∧w1=O:=λw1=>by have:=M_ w1;rwa [lA] at this
       have T:R=1:=by rw[HR.out];exact qK hl8 (J9 (hq.perm.mem_iff.1 hdm) (by unfold CH;rw[HB1.out,lA];rfl))
       have HR1:=Q T;clear T lA M_;go_wp2_with fail;rw[<-HX.out];generalize Ua:wr.alloc (.cells #[aX d.1,aX d.2] 66)=wb at hB vR ⊢;clear Ua;have c0:=λw1(H:Grow _ w1)=>(hB.grow H).cell 0;have c1:=λw1(H:Grow _ w1)=>(hB.grow H).cell 1;refine fh ?_;intro w1 H;clear c0 c1;go_wp2;go_ret;have zh:=eQ jU vR jU.size;exact⟨mq HR1.out.symm,eQ zh H zh.size⟩
     | true=>
       have Ya:∀w1,dz W 264 #[aX d.2] w1 λe O=>e=b5 (aY true)∧w1=O:=λw1=>by have:=M_ w1;rwa [lA] at this
       have hdo:CH d=true:=by unfold CH;rw[HB1.out,lA];rfl
       have ZH:Hid (∀j(hj:j<q.length),j<i+1->CH q[j]=true):=Q λj hj F3=>by
        rcases Nat.lt_or_ge j i with h|h
        ·exact HOK.out j hj h
        ·obtain rfl:j=i:=by omega
         rw[<-HD.out];exact hdo
       clear lA M_ HB1;by_cases h0:i=0
       ·have sx:decide ((0:Int)<(i:Int))=false:=aD ap
        have hi0:¬ 0<i:=by omega
        have H0:=Q h0;clear h0;go_wp2_with fail;rw[<-HX.out];generalize Ua:wr.alloc (.cells #[aX d.1,aX d.2] 66)=wb at hB vR ⊢;clear Ua;have c0:=λw1(H:Grow _ w1)=>(hB.grow H).cell 0;have c1:=λw1(H:Grow _ w1)=>(hB.grow H).cell 1;refine fh ?_;intro w1 H;clear c0 c1;go_wp2_with fail;go_roundw;case rel=>exact⟨i+1,by omega,by go_num,ZH.out,λj hj F3=>absurd F3 (by have:=H0.out;omega),(gP.trans vR).trans H⟩
        case measure=>simp[intOf];omega
       ·have sx:decide ((0:Int)<(i:Int))=true:=aC ap
        obtain⟨j,HJ⟩:∃j:Nat,Hid (i=j+1):=⟨i-1,Q ap⟩;have Cw:j<n:=by have:=HJ.out;omega
        obtain⟨Ze,hqj,ea,j0,_⟩:=FQ (hI.grow gP) Cw;injection ea with ea;subst ea;have wJ:(i:Int)-1=(j:Int):=by have:=HJ.out;omega
        have hwj:IntKind.i64.wrap (j:Int)=(j:Int):=by rw[IntKind.wrap_i64];omega
        have hjneg:¬ (j:Int)<0:=by omega
        have zD:0<i:=by omega
        obtain⟨p,hpp⟩:=aE (q[j].1);rw[<-hpp] at j0;have HP:=Q hpp;have hp:∀w9,Grow (wr.alloc (.cells #[aX d.1,aX d.2] 66)) w9->w9.cell? (ad.add (j*2))=some (aX p):=λw9 h9=>j0 w9 (vR.trans h9);have a1J:¬ n<=j:=by omega
        clear hpp j0 h0;by_cases heq:p=d.1
        ·have T:R=1:=by
          rw[HR.out,<-xG hq.perm];have e9:i=j+1:=HJ.out;subst e9;exact qK (by have:=J2.out;omega) (RQ hqj Qh ap (by rw[<-HP.out,<-HD.out];exact heq))
         have HR1:=Q T
         have a4c:(p.toList == d.1.toList)=true:=by rw[heq];simp
         have HEQ:=Q heq
         clear T heq
         go_wp2_with fail
         rw[<-HX.out]
         generalize Ua:wr.alloc (.cells #[aX d.1,aX d.2] 66)=wb at hB vR hp ⊢
         clear Ua
         have c0:=λw1(H:Grow _ w1)=>(hB.grow H).cell 0
         have c1:=λw1(H:Grow _ w1)=>(hB.grow H).cell 1
         refine fh ?_
         intro w1 H
         clear c0 c1
         go_wp2
         go_ret
         have zh:=eQ jU vR jU.size
         exact⟨mq HR1.out.symm,eQ zh H zh.size⟩
        ·have HEQ:=Q heq
         have a4c:=sZ heq;clear heq;go_wp2_with fail;rw[<-HX.out];generalize Ua:wr.alloc (.cells #[aX d.1,aX d.2] 66)=wb at hB vR hp ⊢;clear Ua;have c0:=λw1(H:Grow _ w1)=>(hB.grow H).cell 0;have c1:=λw1(H:Grow _ w1)=>(hB.grow H).cell 1;refine fh ?_;intro w1 H;clear c0 c1;go_wp2_with fail;go_roundw;case rel=>
          refine⟨i+1,by omega,by go_num,ZH.out,λk N YY=>?_,(gP.trans vR).trans H⟩;rcases Nat.lt_or_ge (k+1) i with h|h
          ·exact HNE.out k N h
          ·have e9:i=j+1:=HJ.out
           obtain rfl:k=j:=by omega
           subst e9;rw[<-HP.out,<-HD.out];exact HEQ.out
         case measure=>simp[intOf];omega
  ·obtain rfl:n=i:=by omega
   have hit:decide ((n:Int)<(n:Int))=false:=aD ap;by_cases h0:n=0
   ·have T:R=1:=by
     rw[HR.out];refine qK hl8 ?_;obtain rfl:l=[]:=bu (by rw[HLL.out];exact h0);rfl
    have HR1:=Q T
    have h0e:((n:Int) == 0)=true:=beq_iff_eq.2 ap
    clear T
    go_wp2
    go_ret
    exact⟨mq HR1.out.symm,jU⟩
   ·have T:R=0:=by
     rw[HR.out,<-xG hq.perm];refine NM (by have:=J2.out;omega) (RR (λe=>h0 (by rw[<-J2.out,e];rfl)) (λd hd=>?_) (hq.step λi hi=>HNE.out i hi (by have:=J2.out;omega)));obtain⟨j,hj,rfl⟩:=List.getElem_of_mem hd;exact HOK.out j hj (by have:=J2.out;omega)
    have HR1:=Q T
    have h0e:((n:Int) == 0)=false:=beq_eq_false_iff_ne.2 ap
    clear T
    go_wp2
    go_ret
    exact⟨mq HR1.out.symm,jU⟩
end Go.Proofs.YtpeepcmdehhbgaaGreatDoor.abn
section
variable{w O:X}{u:K}{ρ:Go.Operand->K}{o:dE}{x y:Go.Operand}{g B:Nat}{last seq s:Int}
namespace Go.Proofs.YtpeepcmdehhbgaaGreatDoor.abo
open RowKit Hop
def NN(B:Nat)(seq:Int)(ds:List Dl)(u:K)(w:X):Prop:=∃(b:iE)(abj:Nat),b.seq=seq∧b.ds=ds∧u=aZ #[J b.seq,Z b.A b.m b.c]∧iQ w (λx=>B<=x∧x<abj) b∧abj<=(w:Nat)
def NP(B:Nat)(seq:Int)(ds:List Dl)(u:K)(w:X):Prop:=∃(b:iE)(abj:Nat)(A:aU),b.seq=seq∧b.ds=ds∧u=Z A 1 1∧In w (λx=>B<=x) 2 A 1 b.cells∧iQ w (λx=>B<=x∧x<abj) b∧abj<=(w:Nat)
def Fin(R:aV)(B:Nat)(q:List iE)(seq:Int)(ds:List Dl)(u:K)(w:X):Prop:=
 ∃(b:iE)(R' D':aV),b.seq=seq∧b.ds=ds∧Row w R' 196 2 u (q.length+1) ((q++[b]).flatMap iE.cells)∧iQ w D' b∧
   (∀x,R' x->(R x∨B<=x)∧x<(w:Nat)∧¬ D' x)∧(∀x,D' x->B<=x∧x<(w:Nat))
section
variable{R abe:aV}{A:aU}{m:Nat}{v:K}{q:List iE}{ds:List Dl}
def Uv(vu:¬ R g)(pG:g<B){x:Nat}(I:R x∨B<=x)(G:x=g):False:=by
 rw[G] at I;rcases I with I|I
 ·exact vu I
 ·omega
theorem Fin.just{U:aV}{u:K}{w O:X}(h:Fin R B q seq ds u w)(hj:dM U w O)(hd:∀x,x<(w:Nat)->(R x∨B<=x)->¬ U x):Fin R B q seq ds u O:=by obtain⟨b,R',D',I,G,L,h4,h5,h6⟩:=h;exact⟨b,R',D',I,G,L.just hj λx Y=>hd x (h5 x Y).2.1 (h5 x Y).1,h4.just hj λx Y=>hd x (h6 x Y).2 (.inr (h6 x Y).1),λx Y=>⟨(h5 x Y).1,bw (h5 x Y).2.1 hj.size,(h5 x Y).2.2⟩,λx Y=>⟨(h6 x Y).1,bw (h6 x Y).2 hj.size⟩⟩
def Fin.grow(h:Fin R B q seq ds u w)(H:Grow w O):Fin R B q seq ds u O:=h.just (U:=λ_=>False) (dM.dK H) λ_ _ _ h=>h
def vd{b:iE}{ds:List Dl}{args:aP}(hB:b.seq=seq∧b.ds=ds)
 (h:dz W 230 args w λe O=>∃A',e=b5 (aZ #[J b.seq,Z A' b.m b.m])∧iQ O (New w O) ⟨b.seq,A',b.m,b.m,b.ds⟩∧Grow w O) (hs:B<=(w:Nat)):dz W 230 args w λe O=>∃u,e=b5 u∧Grow w O∧NN B seq ds u O:=by obtain⟨G,L⟩:=hB;refine h.mono λe O ⟨A',he,lU,H⟩=>⟨_,he,H,⟨⟨b.seq,A',b.m,b.m,b.ds⟩,(O:Nat),G,L,rfl,lU.mono λx Y=>⟨bB hs Y.1,Y.2⟩,bh _⟩⟩
def pe(h:NN B seq ds u w)(hs:B<=(w:Nat))(I:ρ x=u)(ho:o.op=.buildSlice 193 1 #[(0,x)]):gE W (λv O=>Grow w O∧NP B seq ds v O) ((execOp ρ o).run W w):=by obtain⟨dst,op,ty,pos,after,guard⟩:=o;simp only at ho;subst ho;obtain⟨b,abj,e1,e2,rfl,hb,hH⟩:=h;have H:Grow w (w.alloc (.cells #[J b.seq,Z b.A b.m b.c] 196)):=(Below.refl _ w).alloc (bh _) _;refine gv (u := Z (some ⟨(w:Nat),0,none⟩) 1 1) (w:=w.alloc (.cells #[J b.seq,Z b.A b.m b.c] 196)) (by go_simp) ⟨H,b,abj,some ⟨(w:Nat),0,none⟩,e1,e2,rfl,?_,hb.grow H,bB hH H.size⟩;obtain⟨L,h4⟩:=fF w #[J b.seq,Z b.A b.m b.c] 196 (0,0) (n:=1) (size:=2) rfl _ rfl;exact⟨L,λhn=>⟨_,rfl,hs,by simp,by obtain⟨ad,e,_,E⟩:=h4 hn;injection e with e;rw[e];exact E⟩⟩
def rW{A0:aU}{c0:Nat}(Mi:∀x,R x->x<B)(vu:¬ R g)(h:Row w R 196 2 (Z A0 q.length c0) q.length (q.flatMap iE.cells))(H:eJ w g 266 #[Z A0 q.length c0,J last])(hq:q.length<16)(hu:NP B seq ds u w)(Mw:B<=(w:Nat))
 (I:ρ x=Z A0 q.length c0) (G:ρ y=u) (ho:o.op=.call { callee := .builtin .append,args:=#[x,y],argTypes:=#[193,193] }):gE W (λv O=>dM R w O∧eJ O g 266 #[Z A0 q.length c0,J last]∧Fin R B q seq ds v O) ((execOp ρ o).run W w):=by
 obtain⟨b,abj,A,e1,e2,rfl,hI,hb,hH⟩:=hu;refine pv xd ho I h G hI.reads (Bz b) ap λv' O T hj=>⟨hj,hj.blk H vu,b,iY R w O,λx=>B<=x∧x<abj,e1,e2,?_,hb.just hj λx Y hr=>?_,λx Y=>?_,λx Y=>⟨Y.1,bw Y.2 (bB hH hj.size)⟩⟩;·rw[bL,bJ,cE,bm];exact T
 ·have L:B<=x:=Y.1;have:=Mi x hr;omega
 ·rcases Y with Y|Y
  ·have:=Mi x Y
   exact⟨.inl Y,by have:=hj.size;omega,λhd=>by have L:B<=x:=hd.1;omega⟩
  ·exact⟨.inr (by have:=Y.1;omega),Y.2,λhd=>by have:=Y.1;have L:x<abj:=hd.2;omega⟩
def Gj(vu:¬ R g)(pG:g<B)(h:eJ w g 266 #[v,J last])(hu:Fin R B q seq ds u w)
 (I:ρ x=(g:K)) (G:ρ y=u) (ho:o.op=.store 193 x y):gE W (λv O=>v=undef∧dM (λb=>b=g) w O∧∃u,eJ O g 266 #[u,J last]∧Fin R B q seq ds u O) ((execOp ρ o).run W w):=by obtain⟨dst,op,ty,pos,after,guard⟩:=o;simp only at ho;subst ho;have hj:=kD w g 0 u;have hf:=hu.just hj λx _ I(G:x=g)=>Uv vu pG I G;obtain⟨b,R',D',e1,e2,T,_⟩:=hu;obtain⟨A,c,rfl,_⟩:=T.jL;have f0:=h.frozen 0;have c0:=h.cell 0;exact rB (O:=w.setCell (g,0) (Z A (q.length+1) c)) (by go_simp) ⟨rfl,hj,_,h.put 0 _,hf⟩
def Gk(vu:¬ R g)(pG:g<B)(h:∃u,eJ w g 266 #[u,J last]∧Fin R B q seq ds u w)
 (I:ρ x=((g,1):K)) (G:ρ y=J seq) (ho:o.op=.store 2 x y):gE W (λv O=>v=undef∧dM (λb=>b=g) w O∧∃u,eJ O g 266 #[u,J seq]∧Fin R B q seq ds u O) ((execOp ρ o).run W w):=by obtain⟨dst,op,ty,pos,after,guard⟩:=o;simp only at ho;subst ho;obtain⟨u,hB,hu⟩:=h;have hj:=kD w g 1 (J seq);have hf:=hu.just hj λx _ I(G:x=g)=>Uv vu pG I G;have f0:=hB.frozen 1;have c0:=hB.cell 1;exact rB (O:=w.setCell (g,1) (J seq)) (by go_simp) ⟨rfl,hj,u,hB.put 1 _,hf⟩
end
def Wb(w:X)(abe:aV)(g:Nat)(l:List Ab)(last seq:Int)(A:aU)(m c:Nat)(ds:List Dl)(Vf:jM w abe A m ds)(vt:m<=c)(iO:c<=dG)(ha:¬ seq<1)(hb:¬ seq<=last)(E:0<m)(hd:m<=8)(hl:l.length<16):ii W 368 #[g,aZ #[J seq,Z A m c]] (λe=>e=b5 (J 0)) (eh g l last) (eh g (l++[(seq,ds)]) seq) w:=by
 intro V hQ hV;obtain⟨I,v,q,R,D,ig,L,hB,kN,h6,h7,h8⟩:=hQ;obtain⟨A0,c0,rfl,hI,iS,su⟩:=kN.jL;have fu:Grow w (w.alloc (.cells #[J seq,Z A m c] 196)):=(Below.refl (w:Nat) w).alloc (bh _) _;have mw:=eJ.made w 196 #[J seq,Z A m c];obtain⟨x,HX⟩:=az ((w:Nat):Nat);obtain⟨wa,HA⟩:=az (w.alloc (.cells #[J seq,Z A m c] 196):X);have Yb:(wa:Nat)=x+1:=by rw[HA.out,HX.out];simp
 clear Yb;rw[<-HA.out] at fu;have rz:eJ wa x 196 #[J seq,Z A m c]:=by rw[HA.out,HX.out];exact mw
 clear mw;have tV:=hB.grow fu;have Zz:q.length<16:=by rw[<-ig,bj] at hl;exact hl
 have d1:=aD ha;have d2:=aD hb;have d3:((m:Int) == 0)=false:=by simp only[beq_eq_false_iff_ne];omega
 have d4:decide ((8:Int)<(m:Int))=false:=aD ap;clear ha hb;go_in;go_wp2_with fail;rw[<-HA.out,<-HX.out];have c0:=λw1(H:Grow _ w1)=>(rz.grow H).cell 0;have c1:=λw1(H:Grow _ w1)=>(tV.grow H).cell 1;have c2:=λw1(H:Grow _ w1)=>(rz.grow H).cell 1;refine fh ?_;intro w1 H;clear c0 c1 c2;have c00:=(tV.grow H).cell 0;go_wp2_with fail;have jU:=fu.trans H;have NH:=kN.grow jU;have NQ:=tV.grow H;have Cy:=rz.grow H;have Y9:∀b∈q,iQ w1 D b:=λb hb=>(h6 b hb).grow jU;have F6:=In.grow Vf jU;have pG:g<(w1:Nat):=NQ.lt;have vu:¬ R g:=λh=>(h7 g h).2.1 rfl;have Z0:(w:Nat)<=x:=by have:=HX.out;omega
 have ZA:∀x,R x->x<(w:Nat):=λb hb=>hV b (h7 b hb).1;have Mi:∀x,R x->x<(w1:Nat):=λb hb=>bw (ZA b hb) jU.size;have hxn:¬ (R x∨x=g):=λh=>by
  rcases h with h|h
  ·have:=ZA x h;omega
  ·have:=hB.lt;omega
 have hDw:∀x,D x->¬ (R x∨x=g):=λb hb h=>by
  rcases h with h|h
  ·exact (h7 b h).2.2 hb
  ·exact (h8 b hb).2 h
 obtain⟨B,Yv⟩:=az ((w1:Nat):Nat);have HB:∀w2,dM (λb=>R b∨b=g) w1 w2->B<=(w2:Nat):=λw2 h=>Yv.out▸h.size;have Mw:=Yv.out;rw[<-Mw] at pG Mi;have rz:=Cy;have a4d:=jU;have HBw:(w:Nat)<=B:=by rw[Mw];exact jU.size
 clear tV fu h6 c00 hB H jU Mw;have gd:Grow w1 w1.drew:=(Grow.refl _).drew;have jd:dM (λb=>R b∨b=g) w1 w1.drew:=dM.dK gd;refine dJ rfl ?_;refine fC (dM (λb=>R b∨b=g) w1) [15,16,17] 18 rfl [0,1,2,3,4,6,10,11] ?_;iterate 8 refine eV rfl jd (λw2 hj R' wI=>by have c:=(hj.blk rz hxn).cell 0;have c':=(hj.blk rz hxn).cell 1;go_simp;exact wI) ?_
 refine Rv 5 7 [] [] rfl rfl ?_ ?_;case' refine_1=>
  have cg:=(NQ.grow gd).cell 0;go_wp2_with fail;clear cg;refine⟨λ_=>jd,?_⟩;refine eZ 7 [] rfl ?_;go_wp2_with fail;refine (vd (b:=⟨seq,A,m,c,ds⟩) ⟨rfl,rfl⟩ (qH _ abe ⟨seq,A,m,c,ds⟩ ⟨In.grow F6 gd,vt,iO,hd⟩) (HB _ jd)).mono ?_;rintro en u2 ⟨v44,rfl,fk,hBN⟩;replace fk:=gd.trans fk;go_wp2_with fail;refine⟨λ_=>dM.dK fk,?_⟩;refine eZ 8 [] rfl ?_;refine fV rfl (pe (x := .tmp 44) hBN (HB u2 (dM.dK fk)) rfl rfl) ?_;rintro v45 u3 ⟨ib,Qx⟩;replace ib:=fk.trans ib;go_wp2_with fail;refine⟨λ_=>dM.dK ib,?_⟩
 case' refine_2=>
  go_wp2_with fail;refine (vd (b:=⟨seq,A,m,c,ds⟩) ⟨rfl,rfl⟩ (qH _ abe ⟨seq,A,m,c,ds⟩ ⟨In.grow F6 gd,vt,iO,hd⟩) (HB _ jd)).mono ?_;rintro en u2 ⟨v44,rfl,fk,hBN⟩;replace fk:=gd.trans fk;go_wp2_with fail;refine⟨λ_=>dM.dK fk,?_⟩;refine Rv 5 8 [] [] rfl rfl ?_ ?_;case' refine_1=>
   have cg:=(NQ.grow fk).cell 0;go_wp2_with fail;clear cg;refine⟨λ_=>dM.dK fk,?_⟩;refine eZ 8 [] rfl ?_;refine fV rfl (pe (x := .tmp 44) hBN (HB u2 (dM.dK fk)) rfl rfl) ?_;rintro v45 u3 ⟨ib,Qx⟩;replace ib:=fk.trans ib;go_wp2_with fail;refine⟨λ_=>dM.dK ib,?_⟩
  case' refine_2=>
   refine fV rfl (pe (x := .tmp 44) hBN (HB u2 (dM.dK fk)) rfl rfl) ?_;rintro v45 u3 ⟨ib,Qx⟩;replace ib:=fk.trans ib;go_wp2_with fail;refine⟨λ_=>dM.dK ib,?_⟩;refine eZ 5 [] rfl ?_;have cg:=(NQ.grow ib).cell 0;go_wp2_with fail;clear cg;refine⟨λ_=>dM.dK ib,?_⟩
 all_goals
  refine eZ 9 [] rfl ?_
  refine fV rfl (rW (x := .tmp 42) (y := .tmp 45) (last:=last) Mi vu (NH.grow ib) (NQ.grow ib) Zz Qx (HB u3 (dM.dK ib)) rfl rfl rfl) ?_
  rintro v46 u4 ⟨CG,Qn,hF4⟩
  have CG:dM (λb=>R b∨b=g) w1 u4:=(dM.dK ib).trans (CG.imp λ_ h => .inl h)
  go_wp2_with fail
  refine⟨λ_=>CG,?_⟩
  refine eZ 12 [] rfl ?_
  go_wp2_with fail
  refine⟨λ_=>CG,?_⟩
  refine eZ 13 [] rfl ?_
  go_wp2_with fail
  refine⟨λ_=>CG,?_⟩
  refine eZ 14 [] rfl ?_
  refine fV rfl (Gj (x := .tmp 50) (y := .tmp 46) vu pG Qn hF4 rfl rfl rfl) ?_
  rintro v5 u5 ⟨rfl,ra,hI5⟩
  replace ra:=CG.trans (ra.imp λ_ h => .inr h)
  go_wp2_with fail
  refine⟨λ_=>ra,?_⟩
  refine eZ 15 [] rfl ?_
  go_wp2_with fail
  refine⟨λ_=>ra,?_⟩
  refine eZ 16 [] rfl ?_
  go_wp2_with fail
  refine⟨λ_=>ra,?_⟩
  refine eZ 17 [] rfl ?_
  refine fV rfl (Gk (x := .tmp 52) (y := .tmp 48) vu pG hI5 rfl rfl rfl) ?_
  rintro v6 w1 ⟨rfl,Uw,hE⟩
  have H:=ra.trans (Uw.imp λ_ h => .inr h)
  go_wp2_with fail
  refine⟨λ_=>H,?_⟩
  refine gj ?_
  clear jd CG ra Uw Qn hF4 hI5 Qx hBN
  obtain⟨u,hBu,b,R',D',e1,e2,wI,vn,hRx,hDx⟩:=hE
  go_wp2
  go_ret
  have hjw:dM (λb=>R b∨b=g) w w1:=(dM.dK a4d).trans H
  refine⟨rfl,⟨.inl I,u,q++[b],R',λx=>D x∨D' x,?_,?_,hBu,?_,λb' hb=>?_,λx Y=>?_,λx Y=>?_⟩,hjw.imp λx Y=>?_⟩
  ·rw[bI,ig,bQ,cQ];simp only[iE.abs,e1,e2]
  ·rw[bd,bv];omega
  ·rw[bd,bv];exact wI
  ·rcases List.mem_append.1 hb with h|h
   ·exact ((Y9 b' h).just H hDw).mono λ_ => .inl
   ·rw[List.mem_singleton.1 h];exact vn.mono λ_ => .inr
  ·have G:=hRx x Y
   refine⟨?_,?_,λh=>?_⟩
   ·rcases G.1 with h|h
    ·exact .inl (h7 x h).1
    ·exact .inr ⟨by have:=HBw;omega,G.2.1⟩
   ·rcases G.1 with h|h
    ·exact (h7 x h).2.1
    ·omega
   ·rcases h with h|h
    ·rcases G.1 with L|L
     ·exact (h7 x L).2.2 h
     ·have:=hV x (h8 x h).1;have:=HBw;omega
    ·exact G.2.2 h
  ·rcases Y with h|h
   ·exact⟨.inl (h8 x h).1,(h8 x h).2⟩
   ·have G:=hDx x h
    exact⟨.inr ⟨by have:=HBw;omega,G.2⟩,by have:=G.1;omega⟩
  ·rcases Y with h|h
   ·exact (h7 x h).1
   ·rw[h];exact I
def Al(w:X)(sq s:Int)(sl:K)(y:Nat)(QI:sl.oneCell'=true)(hy:eJ w y 2 #[J s]):dz W 365 #[aZ #[J sq,sl],y] w λe O=>e=b5 (aY (sq == s))∧Grow w O:=by have fu:Grow w (w.alloc (.cells #[J sq,sl] 196)):=(Below.refl (w:Nat) w).alloc (bh _) _;have c0:=(hy.grow fu).cell 0;go_in;go_wp2;go_ret;exact⟨rfl,fu⟩
def Idx(q:List iE)(s r:Int):Prop:=(r=-1∧∀b∈q,b.seq≠s)∨∃(i:Nat)(h:i<q.length),r=(i:Int)∧q[i].seq=s∧∀(j:Nat)(hj:j<q.length),j<i->q[j].seq≠s
def zi(w:X)(V D:aV)(A:aU)(n c:Nat)(q:List iE)(h:lW w V D A n q)(hn:n<=1024)(s:Int)(y:Nat)(hy:eJ w y 2 #[J s]):dz W 364 #[Z A n c,.func (.func 365) #[] #[y]] w λe O=>∃r,e=b5 (J r)∧Idx q s r∧Grow w O:=by
 have ig:=h.len;go_in;go_wp2_with fail;go_loopw [8] (λi wr=>∃k:Nat,k<=n∧i=J k∧(∀(j:Nat)(hj:j<q.length),j<k->q[j].seq≠s)∧Grow w wr) (λi _=>n-(intOf i).toNat);case atStart=>exact⟨0,by omega,rfl,λj hj h0=>absurd h0 ap,Grow.refl _⟩
 case round=>
  obtain⟨k,oL,rfl,jT,H⟩:=hrel;by_cases N:k<n
  ·obtain⟨ad,vo,rfl,hV,hB,e0,e1⟩:=(h.row.grow H).mr ap nz N
   have e0:=e0 _ rfl;have e1:=e1 0 _ rfl;have a1L:q[k].seq≠s->∀(j:Nat)(hj:j<q.length),j<k+1->q[j].seq≠s:=λh0 j hj Vb=>by
    rcases Nat.lt_or_ge j k with I|I
    ·exact jT j hj I
    ·have:j=k:=by omega
     subst this;exact h0
   have Vh:q[k].seq=s->Idx q s (k:Int):=λh0 => .inr ⟨k,vo,rfl,h0,jT⟩;have HE:=Q Vh;have HN:=Q a1L;clear Vh a1L jT;generalize q[k].seq=sq at e0 HE HN;generalize q[k].c=cc at e1;by_cases hs:sq=s
   ·have hb:(sq == s)=true:=by rw[hs];exact beq_self_eq_true s
    have HI:=HE.out hs;clear hs HE HN;go_wp2_with (go_at_call 365;refine (Al _ sq s _ y rfl (hy.grow H)).mono ?_;rintro e w2 ⟨rfl,fk⟩);go_ret;exact⟨_,rfl,HI,H.trans fk⟩
   ·have hb:(sq == s)=false:=beq_eq_false_iff_ne.2 hs
    have HI:=Q (HN.out hs);clear hs HE HN;go_wp2_with (go_at_call 365;refine (Al _ sq s _ y rfl (hy.grow H)).mono ?_;rintro e w2 ⟨rfl,fk⟩);go_roundw;case rel=>exact⟨k+1,by omega,by go_num,HI.out,H.trans fk⟩
    case measure=>simp[intOf];omega
  ·obtain rfl:k=n:=by omega
   go_wp2;go_ret;refine⟨_,rfl,.inl ⟨rfl,λb hb=>?_⟩,H⟩;obtain⟨i,hi,rfl⟩:=List.mem_iff_getElem.1 hb;exact jT i hi ap
theorem pd(w:X)(R:aV)(A:aU)(n c i:Nat)(xs:List K)(h:Row w R 196 2 (Z A n c) n xs)(hi:i<n)(hn:n<=1048576)(rI:∀u∈xs,u.oneCell'=true):dz W 366 #[Z A n c,J i,J ((i:Int)+1)] w λe O=>e=b5 (Z A (n-1) c)∧Row O R 196 2 (Z A (n-1) c) (n-1) (xs.take (i*2)++xs.drop ((i+1)*2))∧dM R w O:=by
 obtain⟨fj,h|⟨g,cap,cur,e1,hV,H,iS,hm,iZ,j9⟩⟩:=h;·omega
 injection e1 with e1 _ e3;subst e1 e3;obtain⟨A2,HA2⟩:=az (if c=i+1 then some (g,0) else some ⟨g,(i+1)*2,none⟩:Option dA);have pK:(xs.drop ((i+1)*2)).length=(n-(i+1))*2:=by rw[bO,fj];omega
 have ia:∀j,w.cell? ⟨g,j,none⟩=cur[j]?:=λj=>cell_of_row w g j cur 196 (0,0) H;have hcx:∀j u,xs[j]?=some u->cur[j]?=some u:=λj u hu=>by
  rw[<-j9,List.getElem?_take] at hu;split at hu;·simpa using hu
  ·cases hu
 have rx:∀w1,Grow w w1->Reads w1 (w1:Nat) 2 A2 (n-(i+1)) (xs.drop ((i+1)*2)):=λw1 gP=>by refine⟨pK,λzD=>⟨⟨g,(i+1)*2,none⟩,by rw[HA2.out,aB ap],bw (Array.getElem?_eq_some_iff.1 H).1 gP.size,λj u hu=>?_⟩⟩;rw[List.getElem?_drop] at hu;rw[Addr.add_lit,gP.cell (show g<(w:Nat) from (Array.getElem?_eq_some_iff.1 H).1),ia];exact hcx _ u hu
 have hci:i<=c:=by omega
 have hni:¬ (n:Int)<(i:Int)+1:=by omega
 have a41:¬ (i:Int)+1<0:=by omega
 have jU:=H;go_in;go_wp2_with fail;have c0:=HA2.out.symm;go_still_tail 6,(by kernel_rfl);change wpList _ _ _ _ _ w.drew;generalize wv:w.drew=w1;have H:Grow w w1:=wv▸(Grow.refl w).drew;clear c0 wv;have eD:w1.heap[g]?=some (.cells cur 196 (0,0)):=(H.block g (Array.getElem?_eq_some_iff.1 jU).1).trans jU;have Iw:i+(n-(i+1))=n-1:=by omega
 refine pS rfl (.tmp 22) (.tmp 25) rfl rfl rfl (pw xd w1 _ eD (rx w1 H) (λu hu=>rI u (cX hu)) ap (by rw[Iw,iZ];omega)) ?_;rw[Iw];obtain⟨BR,k1,k2,k3⟩:=iC g 196 (0,0) (xs.drop ((i+1)*2)) (i*2) w1 cur eD (by rw[pK,<-Nat.add_mul,Iw,iZ];omega);have kv:=gM g (xs.drop ((i+1)*2)) (i*2) w1;have Ql:=setCells_size g (xs.drop ((i+1)*2)) (i*2) w1;generalize w1.setCells g (i*2) (xs.drop ((i+1)*2))=w2 at k1 kv Ql ⊢;have HK:=Q (And.intro k2 k3);have HD:=Q pK;have HZ:=Q iZ;have HKM:=Q Iw;have HL:=Q fj;have HT:=Q j9;clear k2 k3 pK iZ Iw fj j9 Ql hcx ia rx;have hcn:¬ c=n-1:=by omega
 have a43:¬ n<n-1:=by omega
 have oK:n-(n-1)=1:=by omega
 have za:∀ty,(Builtin.clear_ #[193] ty #[Z (some ⟨g,(n-1)*2,none⟩) (n-(n-1)) (c-(n-1))]).run W w2=.ok (a_ #[]) (w2.setCells g ((n-1)*2) (bM (aZ #[(),ay]:K).cells 1).toList):=λty=>by rw[oK];refine j_ xd (sG xd) (by simp[Value.cells,Value.oneCell']) w2 ty g ((n-1)*2) 1 _ ap (λj hj=>?_) (λj hj=>eJ.frozen (show eJ w2 g 196 BR from k1) _);have:=HK.out.1;have:=HZ.out;rw[cell_of_row w2 g _ BR 196 (0,0) k1,Array.getElem?_eq_getElem ap];rfl
 have YS:(bM (aZ #[(),ay]:K).cells 1).toList.length=2:=by kernel_rfl
 obtain⟨W5,m1,m2,m3⟩:=iC g 196 (0,0) (bM (aZ #[(),ay]:K).cells 1).toList ((n-1)*2) w2 BR k1 (by rw[YS];have:=HK.out.1;have:=HZ.out;omega);have sw:=gM g (bM (aZ #[(),ay]:K).cells 1).toList ((n-1)*2) w2;generalize w2.setCells g ((n-1)*2) (bM (aZ #[(),ay]:K).cells 1).toList=w3 at za m1 sw;have HM:=Q (And.intro m2 m3);clear m2 m3 YS oK;go_wp2;go_ret;have hj:dM R w w3:=(dM.dK H).trans (dM.jA (kv.trans sw) hV);obtain⟨k2,k3⟩:=HK.out;obtain⟨m2,m3⟩:=HM.out;have fj:=HL.out;have pK:=HD.out;have iZ:=HZ.out;have Iw:=HKM.out;have j9:=HT.out;have hti:cur.toList.take (i*2)=xs.take (i*2):=by rw[<-j9,List.take_take,cz ap]
 have W6:(xs.take (i*2)).length=i*2:=by rw[bn];omega
 have Be:(xs.take (i*2)++xs.drop ((i+1)*2)).length=(n-1)*2:=by rw[bd,W6,pK];omega
 refine⟨rfl,⟨Be,.inr ⟨g,c,W5,rfl,hV,m1,by omega,hm,by rw[m2,k2,iZ],?_⟩⟩,hj⟩;have I:BR.toList.take ((n-1)*2)=xs.take (i*2)++xs.drop ((i+1)*2):=by rw[k3,hti,<-Be];exact List.take_left
 rw[m3,I,bp,<-Be];exact List.take_left
def t6(s:Int)(b:Ab):Bool:=b.1 == s
def DF(l:List Ab)(s:Int):Bool:=l.any (t6 s)
def p_(l:List Ab)(s:Int):List Ab:=l.eraseP (t6 s)
theorem An{α:Type}{p:α->Bool}:∀{l:List α}{i:Nat}(hi:i<l.length),p l[i]=true->(∀(j:Nat)(hj:j<l.length),j<i->p l[j]=false)->l.eraseP p=l.take i++l.drop (i+1)
 | [],i,hi,_,_=>absurd hi (by simp)
 | a::l,0,_,h,_=>by have h:p a=true:=h;simp[List.eraseP_cons,h]
 | a::l,i+1,hi,h,hn=>by
   have h0:=hn 0 (by simp) ap;have tR:i<l.length:=by simpa using hi
   have h0:p a=false:=h0;rw[List.eraseP_cons,h0,cond_false,An tR (by simpa using h) (λj hj F3=>by have:=hn (j+1) (by simp;omega) ap;simpa using this)];simp
def KJ{q:List iE}(h:∀b∈q,b.seq≠s):DF (q.map iE.abs) s=false∧p_ (q.map iE.abs) s=q.map iE.abs:=by
 have I:∀a∈q.map iE.abs,¬ t6 s a=true:=λa ha=>by obtain⟨b,hb,rfl⟩:=List.mem_map.1 ha;simp[t6,iE.abs,h b hb]
 exact⟨by unfold DF;rw[List.any_eq_false];exact I,List.eraseP_of_forall_not I⟩
def KL{q:List iE}{i:Nat}(hi:i<q.length)(h:q[i].seq=s)(hn:∀(j:Nat)(hj:j<q.length),j<i->q[j].seq≠s):DF (q.map iE.abs) s=true∧p_ (q.map iE.abs) s=(q.take i++q.drop (i+1)).map iE.abs:=by
 have tR:i<(q.map iE.abs).length:=by simpa using hi
 refine⟨?_,?_⟩
 ·unfold DF
  rw[List.any_eq_true];exact⟨q[i].abs,cT (bF hi),by simp[t6,iE.abs,h]⟩
 ·unfold p_
  rw[An tR (by simp[t6,iE.abs,h]) (λj hj F3=>by have:=hn j (by simpa using hj) F3;simp[t6,iE.abs,this]),bI,List.map_take,List.map_drop]
def DG(w:X)(g:Nat)(l:List Ab)(last s:Int):ii W 330 #[g,J s] (λe=>e=b5 (aY (DF l s))) (eh g l last) (eh g (p_ l s) last) w:=by
 intro V hQ hV;have Mz:=hQ;obtain⟨I,v,q,R,D,ig,L,hB,kN,h6,h7,h8⟩:=hQ;obtain⟨A0,c0,rfl,hI,iS,su⟩:=kN.jL;have fu:Grow w (w.alloc (.cells #[J s] 2)):=(Below.refl (w:Nat) w).alloc (bh _) _;have mw:=eJ.made w 2 #[J s];have cc0:=(hB.grow fu).cell 0;have hIx:=zi _ R D A0 _ c0 q ⟨hI.grow fu,λb hb=>(h6 b hb).grow fu⟩ ap s (w:Nat) mw;have vu:¬ R g:=λh=>(h7 g h).2.1 rfl;go_in;go_wp2_with fail;refine hIx.mono ?_;clear hIx;rintro e w1 ⟨r,rfl,a6c,eD⟩;have jU:=fu.trans eD;rcases a6c with ⟨rfl,jT⟩|⟨i,hi,rfl,hs,hn⟩
 ·obtain⟨d1,d2⟩:=KJ jT
  rw[ig] at d1 d2;have HD:=Q (And.intro d1 d2);clear jT d1 d2 ig;go_wp2;go_ret;rw[HD.out.1,HD.out.2];exact⟨rfl,eh.wide (eh.framed _ _ _ w w1 V Mz λb hb=>jU.block b (hV b hb)) (λ_ => .inl),dM.dK jU⟩
 ·obtain⟨d1,d2⟩:=KL hi hs hn
  rw[ig] at d1 d2;have HD:=Q (And.intro d1 d2);clear d1 d2 ig hs hn;have ky:=hB.grow jU;have c1:=ky.cell 0;go_wp2_with fail;refine (pd w1 R A0 q.length c0 i _ (kN.grow jU) hi ap (MX q)).mono ?_;rintro e w2 ⟨rfl,gS,k7⟩;have lS:=k7.blk ky vu;have f0:=lS.frozen 0;have c2:=lS.cell 0;go_wp2;go_ret;rw[HD.out.1,HD.out.2];have W7:(q.take i++q.drop (i+1)).length=q.length-1:=by rw[bd,bn,bO];omega
  have jQ:(q.take i++q.drop (i+1)).flatMap iE.cells=(q.flatMap iE.cells).take (i*2)++(q.flatMap iE.cells).drop ((i+1)*2):=by rw[bL,ki iE.cells 2 nz,ob iE.cells 2 nz]
  have m9:∀b∈q.take i++q.drop (i+1),b∈q:=λb hb=>by
   rcases List.mem_append.1 hb with h|h
   ·exact bW h
   ·exact cX h
  have K3:=kD w2 g 0 (Z A0 (q.length-1) c0);refine⟨rfl,⟨.inl I,_,q.take i++q.drop (i+1),R,D,rfl,by omega,lS.put 0 _,?_,λb hb=>?_,λb hb=>⟨.inl (h7 b hb).1,(h7 b hb).2⟩,λb hb=>⟨.inl (h8 b hb).1,(h8 b hb).2⟩⟩,?_⟩
  ·rw[W7,jQ]
   exact gS.just K3 λb hb e=>vu (by rw[<-show b=g from e];exact hb)
  ·exact (((h6 b (m9 b hb)).grow jU).just k7 λx Y hr=>(h7 x hr).2.2 Y).just K3 λx Y e=>(h8 x Y).2 e
  ·exact ((dM.dK jU).trans (k7.imp λx Y=>(h7 x Y).1)).trans (K3.imp λx Y=>by rw[show x=g from Y];exact I)
def uB(l:List Ab)(last seq:Int)(m:Nat):Int:=if seq<1 then 1 else if seq<=last then 1 else if m=0 then 1 else if 8<m then 1 else if 16<=l.length then 24 else 0
def Gl(l:List Ab)(last seq:Int)(m:Nat)(ds:List Dl):List Ab:=if uB l last seq m=0 then l++[(seq,ds)] else l
def Gm(l:List Ab)(last seq:Int)(m:Nat):Int:=if uB l last seq m=0 then seq else last
def eh.le{l:List Ab}{V:aV}(h:eh g l last w V):l.length<=16:=by obtain⟨_,_,q,_,_,rfl,L,_⟩:=h;rw[bj];exact L
def sX(w:X)(abe:aV)(g:Nat)(l:List Ab)(last seq:Int)(A:aU)(m c:Nat)(ds:List Dl)(Vf:jM w abe A m ds)(vt:m<=c)(iO:c<=dG):ii W 368 #[g,aZ #[J seq,Z A m c]] (λe=>e=b5 (J (uB l last seq m))) (eh g l last) (eh g (Gl l last seq m ds) (Gm l last seq m)) w:=by
 intro V hQ hV;have mn:=hQ.le;have hE:(seq<1∨seq<=last∨m=0∨8<m)∧uB l last seq m=1∨1<=seq∧last<seq∧0<m∧m<=8∧(l.length=16∧uB l last seq m=24∨l.length<16∧uB l last seq m=0):=by
  unfold uB;repeat' split
  all_goals omega
 unfold Gl Gm;rcases hE with ⟨h,e⟩|⟨I,G,L,h4,⟨h5,e⟩|⟨h5,e⟩⟩<;>rw[e]
 ·exact Nq w g l last seq A m c _ (.inl ⟨h,rfl⟩) V hQ hV
 ·exact Nq w g l last seq A m c _ (.inr ⟨I,G,L,h4,h5,rfl⟩) V hQ hV
 ·exact Wb w abe g l last seq A m c ds Vf vt iO ap ap L h4 h5 V hQ hV
section
variable{P:aV}{S S':dW}
end
def KM(w:X)(g:Nat)(l:List Ab)(last:Int)(V:aV)(hQ:eh g l last w V)(k:Nat)(N:min l.length 4=k):dz W 271 #[g] w λe O=>∃A' q',e=b5 (Z A' k k)∧lW O (New w O) (New w O) A' k q'∧q'.map iE.abs=l.take 4∧Grow w O:=N▸G8 w g l last V hQ
end Go.Proofs.YtpeepcmdehhbgaaGreatDoor.abo
end
namespace Go.Proofs.YtpeepcmdehhbgaaGreatDoor
open RowKit Hop
def Gn(w:X)(g b n c:Nat)(l:List K)(hl:∀u∈l,u.oneCell'=true)(rx:Reads w (w:Nat) 1 (some ⟨g,b,none⟩) n l)(hn:n<=1048576):dz W 189 #[Z (some ⟨g,b,none⟩) n c] w λe O=>∃v,e=b5 v∧Own O (New w O) 3 1 v n l∧Grow w O:=by have kS:=λ(O:X)=>Lib.run_eql_slice_nil (P:=W) O 22 3 (some ⟨g,b,none⟩) n c 0 0 Tryz.underlying22;go_in;go_wp2_with (at_builtin;refine stay ?_);refine dI ?_;refine fO (V:=λb=>b=(w:Nat)) Zt _ rfl (.tmp 5) (.tmp 6) rfl (Z (some ⟨(w:Nat),0,none⟩) 0 0) 0 [] rfl (lC w _ _) (w:Nat) (some ⟨g,b,none⟩) n c l rfl (Reads.alloc rx (bh _) _) hl ap ?_;intro v1 w1 kv wo;simp only[cJ,ch] at kv;obtain⟨kv,eD⟩:=ny kv wo;go_wp2;go_ret;exact⟨_,rfl,kv,eD⟩
section
variable {t nodes:Nat} {pr:List Bool} {ac:aN} {had:Nat} {best:K} {n:Nat} {w:X} {g:Nat}
def most(nodes:Nat)(ac:aN):Int:=(pB (ac.take nodes)).getD ((nodes-1) / 2) 0
theorem DI(V:aV)(hV:V g)(h:vb w g t nodes pr ac had best n)(i:Nat)(hi:i<nodes)(h8:nodes<=8)(m:Nat):dz W 128 #[g,J i,J m] w λe O=>e=b5 (J (most nodes (ac.set i (max (ac.getD i 0) (m:Int)))))∧vb O g t nodes pr (ac.set i (max (ac.getD i 0) (m:Int))) had best n∧dM V w O:=by
 have hN:=Af h i hi;have Yw:i<8:=by omega
 have a4g:(i:Int)<8:=by omega
 obtain⟨abh,HX⟩:=az (max (ac.getD i 0) (m:Int):Int);have Bb:∀ts t w,(Builtin.max_ ts t #[J (ac.getD i 0),J m]).run W w=.ok (J abh) w:=λts t w=>by rw[run_max_int2,HX.out];congr 2;split<;>omega
 rw[<-HX.out];obtain⟨y,HY⟩:=az (ac.getD i 0:Int);have ci:=h.ca Yw;have c1:=h.c1;rw[<-HY.out] at Bb ci;have fi:=h.b.frozen (10+i);go_in;go_wp2_with fail;refine hN.mono ?_;rintro e w1 ⟨rfl,rfl⟩;go_wp2_with fail;go_still_tail 13,(by kernel_rfl);change wpList _ _ _ _ _ w.drew;go_wp2_with fail;have lS:vb (w.setCell ⟨g,10+i,none⟩ (J abh)).drew g t nodes pr (ac.set i abh) had best n:=⟨by have:=h.b.put (10+i) (J abh);rw[W3 h.p h.a Yw] at this;exact this.grow (Grow.refl _).drew,h.p,by rw[dh];exact h.a⟩;have J1:dM V w (w.setCell ⟨g,10+i,none⟩ (J abh)).drew:=((dM.dK (V:=V) (Grow.refl w)).put hV (10+i) (J abh)).trans (dM.dK (Grow.refl _).drew);obtain⟨wa,HA⟩:=az ((w.setCell ⟨g,10+i,none⟩ (J abh)).drew);rw[<-HA.out] at lS J1;clear ci c1 fi Bb h hN;go_wp2_with fail;rw[<-HA.out];have fu:Grow wa wa.drew:=(Grow.refl _).drew;have F9:vb wa.drew g t nodes pr (ac.set i abh) had best n:=⟨lS.b.grow fu,lS.p,lS.a⟩;have c1:=F9.c1;have Ux:(nodes:Int)<=8:=by omega
 obtain⟨l,HL⟩:=az (ac.set i abh);rw[<-HL.out] at lS F9;have wu:l.length=8:=F9.a;have rx:Reads wa.drew wa.drew.heap.size 1 (some (g,10)) nodes (lI (l.take nodes)):=⟨by rw[oZ,bn];omega,λ_=>⟨_,rfl,F9.b.lt,λj u hu=>by
  have hj:j<nodes:=by have:=(List.getElem?_eq_some_iff.1 hu).1;rw[oZ,bn] at this;omega
  have G:=F9.ca (i:=j) ap;rw[zT _ (by rw[bn];omega),List.getElem_take] at hu;cases hu;rw[show ((g,10):dA).add j=⟨g,10+j,none⟩ by unfold Addr.add;split<;>simp_all,G];congr 2;simp[List.getD_eq_getElem?_getD,show j<l.length by omega]⟩⟩
 have hC:=Gn wa.drew g 10 nodes 8 _ (Nr _) rx ap;go_still_tail 8,(by kernel_rfl);change wpList _ _ _ _ _ wa.drew;go_wp2_with fail;refine hC.mono ?_;rintro e w2 ⟨v,rfl,hO,fk⟩;go_wp2_with fail;have fS:(l.take nodes).length=nodes:=by rw[bn];omega
 refine (Kw w2 _ v (l.take nodes) (by rw[fS];exact hO) ap).mono ?_;rintro e w3 ⟨rfl,nt,mz⟩;have ib:Grow wa w3:=Below.trans (fu.trans fk) (mz.below (B:=(wa:Nat)) (λb hb=>hb.1) (fu.trans fk).size);have Qn:vb w3 g t nodes pr l had best n:=⟨lS.b.grow ib,lS.p,lS.a⟩;have c1:=Qn.c1;obtain⟨_,⟨_,h0⟩|⟨g',cap,cur,rfl,_,yO,YU,_,_,j9⟩⟩:=nt;·rw[o_] at h0;omega
 have N:(nodes-1) / 2<nodes:=by omega
 have ck:w3.cell? ⟨g',(nodes-1) / 2,none⟩=some (J (most nodes l)):=by rw[cell_of_row _ _ _ _ _ _ yO,<-Array.getElem?_toList];have:=congrArg (λx=>x[(nodes-1) / 2]?) j9;simp only[List.getElem?_take,lI] at this;rw[aA (by rw[o_,fS];omega)] at this;rw[this,List.getElem?_map];unfold most;simp[List.getD_eq_getElem?_getD,o_,fS,N]
 have wv:IntKind.i64.wrap ((nodes:Int)-1)=((nodes-1:Nat):Int):=by rw[IntKind.wrap_i64];omega
 rw[o_,fS];go_wp2;go_ret;rw[<-HL.out];exact⟨rfl,Qn,J1.trans (dM.dK ib)⟩
end
end Go.Proofs.YtpeepcmdehhbgaaGreatDoor
section
variable{s:aR}
section
namespace Go.Proofs.YtpeepcmdehhbgaaGreatDoor.abn
open Go.Shelf
def Av:Go.Shelf.Ren:=⟨λ|156=>205|165=>268|166=>269|169=>270|240=>326|241=>327|276=>360|277=>361|n=>n,λ|31=>59|9=>9|3=>3|4=>4|0=>0|20=>20|72=>357|76=>361|70=>355|37=>23|75=>360|127=>401|164=>424|5=>5|80=>132|n=>n,λ|n=>n⟩
def joinL:Go.Proofs.Lays.n156 W Av:={
 mixed:=by kernel_rfl
 f156:=Tryz.func205.trans (congrArg some aw)
 f165:=Tryz.func268.trans (congrArg some aw)
 f166:=Tryz.func269.trans (congrArg some aw)
 f169:=Tryz.func270.trans (congrArg some aw)
 f240:=Tryz.func326.trans (congrArg some aw)
 f241:=Tryz.func327.trans (congrArg some aw)
 f276:=Tryz.func360.trans (congrArg some aw)
 f277:=Tryz.func361.trans (congrArg some aw)
 t0:=Tryz.underlying0
 a0:=Tryz.isAgg0
 z0:=Tryz.sizeOf0
 v0:=Tryz.zeroValue0
 t3:=dp
 a3:=Tryz.isAgg3
 z3:=Tryz.sizeOf3
 v3:=Tryz.zeroValue3
 t4:=Tryz.underlying4
 a4:=Tryz.isAgg4
 z4:=Tryz.sizeOf4
 v4:=Tryz.zeroValue4
 t9:=cW
 a9:=Tryz.isAgg9
 z9:=Tryz.sizeOf9
 v9:=Tryz.zeroValue9
 t20:=Tryz.underlying20
 a20:=Tryz.isAgg20
 z20:=Tryz.sizeOf20
 v20:=Tryz.zeroValue20
 t31:=Tryz.underlying59
 a31:=Tryz.isAgg59
 z31:=Tryz.sizeOf59
 v31:=Tryz.zeroValue59
 t37:=d9
 a37:=Tryz.isAgg23
 z37:=Tryz.sizeOf23
 v37:=Tryz.zeroValue23
 t70:=Tryz.underlying355
 a70:=Tryz.isAgg355
 z70:=Tryz.sizeOf355
 v70:=Tryz.zeroValue355
 t72:=Tryz.underlying357
 a72:=Tryz.isAgg357
 z72:=Tryz.sizeOf357
 v72:=Tryz.zeroValue357
 t75:=Tryz.underlying360
 a75:=Tryz.isAgg360
 z75:=Tryz.sizeOf360
 v75:=Tryz.zeroValue360
 t76:=Tryz.underlying361
 a76:=Tryz.isAgg361
 z76:=Tryz.sizeOf361
 v76:=Tryz.zeroValue361
 t127:=Tryz.underlying401
 a127:=Tryz.isAgg401
 z127:=Tryz.sizeOf401
 v127:=Tryz.zeroValue401
 t164:=Tryz.underlying424
 a164:=Tryz.isAgg424
 z164:=Tryz.sizeOf424
 v164:=Tryz.zeroValue424 }
def nZ:Go.Shelf.Ren:=⟨λ|221=>201|268=>260|138=>261|143=>262|195=>318|197=>319|218=>320|219=>263|260=>355|217=>321|225=>322|224=>323|267=>324|266=>356|314=>357|n=>n,λ|9=>9|3=>3|31=>59|4=>4|0=>0|105=>397|21=>21|5=>5|46=>62|119=>438|139=>441|138=>440|146=>420|51=>61|n=>n,λ|1=>0|3=>1|4=>2|n=>n⟩
def uC:Go.Proofs.Lays.n221 W nZ:={
 mixed:=by kernel_rfl
 f138:=Tryz.func261.trans (congrArg some aw)
 f143:=Tryz.func262.trans (congrArg some aw)
 f195:=Tryz.func318.trans (congrArg some aw)
 f197:=Tryz.func319.trans (congrArg some aw)
 f217:=Tryz.func321.trans (congrArg some aw)
 f218:=Tryz.func320.trans (congrArg some aw)
 f219:=Tryz.func263.trans (congrArg some aw)
 f221:=Tryz.func201.trans (congrArg some aw)
 f224:=Tryz.func323.trans (congrArg some aw)
 f225:=Tryz.func322.trans (congrArg some aw)
 f260:=Tryz.func355.trans (congrArg some aw)
 f266:=Tryz.func356.trans (congrArg some aw)
 f267:=Tryz.func324.trans (congrArg some aw)
 f268:=Tryz.func260.trans (congrArg some aw)
 f314:=Tryz.func357.trans (congrArg some aw)
 t0:=Tryz.underlying0
 a0:=Tryz.isAgg0
 z0:=Tryz.sizeOf0
 v0:=Tryz.zeroValue0
 t3:=dp
 a3:=Tryz.isAgg3
 z3:=Tryz.sizeOf3
 v3:=Tryz.zeroValue3
 t4:=Tryz.underlying4
 a4:=Tryz.isAgg4
 z4:=Tryz.sizeOf4
 v4:=Tryz.zeroValue4
 t5:=dm
 a5:=Tryz.isAgg5
 z5:=Tryz.sizeOf5
 v5:=Tryz.zeroValue5
 t9:=cW
 a9:=Tryz.isAgg9
 z9:=Tryz.sizeOf9
 v9:=Tryz.zeroValue9
 t21:=Tryz.underlying21
 a21:=Tryz.isAgg21
 z21:=Tryz.sizeOf21
 v21:=Tryz.zeroValue21
 t31:=Tryz.underlying59
 a31:=Tryz.isAgg59
 z31:=Tryz.sizeOf59
 v31:=Tryz.zeroValue59
 t46:=Tryz.underlying62
 a46:=Tryz.isAgg62
 z46:=Tryz.sizeOf62
 v46:=Tryz.zeroValue62
 t51:=Tryz.underlying61
 a51:=Tryz.isAgg61
 z51:=Tryz.sizeOf61
 v51:=Tryz.zeroValue61
 t105:=Tryz.underlying397
 a105:=Tryz.isAgg397
 z105:=Tryz.sizeOf397
 v105:=Tryz.zeroValue397
 t119:=Tryz.underlying438
 a119:=Tryz.isAgg438
 z119:=Tryz.sizeOf438
 t138:=Tryz.underlying440
 a138:=Tryz.isAgg440
 z138:=Tryz.sizeOf440
 v138:=Tryz.zeroValue440
 t139:=Tryz.underlying441
 a139:=Tryz.isAgg441
 z139:=Tryz.sizeOf441
 v139:=Tryz.zeroValue441
 t146:=Tryz.underlying420
 a146:=Tryz.isAgg420
 z146:=Tryz.sizeOf420
 v146:=Tryz.zeroValue420
 g1:=by kernel_rfl
 g3:=by kernel_rfl
 g4:=by kernel_rfl }
def DJ:Go.Shelf.Ren:=⟨λ|145=>146|220=>202|219=>263|217=>321|225=>322|224=>323|267=>324|266=>356|314=>357|n=>n,λ|9=>9|4=>4|59=>245|3=>3|5=>5|46=>62|146=>420|51=>61|n=>n,λ|1=>0|n=>n⟩
def R8:Go.Proofs.Lays.n145 W DJ:={
 mixed:=by kernel_rfl
 f145:=Tryz.func146.trans (congrArg some aw)
 f217:=Tryz.func321.trans (congrArg some aw)
 f219:=Tryz.func263.trans (congrArg some aw)
 f220:=Tryz.func202.trans (congrArg some aw)
 f224:=Tryz.func323.trans (congrArg some aw)
 f225:=Tryz.func322.trans (congrArg some aw)
 f266:=Tryz.func356.trans (congrArg some aw)
 f267:=Tryz.func324.trans (congrArg some aw)
 f314:=Tryz.func357.trans (congrArg some aw)
 t3:=dp
 a3:=Tryz.isAgg3
 z3:=Tryz.sizeOf3
 v3:=Tryz.zeroValue3
 t4:=Tryz.underlying4
 a4:=Tryz.isAgg4
 z4:=Tryz.sizeOf4
 v4:=Tryz.zeroValue4
 t5:=dm
 a5:=Tryz.isAgg5
 z5:=Tryz.sizeOf5
 v5:=Tryz.zeroValue5
 t9:=cW
 a9:=Tryz.isAgg9
 z9:=Tryz.sizeOf9
 v9:=Tryz.zeroValue9
 t46:=Tryz.underlying62
 a46:=Tryz.isAgg62
 z46:=Tryz.sizeOf62
 v46:=Tryz.zeroValue62
 t51:=Tryz.underlying61
 a51:=Tryz.isAgg61
 z51:=Tryz.sizeOf61
 v51:=Tryz.zeroValue61
 t59:=Tryz.underlying245
 a59:=Tryz.isAgg245
 z59:=Tryz.sizeOf245
 v59:=Tryz.zeroValue245
 t146:=Tryz.underlying420
 a146:=Tryz.isAgg420
 z146:=Tryz.sizeOf420
 v146:=Tryz.zeroValue420
 g1:=by kernel_rfl }
def Uy:Go.Proofs.Builder.Extra W Av:={
 sizeBuilder:=by kernel_rfl
 liesBuilder:=by kernel_rfl
 t5:=dm
 a5:=Tryz.isAgg5
 z5:=Tryz.sizeOf5
 v5:=Tryz.zeroValue5
 infoByte:=by kernel_rfl
 cellsByte:=by kernel_rfl
 sizeByte:=by kernel_rfl
 neB5:=by decide }
end Go.Proofs.YtpeepcmdehhbgaaGreatDoor.abn
namespace Go.Proofs.YtpeepcmdehhbgaaGreatDoor.abn
open Go.RowKit Go.Hop Go.Shelf
def NR(w:X)(V:aV)(A:aU)(n c:Nat)(xs:List ByteArray)(sep:aR)(h:In w V 1 A n (xs.map Value.string))(hn:n<=c)(Ya:n<=140737488355328)(fj:(Lib.join (xs.map (·.data.toList)) sep.data.toList).length<=140737488355328):dz W 205 #[Z A n c,aX sep] w λe O=>e=b5 (aX (mk (Lib.join (xs.map (·.data.toList)) sep.data.toList)))∧Grow w O:=by
 have hl:xs.length=n:=by have:=h.1;simpa using this
 rcases b_ n with h0|h0
 ·subst h0
  obtain rfl:xs=[]:=bu hl;refine (Go.Proofs.Any.strings_Join_none joinL Uy A c sep w).mono ?_;rintro e O ⟨he,rfl⟩;exact⟨he,Grow.refl _⟩
 ·obtain⟨ad,rfl,_,hb,E⟩:=h.2 h0
  obtain⟨bk,o,m⟩:=ad;have hm:m=none:=by
   have I:=E 0 (aX xs[0]) (by rw[List.getElem?_map,List.getElem?_eq_getElem ap];rfl);cases m with
   | none=>rfl
   | some m=>
     simp only[World.cell?,Addr.add] at I;split at I<;>simp at I
  subst hm;subst hl;exact Go.Proofs.Any.strings_Join joinL Uy bk o c xs sep w (λj x Y=>by have:=E j (aX x) (by rw[List.getElem?_map,Y];rfl);rwa [Addr.add_lit] at this) hb Ya hn fj
def Aw(c:UInt8)(s:aR):(Lib.splitB ⟨#[c]⟩ 0 (Lib.countB s ⟨#[c]⟩) s)=(ey c s.data.toList).map mk:=by
 have h:=Lib.splitB_data ⟨#[c]⟩ 0 (Lib.countB s ⟨#[c]⟩) s;have G:Lib.splitK [c] 0 (Lib.countB s ⟨#[c]⟩) s.data.toList=ey c s.data.toList:=DC c _ _ (bh _);have L:(Lib.splitB ⟨#[c]⟩ 0 (Lib.countB s ⟨#[c]⟩) s).map (·.data.toList)=ey c s.data.toList:=h.trans G;rw[<-L,List.map_map];conv=>lhs;rw[<-List.map_id (Lib.splitB ⟨#[c]⟩ 0 (Lib.countB s ⟨#[c]⟩) s)]
 exact cO λx _=>rfl
theorem xJ(c:UInt8):∀s:aT,(ey c s).length<=s.length+1
 | []=>by simp[ey]
 | b::r=>by
   have ih:=xJ c r;unfold ey;split;·simp only[bD];omega
   ·split
    ·simp
    ·rename_i p ps e
     rw[e] at ih;simp only[bD] at ih ⊢;omega
def KN(w:X)(s:aR)(c:UInt8)(hs:s.size<4294967281):dz W 145 #[aX s,aX ⟨#[c]⟩] w λe O=>∃A,e=b5 (Z A (ey c s.data.toList).length (ey c s.data.toList).length)∧In O (New w O) 1 A (ey c s.data.toList).length (((ey c s.data.toList).map mk).map Value.string)∧Grow w O:=by
 have I:1<=(⟨#[c]⟩:ByteArray).size:=by show 1<=1;omega
 have mn:=Lib.countB_le ⟨#[c]⟩ I s.size s (bh _);have fj:=Lib.splitB_all ⟨#[c]⟩ I 0 _ s rfl;have Qo:∀w,dz W 261 #[aX s,aX ⟨#[c]⟩] w λe O=>e=b5 (J (Lib.countB s ⟨#[c]⟩))∧O=w:=λw=>by refine (Go.Proofs.Any.strings_Count_one (P:=W) (ρ:=nZ) { uC with } s c w).mono λe O ⟨he,hw⟩=>⟨?_,hw⟩;rw[he];show _=Ending.returned (Value.int .i64 ((Lib.count s.data.toList [c]:Nat):Int));rw[Lib.count_one];rfl
 have hcon:=Go.Proofs.Any.strings_genSplit_core uC aw s ⟨#[c]⟩ 0 (-1) (Lib.countB s ⟨#[c]⟩+1) w hs I (bo _)
  (λx cs Y=>by refine (Go.Proofs.Any.strings_Index_one (P:=W) (ρ:=nZ) { uC with } x c _).mono λe O ⟨he,hw⟩=>⟨?_,hw⟩;rw[he];show _=Ending.returned (Value.int .i64 (Lib.index x.data.toList [c]));rw[Lib.index_one]) (Qo w) am am (by rw[aA am];omega)
 rw[Nat.add_sub_cancel,fj] at hcon;have e2:Lib.cellsOf (Lib.splitB ⟨#[c]⟩ 0 (Lib.countB s ⟨#[c]⟩) s) (Lib.countB s ⟨#[c]⟩+1)=((Lib.splitB ⟨#[c]⟩ 0 (Lib.countB s ⟨#[c]⟩) s).map Value.string).toArray:=by rw[<-fj];exact Lib.cellsOf_full _
 rw[e2,Aw] at hcon;have Be:Lib.countB s ⟨#[c]⟩+1=(ey c s.data.toList).length:=by rw[<-fj,Aw,bj]
 rw[Be] at hcon;change dz W 201 #[aX s,aX ⟨#[c]⟩,(),J (-1)] w _ at hcon;have hI:∀w1,w1=w.alloc (.cells (((ey c s.data.toList).map mk).map Value.string).toArray 9)->In w1 (New w w1) 1 (some ⟨(w:Nat),0,none⟩) (ey c s.data.toList).length (((ey c s.data.toList).map mk).map Value.string)∧Grow w w1:=λw1 hw=>by
  have H:Grow w w1:=by rw[hw];exact (Below.refl _ _).alloc (bh _) _
  refine⟨⟨by simp,λhn=>⟨_,rfl,⟨bh _,by rw[hw];simp⟩,by rw[hw];simp,λj u hu=>?_⟩⟩,H⟩;rw[Addr.add_lit,cJ,hw];exact ((eJ.made w 9 _).cell j).trans (by simpa using hu)
 generalize (ey c s.data.toList).length=k at hcon hI ⊢;generalize ((ey c s.data.toList).map mk).map Value.string=xs at hcon hI ⊢;clear fj mn Qo e2 Be I;go_in;go_wp2_with fail;refine hcon.mono ?_;rintro e w1 ⟨rfl,hw⟩;have G:=Q (hI w1 hw);clear hcon hI hw;go_wp2;go_ret;exact⟨_,rfl,G.out.1,G.out.2⟩
def DK(w:X)(s:aR)(c:UInt8)(hs:s.size<4294967281):dz W 202 #[aX s,aX ⟨#[c]⟩] w λe O=>e=b5 (a_ #[aX (mk (Lib.cut s.data.toList [c]).1),aX (mk (Lib.cut s.data.toList [c]).2.1),aY (Lib.cut s.data.toList [c]).2.2])∧∃n,O=w.drewN n:=by
 have NS:∀w,dz W 263 #[aX s,aX ⟨#[c]⟩] w λe O=>e=b5 (J (Lib.indexB s ⟨#[c]⟩))∧O=w:=λw=>by refine (Go.Proofs.Any.stringslite_Index_one (P:=W) (ρ:=DJ) { R8 with } s c w).mono λe O ⟨he,hw⟩=>⟨?_,hw⟩;rw[he];show _=Ending.returned (Value.int .i64 (Lib.index s.data.toList [c]));rw[Lib.index_one]
 rcases Lib.indexB_cases s ⟨#[c]⟩ with Qp|⟨i,Qp,rH⟩
 ·obtain⟨e1,e2,e3⟩:=Lib.cutB_miss s ⟨#[c]⟩ Qp
  change mk (Lib.cut s.data.toList [c]).1=_ at e1;change mk (Lib.cut s.data.toList [c]).2.1=_ at e2;change (Lib.cut s.data.toList [c]).2.2=_ at e3;rw[e1,e2,e3];rw[Qp] at NS;clear e1 e2 e3;go_in;go_wp2_with fail;refine (NS _).mono ?_;rintro e O ⟨rfl,rfl⟩;go_wp2_with fail;go_ret3;exact⟨rfl,0,rfl⟩
 ·obtain⟨e1,e2,e3⟩:=Lib.cutB_hit s ⟨#[c]⟩ i Qp
  change mk (Lib.cut s.data.toList [c]).1=_ at e1;change mk (Lib.cut s.data.toList [c]).2.1=_ at e2;change (Lib.cut s.data.toList [c]).2.2=_ at e3;rw[e1,e2,e3];rw[Qp] at NS;have iZ:(⟨#[c]⟩:ByteArray).size=1:=rfl;rw[iZ] at rH ⊢;have c1:(0:Int)<=↑i:=by omega
  have c2:(↑i:Int)<=↑s.size:=by omega
  have c3:(0:Int)<=↑i+1:=by omega
  have c4:(↑i+1:Int)<=↑s.size:=by omega
  clear e1 e2 e3;go_in;go_wp2_with fail;refine (NS _).mono ?_;rintro e O ⟨rfl,rfl⟩;clear NS;go_wp2_with fail;go_region;all_goals go_wp2
  all_goals go_ret3
  all_goals exact⟨rfl,1,rfl⟩
def sJ(w:X)(s:aR)(c:UInt8)(hs:s.size<4294967281):dz W 146 #[aX s,aX ⟨#[c]⟩] w λe O=>e=b5 (a_ #[aX (mk (Lib.cut s.data.toList [c]).1),aX (mk (Lib.cut s.data.toList [c]).2.1),aY (Lib.cut s.data.toList [c]).2.2])∧Grow w O:=by
 have hcon:=DK w s c hs;generalize mk (Lib.cut s.data.toList [c]).1=x at hcon ⊢;generalize mk (Lib.cut s.data.toList [c]).2.1=y at hcon ⊢;generalize (Lib.cut s.data.toList [c]).2.2=z at hcon ⊢;go_in;go_wp2_with fail;refine hcon.mono ?_;rintro e O ⟨rfl,n,rfl⟩;clear hcon;have H:Grow w (w.drewN n):=by
  have:∀n,Grow w (w.drewN n):=λn=>by
   induction n with
   | zero=>exact Grow.refl _
   | succ n ih=>exact ih.drew
  exact this n
 generalize w.drewN n=w1 at H ⊢;go_wp2_with fail;go_ret3;exact⟨rfl,H⟩
end Go.Proofs.YtpeepcmdehhbgaaGreatDoor.abn
end
namespace Go.Proofs.YtpeepcmdehhbgaaGreatDoor.abn
open RowKit Hop
def eqB:ByteArray:={ data:=#[61] }
def NT:ByteArray:={ data:=#[44] }
def q7(d:Lb):ByteArray:=d.1++eqB++d.2
def DL(a b:aR):(a++b).data.toList=a.data.toList++b.data.toList:=by rw[ByteArray.data_append,Array.toList_append]
def Gp(d:Lb):(q7 d).data.toList=ox d:=by unfold q7 ox;rw[DL,DL,bp];rfl
def NU{d:Lb}(h:CH d=true):d.1.size<=32∧d.2.size<=32:=by unfold CH at h;simp only[bU] at h;exact⟨(lg h.1).2,(lg h.2).2⟩
def uD{l:List Lb}(h:gK l=0):textOf l=txt (can l):=by unfold textOf;rw[aA h]
def NV{l:List Lb}(h:gK l≠0):textOf l={ data:=#[] }:=by unfold textOf;rw[aB h];rfl
def xj(w:X)(V:aV)(A:aU)(n c:Nat)(l:List Lb)(h:In w V 2 A n (gF l))(hl:∀d∈l,d.1.size<=dG∧d.2.size<=dG)(hn:n<=9223372036854775807):dz W 147 #[Z A n c] w λe O=>e=b5 (a_ #[aX (textOf l),J (gK l)])∧Grow w O:=by
 have Yx:=oy w V A n c l h hl hn;have wu:=LIn.len h;by_cases T:gK l=0
 ·obtain⟨h8,hf⟩:=xH T
  obtain⟨gC,pJ,_⟩:=(mP l).1 hf;rw[T] at Yx ⊢;rw[uD T];have Ux:n<=8:=by omega
  clear hf;obtain⟨abm,HT⟩:=az (txt (can l):ByteArray);rw[<-HT.out];go_in;go_wp2_with fail;refine Yx.mono ?_;rintro e w1 ⟨rfl,eD⟩;clear Yx;have Qm:=xp w1 V A n c l (h.grow eD) ap;go_wp2_with fail;refine Qm.mono ?_;rintro e w2 ⟨A1,q,rfl,hq,hI,fk⟩;clear Qm h;have ZI:=eQ eD fk eD.size;have Z2:q=can l:=hq.a49 pJ;have vv:∀d∈q,CH d=true:=λd hd=>gC d (hq.perm.mem_iff.1 hd);have ig:q.length=n:=by rw[hq.len];exact wu
  have HQC:=Q Z2;have J2:=Q ig;clear Z2 ig wu T pJ;go_wp2_with fail;go_loopw [5,16] (λo i wr=>∃k:Nat,k<=n∧i=J k∧Own wr (New w2 wr) 9 1 o k (((q.take k).map q7).map Value.string)∧Grow w2 wr) (λ_ i _=>n-(intOf i).toNat);case atStart=>exact⟨0,by omega,rfl,Own.nil,Grow.refl _⟩
  case round=>
   obtain⟨i,kT,rfl,hO,gP⟩:=hrel;obtain⟨Ab,cb,rfl,vz,K4,hmb⟩:=hO.jL;have Fw:=gP.size;by_cases hi:i<n
   ·have hit:decide ((i:Int)<(n:Int))=true:=aC ap
    obtain⟨ad,Qh,rfl,e0,e1⟩:=FQ (hI.grow gP) hi;have Mk:=e0 wr (Grow.refl _);have Ut:=e1 wr (Grow.refl _);have hdo:=vv _ (bF Qh);have j9:Hid (((q.take (i+1)).map q7).map Value.string=((q.take i).map q7).map Value.string++[q7 q[i]].map Value.string):=Q (by rw[br Qh,bI,bI];rfl)
    generalize q[i]=d at Mk Ut hdo j9;have tS:=NU hdo;clear e0 e1 vz;go_wp2_with (at_builtin;refine stay ?_);refine dI ?_;have fu:Grow wr ((wr.alloc (.cells #[aX d.1,aX d.2] 66)).alloc (.cells #[aX (d.1++{ data:=#[61] }++d.2)] 9)):=((Below.refl _ _).alloc (bh _) _).alloc (by simp) _;refine fO (V:=New w2 wr) a3L _ rfl (.tmp 20) (.tmp 27) rfl (Z Ab i cb) i (((q.take i).map q7).map Value.string) rfl (hO.grow (λb hb=>hb.2) fu) ((wr:Nat)+1+1) (some ⟨(wr:Nat)+1,0,none⟩) 1 1 ([q7 d].map Value.string) rfl (fF (wr.alloc (.cells #[aX d.1,aX d.2] 66)) #[aX (d.1++{ data:=#[61] }++d.2)] 9 (0,0) (n:=1) (size:=1) rfl ((wr:Nat)+1) (by simp)) (FP _) ap ?_;intro v5 w5 Ro ra;have hs5:=ra.size;simp at hs5;rw[<-j9.out] at Ro;have hO6:Own w5 (New w2 w5) 9 1 v5 (i+1) (((q.take (i+1)).map q7).map Value.string):=by
     refine Ro.mono λb hb=>?_;rcases hb with hb|hb
     ·exact⟨hb.1,by have:=hb.2;omega⟩
     ·have h6:=hb.1
      simp at h6;exact⟨by omega,hb.2⟩
    have tW:Grow w2 w5:=Below.trans (eQ gP fu Fw) (ra.below (B:=(w2:Nat)) (λb hb=>hb.1) (by simp;omega));clear Ro ra hO fu Mk Ut;go_wp2_with fail;go_roundw;case rel=>exact⟨i+1,by omega,by go_num,hO6,tW⟩
    case measure=>simp[intOf];omega
   ·obtain rfl:n=i:=by omega
    have hit:decide ((n:Int)<(n:Int))=false:=aD ap;have Zr:q.take n=q:=bH (by have:=J2.out;omega);rw[Zr] at vz;have htl:=RU q vv;have RV:=J2.out;have e:(q.map q7).map (·.data.toList)=q.map ox:=by rw[List.map_map];exact cO λd _=>Gp d
    have hjo:=NR wr _ Ab n cb (q.map q7) NT vz K4 ap (by rw[e];show (Gi q).length<=_;omega);rw[e] at hjo;have hT:mk (Lib.join (q.map ox) NT.data.toList)=abm:=by rw[HT.out,<-HQC.out];rfl
    rw[hT] at hjo;clear e Zr htl RV hO vz hT;have jU:=eQ ZI gP ZI.size;go_wp2_with fail;refine hjo.mono ?_;rintro e w8 ⟨rfl,hg8⟩;clear hjo;go_wp2;go_ret2;exact⟨rfl,eQ jU hg8 jU.size⟩
 ·rw[NV T]
  have gS:(gK l == 0)=false:=beq_eq_false_iff_ne.2 T;generalize gK l=R at Yx T gS ⊢;go_in;go_wp2_with fail;refine Yx.mono ?_;rintro e w1 ⟨rfl,eD⟩;clear Yx;go_wp2;go_ret2;exact⟨rfl,eD⟩
theorem qa(c:UInt8):∀(s:aT),∀p∈ey c s,p.length<=s.length
 | [],p,h=>by
   rw[ey,List.mem_singleton] at h;rw[h];exact bh _
 | b::r,p,h=>by
   have ih:=qa c r;unfold ey at h;split at h
   ·rcases List.mem_cons.1 h with rfl|h
    ·exact bo _
    ·have:=ih p h;rw[bD];omega
   ·split at h
    ·rw[List.mem_singleton.1 h];simp
    ·rename_i q qs e
     rcases List.mem_cons.1 h with rfl|h
     ·have:=ih q (by rw[e];exact cj)
      rw[bD,bD];omega
     ·have:=ih p (by rw[e];exact bR _ h)
      rw[bD];omega
def zj(p:aT):(jf p).1.size<=p.length∧(jf p).2.size<=p.length:=by
 have e:∀l:aT,(mk l).size=l.length:=λl=>by show l.toArray.size=_;rw[cy]
 unfold jf;rw[e,e];unfold Lib.cut;split;·exact⟨by rw[bn];omega,by rw[bO];omega⟩
 ·exact⟨bh _,bo _⟩
def xK(s:aR):s.data.toList.length=s.size:=by rw[bZ];rfl
def BS(hs:s.size<=1000000):∀d∈fM s,d.1.size<=dG∧d.2.size<=dG:=λd hd=>by obtain⟨p,hp,rfl⟩:=List.mem_map.1 hd;have I:=qa 44 _ p hp;have G:=zj p;rw[xK] at I;unfold dG;omega
def Ax(h:gK (fM s)≠0):fW s=12∧nY s=[]:=by
 have:mx s=false:=by unfold mx;rw[aD h,Bool.false_and]
 unfold fW nY;rw[this];exact⟨rfl,rfl⟩
def KO(h:textOf (fM s)≠s):fW s=12∧nY s=[]:=by
 by_cases h0:gK (fM s)=0
 ·rw[uD h0] at h
  have:mx s=false:=by unfold mx;rw[aD h,Bool.and_false]
  unfold fW nY;rw[this];exact⟨rfl,rfl⟩
 ·exact Ax h0
def KP(h0:gK (fM s)=0)(h:textOf (fM s)=s):fW s=0∧nY s=fM s:=by
 rw[uD h0] at h;have:mx s=true:=by unfold mx;rw[aC h0,aC h];rfl
 unfold fW nY;rw[this];exact⟨rfl,rfl⟩
def qL(w:X)(s:aR)(hs:s.size<=1000000):dz W 84 #[aX s] w λe O=>∃A c,e=b5 (a_ #[Z A (nY s).length c,J (fW s)])∧In O (New w O) 2 A (nY s).length (gF (nY s))∧(nY s).length<=c∧Grow w O:=by
 have hsp:=KN w s 44 ap;obtain⟨P,HP⟩:=az (ey 44 s.data.toList);have HL:Hid (fM s=P.map jf):=Q (by rw[HP.out];rfl);have hPl:P.length<=s.size+1:=by rw[HP.out,<-xK];exact xJ 44 _
 have hps:∀p∈P,p.length<=s.size:=λp hp=>by have:=qa 44 s.data.toList p (by rw[<-HP.out];exact hp);rwa [xK] at this
 rw[<-HP.out] at hsp;obtain⟨abk,HK⟩:=az (P.length:Nat);rw[<-HK.out] at hsp hPl;go_in;go_wp2_with fail;refine hsp.mono ?_;rintro e w1 ⟨A,rfl,hI,eD⟩;clear hsp;go_wp2_with fail;go_loopw [4,15] (λo i wr=>∃k:Nat,k<=abk∧i=J k∧Own wr (New w1 wr) 66 2 o k (gF ((P.take k).map jf))∧Grow w1 wr) (λ_ i _=>abk-(intOf i).toNat);case atStart=>exact⟨0,by omega,rfl,Own.nil,Grow.refl _⟩
 case round=>
  obtain⟨i,hiK,rfl,hO,gP⟩:=hrel;obtain⟨Ab,cb,rfl,vz,K4,hmb⟩:=hO.jL;have Fw:=gP.size;by_cases hi:i<abk
  ·have hit:decide ((i:Int)<(abk:Int))=true:=aC ap
   have hI':In wr (New w w1) 1 A abk ((P.map mk).map Value.string):=hI.grow gP;obtain⟨ad,Qh,rfl,e0⟩:=VB hI' hi;have Mk:=e0 wr (Grow.refl _);rw[di] at Mk;have hqP:i<P.length:=by simpa using Qh
   have hpm:=hps _ (bF hqP);have j9:Hid (gF ((P.take (i+1)).map jf)=gF ((P.take i).map jf)++gF [jf P[i]]):=Q (by rw[br hqP,bI];unfold gF;rw[bL];rfl)
   generalize P[i]=p at Mk hpm j9;have Uz:=sJ wr (mk p) 61 (by show p.toArray.size<_;rw[cy];omega);rw[mk_data] at Uz;have Vi:Hid (jf p=(mk (Lib.cut p [61]).1,mk (Lib.cut p [61]).2.1)):=Q rfl;generalize mk (Lib.cut p [61]).1=x at Uz Vi;generalize mk (Lib.cut p [61]).2.1=y at Uz Vi;generalize (Lib.cut p [61]).2.2=z at Uz;clear e0 hI' vz;go_wp2_with fail;refine Uz.mono ?_;rintro e w3 ⟨rfl,ib⟩;clear Uz Mk;have Mb:=ib.size;have fu:Grow w3 (w3.alloc (.cells #[aX x,aX y] 66)):=(Below.refl _ _).alloc (bh _) _;have nt:=hO.grow (λb hb=>hb.2) ib;go_wp2_with (at_builtin;refine stay ?_);refine dI ?_;refine fO (V:=New w1 wr) MR _ rfl (.tmp 25) (.tmp 29) rfl (Z Ab i cb) i (gF ((P.take i).map jf)) rfl (nt.grow (λb hb=>by have:=hb.2;omega) fu) ((w3:Nat)+1) (some ⟨(w3:Nat),0,none⟩) 1 1 (gF [jf p]) rfl (by rw[Vi.out];exact fF w3 #[aX x,aX y] 66 (0,0) (n:=1) (size:=2) rfl (w3:Nat) rfl) (wZ _) ap ?_;intro v5 w5 Ro ra;have hs5:=ra.size;simp at hs5;rw[<-j9.out] at Ro;have hO6:Own w5 (New w1 w5) 66 2 v5 (i+1) (gF ((P.take (i+1)).map jf)):=by
    refine Ro.mono λb hb=>?_;rcases hb with hb|hb
    ·exact⟨hb.1,by have:=hb.2;omega⟩
    ·have h6:=hb.1
     simp at h6;exact⟨by omega,hb.2⟩
   have tW:Grow w1 w5:=Below.trans (eQ (eQ gP ib Fw) fu ap) (ra.below (B:=(w1:Nat)) (λb hb=>hb.1) (by simp;omega));clear Ro ra hO nt fu;go_wp2_with fail;go_roundw;case rel=>exact⟨i+1,by omega,by go_num,hO6,tW⟩
   case measure=>simp[intOf];omega
  ·obtain rfl:abk=i:=by omega
   have hit:decide ((abk:Int)<(abk:Int))=false:=aD ap;have hPt:(P.take abk).map jf=fM s:=by rw[HL.out,bH (by have:=HK.out;omega)]
   rw[hPt] at vz;have hls:=BS hs;have Qq:=xj wr _ Ab abk cb (fM s) vz hls ap;have hKl:Hid ((fM s).length=abk):=Q (LIn.len vz);have jU:=eQ eD gP eD.size;have QI:=eD.size;clear hPt hO hls;by_cases T:gK (fM s)=0
   ·have zF:(gK (fM s) == 0)=true:=by rw[T];rfl
    by_cases hT:textOf (fM s)=s
    ·have HY:=Q (KP T hT)
     rw[T,hT] at Qq;clear T hT zF;go_wp2_with fail;refine Qq.mono ?_;rintro e w5 ⟨rfl,ng⟩;clear Qq;go_wp2_with (go_at_call 148;refine (Dj _ _ _ _ K4).mono ?_;rintro e O ⟨rfl,rfl⟩);go_ret2;have hs5:=ng.size;rw[HY.out.1,HY.out.2,hKl.out];exact⟨Ab,abk,rfl,(vz.grow ng).mono λb hb=>⟨by have:=hb.1;omega,by have:=hb.2;omega⟩,bh _,eQ jU ng jU.size⟩
    ·have HY:=Q (KO hT)
     rw[T] at Qq;have ZJ:=sZ hT;clear T hT zF;generalize textOf (fM s)=abm at Qq ZJ;go_wp2_with fail;refine Qq.mono ?_;rintro e w5 ⟨rfl,ng⟩;clear Qq;go_wp2;go_ret2;rw[HY.out.1,HY.out.2];exact⟨none,0,rfl,In.nil,bh _,eQ jU ng jU.size⟩
   ·have HY:=Q (Ax T)
    have zF:(gK (fM s) == 0)=false:=beq_eq_false_iff_ne.2 T;clear vz;generalize textOf (fM s)=abm at Qq;generalize gK (fM s)=R at Qq T zF;go_wp2_with fail;refine Qq.mono ?_;rintro e w5 ⟨rfl,ng⟩;clear Qq;go_wp2;go_ret2;rw[HY.out.1,HY.out.2];exact⟨none,0,rfl,In.nil,bh _,eQ jU ng jU.size⟩
end Go.Proofs.YtpeepcmdehhbgaaGreatDoor.abn
end
namespace Go.Proofs.YtpeepcmdehhbgaaGreatDoor
open RowKit Hop
structure En where
 (k ag sh sq ep:Int) (ds:List Dl) (se:aR) (fr tg:Int)
instance(e:En)(A:Option dA)(c:Nat):CoeDep (En×Option dA×Nat) (e,A,c) (Array K):=⟨#[J e.k,J e.ag,J e.sh,J e.sq,J e.ep,Z A e.ds.length c,aX e.se,J e.fr,J e.tg]⟩
def En.agg(e:En)(A:aU)(c:Nat):Array K:=#[J e.k,J e.ag,J e.sh,J e.sq,J e.ep,Z A e.ds.length c,aX e.se,J e.fr,J e.tg]
def DN(d:Dl):Prop:=1<=d.2∧d.2<=18446744073709551615∧abn.fW d.1=0∧d.1.size<=1000
def En.abq(e:En):Prop:=e.k=1∧e.se=⟨#[]⟩∧(0<=e.ag∧e.ag<8)∧(0<=e.sh∧e.sh<4)∧(1<=e.sq∧e.sq<=9223372036854775807)∧(1<=e.ep∧e.ep<=9223372036854775807)∧(1<=e.ds.length∧e.ds.length<=8)∧∀d∈e.ds,DN d
def En.R(e:En):Prop:=e.k=2∧e.ag=0∧e.sh=0∧e.sq=0∧e.ep=0∧e.ds=[]∧abn.fW e.se=0∧e.se.size<=1000
def En.Ok(e:En):Prop:=((0<=e.fr∧e.fr<8)∧0<=e.tg∧e.tg<=9223372036854775807)∧(e.abq∨e.R)
theorem dT(w:X)(o:Obj):Grow w (w.alloc o):=(Below.refl _ w).alloc (bh _) o
theorem kn{w:X}{V:aV}{A:aU}{n:Nat}{l:List Dl}(h:jM w V A n l){k:Nat}(N:k<n):∃(ad:dA)(hq:k<l.length),A=some ad∧(∀w1,Grow w w1->w1.cell? (ad.add (k*2))=some (aX l[k].1))∧∀w1,Grow w w1->w1.cell? ⟨(ad.add (k*2)).block,(ad.add (k*2)).off+1,none⟩=some (ae ah (l[k].2:Int)):=by obtain⟨ad,hq,e,_,hb,e0,e12⟩:=In.mr (cells:=mN) h ap iH N;exact⟨ad,hq,e,λw1 H=>(H.cell (by rw[block_add];exact hb)).trans (e0 _ rfl),λw1 H=>(H.cell (p:=⟨(ad.add (k*2)).block,(ad.add (k*2)).off+1,none⟩) (show (ad.add (k*2)).block<_ by rw[block_add];exact hb)).trans (e12 0 _ rfl)⟩
structure El where
 (e:En) (A:aU) (c:Nat)
def El.cells(x:El):List K:=(x.e.agg x.A x.c).toList
def kP(w:X)(D:aV)(x:El):Prop:=jM w D x.A x.e.ds.length x.e.ds∧x.e.ds.length<=x.c∧x.c<=dG∧x.e.ds.length<=1048576
theorem pf(x:El):x.cells.length=9:=rfl
theorem Gq(x:El):∀u∈x.cells,u.oneCell'=true:=by intro u hu;simp only[El.cells,En.agg,cI,cF,or_false] at hu;rcases hu with rfl|rfl|rfl|rfl|rfl|rfl|rfl|rfl|rfl<;>rfl
theorem vY:jr kP:=λ_ _ _ _ _ h hj hd=>⟨In.just h.1 hj hd,h.2⟩
theorem jg:iz kP:=λ_ _ _ _ h hd=>⟨In.mono h.1 hd,h.2⟩
theorem Gr:(Tryz.prog.info? 40).map (λi=>(i.zero,i.size,i.bytes))=some (some (aZ aK),9,96):=by kernel_rfl
theorem Gs:Elem W 43 40 9 96 (aZ aK):=⟨Tryz.underlying43,info_parts Gr,rfl,by decide,by decide⟩
def jO(w:X)(D:aV)(A:aU)(q:List El):Prop:=In w D 9 A q.length (q.flatMap El.cells)∧∀x∈q,kP w D x
theorem jO.grow{w O:X}{D:aV}{A:aU}{q:List El}(h:jO w D A q)(H:Grow w O):jO O D A q:=⟨h.1.grow H,λx Y=>vY _ _ _ _ _ (h.2 x Y) (dM.dK (V:=λ_=>False) H) λ_ _ h=>h⟩
theorem jO.just{w O:X}{D U:aV}{A:aU}{q:List El}(h:jO w D A q)(hj:dM U w O)(hd:∀b,D b->¬ U b):jO O D A q:=⟨h.1.just hj hd,λx Y=>vY _ _ _ _ _ (h.2 x Y) hj hd⟩
theorem jO.mono{w:X}{D D':aV}{A:aU}{q:List El}(h:jO w D A q)(hd:∀b,D b->D' b):jO w D' A q:=⟨h.1.mono hd,λx Y=>jg _ _ _ _ (h.2 x Y) hd⟩
theorem jO.nil{w:X}{D:aV}{A:aU}:jO w D A []:=⟨In.nil,λx Y=>absurd Y (by simp)⟩
def Ja(l:List En)(w0:X)(u:K)(w:X):Prop:=∃(A:aU)(c:Nat)(q:List El),u=Z A q.length c∧jO w (New w0 w) A q∧q.map El.e=l∧q.length<=c∧c<=dG
theorem Ja.nil(w0 w:X):Ja [] w0 (Z none 0 0) w:=⟨none,0,[],rfl,jO.nil,rfl,bh _,bo _⟩
theorem t7(w:X)(V:aV)(x:El)(h:kP w V x):dz W 126 #[aZ (x.e.agg x.A x.c)] w λen O=>∃A',en=b5 (aZ (x.e.agg A' x.e.ds.length))∧kP O (New w O) ⟨x.e,A',x.e.ds.length⟩∧Grow w O:=by
 obtain⟨⟨k,ag,sh,sq,ep,ds,se,fr,tg⟩,A,c⟩:=x;obtain⟨hd,mn,Bb,sB⟩:=h;unfold En.agg;dsimp only at hd mn Bb sB ⊢;obtain⟨n,HN⟩:=az (ds.length);rw[<-HN.out] at hd mn sB ⊢;have gl:=(dT w (.cells #[J k,J ag,J sh,J sq,J ep,Z A n c,aX se,J fr,J tg] 40)).trans (dT _ (.cells aK 40));have uW:=(eJ.made w 40 #[J k,J ag,J sh,J sq,J ep,Z A n c,aX se,J fr,J tg]).alloc (.cells aK 40);have ky:=eJ.made (w.alloc (.cells #[J k,J ag,J sh,J sq,J ep,Z A n c,aX se,J fr,J tg] 40)) 40 aK;obtain⟨x,HX⟩:=az ((w:Nat):Nat);have rI:(w.alloc (.cells #[J k,J ag,J sh,J sq,J ep,Z A n c,aX se,J fr,J tg] 40)).heap.size=x+1:=by rw[HX.out];simp
 rw[rI] at ky;rw[<-HX.out] at uW;obtain⟨wa,HA⟩:=az ((w.alloc (.cells #[J k,J ag,J sh,J sq,J ep,Z A n c,aX se,J fr,J tg] 40)).alloc (.cells aK 40):X);rw[<-HA.out] at uW ky gl;have iZ:(wa:Nat)=x+2:=by rw[HA.out,HX.out];simp
 go_in;go_wp2_with fail;rw[<-HA.out,<-HX.out];refine (jD wa V A n c ds (In.grow hd gl) ap).mono ?_;rintro e w1 ⟨A1,c1',rfl,F6,oK,ry,eD⟩;go_wp2_with fail;refine (od w1 A1 n c1' oK).mono ?_;rintro e w2 ⟨rfl,rfl⟩;have JZ:=uW.grow eD;have R9:=ky.grow eD;have hP:=JZ.put 5 (Z A1 n n);have hD:=R9.far (p:=⟨x,5,none⟩) (show x+1≠x by omega) (Z A1 n n);have f5:=JZ.frozen 5;have d5:=JZ.cell 5;have p0:=hP.cell 0;have p1:=hP.cell 1;have p2:=hP.cell 2;have p3:=hP.cell 3;have p4:=hP.cell 4;have p5:=hP.cell 5;have p6:=hP.cell 6;have p7:=hP.cell 7;have p8:=hP.cell 8;have d0:=hD.cell 0;have d1:=hD.cell 1;have d2:=hD.cell 2;have d3:=hD.cell 3;have d4:=hD.cell 4;have d5:=hD.cell 5;have d6:=hD.cell 6;have d7:=hD.cell 7;have d8:=hD.cell 8;have g0:=hD.frozen 0;have g1:=hD.frozen 1;have g2:=hD.frozen 2;have g3:=hD.frozen 3;have g4:=hD.frozen 4;have g5:=hD.frozen 5;have g6:=hD.frozen 6;have g7:=hD.frozen 7;have g8:=hD.frozen 8;go_wp2_with fail;change bodyPost _ _ _ _ _ (World.setCells (w1.setCell ⟨x,5,none⟩ (Z A1 n n)) (x+1) 0 [J k,J ag,J sh,J sq,J ep,Z A1 n n,aX se,J fr,J tg]);have hE:=eJ.all hD [J k,J ag,J sh,J sq,J ep,Z A1 n n,aX se,J fr,J tg] rfl;have hF:∀i,(World.setCells (w1.setCell (x,5) (Z A1 n n)) (x+1) 0 [J k,J ag,J sh,J sq,J ep,Z A1 n n,aX se,J fr,J tg]).cell? ⟨(x+1),i,none⟩=#[J k,J ag,J sh,J sq,J ep,Z A1 n n,aX se,J fr,J tg][i]?:=hE.cell;have e0:=hF 0;have e1:=hF 1;have e2:=hF 2;have e3:=hF 3;have e4:=hF 4;have e5:=hF 5;have e6:=hF 6;have e7:=hF 7;have e8:=hF 8;refine bodyPost_ret (v := aZ #[J k,J ag,J sh,J sq,J ep,Z A1 n n,aX se,J fr,J tg]) (by simp[results,Tryz.results126,go_sem,e0,e1,e2,e3,e4,e5,e6,e7,e8]) rfl ?_;have hj:dM (λb=>b=x∨b=x+1) w1 ((w1.setCell (x,5) (Z A1 n n)).setCells (x+1) 0 [J k,J ag,J sh,J sq,J ep,Z A1 n n,aX se,J fr,J tg]):=((dM.dK (Grow.refl w1)).put (V:=λb=>b=x∨b=x+1) (.inl rfl) 5 _).trans (dM.jA (gM _ _ _ _) (.inr rfl))
 have jU:=Below.trans (gl.trans eD) (hj.below (B:=(w:Nat)) (λb hb=>by have:=HX.out;omega) (gl.trans eD).size);have hn:=HN.out;subst hn;refine⟨A1,rfl,⟨In.mono (V:=New wa w1) (In.just F6 hj λb hb=>by have:=hb.1;omega) λb hb=>⟨by have:=hb.1;have:=gl.size;omega,by have:=hb.2;simpa [setCells_size,gg] using this⟩,bh _,(show ds.length<=dG by unfold dG;omega),sB⟩,jU⟩
theorem DO(w:X)(A:aU)(n c:Nat)(hn:n<=c):dz W 163 #[Z A n c] w λe O=>e=b5 (Z A n n)∧w=O:=by go_in;go_wp2;go_ret;exact⟨rfl,rfl⟩
theorem mQ(w:X)(V:aV)(A:aU)(c:Nat)(q:List El)(h:jO w V A q)(hq:q.length<=1048576):dz W 119 #[Z A q.length c] w λe O=>∃u,e=b5 u∧Ja (q.map El.e) w u O∧(∃A',u=Z A' q.length q.length)∧Grow w O:=by
 go_in;go_wp2_with fail;go_loopw [3,8] (λs i wr=>∃(k:Nat)(q':List El),k<=q.length∧i=J k∧q'.length=k∧Acc 40 9 El.cells kP w s q' wr∧q'.map El.e=(q.take k).map El.e) (λ_ i _=>q.length-(intOf i).toNat);case atStart=>exact⟨0,[],by omega,rfl,rfl,Acc.nil w,by simp⟩
 case round=>
  obtain⟨k,q',oL,rfl,ig,hA,F7⟩:=hrel;have H:=hA.base;obtain⟨A1,c1,sA⟩:=hA.slice;rw[ig] at sA;subst sA;by_cases N:k<q.length
  ·obtain⟨ad,vo,rfl,hV,hB,e0,e1⟩:=(h.1.grow H).mr ap pf N
   have jE:=(h.grow H).2 q[k] (bF vo);have vq:q.take (k+1)=q.take k++[q[k]]:=br vo;have HS:=Q vq;clear vq;generalize q[k]=b at jE e0 e1 HS;have hcp:=λw1(eD:Grow wr w1)=>t7 w1 V b (vY _ _ _ _ _ jE (dM.dK (V:=λ_=>False) eD) λ_ _ h=>h);obtain⟨⟨bk,ag,sh,sq,ep,ds,se,fr,tg⟩,Ab,cb⟩:=b;dsimp only[El.cells,En.agg] at e0 e1 hcp;have e3:=e1 2 _ rfl;have e4:=e1 3 _ rfl;have e5:=e1 4 _ rfl;have e1:=e1 0 _ rfl;have e0:=e0 _ rfl;have fu:=dT wr (.cells #[J bk,J ag,J sh,J sq,J ep,Z Ab ds.length cb,aX se,J fr,J tg] 40);have hcp:=hcp _ fu;clear jE;go_wp2_with fail;refine hcp.mono ?_;rintro e w1 ⟨A2,rfl,lA,eD⟩;go_wp2_with (at_builtin;refine stay ?_);refine dI ?_;refine G4 Gs vY jg pf Gq aj (.tmp 12) (.tmp 15) aj hA (fu.trans eD) ⟨⟨bk,ag,sh,sq,ep,ds,se,fr,tg⟩,A2,ds.length⟩ (jg _ _ _ _ lA λb hb=>⟨by have:=hb.1;simp at this;omega,hb.2⟩) ap aj aj ?_;intro v2 w2 qZ;go_wp2_with fail;go_roundw;case rel=>exact⟨k+1,q'++[⟨⟨bk,ag,sh,sq,ep,ds,se,fr,tg⟩,A2,ds.length⟩],by omega,by go_num,by simp[ig],qZ,by rw[bI,F7,HS.out,bI];rfl⟩
   case measure=>simp[intOf];omega
  ·obtain rfl:k=q.length:=by omega
   have hD:=hA.done jg;obtain⟨A3,c3,e3,L,h4,h5,h6,h7⟩:=hD;rw[ig] at e3 h5;injection e3 with e3 e4 e5;subst e3 e5;go_wp2_with fail;refine (DO wr A1 q.length c1 h5).mono ?_;rintro e w2 ⟨rfl,rfl⟩;go_wp2;go_ret;exact⟨Z A1 q.length q.length,rfl,⟨A1,q.length,q',by rw[ig],⟨L,h4⟩,by rw[F7,dq],by omega,by unfold dG;omega⟩,⟨A1,rfl⟩,h7⟩
open V
theorem ic(w:X)(u:K)(l:aT)(m:Nat)(h:eM l u w)(hl:l.length<=1099511627776)(hm:m<18446744073709551616):dz W 182 #[u,ae ah m] w λe O=>∃v,e=b5 v∧Grow w O∧eM (l++enc m) v O:=by obtain⟨A,n,c,rfl,hb,_⟩:=h;exact (Bt w A n c l hb (by rw[<-hb.len];exact hl) m hm).mono λ_ _ ⟨v,he,hO,H⟩=>⟨v,he,H,Own.isBytes hO⟩
theorem t8(w:X)(u:K)(l:aT)(s:aR)(h:eM l u w)(hl:l.length<=1099511627776)(hs:s.size<=1099511627776):dz W 240 #[u,aX s] w λe O=>∃v,e=b5 v∧Grow w O∧eM (l++enc s.size++s.data.toList) v O:=by obtain⟨A,n,c,rfl,hb,_⟩:=h;exact (xj w A n c l hb (by rw[<-hb.len];exact hl) s hs).mono λ_ _ ⟨v,he,hO,H⟩=>⟨v,he,H,Own.isBytes hO⟩
theorem ve(w:X):eM [] (Z none 0 0) w:=⟨none,0,0,rfl,Reads.nil,bh _,bo _⟩
def dB(d:Dl):List UInt8:=enc d.1.size++d.1.data.toList++enc d.2
def o7(l:List Dl):List UInt8:=l.flatMap dB
def Small(d:Dl):Prop:=d.1.size<=1000∧d.2<18446744073709551616
theorem Wd{d:Dl}(h:Small d):(dB d).length<=1020:=by have I:=eE (n:=d.1.size) (by have:=h.1;omega);have G:=eE h.2;have L:d.1.data.toList.length=d.1.size:=rfl;unfold dB;rw[bd,bd,L];have:=h.1;omega
theorem BU:∀(l:List Dl),(∀d∈l,Small d)->(o7 l).length<=l.length*1020
 | [],_=>by simp[o7]
 | d::l,h=>by
   have I:=BU l λx Y=>h x (by simp[Y]);have G:=Wd (h d (by simp));rw[show o7 (d::l)=dB d++o7 l from rfl,bd,bD];omega
theorem NW(l:List Dl)(d:Dl):o7 (l++[d])=o7 l++dB d:=by simp[o7]
theorem uE(w:X)(u:K)(l:aT)(V:aV)(A:aU)(n c:Nat)(ds:List Dl)(hu:eM l u w)(hl:l.length<=1048576)(hd:jM w V A n ds)(hn:n<=1048576)(hs:∀d∈ds,Small d):dz W 299 #[u,Z A n c] w λe O=>∃v,e=b5 v∧Grow w O∧eM (l++o7 ds) v O:=by
 have rA:=jM.len hd;go_in;go_wp2_with fail;go_loopw [0,9] (λv i wr=>∃k:Nat,k<=n∧i=J k∧eM (l++o7 (ds.take k)) v wr∧Grow w wr) (λ_ i _=>n-(intOf i).toNat);case atStart=>exact⟨0,by omega,rfl,by simpa [o7] using hu,Grow.refl _⟩
 case round=>
  obtain⟨k,oL,rfl,hB,gP⟩:=hrel;by_cases N:k<n
  ·obtain⟨ad,hq,rfl,f0,f1⟩:=kn (In.grow hd gP) N
   have e0:=f0 wr (Grow.refl _);have e1:=f1 wr (Grow.refl _);have vq:ds.take (k+1)=ds.take k++[ds[k]]:=br hq;have sB:=hs _ (bF hq);have HS:=Q vq;have Fe:=BU (ds.take k) λd hd=>hs d (bW hd);rw[bn,cz ap] at Fe;clear vq f0 f1;generalize ds[k]=y at e0 e1 sB HS;obtain⟨s,x⟩:=y;dsimp only[Small] at e0 e1 sB;have HL:=Q Fe;clear Fe;obtain⟨L0,Ml⟩:=az (l++o7 (ds.take k));rw[<-Ml.out] at hB;have QN:L0.length<=1099511627776:=by rw[Ml.out,bd];have:=HL.out;have:=cK 1020 (show k<=1048576 by omega);omega
   obtain⟨b,HBb⟩:=az ((wr:Nat));obtain⟨wa,HA⟩:=az (wr.alloc (.cells #[aX s,ae ah x] 147):X);have i4:=eJ.made wr 147 #[aX s,ae ah x];have fu:=dT wr (.cells #[aX s,ae ah x] 147);rw[<-HA.out] at i4 fu;rw[<-HBb.out] at i4;have hBa:=hB.below fu;go_wp2_with fail;rw[<-HA.out,<-HBb.out];have gd:Grow wa wa.drew:=(Grow.refl _).drew;have eA:eJ wa.drew b 147 #[aX s,ae ah x]:=i4.grow gd;refine dJ rfl ?_;refine gi (λw1=>eJ w1 b 147 #[aX s,ae ah x]) 8 rfl ?_;refine held 0 rfl eA (λw1 E R T=>by have c0:=E.cell 0;have c1:=E.cell 1;go_simp;exact T) ?_;refine held 1 rfl eA (λw1 E R T=>by have c0:=E.cell 0;have c1:=E.cell 1;go_simp;exact T) ?_;refine held 2 rfl eA (λw1 E R T=>by have c0:=E.cell 0;have c1:=E.cell 1;go_simp;exact T) ?_;refine held 4 rfl eA (λw1 E R T=>by have c0:=E.cell 0;have c1:=E.cell 1;go_simp;exact T) ?_;refine held 5 rfl eA (λw1 E R T=>by have c0:=E.cell 0;have c1:=E.cell 1;go_simp;exact T) ?_;refine dY 3 rfl ?_;go_wp2_with fail;refine (t8 _ _ L0 s (hBa.below gd) QN ap).mono ?_;rintro en u1 ⟨v16,rfl,eD,lU⟩;replace eD:=gd.trans eD;go_wp2_with fail;refine⟨i4.grow eD,?_⟩;refine dY 6 rfl ?_;go_wp2_with fail;refine (ic u1 v16 _ x lU (by have:s.data.toList.length=s.size:=rfl;have:=eE (n:=s.size) ap;simp only[bd];have:=Ml.out;rw[Ml.out,bd];have:=HL.out;have:=cK 1020 (show k<=1048576 by omega);omega) sB.2).mono ?_;rintro en w1 ⟨v19,rfl,H,hE⟩;replace H:=eD.trans H;go_wp2_with fail;refine⟨i4.grow H,?_⟩;refine held 7 rfl (i4.grow H) (λw1 E=>aM) ?_;refine eU ?_;have Ff:eM (l++o7 (ds.take (k+1))) v19 w1:=by rw[HS.out,NW,<-bp,<-Ml.out];show eM (L0++(enc s.size++s.data.toList++enc x)) v19 w1;rw[<-bp,<-bp];exact hE
   go_wp2_with fail;go_roundw;case rel=>exact⟨k+1,by omega,by go_num,Ff,gP.trans (fu.trans H)⟩
   case measure=>simp[intOf];omega
  ·obtain rfl:k=n:=by omega
   rw[bH ap] at hB;go_wp2;go_ret;exact⟨_,rfl,gP,hB⟩
end Go.Proofs.YtpeepcmdehhbgaaGreatDoor
