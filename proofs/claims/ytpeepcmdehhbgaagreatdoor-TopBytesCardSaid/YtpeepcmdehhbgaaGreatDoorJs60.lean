/- Smap, Within, Tape, Tnames, Nok, By1, Csort, Call, Call2. -/
import Derived.Test.YtpeepcmdehhbgaaGreatDoorJs02
import Derived.Test.YtpeepcmdehhbgaaGreatDoorJs43
import Derived.Test.YtpeepcmdehhbgaaGreatDoorJs44
set_option linter.all false
set_option maxRecDepth 100000
set_option maxHeartbeats 2000000
open Go.Value renaming int->ae,slice->Z,string->aX,bool->aY,agg->aZ,tuple->a_
open Go.Ending renaming returned->b5
open Go.IntKind renaming i64->af,u64->ah
open Go (J az aE aA aB aC aD ay aj am ap aw aL aK aJ aI aH aV aU aT aR aQ aP aO aN)
open Go.Proofs.Tryz renaming prog->W,underlying9->cW,underlying5->dm,underlying3->dp
open Go.Lib renaming hid->Q
open List renaming length_append->bd,length_map->bj,eq_nil_of_length_eq_zero->bu,getElem_mem->bF,take_of_length_le->bH,flatMap_append->bL,size_toArray->cy,not_mem_nil->cF,mem_cons->cI,length_filter_le->c_,getElem_map->di
open Nat renaming le_of_ble_eq_true->bf,le_refl->bh,zero_le->bo,lt_of_lt_of_le->bw,le_trans->bB,zero_add->cJ,mul_one->cM
open Go renaming Value->K,World->X,Calls->dz,Addr->dA,TypeId->dC,Program->dD,maxLen->dG
variable{w O:X}{D V:aV}{s:aR}{n x k:Nat}
namespace Go.Hop
open RowKit Maps WideMaps
section
variable{P:dD}{t k e:dC}{qe:IntKind}{b:Nat}{f:ByteArray->Option Int}
theorem jb.ne{r cnt:Nat}{left:ByteArray->Bool}(h:jb P k e qe w b r n f left cnt):r≠b:=by obtain⟨D,lf,I,_⟩:=h;exact I.ne
end
end Go.Hop
namespace Go.Proofs.YtpeepcmdehhbgaaGreatDoor
open RowKit Hop
theorem bookWithin_any(w:X)(n lo hi:Int)(hn:-9223372036854775808<=n∧n<=9223372036854775807)(h0:-4000000000<=lo)(I:lo<=hi)(G:hi<=4000000000):dz W 39 #[J n,J lo,J hi] w λe O=>∃m:Int,lo<=m∧m<=hi∧e=b5 (J m)∧w=O:=by
 by_cases ha:lo<=n
 ·by_cases hb:n<=hi
  ·go_in
   go_wp2;go_ret;exact⟨n,ha,hb,rfl,rfl⟩
  ·skip
   have hp:=Int.emod_nonneg n (show hi-lo+1≠0 by omega);have hl:=Int.emod_lt_of_pos n (show 0<hi-lo+1 by omega);have q1:=Int.tmod_lt_of_pos n (show 0<hi-lo+1 by omega);have q2:=Int.lt_tmod_of_pos n (show 0<hi-lo+1 by omega);go_in;go_wp2_with fail;all_goals
    go_ret
    refine⟨_,?_,?_,rfl,rfl⟩<;>(try unfold wrap64)<;>omega
 ·skip
  have hp:=Int.emod_nonneg n (show hi-lo+1≠0 by omega);have hl:=Int.emod_lt_of_pos n (show 0<hi-lo+1 by omega);have q1:=Int.tmod_lt_of_pos n (show 0<hi-lo+1 by omega);have q2:=Int.lt_tmod_of_pos n (show 0<hi-lo+1 by omega);go_in;go_wp2_with fail;all_goals
   go_ret
   refine⟨_,?_,?_,rfl,rfl⟩<;>(try unfold wrap64)<;>omega
def aaV(n lo hi:Int):Int:=if lo<=n∧n<=hi then n else lo+n % (hi-lo+1)
theorem abP{n lo hi:Int}(I:lo<=hi):lo<=aaV n lo hi∧aaV n lo hi<=hi:=by unfold aaV;have hp:=Int.emod_nonneg n (show hi-lo+1≠0 by omega);have hl:=Int.emod_lt_of_pos n (show 0<hi-lo+1 by omega);split<;>omega
theorem abW(w:X)(n lo hi:Int)(hn:-9223372036854775808<=n∧n<=9223372036854775807)(h0:-4000000000<=lo)(I:lo<=hi)(G:hi<=4000000000):dz W 39 #[J n,J lo,J hi] w λe O=>e=b5 (J (aaV n lo hi))∧w=O:=by
 unfold aaV;by_cases tR:lo<=n∧n<=hi
 ·rw[aA tR]
  obtain⟨ha,hb⟩:=tR;go_in;go_wp2;go_ret;exact⟨rfl,rfl⟩
 ·rw[aB tR]
  have hp:=Int.emod_nonneg n (show hi-lo+1≠0 by omega);have hl:=Int.emod_lt_of_pos n (show 0<hi-lo+1 by omega);have q1:=Int.tmod_lt_of_pos n (show 0<hi-lo+1 by omega);have q2:=Int.lt_tmod_of_pos n (show 0<hi-lo+1 by omega);have hr:n.tmod (hi-lo+1)=n % (hi-lo+1)∨n.tmod (hi-lo+1)=n % (hi-lo+1)-(hi-lo+1):=by rw[Int.tmod_eq_emod];split<;>omega
  have HR:=Q hr;have HP:=Q hp;have HL:=Q hl;clear hr hp hl;by_cases ha:lo<=n
  ·have hb:hi<n:=by omega
   clear tR;go_in;go_wp2_with fail;all_goals
    go_ret
    refine⟨mq ?_,rfl⟩
    have:=HR.out
    have:=HP.out
    have:=HL.out
    (try unfold wrap64)
    omega
  ·clear tR
   go_in;go_wp2_with fail;all_goals
    go_ret
    refine⟨mq ?_,rfl⟩
    have:=HR.out
    have:=HP.out
    have:=HL.out
    (try unfold wrap64)
    omega
end Go.Proofs.YtpeepcmdehhbgaaGreatDoor
namespace Go.Proofs.YtpeepcmdehhbgaaGreatDoor.Tp
open RowKit Hop abk
theorem abM{U:aV}{wa wb:X}(hj:dM V w wa)(N:dM U wa wb)(hU:∀b,U b->(w:Nat)<=b∨V b):dM V w wb:=⟨N.os.trans hj.os,N.tape.trans hj.tape,N.output.trans hj.output,bB hj.size N.size,λb hb hv=>(N.block b (bw hb hj.size) (λhu=>(hU b hu).elim (λh=>by omega) hv)).trans (hj.block b hb hv)⟩
def aaP(x:Nat)(D:aV)(w:X):Prop:=¬ D x∧∃(A:aU)(n c:Nat)(xs:aN)(p:Nat),eJ w x 34 #[Z A n c,J p]∧In w D 1 A n (xs.map (Value.int .i64))∧p<=n∧n<=9223372036854775807∧∀z∈xs,-9223372036854775808<=z∧z<=9223372036854775807
theorem aaP.keep{x:Nat}{D:aV}{w O:X}(h:aaP x D w)(Y:O.heap[x]?=w.heap[x]?)(N:∀b,D b->b<(w:Nat)->O.heap[b]?=w.heap[b]?):aaP x D O:=by obtain⟨h0,A,n,c,xs,p,I,G,L⟩:=h;exact⟨h0,A,n,c,xs,p,Y.trans I,G.keep N,L⟩
theorem aaP.lt{x:Nat}{D:aV}{w:X}(h:aaP x D w):x<(w:Nat):=by obtain⟨_,_,_,_,_,_,I,_⟩:=h;exact I.lt
theorem aaP.grow(h:aaP x D w)(H:Grow w O):aaP x D O:=h.keep (H.block x h.lt) λb _ hb=>H.block b hb
theorem acm{A:aU}{xs:aN}(h:In w D 1 A n (xs.map (Value.int .i64)))(N:k<n):∃(ad:dA)(z:Int),A=some ad∧z∈xs∧D ad.block∧ad.block<(w:Nat)∧w.cell? (ad.add k)=some (J z):=by
 obtain⟨ad,e,hv,hb,E⟩:=h.2 ap;have hl:=h.1;simp only[bj,cM] at hl;have Iq:k<xs.length:=by omega
 exact⟨ad,xs[k],e,bF Iq,hv,hb,E k _ (by rw[List.getElem?_map,List.getElem?_eq_getElem Iq];rfl)⟩
theorem aaU(w:X)(x:Nat)(D:aV)(h:aaP x D w)(m:Nat)(ry:1<=m)(zE:m<=1073741824):dz W 72 #[x,J m] w λe O=>∃k:Nat,k<m∧e=b5 (J k)∧aaP x D O∧dM (λb=>b=x) w O:=by
 have h':=h;obtain⟨hDx,A,n,c,xs,p,hB,hI,YT,hn,hxs⟩:=h;have q0:=hB.cell 0;have q1:=hB.cell 1;by_cases hp:p<n
 ·have F6:decide ((n:Int)<=(p:Int))=false:=aD ap
  have Ye:decide ((m:Int)<1)=false:=aD ap;go_in;go_wp2_with fail;go_still_tail 13,(by kernel_rfl);change wpList _ _ _ _ _ w.drew;have c1:w.drew.cell? ⟨x,1,none⟩=some (J p):=q1;have f1:=hB.drew.frozen 1;go_wp2_with fail;obtain⟨w3,H3⟩:=az ((w.setCell ⟨x,1,none⟩ (J ((p:Int)+1))).drew:X);have mz:dM (λb=>b=x) w w3:=by rw[H3.out];exact (kD w x 1 _).trans (dM.dK (Grow.refl _).drew)
  have F9:eJ w3 x 34 #[Z A n c,J ((p:Int)+1)]:=by rw[H3.out];exact (hB.put 1 _).drew
  have Qy:In w3 D 1 A n (xs.map (Value.int .i64)):=hI.just mz λb hb e=>hDx (e▸hb);change Code.wp _ _ _ _ (w.setCell ⟨x,1,none⟩ (J ((p:Int)+1))).drew;rw[<-H3.out];obtain⟨ad,z,rfl,hzm,_,_,hz3⟩:=acm Qy hp;have hzr:=hxs z hzm;obtain⟨M,HM⟩:∃M:Nat,Hid (aaV z 0 1073741824=(M:Int)):=⟨(aaV z 0 1073741824).toNat,Q (by have:=abP (n:=z) (show (0:Int)<=1073741824 by omega);omega)⟩;have hwi:∀w1,dz W 39 #[J z,(),J 1073741824] w1 λe O=>e=b5 (J M)∧w1=O:=λw1=>by have:=abW w1 z 0 1073741824 hzr ap ap ap;rwa [HM.out] at this
  obtain⟨R,HR⟩:∃R:Nat,Hid (Int.tmod (M:Int) (m:Int)=(R:Int)):=⟨M % m,Q (by rw[Int.tmod_eq_emod_of_nonneg ap];omega)⟩;have hRm:R<m:=by have:=HR.out;rw[Int.tmod_eq_emod_of_nonneg ap] at this;have:=Int.emod_lt_of_pos (M:Int) (show (0:Int)<m by omega);omega
  have su:¬ m=0:=by omega
  have hwp:IntKind.i64.wrap (p:Int)=(p:Int):=by rw[IntKind.wrap_i64];(try unfold wrap64);omega
  have hnp:¬ n<=p:=by omega
  have sy:w3.cell? ⟨x,0,none⟩=some (Z (some ad) n c)∧w3.cell? ⟨x,1,none⟩=some (J ((p:Int)+1))∧w3.cell? (ad.add p)=some (J z):=⟨F9.cell 0,F9.cell 1,hz3⟩;clear q0 q1 c1 f1 hz3;refine dJ rfl ?_;refine gi (λO=>O.cell? ⟨x,0,none⟩=some (Z (some ad) n c)∧O.cell? ⟨x,1,none⟩=some (J ((p:Int)+1))∧O.cell? (ad.add p)=some (J z)) 15 rfl ?_;refine held 0 rfl sy (λw1 E R T=>by obtain⟨e0,e1,e2⟩:=E;go_simp;exact T) ?_;refine held 1 rfl sy (λw1 E R T=>by obtain⟨e0,e1,e2⟩:=E;go_simp;exact T) ?_;refine held 2 rfl sy (λw1 E R T=>by obtain⟨e0,e1,e2⟩:=E;go_simp;exact T) ?_;refine held 3 rfl sy (λw1 E R T=>by obtain⟨e0,e1,e2⟩:=E;go_simp;exact T) ?_;refine held 4 rfl sy (λw1 E R T=>by obtain⟨e0,e1,e2⟩:=E;go_simp;exact T) ?_;refine held 5 rfl sy (λw1 E R T=>by obtain⟨e0,e1,e2⟩:=E;go_simp;exact T) ?_;refine held 6 rfl sy (λw1 E R T=>by obtain⟨e0,e1,e2⟩:=E;go_simp;exact T) ?_;refine held 7 rfl sy (λw1 E R T=>by obtain⟨e0,e1,e2⟩:=E;go_simp;exact T) ?_;refine held 8 rfl sy (λw1 E R T=>by obtain⟨e0,e1,e2⟩:=E;go_simp;exact T) ?_;refine held 9 rfl sy (λw1 E R T=>by obtain⟨e0,e1,e2⟩:=E;go_simp;exact T) ?_;refine held 10 rfl sy (λw1 E R T=>by obtain⟨e0,e1,e2⟩:=E;go_simp;exact T) ?_;refine held 12 rfl sy (λw1 E R T=>by obtain⟨e0,e1,e2⟩:=E;go_simp;exact T) ?_;refine dY 11 rfl ?_;go_wp2_with fail;refine (hwi _).mono ?_;rintro e w4 ⟨rfl,rfl⟩;go_wp2_with fail;refine⟨sy,?_⟩;have gS:=HR.out;refine dY 13 rfl ?_;go_wp2_with fail;refine⟨sy,?_⟩;refine held 14 rfl sy (λw1 E=>aM) ?_;refine eU ?_;go_wp2;go_ret;exact⟨R,hRm,rfl,aaP.grow ⟨hDx,some ad,n,c,xs,p+1,by rw[Int.natCast_add];exact F9,Qy,by omega,hn,hxs⟩ (Grow.refl _).drew,mz.trans (dM.dK (Grow.refl _).drew)⟩
 ·have F6:decide ((n:Int)<=(p:Int))=true:=aC ap
  go_in;go_wp2_with fail;go_still_tail 13,(by kernel_rfl);go_wp2;go_ret;exact⟨0,by omega,rfl,h'.grow (Grow.refl _).drew,dM.dK (Grow.refl _).drew⟩
def ab0:List ByteArray:=[{ data:=#[97,61,49] },{ data:=#[97,61,50] },{ data:=#[97,61,49,44,98,61,120] },{ data:=#[106,111,98,61,97,112,105,44,122,111,110,101,61,101,117] },{ data:=#[106,111,98,61,119,101,98] },{ data:=#[107,61,118] },{ data:=#[110,61,48] },{ data:=#[97,61,51,44,99,61,57] }]
def ac2:Array K:=#[.string { data:=#[97,61,49] },.string { data:=#[97,61,50] },.string { data:=#[97,61,49,44,98,61,120] },.string { data:=#[106,111,98,61,97,112,105,44,122,111,110,101,61,101,117] },.string { data:=#[106,111,98,61,119,101,98] },.string { data:=#[107,61,118] },.string { data:=#[110,61,48] },.string { data:=#[97,61,51,44,99,61,57] }]
theorem ac3(N:k<8):∃s:aR,s∈ab0∧ac2[k]?=some (aX s):=by
 have:∀k:Fin 8,∃s:aR,s∈ab0∧ac2[k.val]?=some (aX s):=by
  intro k;match k with
  | 0=>exact⟨_,List.mem_of_getElem? (i:=0) rfl,rfl⟩
  | 1=>exact⟨_,List.mem_of_getElem? (i:=1) rfl,rfl⟩
  | 2=>exact⟨_,List.mem_of_getElem? (i:=2) rfl,rfl⟩
  | 3=>exact⟨_,List.mem_of_getElem? (i:=3) rfl,rfl⟩
  | 4=>exact⟨_,List.mem_of_getElem? (i:=4) rfl,rfl⟩
  | 5=>exact⟨_,List.mem_of_getElem? (i:=5) rfl,rfl⟩
  | 6=>exact⟨_,List.mem_of_getElem? (i:=6) rfl,rfl⟩
  | 7=>exact⟨_,List.mem_of_getElem? (i:=7) rfl,rfl⟩
 exact this ⟨k,N⟩
theorem aaQ(h:s∈ab0):s.size<=16:=by
 have:∀s∈ab0,s.size<=16:=by decide +kernel
 exact this s h
theorem abX(w:X):dz W 27 #[] w λe O=>∃g,e=b5 (Z (some ⟨g,0,none⟩) 8 8)∧(w:Nat)<=g∧eJ O g 9 ac2∧Grow w O:=by go_in;go_wp2;go_ret;exact⟨_,rfl,bh _,eJ.made w _ _,(Below.refl _ w).alloc (bh _) _⟩
theorem ab5(w:X)(x:Nat)(D:aV)(h:aaP x D w):dz W 73 #[x] w λe O=>∃s:aR,s∈ab0∧e=b5 (aX s)∧aaP x D O∧dM (λb=>b=x) w O:=by
 go_in;go_wp2_with fail;refine (abX w).mono ?_;rintro e w1 ⟨g,rfl,hgs,hB,eD⟩;have Y:=h.lt;have hn:=aaU w1 x D (h.grow eD) 8 ap ap;rw[show ((8:Nat):Int)=8 from rfl] at hn;go_wp2_with fail;refine hn.mono ?_;rintro e w2 ⟨k,N,rfl,H9,k7⟩;clear hn;have lS:=k7.blk hB (show ¬ g=x by omega);obtain⟨s,hs,E⟩:=ac3 N;have c0:=(lS.cell k).trans E;have YK:¬ 8<=k:=by omega
 go_wp2;go_ret;exact⟨s,hs,rfl,H9,(dM.dK eD).trans k7⟩
theorem acy(w:X)(x:Nat)(D:aV)(h:aaP x D w):dz W 129 #[x] w λe O=>∃v:Nat,1<=v∧v<=o6∧e=b5 (ae ah v)∧aaP x D O∧dM (λb=>b=x) w O:=by
 have hn:=aaU w x D h 12 ap ap;rw[show ((12:Nat):Int)=12 from rfl] at hn;unfold o6;go_in;go_wp2_with fail;refine hn.mono ?_;rintro e w1 ⟨k,N,rfl,hT1,wo⟩;clear hn;have Ya:=aaU w1 x D hT1 1073741824 ap ap;rw[show ((1073741824:Nat):Int)=1073741824 from rfl] at Ya;have Ul:=aaU w1 x D hT1 50 ap ap;rw[show ((50:Nat):Int)=50 from rfl] at Ul;by_cases h0:k=0
 ·have e0:((k:Int) == 0)=true:=beq_iff_eq.2 ap
  clear h0 Ya Ul;go_wp2;go_ret;exact⟨18446744073709551615,by omega,by omega,rfl,hT1,wo⟩
 have e0:((k:Int) == 0)=false:=beq_eq_false_iff_ne.2 ap;by_cases I:k=1
 ·have e1:((k:Int) == 1)=true:=beq_iff_eq.2 ap
  clear h0 I Ya Ul;go_wp2;go_ret;exact⟨9223372036854775808,by omega,by omega,rfl,hT1,wo⟩
 have e1:((k:Int) == 1)=false:=beq_eq_false_iff_ne.2 ap;by_cases G:k=2
 ·have e2:((k:Int) == 2)=true:=beq_iff_eq.2 ap
  clear h0 I G Ul;go_wp2_with fail;refine Ya.mono ?_;rintro e w2 ⟨m,hm,rfl,H9,k7⟩;clear Ya;have wv:IntKind.u64.wrap (m:Int)=(m:Int):=by rw[IntKind.wrap_u64];omega
  have sC:IntKind.u64.wrap ((m:Int)*1048576)=(m:Int)*1048576:=by rw[IntKind.wrap_u64];omega
  have Bg:IntKind.u64.wrap ((m:Int)*1048576+1)=((m*1048576+1:Nat):Int):=by rw[IntKind.wrap_u64];omega
  go_wp2;go_ret;exact⟨m*1048576+1,by omega,by omega,rfl,H9,wo.trans k7⟩
 have e2:((k:Int) == 2)=false:=beq_eq_false_iff_ne.2 ap;clear h0 I G Ya;go_wp2_with fail;refine Ul.mono ?_;rintro e w2 ⟨m,hm,rfl,H9,k7⟩;clear Ul;have wv:IntKind.u64.wrap (m:Int)=(m:Int):=by rw[IntKind.wrap_u64];omega
 have Bg:IntKind.u64.wrap ((m:Int)+1)=((m+1:Nat):Int):=by rw[IntKind.wrap_u64];omega
 go_wp2;go_ret;exact⟨m+1,by omega,by omega,rfl,H9,wo.trans k7⟩
def Kept(l:List Dl):Prop:=∀d∈l,d.1∈ab0∧1<=d.2∧d.2<=o6
theorem Kept.ok{l:List Dl}(h:Kept l):∀d∈l,d.1.size<=dG∧d.2<=o6:=λd hd=>⟨by have:=aaQ (h d hd).1;unfold dG;omega,(h d hd).2.2⟩
theorem abQ(w:X)(x:Nat)(D:aV)(h:aaP x D w)(hDw:∀b,D b->b<(w:Nat))(m:Nat)(ry:1<=m)(zE:m<=1000000):dz W 74 #[x,J m] w λe O=>∃(v:K)(l:List Dl),e=b5 v∧Own O (New w O) 147 2 v l.length (fm l)∧1<=l.length∧l.length<=m∧Kept l∧aaP x D O∧dM (λb=>b=x) w O:=by
 have hn:=aaU w x D h m ry ap;have Z0:=h.lt;go_in;go_wp2_with fail;refine hn.mono ?_;rintro e w1 ⟨k0,ja,rfl,hT1,wo⟩;clear hn h;go_wp2_with fail;go_loopw [5,6] (λo i wr=>∃(j:Nat)(l:List Dl),i=J j∧l.length+j=1+k0∧Own wr (New w wr) 147 2 o l.length (fm l)∧Kept l∧aaP x D wr∧dM (λb=>b=x) w wr) (λ_ i _=>(intOf i).toNat);case atStart=>exact⟨1+k0,[],by go_num,by simp,Own.nil,λd hd=>absurd hd cF,hT1,wo⟩
 case round=>
  clear hT1 wo;obtain⟨j,l,rfl,Z4,hO,hK,hT,hj⟩:=hrel;obtain⟨A1,c1,rfl,Ma,oK,ry⟩:=hO.jL;by_cases hj0:0<j
  ·have Vf:decide ((0:Int)<(j:Int))=true:=aC ap
   go_wp2_with fail;refine (ab5 wr x D hT).mono ?_;rintro e w2 ⟨s,hs,rfl,H9,k7⟩;go_wp2_with fail;refine (acy w2 x D H9).mono ?_;rintro e w3 ⟨v,hv1,rK,rfl,EB,mz⟩;have acN:=hj.trans (k7.trans mz);have nt:Own w3 (New w wr) 147 2 (Z A1 l.length c1) l.length (fm l):=hO.keep λb hb=>(k7.trans mz).block b hb.2 (λe=>by have:=hb.1;omega);have hs23:=(k7.trans mz).size;have hsw:=hj.size;clear Ma hO;go_wp2_with (at_builtin;refine stay ?_);refine dI ?_;have fu:Grow w3 (w3.alloc (.cells #[aX s,ae ah v] 147)):=(Below.refl _ _).alloc (bh _) _;refine fO (V:=New w wr) oQ _ rfl (.tmp 15) (.tmp 21) rfl (Z A1 l.length c1) l.length (fm l) rfl (nt.grow (λb hb=>by have:=hb.2;omega) fu) ((w3:Nat)+1) (some ⟨(w3:Nat),0,none⟩) 1 1 (fm [(s,v)]) rfl (fF w3 _ 147 _ rfl _ rfl) (rQ _) ap ?_;intro v5 w5 Ro ra;have hs5:=ra.size;simp at hs5;have hO6:Own w5 (New w w5) 147 2 v5 (l++[(s,v)]).length (fm (l++[(s,v)])):=by
    rw[bd];have:fm (l++[(s,v)])=fm l++fm [(s,v)]:=by unfold fm;rw[bL]
    rw[this];refine Ro.mono λb hb=>?_;rcases hb with hb|hb
    ·exact⟨hb.1,by have:=hb.2;omega⟩
    ·have h6:=hb.1
     simp at h6;exact⟨by omega,hb.2⟩
   have acO:dM (λb=>b=x) w w5:=abM (abM acN (dM.dK (V:=λ_=>False) fu) (λ_ h=>h.elim)) ra (λb hb => .inl hb.1);have hT6:aaP x D w5:=by obtain⟨h0,A,n,c,xs,p,I,G,L⟩:=EB;have hDb:∀b,D b->b<(w3:Nat)->w5.heap[b]?=w3.heap[b]?:=λb hb uV=>(ra.block b (by simp;omega) (λe=>by have:=e.1;have:=hDw b hb;omega)).trans (fu.block b uV);have hxb:w5.heap[x]?=w3.heap[x]?:=(ra.block x (by simp;have:=I.lt;omega) (λe=>by have:=e.1;omega)).trans (fu.block x I.lt);exact⟨h0,A,n,c,xs,p,hxb.trans I,G.keep hDb,L⟩
   have hK6:Kept (l++[(s,v)]):=λd hd=>by
    rcases List.mem_append.1 hd with hd|hd
    ·exact hK d hd
    ·rw[List.mem_singleton.1 hd];exact⟨hs,hv1,rK⟩
   have hl6:(l++[(s,v)]).length=l.length+1:=by simp
   clear Ro ra H9 EB k7 mz nt fu;generalize l++[(s,v)]=l6 at hO6 hK6 hl6;go_wp2_with fail;go_roundw;case rel=>exact⟨j-1,l6,by go_num,by omega,hO6,hK6,hT6,acO⟩
   case measure=>simp[intOf];omega
  ·obtain rfl:j=0:=by omega
   have Vf:decide ((0:Int)<((0:Nat):Int))=false:=rfl;go_wp2;go_ret;exact⟨_,l,rfl,hO,by omega,by omega,hK,hT,hj⟩
theorem aaZ(a b:abn.Lb)(I:abn.fM s=[a,b])(G:(!abn.slt b.1 a.1)=true)(L:abn.gK [a,b]=0)(h4:abn.txt [a,b]=s):abn.fW s=0:=by
 have E:abn.can [a,b]=[a,b]:=by unfold abn.can;exact List.mergeSort_of_pairwise (by simpa using G)
 unfold abn.fW abn.mx;rw[I,E,L,h4];simp
theorem abN(h:s∈ab0):abn.fW s=0:=by
 simp only[ab0,cI,cF,or_false] at h;rcases h with rfl|rfl|rfl|rfl|rfl|rfl|rfl|rfl
 ·decide +kernel
 ·decide +kernel
 ·exact aaZ (⟨#[97]⟩,⟨#[49]⟩) (⟨#[98]⟩,⟨#[120]⟩) (by decide +kernel) (by decide +kernel) (by decide +kernel) (by decide +kernel)
 ·exact aaZ (⟨#[106,111,98]⟩,⟨#[97,112,105]⟩) (⟨#[122,111,110,101]⟩,⟨#[101,117]⟩) (by decide +kernel) (by decide +kernel) (by decide +kernel) (by decide +kernel)
 ·decide +kernel
 ·decide +kernel
 ·decide +kernel
 ·exact aaZ (⟨#[97]⟩,⟨#[51]⟩) (⟨#[99]⟩,⟨#[57]⟩) (by decide +kernel) (by decide +kernel) (by decide +kernel) (by decide +kernel)
set_option maxRecDepth 100000
set_option maxHeartbeats 1000000
def Few(e:En):Prop:=e.ds.length<=4∧(∀d∈e.ds,d.1.size<=16)∧e.se.size<=16
section
variable{w0:X}{l l':List Bl}{cs:aP}
theorem aaS(h:St V w0 l w)(h':St V w0 l' O)(i j:Nat)(hi:l[i]?=some (.c x 34 cs))(hj:l'[j]?=some (.c x 34 cs))(hT:aaP x D w)(hD:∀b,D b->b<(w0:Nat)∧¬ V b):aaP x D O:=hT.keep ((h'.blk j hj).trans (h.blk i hi).symm) λb hb _=>(h'.just.block b (hD b hb).1 λe=>by rcases e with e|e;exact (hD b hb).2 e;have:=(hD b hb).1;omega).trans (h.just.block b (hD b hb).1 λe=>by rcases e with e|e;exact (hD b hb).2 e;have:=(hD b hb).1;omega).symm
theorem aaR(h:St V w0 (.c x 34 cs::l) w)(hT:aaP x D w)(m:Nat)(I:1<=m)(G:m<=1073741824):dz W 72 #[x,J m] w λe O=>∃(k:Nat)(cs':aP),k<m∧e=b5 (J k)∧aaP x D O∧St V w0 (.c x 34 cs'::l) O:=
 (aaU w x D hT m I G).mono λe O ⟨k,N,he,hT',hj⟩=>by obtain⟨_,A,n,c,xs,p,hB,_⟩:=id hT';exact⟨k,_,N,he,hT',h.turned 0 rfl hj hB⟩
theorem ac4(h:St V w0 (.c x 34 cs::l) w)(hT:aaP x D w)(hD:∀b,D b->b<(w0:Nat)∧¬ V b):dz W 20 #[x] w λen O=>∃(e:En)(A:aU)(c:Nat)(cs':aP),en=b5 (aZ (e.agg A c))∧e.Ok∧Few e∧aaP x D O∧St V w0 (.o (yb ⟨e,A,c⟩)::.c x 34 cs'::l) O:=by
 obtain⟨z,wa,HZ,HA,hS⟩:=h.new' aK 40;have hS:=hS.front 1 rfl;have hN:=aaR hS (aaS h hS 0 0 rfl rfl hT hD) 8 ap ap;go_in;go_wp2_with fail;rw[<-HA.out,<-HZ.out];refine hN.mono ?_;rintro en w1 ⟨k1,cs1,iP,rfl,hT1,ej⟩;clear hN hS HA HZ;have hN:=aaR ej hT1 40 ap ap;go_wp2_with fail;refine hN.mono ?_;rintro en w2 ⟨k2,cs2,ip,rfl,H9,dV⟩;obtain⟨y,wb,HY,HB,dX⟩:=dV.new' #[J 1,(),(),(),(),ay,"",J k1,J k2] 40;have dX:=dX.front 1 rfl;have EB:=aaS dV dX 0 0 rfl rfl H9 hD;clear hN hT1 ej H9 dV;have hN:=aaR dX EB 5 ap ap;go_wp2_with fail;rw[<-HB.out,<-HY.out];refine hN.mono ?_;rintro en w3 ⟨k3,Ju,zd,rfl,uO,eO⟩;clear hN dX EB HB HY;by_cases h0:k3=0
 ·have e0:((k3:Int) == 0)=true:=beq_iff_eq.2 ap
  clear h0;go_wp2_with fail;refine (ab5 w3 x D uO).mono ?_;rintro en w4 ⟨s,hs,rfl,hT5,hj⟩;obtain⟨_,A,n,c,xs,p,hB,_⟩:=id hT5;have eF:St V w0 (.c x 34 _::.c y 40 _::.c z 40 _::l) w4:=eO.turned 0 rfl hj hB;clear eO uO hj;go_wp2_with (refine fv eF 1 rfl 3 _ _ rfl 0 rfl (J 2) rfl (bf rfl) rfl aw rfl ?_;intro w5 eN;refine stay ?_);refine dI ?_;go_wp2_with (refine fv eN 1 rfl 9 _ _ rfl 6 rfl (aX s) rfl (bf rfl) rfl aw rfl ?_;clear eN;intro w6 eN;refine stay ?_);refine dI ?_;go_wp2_with (first|refine kG eN 1 rfl 40 _ rfl rfl Tryz.underlying40 aw rfl ?_|(refine d_ eN 2 rfl 40 _ _ rfl 0 rfl [J 2,(),(),(),(),ay,aX s,J k1,J k2] rfl (bf rfl) rfl aw #[J 2,(),(),(),(),ay,aX s,J k1,J k2] rfl rfl ?_;clear eN;intro w7 fH;refine stay ?_));refine dI ?_;go_wp2;refine bodyPost_ret (fy rfl _ z rfl (fH.blk 2 rfl) Tryz.underlying40 aw) rfl ?_;have fD:St V w0 (.c x 34 _::l) w7:=(fH.dO 1 rfl).dO 1 rfl;refine⟨⟨2,0,0,0,0,[],s,(k1:Int),(k2:Int)⟩,none,0,_,rfl,⟨⟨⟨by show (0:Int)<=(k1:Int);omega,by show (k1:Int)<8;omega⟩,by show (0:Int)<=(k2:Int);omega,by show (k2:Int)<=_;omega⟩,.inr ⟨rfl,rfl,rfl,rfl,rfl,rfl,abN hs,by have:=aaQ hs;show s.size<=1000;omega⟩⟩,⟨bo _,λ_ h=>(by cases h),aaQ hs⟩,aaS eF fD 0 0 rfl rfl hT5 hD,fD.join (yb.framed _) (Grow.refl _) (U:=λ_=>False) ⟨In.nil,bo _,bo _,bo _⟩ (λ_ h=>h.elim)⟩
 ·have e0:((k3:Int) == 0)=false:=beq_eq_false_iff_ne.2 ap
  clear h0;have hN:=aaR eO uO 3 ap ap;go_wp2_with fail;refine hN.mono ?_;rintro en w4 ⟨k4,cs4,j5,rfl,hT5,eF⟩;clear hN uO eO;have hN:=aaR eF hT5 2 ap ap;go_wp2_with fail;refine hN.mono ?_;rintro en w5 ⟨k5,cs5,nS,rfl,hT6,eN⟩;clear hN hT5 eF;have hN:=aaR eN hT6 12 ap ap;go_wp2_with fail;refine hN.mono ?_;rintro en w6 ⟨k6,cs6,UR,rfl,hT7,fH⟩;clear hN hT6 eN;have hw6:IntKind.i64.wrap (1+(k6:Int))=1+(k6:Int):=by rw[IntKind.wrap_i64];(try unfold wrap64);omega
  go_wp2_with (refine d_ fH 1 rfl 37 _ _ rfl 1 rfl [J k4,J k5,J (1+(k6:Int))] rfl (bf rfl) rfl aw #[J 1,J k4,J k5,J (1+(k6:Int)),(),ay,"",J k1,J k2] rfl rfl ?_;intro w7 fD;refine stay ?_);refine dI ?_;have fD:St V w0 (.c x 34 cs6::.c y 40 #[J 1,J k4,J k5,J (1+(k6:Int)),(),ay,"",J k1,J k2]::.c z 40 _::l) w7:=fD;have hT8:=aaS fH fD 0 0 rfl rfl hT7 hD;clear fH hT7;have hN:=aaR fD hT8 9 ap ap;go_wp2_with fail;refine hN.mono ?_;rintro en w8 ⟨k7,cs7,SJ,rfl,hT9,gy⟩;clear hN hT8 fD;obtain⟨sq,Hsq⟩:=az (1+(k6:Int):Int);have pi:1<=sq∧sq<=90:=by have:=Hsq.out;omega
  rw[<-Hsq.out] at gy;by_cases h7:k7=0;case' pos=>
   have e7:((k7:Int) == 0)=true:=beq_iff_eq.2 ap;clear h7 pi;have hN:=aaR gy hT9 90 ap ap;go_wp2_with fail;refine hN.mono ?_;rintro en w9 ⟨k9,cs9,hk9,rfl,acz,iA⟩;clear hN hT9 gy;have hw9:IntKind.i64.wrap (1+(k9:Int))=1+(k9:Int):=by rw[IntKind.wrap_i64];(try unfold wrap64);omega
   obtain⟨sq,Hsq⟩:=az (1+(k9:Int):Int);have pi:1<=sq∧sq<=90:=by have:=Hsq.out;omega
   go_wp2_with (refine fv iA 1 rfl 2 _ _ rfl 3 rfl (J (1+(k9:Int))) rfl (bf rfl) rfl aw rfl ?_;intro UO kQ;refine stay ?_);refine dI ?_;have acn:=aaS iA kQ 0 0 rfl rfl acz hD;rw[<-Hsq.out] at kQ;clear iA acz
  case' neg=>
   have e7:((k7:Int) == 0)=false:=beq_eq_false_iff_ne.2 ap;clear h7;have kQ:=gy;have acn:=hT9;clear gy hT9
  all_goals
   have hN:=aaR kQ acn 4 ap ap
   go_wp2_with fail
   refine hN.mono ?_
   rintro en wd ⟨k8,cs8,YK,rfl,acA,ll⟩
   clear hN acn kQ
   have hw8:IntKind.i64.wrap (1+(k8:Int))=1+(k8:Int):=by rw[IntKind.wrap_i64];(try unfold wrap64);omega
   go_wp2_with (refine fv ll 1 rfl 2 _ _ rfl 4 rfl (J (1+(k8:Int))) rfl (bf rfl) rfl aw rfl ?_;intro we nm;refine stay ?_)
   refine dI ?_
   have acB:=aaS ll nm 0 0 rfl rfl acA hD
   clear ll acA
   have hN:=abQ we x D acB (λb hb=>bw (hD b hb).1 nm.just.size) 4 ap ap
   go_wp2_with fail
   refine hN.mono ?_
   rintro en wf ⟨v,ld,rfl,hO,U8,hl4,hK,acD,hj⟩
   obtain⟨Ad,cd,rfl,hId,CF,hmd⟩:=Own.jL hO
   obtain⟨_,A,n,c,xs,p,hB,_⟩:=id acD
   have C6:=nm.qg hj hB (Mp.framed Ad ld) hId (λb hb=>hb)
   clear hN acB nm hj hO
   go_wp2_with (refine fv C6 2 rfl 38 _ _ rfl 5 rfl (Z Ad ld.length cd) rfl (bf rfl) rfl aw rfl ?_;intro wg Sq;refine stay ?_)
   refine dI ?_
   go_wp2_with (first|refine kG Sq 2 rfl 40 _ rfl rfl Tryz.underlying40 aw rfl ?_|(refine d_ Sq 3 rfl 40 _ _ rfl 0 rfl [J 1,J k4,J k5,J sq,J (1+(k8:Int)),Z Ad ld.length cd,"",J k1,J k2] rfl (bf rfl) rfl aw #[J 1,J k4,J k5,J sq,J (1+(k8:Int)),Z Ad ld.length cd,"",J k1,J k2] rfl rfl ?_;clear Sq;intro wh GU;refine stay ?_))
   refine dI ?_
   go_wp2
   refine bodyPost_ret (fy rfl _ z rfl (GU.blk 3 rfl) Tryz.underlying40 aw) rfl ?_
   have OB:St V w0 (.o (Mp Ad ld)::.c x 34 _::l) wh:=(GU.dO 2 rfl).dO 2 rfl
   have acP:=aaS C6 OB 1 1 rfl rfl acD hD
   refine⟨⟨1,(k4:Int),(k5:Int),sq,1+(k8:Int),ld,⟨#[]⟩,(k1:Int),(k2:Int)⟩,Ad,cd,_,rfl,⟨⟨⟨by show (0:Int)<=(k1:Int);omega,by show (k1:Int)<8;omega⟩,by show (0:Int)<=(k2:Int);omega,by show (k2:Int)<=_;omega⟩,.inl ⟨rfl,rfl,⟨by show (0:Int)<=(k4:Int);omega,by show (k4:Int)<8;omega⟩,⟨by show (0:Int)<=(k5:Int);omega,by show (k5:Int)<4;omega⟩,⟨by show 1<=sq;omega,by show sq<=_;omega⟩,⟨by show 1<=1+(k8:Int);omega,by show 1+(k8:Int)<=_;omega⟩,⟨U8,bB hl4 ap⟩,λd hd=>⟨(hK d hd).2.1,(hK d hd).2.2,abN (hK d hd).1,bB (aaQ (hK d hd).1) ap⟩⟩⟩,⟨hl4,λd hd=>aaQ (hK d hd).1,bo _⟩,acP,St.cls (a:=[.o (Mp Ad ld)]) OB (yb.framed _) λU hM=>?_⟩
   obtain⟨U',hU',hu⟩:=nV (l:=[.o (Mp Ad ld)]) hM 0 rfl
   exact⟨In.mono hU' hu,CF,hmd,bB hl4 ap⟩
end
end Go.Proofs.YtpeepcmdehhbgaaGreatDoor.Tp
section
namespace Go.Proofs.YtpeepcmdehhbgaaGreatDoor.abk
open Go.RowKit Go.Hop Go.Shelf
def abR:Go.Shelf.Ren:=⟨λ|6=>130|15=>192|14=>191|28=>254|29=>255|20=>246|21=>247|22=>248|23=>249|24=>250|25=>251|26=>252|27=>253|46=>312|47=>313|48=>314|49=>315|50=>316|57=>353|n=>n,λ|22=>38|24=>147|25=>230|3=>3|39=>62|0=>0|53=>61|55=>42|4=>4|46=>340|45=>339|50=>344|5=>5|9=>9|66=>390|70=>393|76=>417|77=>418|n=>n,λ|n=>n⟩
theorem ac5:Go.Proofs.SlLaysF0.n6 W abR:={
 mixed:=by kernel_rfl
 f6:=⟨Tryz.f130.name,by decide,Tryz.func130.trans (congrArg some aw)⟩
 f14:=⟨Tryz.f191.name,by decide,Tryz.func191.trans (congrArg some aw)⟩
 f15:=Tryz.func192.trans (congrArg some aw)
 f20:=⟨Tryz.f246.name,by decide,Tryz.func246.trans (congrArg some aw)⟩
 f21:=⟨Tryz.f247.name,by decide,Tryz.func247.trans (congrArg some aw)⟩
 f22:=⟨Tryz.f248.name,by decide,Tryz.func248.trans (congrArg some aw)⟩
 f23:=⟨Tryz.f249.name,by decide,Tryz.func249.trans (congrArg some aw)⟩
 f24:=⟨Tryz.f250.name,by decide,Tryz.func250.trans (congrArg some aw)⟩
 f25:=⟨Tryz.f251.name,by decide,Tryz.func251.trans (congrArg some aw)⟩
 f26:=⟨Tryz.f252.name,by decide,Tryz.func252.trans (congrArg some aw)⟩
 f27:=⟨Tryz.f253.name,by decide,Tryz.func253.trans (congrArg some aw)⟩
 f28:=Tryz.func254.trans (congrArg some aw)
 f29:=Tryz.func255.trans (congrArg some aw)
 f46:=⟨Tryz.f312.name,by decide,Tryz.func312.trans (congrArg some aw)⟩
 f47:=Tryz.func313.trans (congrArg some aw)
 f48:=Tryz.func314.trans (congrArg some aw)
 f49:=⟨Tryz.f315.name,by decide,Tryz.func315.trans (congrArg some aw)⟩
 f50:=⟨Tryz.f316.name,by decide,Tryz.func316.trans (congrArg some aw)⟩
 f57:=⟨Tryz.f353.name,by decide,Tryz.func353.trans (congrArg some aw)⟩
 t0:=Tryz.underlying0
 a0:=Tryz.isAgg0
 z0:=Tryz.sizeOf0
 v0:=Tryz.zeroValue0
 t3:=dp
 a3:=Tryz.isAgg3
 z3:=Tryz.sizeOf3
 v3:=Tryz.zeroValue3
 t4:=Tryz.underlying4
 a4:=Tryz.isAgg4
 z4:=Tryz.sizeOf4
 v4:=Tryz.zeroValue4
 t5:=dm
 a5:=Tryz.isAgg5
 z5:=Tryz.sizeOf5
 v5:=Tryz.zeroValue5
 t9:=cW
 a9:=Tryz.isAgg9
 z9:=Tryz.sizeOf9
 v9:=Tryz.zeroValue9
 t22:=Tryz.underlying38
 a22:=Tryz.isAgg38
 z22:=Tryz.sizeOf38
 v22:=Tryz.zeroValue38
 t25:=Tryz.underlying230
 a25:=Tryz.isAgg230
 z25:=Tryz.sizeOf230
 v25:=Tryz.zeroValue230
 t39:=Tryz.underlying62
 a39:=Tryz.isAgg62
 z39:=Tryz.sizeOf62
 v39:=Tryz.zeroValue62
 t45:=Tryz.underlying339
 a45:=Tryz.isAgg339
 z45:=Tryz.sizeOf339
 v45:=Tryz.zeroValue339
 t46:=Tryz.underlying340
 a46:=Tryz.isAgg340
 z46:=Tryz.sizeOf340
 v46:=Tryz.zeroValue340
 t50:=Tryz.underlying344
 a50:=Tryz.isAgg344
 z50:=Tryz.sizeOf344
 v50:=Tryz.zeroValue344
 t53:=Tryz.underlying61
 a53:=Tryz.isAgg61
 z53:=Tryz.sizeOf61
 v53:=Tryz.zeroValue61
 t55:=Tryz.underlying42
 a55:=Tryz.isAgg42
 z55:=Tryz.sizeOf42
 v55:=Tryz.zeroValue42
 t66:=Tryz.underlying390
 a66:=Tryz.isAgg390
 z66:=Tryz.sizeOf390
 v66:=Tryz.zeroValue390
 t70:=Tryz.underlying393
 a70:=Tryz.isAgg393
 z70:=Tryz.sizeOf393
 v70:=Tryz.zeroValue393
 t76:=Tryz.underlying417
 a76:=Tryz.isAgg417
 z76:=Tryz.sizeOf417
 v76:=Tryz.zeroValue417
 t77:=Tryz.underlying418
 a77:=Tryz.isAgg418
 z77:=Tryz.sizeOf418
 v77:=Tryz.zeroValue418 }
end Go.Proofs.YtpeepcmdehhbgaaGreatDoor.abk
namespace Go.Proofs.YtpeepcmdehhbgaaGreatDoor.abk
open Go.RowKit Go.Hop Go.Shelf
def BA(a b:aR):Int:=if slt a b then -1 else if slt b a then 1 else 0
theorem VI(a b:aR):(!(Op.bytesLess a.toList b.toList||a.toList == b.toList))=slt b a:=by
 cases I:slt a b with
 | true=>
   have G:=xg I;unfold slt at I;rw[I,G];rfl
 | false=>
   have Mx:=I;unfold slt at Mx;rw[Mx,Bool.false_or];cases G:slt b a with
   | false=>
     have:=oU I G;subst this;simp
   | true=>
     have jT:a.toList≠b.toList:=λe=>by have:=FZ.1 e;rw[this,jF] at G;cases G
     simp[jT]
theorem uh(w:X)(a:aR):dz W 193 #[aX a] w λe O=>e=b5 (aY false)∧w=O:=by go_in;go_wp2;go_ret;exact⟨by simp,rfl⟩
theorem Dc(w:X)(a b:aR):dz W 132 #[aX a,aX b] w λe O=>e=b5 (J (BA a b))∧w=O:=by
 have H:=VI a b;unfold BA;cases I:slt a b with
 | true=>
   rw[aA rfl];unfold slt at I;go_in;go_wp2_with (go_at_call 193;refine (uh _ _).mono ?_;rintro e O ⟨rfl,rfl⟩);go_ret;exact⟨rfl,rfl⟩
 | false=>
   rw[aB (by simp)];unfold slt at I;cases G:slt b a with
   | true=>
     rw[aA rfl];rw[G] at H;go_in;go_wp2_with (go_at_call 193;refine (uh _ _).mono ?_;rintro e O ⟨rfl,rfl⟩);all_goals first|(go_ret;exact⟨rfl,rfl⟩)|simp_all
   | false=>
     rw[aB (by simp)];rw[G] at H;go_in;go_wp2_with (go_at_call 193;refine (uh _ _).mono ?_;rintro e O ⟨rfl,rfl⟩);all_goals first|(go_ret;exact⟨rfl,rfl⟩)|simp_all
theorem ach(x y:Dl)(abq:X):dz W 131 #[aZ #[aX x.1,ae ah x.2],aZ #[aX y.1,ae ah y.2]] abq λe O=>e=b5 (J (BA x.1 y.1))∧∃q os',O=Sort.grow (abq.drewN q) os':=by have hcon:=λW'=>Dc W' x.1 y.1;generalize BA x.1 y.1=r at hcon ⊢;go_in;go_wp2_with (go_at_call 132;refine (hcon _).mono ?_;rintro e O ⟨rfl,rfl⟩);go_ret;exact⟨rfl,0,_,by rw[Sort.alloc_eq_grow,Sort.alloc_eq_grow,Sort.grow_grow];rfl⟩
theorem ab4(x y:Dl):Go.Proofs.ltOf (λx y:Dl=>BA x.1 y.1) x y=slt x.1 y.1:=by unfold Go.Proofs.ltOf BA;cases I:slt x.1 y.1<;>cases G:slt y.1 x.1<;>simp[I,G]
theorem swo:Sort.SWO (Go.Proofs.ltOf λx y:Dl=>BA x.1 y.1) where
 irrefl x:=by rw[ab4];exact jF _
 trans x y z h k:=by rw[ab4] at *;exact rU h k
 ntrans x y z h k:=by
  rw[ab4] at *;cases hz:slt x.1 z.1 with
  | false=>rfl
  | true=>
    cases QJ:slt z.1 y.1 with
    | true=>rw[rU hz QJ] at h;cases h
    | false=>have e:=oU k QJ;rw[e,hz] at h;cases h
theorem abG(l:List Dl)(j:Nat)(hj:j<l.length*2):(fm l)[j]?=some (Sort.flatK mN 2 l.toArray)[j]!:=by
 have h:=flat_get mN 2 iH l (j / 2) (j % 2) ap (Nat.mod_lt _ ap);rw[show j / 2*2+j % 2=j by omega] at h;unfold fm;rw[h,Sort.get_flatK mN 2 l.toArray j (by simpa using hj)];have G:j / 2<l.length:=by omega
 have L:l.toArray[j / 2]! = l[j / 2]:=by simp[G]
 rw[L];have h4:j % 2<(mN l[j / 2]).length:=by rw[iH];exact Nat.mod_lt _ ap
 rw[List.getElem?_eq_getElem h4];simp[h4]
theorem ac6(w:X)(g c:Nat)(l:List Dl)(cur:aP)(H:w.heap[g]?=some (.cells cur 147 (0,0)))(a62:cur.toList.take (l.length*2)=fm l)(hl:l.length<4611686018427387904):dz W 130 #[Z (some ⟨g,0,none⟩) l.length c,.func (.func 131) #[] #[]] w λe O=>e=b5 (a_ #[])∧∃l':List Dl,l'.Perm l∧(∀i j(hi:i<l'.length)(hj:j<l'.length),i<j->slt l'[j].1 l'[i].1=false)∧In O (λb=>b=g) 2 (some ⟨g,0,none⟩) l.length (fm l')∧dM (λb=>b=g) w O:=by
 have z8:g<(w:Nat):=(Array.getElem?_eq_some_iff.1 H).1;have hH:Sort.HoldsK mN 2 w g 0 l.toArray:=λj hj=>by
  rw[Sort.size_flatK] at hj;have lR:j<l.length*2:=by simpa using hj
  have E:=abG l j lR;rw[<-a62,List.getElem?_take_of_lt lR,Array.getElem?_toList] at E;refine⟨?_,?_⟩
  ·unfold World.cell?
   simp only[H,cJ];exact E
  ·unfold World.frozen?
   simp only[H];simp
 have eg:∀args w,(callFunc 131 args).run W w=.ok (.enter 131 args) w:=λargs w=>by go_simp
 have hcon:=Go.Proofs.AnyQ.slices_SortFunc ac5 2 Tryz.isAgg147 Tryz.sizeOf147 mN iH (λx v hv=>by simp only[mN,cI,cF,or_false] at hv;rcases hv with rfl|rfl<;>rfl) (λx y:Dl=>BA x.1 y.1) swo 131 #[] g 0 c l.toArray w eg (λm os dk _ x y=>ach x y _) hH z8 (by simpa using hl);change dz W 130 _ _ _ at hcon;rw[cy] at hcon;refine hcon.mono ?_;rintro e O ⟨he,d',n,os,hp,hs,rfl⟩;obtain⟨l',rfl⟩:∃l':List Dl,d'=l'.toArray:=⟨d'.toList,by simp⟩;have wu:l'.length=l.length:=by have:=hp.1;simpa using this
 have hH':=Go.Proofs.holdsK_sortWorldK mN 2 w g 0 n l.toArray l'.toArray os z8 hH hp.1;have iZ:=Go.Proofs.size_sortWorldK_c mN 2 w g 0 n l'.toArray os;refine⟨he,l',?_,λi j hi hj wJ=>?_,⟨by rw[ka,wu],λhn=>⟨_,rfl,rfl,bw z8 iZ,λj u hu=>?_⟩⟩,⟨rfl,rfl,rfl,iZ,λb hb Y2=>?_⟩⟩
 ·have:=hp.2.2
  simp only[List.extract_toArray,List.extract_eq_take_drop,List.drop_zero,Nat.sub_zero] at this;rwa [bH ap,bH ap] at this
 ·have:=hs i j (bo _) wJ ap
  rw[ab4] at this;simpa [hi,hj] using this
 ·have hj:j<l'.length*2:=by
   have:=(List.getElem?_eq_some_iff.1 hu).1;rwa [ka] at this
  have I:=(hH' j (by simpa [Sort.size_flatK] using hj)).1
  rw[Addr.add_lit,<-hu,abG l' j hj]
  exact I
 ·have vn:b<(w.heap.modify g (Sort.onCells (Sort.putCells id 0 (Sort.flatK mN 2 l'.toArray)))).size:=by simpa using hb
  show ((w.heap.modify g (Sort.onCells (Sort.putCells id 0 (Sort.flatK mN 2 l'.toArray))))++os)[b]?=w.heap[b]?;rw[Array.getElem?_append_left vn,Array.getElem?_modify,aB (λe=>Y2 e.symm)]
end Go.Proofs.YtpeepcmdehhbgaaGreatDoor.abk
end
namespace Go.Proofs.YtpeepcmdehhbgaaGreatDoor.abk
open RowKit Hop
theorem aaW{q:Sm}(hs:Rh q){x:aR}{v:Nat}:lk q x=some v↔(x,v)∈q:=⟨xh,λh=>F_ hs h⟩
theorem abY{q l:Sm}(hq:Rh q)(hp:l.Perm q)(hs:∀i j(hi:i<l.length)(hj:j<l.length),i<j->slt l[j].1 l[i].1=false):l=q:=by
 have hn:(q.map (·.1)).Nodup:=by unfold List.Nodup;rw[List.pairwise_map];exact hq.imp λh e=>by rw[e,jF] at h;cases h
 have YQ:(l.map (·.1)).Nodup:=(hp.map (·.1)).nodup_iff.2 hn;have hl:Rh l:=by
  refine List.pairwise_iff_getElem.2 λi j hi hj wJ=>?_;cases h:slt l[i].1 l[j].1 with
  | true=>rfl
  | false=>
    have e:=oU h (hs i j hi hj wJ);have:=(List.pairwise_iff_getElem.1 YQ) i j (by simpa using hi) (by simpa using hj) wJ;simp only[di] at this;exact absurd e this
 refine vW hl hq λx=>?_;cases I:lk l x with
 | some v=>exact ((aaW hq).2 (hp.mem_iff.1 ((aaW hl).1 I))).symm
 | none=>
   cases G:lk q x with
   | none=>rfl
   | some v=>rw[(aaW hl).2 (hp.mem_iff.2 ((aaW hq).1 G))] at I;cases I
theorem abU{l q:List Dl}(I:l.Nodup)(G:q.Nodup)(h:∀d,d∈l↔d∈q):l.Perm q:=(List.perm_ext_iff_of_nodup I G).2 h
theorem od(w:X)(A:aU)(n c:Nat)(hn:n<=c):dz W 133 #[Z A n c] w λe O=>e=b5 (Z A n n)∧w=O:=by go_in;go_wp2;go_ret;exact⟨rfl,rfl⟩
theorem ac7(acM:∀w:X,dz W 130 #[ay,.func (.func 131) #[] #[]] w λe O=>e=b5 (a_ #[])∧O=w)(w:X)(s:Nat)(q:Sm)(V:aV)(h:gT s q w V)(hq:q.length<=1048576):dz W 75 #[s] w λe O=>∃A,e=b5 (Z A q.length q.length)∧In O (New w O) 2 A q.length (fm q)∧Grow w O:=by
 obtain⟨I,G,b,L,h4,uW,uY⟩:=h;have c0:=uW.cell 0;obtain⟨w1,eR,⟨acE,aco,ac8⟩,eD,Ql⟩:=SMap.range Ry uY;have pJ:q.Nodup:=G.pB.imp λh e=>by rw[e,jF] at h;cases h
 obtain⟨r,HR⟩:=az ((w:Nat):Nat);go_in;go_wp2_with fail;rw[<-HR.out] at aco ⊢;clear eR c0;go_loopw [3] (λo wr=>∃(left:ByteArray->Bool)(cnt:Nat)(es:List Dl),Own wr (λb=>New w wr b∧b≠r) 147 2 o es.length (fm es)∧jb W 9 42 .u64 wr b r q.length (fq q) left cnt∧es.Nodup∧(∀d,d∈es↔d∈q∧left d.1=false)∧Grow w wr) (λ_ wr=>wr.rangeLeft b r);case atStart=>
  refine⟨acE,_,[],Own.nil,aco,List.nodup_nil,λd=>⟨λh=>absurd h cF,λ⟨hd,hl⟩=>?_⟩,eD⟩;have:(lk q d.1).isSome=true:=by rw[F_ G.pB hd];rfl
  rw[ac8 d.1 (G.txt d hd),BK,this] at hl;cases hl
 case round=>
  clear aco ac8 eD;obtain⟨left,cnt,es,hO,Fw,aci,CP,jU⟩:=hrel;obtain⟨A1,c1,rfl,Ma,oK,ry⟩:=hO.jL;have hel:es.length<=q.length:=by have hp:=abU aci (pJ.filter λd => !left d.1) (λd=>by rw[CP,List.mem_filter];simp);rw[hp.length_eq];exact c_ _ _
  rcases Fw.next Ry 0 with ⟨h0,hl0,eR⟩|⟨x,v,w3,cnt3,QF,hlx,Y8,hwv,eR,VT,fS,mz,hen⟩
  ·have ack:es.Perm q:=abU aci pJ λd=>by rw[CP,hl0];simp
   have fj:=Q ack.length_eq;have QH:=Fw.lt;rcases hO.2 with ⟨hv,y_⟩|⟨g,cap,cur,hv,hVg,pO,iS,iO,iZ,j9⟩
   ·obtain rfl:es=[]:=bu y_
    obtain rfl:q=[]:=bu fj.out.symm;injection hv with hv1 rK hv3;subst hv1 hv3;clear hO Ma;go_wp2_with fail;refine (acM _).mono ?_;rintro e w5 ⟨rfl,rfl⟩;go_wp2_with fail;refine (od _ none 0 0 (bh _)).mono ?_;rintro e w6 ⟨rfl,rfl⟩;go_wp2;go_ret;exact⟨none,rfl,In.nil,jU⟩
   ·injection hv with hv1 rK hv3
    subst hv1 hv3;have acl:=ac6 wr g c1 es cur pO j9 ap;clear hO Ma pO j9 iO iZ;go_wp2_with fail;refine acl.mono ?_;rintro e w5 ⟨rfl,l',hp,hs,hI,hj⟩;obtain rfl:l'=q:=abY G.pB (hp.trans ack) hs;clear acl;go_wp2_with fail;refine (od _ (some ⟨g,0,none⟩) es.length c1 oK).mono ?_;rintro e w6 ⟨rfl,rfl⟩;go_wp2;go_ret;have hs5:=hj.size;refine⟨some ⟨g,0,none⟩,by first|rfl|(rw[fj.out];rfl),?_,Below.trans jU (hj.below (B:=(w:Nat)) (λb hb=>by rw[hb];exact hVg.1.1) jU.size)⟩;rw[fj.out] at hI;exact In.mono hI λb hb=>by rw[hb];exact⟨hVg.1.1,bw hVg.1.2 hs5⟩
  ·obtain⟨v',hv'⟩:∃v',lk q x=some v':=by
    unfold fq at Y8;cases hl:lk q x with
    | none=>rw[hl] at Y8;cases Y8
    | some v'=>exact⟨v',rfl⟩
   obtain rfl:v=(v':Int):=by unfold fq at Y8;rw[hv'] at Y8;injection Y8 with Y8;exact Y8.symm
   have m9:=(aaW G.pB).1 hv'
   have Y7:(w:Nat)<=r:=by rw[HR.out];exact bh _
   have hbr:b≠r:=Fw.ne.symm
   have uV:=uY.lt
   have QH:=Fw.lt
   have ib:Grow w w3:=Below.trans jU (mz.below (B:=(w:Nat)) (λb hb=>by rw[hb];exact Y7) jU.size)
   have Mb:=mz.size
   have nt:Own w3 (λb=>New w wr b∧b≠r) 147 2 (Z A1 es.length c1) es.length (fm es):=hO.keep λb hb=>mz.block b hb.1.2 hb.2
   have Ur:w3.rangeLeft b r<wr.rangeLeft b r:=by rw[VT.left_eq,Fw.left_eq];exact fS
   have a1C:(x,v') ∉ es:=λh=>by have:=((CP _).1 h).2;rw[hlx] at this;cases this
   have fu:Grow w3 (w3.alloc (.cells #[aX x,ae ah v'] 147)):=(Below.refl _ _).alloc (bh _) _
   clear hO Ma Y8 hwv
   go_wp2_with (at_builtin;refine stay ?_)
   refine dI ?_
   refine fO (V:=λb=>New w wr b∧b≠r) oQ _ rfl (.tmp 16) (.tmp 20) rfl (Z A1 es.length c1) es.length (fm es) rfl (nt.grow (λb hb=>by have:=hb.1.2;omega) fu) ((w3:Nat)+1) (some ⟨(w3:Nat),0,none⟩) 1 1 (fm [(x,v')]) rfl (fF w3 _ 147 _ rfl _ rfl) (rQ _) ap ?_
   intro v5 w5 Ro ra
   have hs5:=ra.size
   simp at hs5
   have ng:Grow w w5:=Below.trans (eQ ib fu ib.size) (ra.below (B:=(w:Nat)) (λb hb=>hb.1.1) (by simp;omega))
   have hO6:Own w5 (λb=>New w w5 b∧b≠r) 147 2 v5 (es++[(x,v')]).length (fm (es++[(x,v')])):=by
    rw[bd];have:fm (es++[(x,v')])=fm es++fm [(x,v')]:=by unfold fm;rw[bL]
    rw[this];refine Ro.mono λb hb=>?_;rcases hb with hb|hb
    ·exact⟨⟨hb.1.1,by have:=hb.1.2;omega⟩,hb.2⟩
    ·have h6:=hb.1
     simp at h6;exact⟨⟨by omega,hb.2⟩,by omega⟩
   have acF:=(VT.grow fu).just ra (λh=>by have:=h.1.1;omega) (λh=>h.2 rfl)
   have acp:w5.rangeLeft b r<wr.rangeLeft b r:=by rw[acF.left_eq,Fw.left_eq];exact fS
   have acG:∀d,d∈es++[(x,v')]↔d∈q∧(left d.1&&decide (d.1≠x))=false:=λd=>by
    rw[List.mem_append,List.mem_singleton,CP];constructor
    ·rintro (⟨h,hl⟩|rfl)
     ·exact⟨h,by rw[hl];rfl⟩
     ·exact⟨m9,by simp⟩
    ·rintro ⟨h,hl⟩
     by_cases Zo:d.1=x
     ·right
      have h8:=F_ G.pB h;rw[Zo,hv'] at h8;injection h8 with h8;exact Prod.ext Zo h8.symm
     ·left
      refine⟨h,?_⟩;simpa [Zo] using hl
   have acH:(es++[(x,v')]).Nodup:=List.nodup_append.2 ⟨aci,by simp,λa ha c E e=>by rw[List.mem_singleton.1 E] at e;exact a1C (e▸ha)⟩
   clear Ro ra nt mz Ur VT CP aci ib fu
   generalize es++[(x,v')]=es5 at hO6 acG acH
   go_wp2_with fail
   go_roundw
   case rel=>exact⟨_,cnt3,es5,hO6,acF,acH,acG,ng⟩
   case measure=>exact acp
theorem abZ(w:X):dz W 130 #[ay,.func (.func 131) #[] #[]] w λe O=>e=b5 (a_ #[])∧O=w:=Go.Proofs.AnyF.slices_SortFunc_none ac5 none 0 _ w
end Go.Proofs.YtpeepcmdehhbgaaGreatDoor.abk
