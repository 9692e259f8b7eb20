/- Lsort, Qque, Qadd1. -/
import Derived.Test.YtpeepcmdehhbgaaGreatDoorJs05
import Derived.Shelf.SlSortCmp.InsertionK
import Derived.Ground.SlsfProg
set_option linter.all false
set_option maxRecDepth 100000
open Go.Value renaming int->ae,slice->Z,string->aX,bool->aY,agg->aZ,tuple->a_
open Go.Ending renaming returned->b5
open Go.IntKind renaming i64->af,u64->ah
open Go (J az aE aA aB aC aD ay aj am ap aw aL aK aJ aI aH aV aU aT aR aQ aP aO aN)
open Go.Proofs.Tryz renaming prog->W,underlying3->dp
open Go.Lib renaming hid->Q
open Nat renaming le_refl->bh,zero_le->bo,lt_of_lt_of_le->bw,le_trans->bB,eq_zero_or_pos->b_,zero_add->cJ
open List renaming length_map->bj,eq_nil_of_length_eq_zero->bu,take_of_length_le->bH,nil_append->ch,size_toArray->cy,not_mem_nil->cF,mem_cons->cI
open Go renaming Value->K,World->X,Calls->dz,maxLen->dG
variable{g:Nat}{last:Int}{w:X}{V:aV}
section
namespace Go.Proofs.YtpeepcmdehhbgaaGreatDoor.abn
open Go.Shelf
def Nm:Go.Shelf.Ren:=⟨λ|20=>358|n=>n,λ|24=>66|22=>67|3=>3|25=>354|4=>4|0=>0|n=>n,λ|n=>n⟩
def a3Q:Go.Proofs.SlLaysF0.n20 W Nm:={
 mixed:=by kernel_rfl
 f20:=⟨Tryz.f358.name,by decide,Tryz.func358.trans (congrArg some aw)⟩
 t0:=Tryz.underlying0
 a0:=Tryz.isAgg0
 z0:=Tryz.sizeOf0
 v0:=Tryz.zeroValue0
 t3:=dp
 a3:=Tryz.isAgg3
 z3:=Tryz.sizeOf3
 v3:=Tryz.zeroValue3
 t4:=Tryz.underlying4
 a4:=Tryz.isAgg4
 z4:=Tryz.sizeOf4
 v4:=Tryz.zeroValue4
 t22:=Tryz.underlying67
 a22:=Tryz.isAgg67
 z22:=Tryz.sizeOf67
 v22:=Tryz.zeroValue67
 t25:=Tryz.underlying354
 a25:=Tryz.isAgg354
 z25:=Tryz.sizeOf354
 v25:=Tryz.zeroValue354 }
end Go.Proofs.YtpeepcmdehhbgaaGreatDoor.abn
namespace Go.Proofs.YtpeepcmdehhbgaaGreatDoor.abn
open Go.RowKit Go.Hop Go.Shelf
theorem Kt(w:X)(V:aV)(A:aU)(n c:Nat)(l:List Lb)(h:In w V 2 A n (gF l))(hn:n<=1048576):dz W 265 #[Z A n c] w λe O=>∃v,e=b5 v∧Own O (New w O) 66 2 v n (gF l)∧Grow w O:=by
 have kS:=λ(O:X)=>Lib.run_eql_slice_nil (P:=W) O 67 66 A n c 0 0 Tryz.underlying67;cases A with
 | none=>
   have y_:n=0:=by
    rcases b_ n with h0|h0
    ·exact h0
    ·obtain⟨_,e,_⟩:=h.2 h0;cases e
   subst y_;obtain rfl:l=[]:=bu (LIn.len h);go_in;go_wp2;go_ret;exact⟨_,rfl,Own.nil,Grow.refl _⟩
 | some ad=>
   go_in;go_wp2_with (at_builtin;refine stay ?_);refine dI ?_;refine fO (V:=λb=>b=(w:Nat)) MR _ rfl (.tmp 5) (.tmp 6) rfl (Z (some ⟨(w:Nat),0,none⟩) 0 0) 0 [] rfl (lC w _ _) (w:Nat) (some ad) n c (gF l) rfl (Reads.alloc (In.reads h) (bh _) _) (wZ l) ap ?_;intro v1 w1 kv wo;simp only[cJ,ch] at kv;obtain⟨sw,eD⟩:=ny kv wo;go_wp2;go_ret;exact⟨v1,rfl,sw,eD⟩
def Dj(w:X)(A:aU)(n c:Nat)(hn:n<=c):dz W 148 #[Z A n c] w λe O=>e=b5 (Z A n n)∧w=O:=by go_in;go_wp2;go_ret;exact⟨rfl,rfl⟩
def Nn(x y:Lb)(abq:X):dz W 267 #[aZ #[aX x.1,aX x.2],aZ #[aX y.1,aX y.2]] abq λe O=>e=b5 (J (BA x.1 y.1))∧∃q os',O=Sort.grow (abq.drewN q) os':=by have hcon:=λW'=>Dc W' x.1 y.1;generalize BA x.1 y.1=r at hcon ⊢;go_in;go_wp2_with (go_at_call 132;refine (hcon _).mono ?_;rintro e O ⟨rfl,rfl⟩);go_ret;exact⟨rfl,0,_,by rw[Sort.alloc_eq_grow,Sort.alloc_eq_grow,Sort.grow_grow];rfl⟩
def BH(x y:Lb):Go.Proofs.ltOf (λx y:Lb=>BA x.1 y.1) x y=slt x.1 y.1:=by unfold Go.Proofs.ltOf BA;cases I:slt x.1 y.1<;>cases G:slt y.1 x.1<;>simp[I,G]
def a3R:Sort.SWO (Go.Proofs.ltOf λx y:Lb=>BA x.1 y.1) where
 irrefl x:=by rw[BH];exact jF _
 trans x y z h k:=by rw[BH] at *;exact rU h k
 ntrans x y z h k:=by rw[BH] at *;exact IL h k
def xo(l:List Lb)(j:Nat)(hj:j<l.length*2):(gF l)[j]?=some (Sort.flatK mc 2 l.toArray)[j]!:=by
 have h:=flat_get mc 2 oc l (j / 2) (j % 2) ap (Nat.mod_lt _ ap);rw[show j / 2*2+j % 2=j by omega] at h;unfold gF;rw[h,Sort.get_flatK mc 2 l.toArray j (by simpa using hj)];have G:j / 2<l.length:=by omega
 have L:l.toArray[j / 2]! = l[j / 2]:=by simp[G]
 rw[L];have h4:j % 2<(mc l[j / 2]).length:=by rw[oc];exact Nat.mod_lt _ ap
 rw[List.getElem?_eq_getElem h4];simp[h4]
structure kF(q l:List Lb):Prop where
 perm:q.Perm l
 pB:q.Pairwise λa b=>slt b.1 a.1=false
def Rr(w:X)(g c:Nat)(l:List Lb)(cur:aP)(H:w.heap[g]?=some (.cells cur 66 (0,0)))(a62:cur.toList.take (l.length*2)=gF l)(hl:l.length<4611686018427387904):dz W 358 #[Z (some (g,0)) l.length c,(),J l.length,.func (.func 267) #[] #[]] w λe O=>e=b5 (a_ #[])∧∃q:List Lb,kF q l∧In O (λb=>b=g) 2 (some (g,0)) l.length (gF q)∧dM (λb=>b=g) w O:=by
 have z8:g<(w:Nat):=(Array.getElem?_eq_some_iff.1 H).1;have hH:Sort.HoldsK mc 2 w g 0 l.toArray:=λj hj=>by
  rw[Sort.size_flatK] at hj;have lR:j<l.length*2:=by simpa using hj
  have E:=xo l j lR;rw[<-a62,List.getElem?_take_of_lt lR,Array.getElem?_toList] at E;refine⟨?_,?_⟩
  ·unfold World.cell?
   simp only[H,cJ];exact E
  ·unfold World.frozen?
   simp only[H];simp
 have eg:∀args w,(callFunc 267 args).run W w=.ok (.enter 267 args) w:=λargs w=>by go_simp
 have hcon:=Go.Proofs.AnyQ.insertionSortCmpFunc a3Q 2 Tryz.isAgg66 Tryz.sizeOf66 mc oc (λx v hv=>by simp only[mc,cI,cF,or_false] at hv;rcases hv with rfl|rfl<;>rfl) (λx y:Lb=>BA x.1 y.1) 267 #[] g 0 c 0 l.length l.toArray w eg (λm os dk _ x y=>Nn x y _) hH z8 (bo _) (by simp) (by simpa using hl);change dz W 358 _ _ _ at hcon;rw[cy] at hcon;refine hcon.mono ?_;rintro e O ⟨he,n,os,rfl⟩;have hh:=Sort.insertionSort_holds a3R l.toArray 0 l.length (bo _) (by simp);generalize Sort.insertionSort (Go.Proofs.ltOf λx y:Lb=>BA x.1 y.1) l.toArray 0 l.length=d' at hh ⊢;obtain⟨q,rfl⟩:∃q:List Lb,d'=q.toArray:=⟨d'.toList,by simp⟩;have hp:=hh.1;have hs:=hh.2;have wu:q.length=l.length:=by have:=hp.1;simpa using this
 have hH':=Go.Proofs.holdsK_sortWorldK_c mc 2 w g 0 l.toArray q.toArray n os hH z8 hp.1;have iZ:=Go.Proofs.size_sortWorldK_c mc 2 w g 0 n q.toArray os;refine⟨he,q,⟨?_,List.pairwise_iff_getElem.2 λi j hi hj wJ=>?_⟩,⟨by rw[oR,wu],λhn=>⟨_,rfl,rfl,bw z8 iZ,λj u hu=>?_⟩⟩,⟨rfl,rfl,rfl,iZ,λb hb Y2=>?_⟩⟩
 ·have:=hp.2.2
  simp only[List.extract_toArray,List.extract_eq_take_drop,List.drop_zero,Nat.sub_zero] at this;rwa [bH ap,bH ap] at this
 ·have:=hs i j (bo _) wJ ap
  rw[BH] at this;simpa [hi,hj] using this
 ·have hj:j<q.length*2:=by
   have:=(List.getElem?_eq_some_iff.1 hu).1;rwa [oR] at this
  have I:=(hH' j (by simpa [Sort.size_flatK] using hj)).1
  rw[Addr.add_lit,<-hu,xo q j hj]
  exact I
 ·have vn:b<(w.heap.modify g (Sort.onCells (Sort.putCells id 0 (Sort.flatK mc 2 q.toArray)))).size:=by simpa using hb
  show ((w.heap.modify g (Sort.onCells (Sort.putCells id 0 (Sort.flatK mc 2 q.toArray))))++os)[b]?=w.heap[b]?;rw[Array.getElem?_append_left vn,Array.getElem?_modify,aB (λe=>Y2 e.symm)]
def Np(w:X)(A:aU)(c:Nat)(f:K):dz W 358 #[Z A 0 c,(),(),f] w λe O=>e=b5 (a_ #[])∧w=O:=by
 go_in;go_wp2_with fail;go_loop [8] (λi=>i=J 1) (λ_=>0);case atStart=>rfl
 case round=>
  obtain rfl:=hrel;go_wp2;go_end0;exact⟨rfl,rfl⟩
def G5(w:X)(A:aU)(n c:Nat)(l:List Lb)(hn:n<=19)(V:aV)(hO:Own w V 66 2 (Z A n c) n (gF l)):dz W 266 #[Z A n c,.func (.func 267) #[] #[]] w λe O=>e=b5 (a_ #[])∧∃q:List Lb,kF q l∧In O V 2 A n (gF q)∧dM V w O:=by
 have hl:l.length=n:=by have:=hO.1;rw[oR] at this;omega
 have Y3:dz W 358 #[Z A n c,(),J n,.func (.func 267) #[] #[]] w λe O=>e=b5 (a_ #[])∧∃q:List Lb,kF q l∧In O V 2 A n (gF q)∧dM V w O:=by
  rcases hO.2 with ⟨I,h0⟩|⟨g,cap,cur,I,hV,H,iS,iO,iZ,j9⟩
  ·subst h0
   obtain rfl:l=[]:=bu hl;refine (Np w A c _).mono ?_;rintro e O ⟨he,rfl⟩;exact⟨he,[],⟨List.Perm.refl _,List.Pairwise.nil⟩,In.nil,dM.dK (Grow.refl _)⟩
  ·injection I with I _ L
   subst I L;rw[<-hl] at j9;have:=Rr w g c l cur H j9 ap;rw[hl] at this;refine this.mono ?_;rintro e O ⟨he,q,hq,hI,hj⟩;exact⟨he,q,hq,hI.mono λb hb=>by rw[hb];exact hV,hj.imp λb hb=>by rw[hb];exact hV⟩
 have kY:dz W 325 #[Z A n c,J n,.func (.func 267) #[] #[]] w λe O=>e=b5 (a_ #[])∧∃q:List Lb,kF q l∧In O V 2 A n (gF q)∧dM V w O:=by
  have h20:decide ((20:Int)<=(n:Int))=false:=aD ap;have h20':decide ((20:Int)<(n:Int))=false:=aD ap;clear hO;go_in;go_wp2_with fail;go_loop [7,8] (λa b=>a=J 0∧b=J 20) (λ_ _=>0);case atStart=>exact⟨rfl,rfl⟩
  case round=>
   obtain⟨rfl,rfl⟩:=hrel;go_wp2_with fail;refine Y3.mono ?_;rintro e w2 ⟨rfl,abj⟩;clear Y3;have HH:=Q abj;clear abj;go_wp2_with fail;go_loop [6] (λa=>a=J 20) (λ_=>0);case atStart=>rfl
   case round=>
    obtain rfl:=hrel;go_wp2;go_end0;exact⟨rfl,HH.out⟩
 clear Y3 hO;go_in;go_wp2_with fail;refine kY.mono ?_;rintro e w2 ⟨rfl,abj⟩;clear kY;have HH:=Q abj;clear abj;go_wp2;go_end0;exact⟨rfl,HH.out⟩
def xp(w:X)(V:aV)(A:aU)(n c:Nat)(l:List Lb)(h:In w V 2 A n (gF l))(hn:n<=19):dz W 204 #[Z A n c] w λe O=>∃A' q,e=b5 (Z A' n n)∧kF q l∧In O (New w O) 2 A' n (gF q)∧Grow w O:=by go_in;go_wp2_with fail;refine (Kt w V A n c l h ap).mono ?_;rintro e w1 ⟨v,rfl,hO,eD⟩;obtain⟨A1,c1,rfl,_,iS,_⟩:=hO.jL;have kY:=G5 w1 A1 n c1 l hn (New w w1) hO;clear hO;go_wp2_with fail;refine kY.mono ?_;rintro e w2 ⟨rfl,q,hq,hI,hj⟩;clear kY;go_wp2_with (go_at_call 148;refine (Dj _ _ _ _ iS).mono ?_;rintro e O ⟨rfl,rfl⟩);go_ret;have hs:=eD.size;have z6:=hj.size;exact⟨A1,q,rfl,hq,hI.mono λb hb=>⟨hb.1,by have:=hb.2;omega⟩,Below.trans eD (hj.below (B:=(w:Nat)) (λb hb=>hb.1) hs)⟩
end Go.Proofs.YtpeepcmdehhbgaaGreatDoor.abn
end
namespace Go.Proofs.YtpeepcmdehhbgaaGreatDoor.abo
open RowKit Hop
abbrev Ab:=Int×List Dl
def eh(g:Nat)(l:List Ab)(last:Int):dW:=λw V=>
 V g∧∃(v:K)(q:List iE)(R D:aV),q.map iE.abs=l∧q.length<=16∧eJ w g 266 #[v,J last]∧Row w R 196 2 v q.length (q.flatMap iE.cells)∧(∀b∈q,iQ w D b)∧(∀b,R b->V b∧b≠g∧¬ D b)∧(∀b,D b->V b∧b≠g)
theorem iQ.keep{w O:X}{V:aV}{b:iE}(h:iQ w V b)(N:∀b,V b->b<(w:Nat)->O.heap[b]?=w.heap[b]?):iQ O V b:=⟨In.keep h.ds N,h.le,h.max,h.small⟩
def eh.framed(g:Nat)(l:List Ab)(last:Int):eu (eh g l last):=λw O V h N=>by obtain⟨I,v,q,R,D,G,L,h4,h5,h6,h7,h8⟩:=h;exact⟨I,v,q,R,D,G,L,(N g I).trans h4,h5.keep λb hb _=>N b (h7 b hb).1,λb hb=>(h6 b hb).keep λx Y _=>N x (h8 x Y).1,h7,h8⟩
def eh.wide{l:List Ab}{V':aV}(h:eh g l last w V)(hV:∀b,V b->V' b):eh g l last w V':=by obtain⟨I,v,q,R,D,G,L,h4,h5,h6,h7,h8⟩:=h;exact⟨hV g I,v,q,R,D,G,L,h4,h5,h6,λb hb=>⟨hV b (h7 b hb).1,(h7 b hb).2⟩,λb hb=>⟨hV b (h8 b hb).1,(h8 b hb).2⟩⟩
def eh.VQ{l:List Ab}(h:eh g l last w V):∃A c q,Hid (q.map iE.abs=l)∧l.length<=16∧eJ w g 266 #[Z A l.length c,J last]∧lW w V V A l.length q∧l.length<=c∧c<=dG:=by obtain⟨I,v,q,R,D,rfl,L,h4,h5,h6,h7,h8⟩:=h;obtain⟨A,c,rfl,hI,hn,hm⟩:=h5.jL;have e:(q.map iE.abs).length=q.length:=bj ..;rw[e];exact⟨A,c,q,Q rfl,L,h4,⟨hI.mono λb hb=>(h7 b hb).1,λb hb=>(h6 b hb).mono λx Y=>(h8 x Y).1⟩,hn,hm⟩
def oS(w:X):dz W 257 #[] w λe O=>e=b5 ((((w:Nat),0):K))∧eh (w:Nat) [] 0 O (New w O)∧Grow w O:=by go_in;go_wp2;go_ret;exact⟨rfl,⟨⟨bh _,by simp⟩,_,[],λ_=>False,λ_=>False,rfl,by simp,eJ.made w _ _,Row.nil,by simp,λ_ h=>h.elim,λ_ h=>h.elim⟩,(Below.refl (w:Nat) w).alloc (bh _) _⟩
def Rs(w:X)(g:Nat)(l:List Ab)(last:Int)(V:aV)(hQ:eh g l last w V):dz W 335 #[g] w λe O=>e=b5 (J l.length)∧w=O:=by obtain⟨A,c,q,HQ,L,hB,hI,hn,hm⟩:=hQ.VQ;have c0:=hB.cell 0;go_in;go_wp2;go_ret;exact⟨rfl,rfl⟩
def G7(l:List Ab)(u:K)(w:X):Prop:=∃A n c q,u=Z A n c∧lW w (λ_=>True) (λ_=>True) A n q∧q.map iE.abs=l∧n<=c
theorem G7.grow{l:List Ab}{u:K}{w O:X}(h:G7 l u w)(H:Grow w O):G7 l u O:=by obtain⟨A,n,c,q,e,I,G⟩:=h;exact⟨A,n,c,q,e,I.grow H,G⟩
def vU(w:X)(g:Nat)(l:List Ab)(last:Int)(V:aV)(hQ:eh g l last w V):dz W 109 #[g] w λe O=>∃A' q',e=b5 (Z A' l.length l.length)∧lW O (New w O) (New w O) A' l.length q'∧q'.map iE.abs=l∧Grow w O:=by obtain⟨A,c,q,HQ,L,hB,hI,hn,hm⟩:=hQ.VQ;have c0:=hB.cell 0;go_in;go_wp2_with (go_at_call 172;refine (D8 _ V V A _ c q hI ap hn).mono ?_;rintro e w1 ⟨A1,q1,rfl,Ma,K0,eD⟩);go_ret;exact⟨A1,q1,rfl,Ma,K0.trans HQ.out,eD⟩
theorem G8(w:X)(g:Nat)(l:List Ab)(last:Int)(V:aV)(hQ:eh g l last w V):dz W 271 #[g] w λe O=>∃A' q',e=b5 (Z A' (min l.length 4) (min l.length 4))∧lW O (New w O) (New w O) A' (min l.length 4) q'∧q'.map iE.abs=l.take 4∧Grow w O:=by
 obtain⟨A,c,q,HQ,L,hB,hI,hn,hm⟩:=hQ.VQ;have e4:(q.take (min l.length 4)).map iE.abs=l.take 4:=by
  rw[List.map_take,HQ.out];rcases Nat.lt_or_ge l.length 4 with h|h
  ·rw[bH (i:=4) ap,bH ap]
  ·rw[show min l.length 4=4 by omega]
 obtain⟨M,HM⟩:=az (min l.length 4:Nat);rw[<-HM.out] at e4 ⊢;have HT:=Q e4;clear e4;have hM:M<=l.length:=by rw[HM.out];omega
 have o9:M<=c:=by omega
 have e4:(if (4:Int)<(l.length:Int) then (4:Int) else (l.length:Int))=(M:Int):=by have:=HM.out;split<;>omega
 have e5:min (l.length:Int) 4=(M:Int):=by have:=HM.out;omega
 go_in;go_wp2_with fail;have c0:=hB.cell 0;go_still_tail 11,(by kernel_rfl);change wpList _ _ _ _ _ w.drew;generalize wv:w.drew=w1;have H:Grow w w1:=wv▸(Grow.refl w).drew;clear c0 wv;go_wp2_with (go_at_call 172;refine (D8 _ V V A M c (q.take M) ((hI.grow H).take hM) ap ap).mono ?_;rintro e w2 ⟨A1,q1,rfl,Ma,K0,eD⟩);go_ret;exact⟨A1,q1,rfl,Ma.mono (λb hb=>⟨bB H.size hb.1,hb.2⟩) (λb hb=>⟨bB H.size hb.1,hb.2⟩),K0.trans HT.out,H.trans eD⟩
def Nq(w:X)(g:Nat)(l:List Ab)(last seq:Int)(A:aU)(m c:Nat)(abl:Int)
 (h:(seq<1∨seq<=last∨m=0∨8<m)∧abl=1∨1<=seq∧last<seq∧0<m∧m<=8∧l.length=16∧abl=24):ii W 368 #[g,aZ #[J seq,Z A m c]] (λe=>e=b5 (J abl)) (eh g l last) (eh g l last) w:=by
 intro V hQ hV;have Mz:=hQ;obtain⟨I,v,q,R,D,ig,L,hB,kN,h6,h7,h8⟩:=hQ;obtain⟨A0,c0,rfl,hI,iS,su⟩:=kN.jL;have fu:Grow w (w.alloc (.cells #[J seq,Z A m c] 196)):=(Below.refl (w:Nat) w).alloc (bh _) _;have rz:=eJ.made w 196 #[J seq,Z A m c];have hd:decide (seq<1)=true∧abl=1∨decide (seq<1)=false∧(decide (seq<=last)=true∧abl=1∨decide (seq<=last)=false∧(((m:Int) == 0)=true∧abl=1∨((m:Int) == 0)=false∧(decide ((8:Int)<(m:Int))=true∧abl=1∨decide ((8:Int)<(m:Int))=false∧¬ q.length<16∧abl=24))):=by rw[<-ig,bj] at h;simp only[decide_eq_true_eq,decide_eq_false_iff_not,beq_iff_eq,beq_eq_false_iff_ne];omega
 clear h ig I;obtain⟨x,HX⟩:=az ((w:Nat):Nat);obtain⟨wa,HA⟩:=az (w.alloc (.cells #[J seq,Z A m c] 196):X);rw[<-HA.out,<-HX.out] at rz;rw[<-HA.out] at fu;have tV:=hB.grow fu;go_in;go_wp2_with fail;rw[<-HA.out,<-HX.out];have c0:=λw1(H:Grow _ w1)=>(rz.grow H).cell 0;have c1:=λw1(H:Grow _ w1)=>(tV.grow H).cell 1;have c2:=λw1(H:Grow _ w1)=>(rz.grow H).cell 1;rcases hd with ⟨d1,rfl⟩|⟨d1,⟨d2,rfl⟩|⟨d2,⟨d3,rfl⟩|⟨d3,⟨d4,rfl⟩|⟨d4,d5,rfl⟩⟩⟩⟩ <;>
 ·refine fh ?_
  intro w1 H;clear c0 c1 c2;have c00:=(tV.grow H).cell 0;go_wp2;go_ret;exact⟨rfl,eh.wide (eh.framed _ _ _ w w1 V Mz λb hb=>(fu.trans H).block b (hV b hb)) (λ_ => .inl),dM.dK (fu.trans H)⟩
end Go.Proofs.YtpeepcmdehhbgaaGreatDoor.abo
