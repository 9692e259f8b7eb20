/- En3, Er1, Er2, Bo1, Bo2, Bo3, Bo4, En4, En5, Bk1, En6, En7, Ml1, Ml2, Rz2, Smap, Csum, Cmayp, Cref, Cmay, Cadd, Crclaw, Fplain, Fbytes, Fread, Frread, Splain, Scan, Wal, Ml3, Ml4, Ml5, Ml6, Le, Le2, Le3, Bo9, Vo1, Vo2, Bk2, Vo3, Vo4, Vo5, Bk3, Bk4, Bk5, Ma1, Ma2, Ma3, Ma4, Ma5, Ma6, Ma7, Or1, Or2, Or3, Sy1, Sy2, Ag1, Re1, Ag2, Ag3, Ag4, Ag5, Ag7, Ag8, Ag9, Aga, Tk1, Bo5, Bo6, Bo7, Bo8, Mg1. -/
import Derived.Test.YtpeepcmdehhbgaaGreatDoorJr01
import Derived.Maps.RangeWalk
import Derived.StringKeys
import Derived.Lib.ConvBytes
import Derived.Sort.Grow
import Derived.Shelf.SlSortCmp.WholeK
import Derived.Shelf.SlSortCmp.NoneTotal
set_option linter.all false
set_option maxRecDepth 100000
set_option maxHeartbeats 2000000
open Go.Value renaming int->ae,slice->Y,string->aX,bool->aY,agg->aZ,tuple->a_
open Go.Ending renaming returned->b5
open Go.IntKind renaming i64->af,u64->ah
open Go (J az aE aA aB aC aD ay aj am ap aw aL aK aJ aI aH aV aU aT aR aQ aP aO aN)
open Go.Proofs.Tryz renaming prog->N,underlying9->c_,underlying5->dw,underlying3->dx
open Go.Lib renaming hid->Q
open List renaming length_append->bd,perm_append_comm->bg,length_map->bj,append_nil->bm,length_take->bn,append_assoc->bp,take_succ_eq_append_getElem->br,eq_nil_of_length_eq_zero->bv,length_singleton->bw,length_cons->bC,getElem_mem->bD,take_of_length_le->bH,set_cons_succ->bI,setIfInBounds_toArray->bJ,set_cons_zero->bL,map_append->bM,flatMap_cons->bN,flatMap_append->bO,drop_eq_getElem_cons->bR,length_drop->bU,mem_cons_of_mem->bV,not_mem_nil->bW,map_cons->bX,mem_of_mem_take->bY,mem_cons->b_,length_nil->cx,mem_cons_self->cy,drop_of_length_le->cB,nil_append->cC,take_succ_cons->cD,size_toArray->cE,cons_append->cH,flatMap_nil->cI,drop_succ_cons->cJ,prefix_append->cM,map_congr_left->cP,map_nil->cS,drop_eq_nil_of_le->cT,mem_map_of_mem->cW,drop_zero->d9,length_filter_le->df,length_set->dq,take_length->dy,mem_of_mem_eraseIdx->dz,take_append_drop->dA
open Nat renaming le_of_ble_eq_true->bf,le_refl->bh,zero_le->bo,lt_of_lt_of_le->bu,le_trans->bA,eq_zero_or_pos->cn,min_eq_left->cF,mul_le_mul_right->cK,zero_add->cL,mul_one->cO,le_succ_of_le->dC
open Bool renaming eq_false_or_eq_true->bB,and_eq_true->bP
open Go.Builtin renaming zeroCells->bQ
open Array renaming length_toList->ch
open Int renaming toNat_natCast->cG,eq_ofNat_of_zero_le->cX
open Option renaming map_some->dp
open Go renaming Value->E,World->G,Calls->dF,Addr->dG,TypeId->dH,Program->dI,Oper->dJ,maxLen->dL
open Go.Proofs.YtpeepcmdehhbgaaGreatDoor (Dl)
open Go.Proofs.YtpeepcmdehhbgaaGreatDoor.aer (Sm)
variable{w O:G}{k n m s g r bE bS p b x M st k':Nat}{l l':aT}{V:aV}{q:Sm}{z:aQ}{d:Dl}{gp:List (Int×E)}{P:Prop}{xs:List (List UInt8)}{o:dJ}{ρ:Go.Operand->E}{v:E}{F a c:Int}{t:dH}{y:Go.Operand}{cur:aP}
namespace Go.Proofs.YtpeepcmdehhbgaaGreatDoor
open RowKit Hop
structure El where
 (e:En) (A:aU) (c:Nat)
def El.cells(x:El):List E:=(x.e.agg x.A x.c).toList
def mO(w:G)(D:aV)(x:El):Prop:=kg w D x.A x.e.ds.length x.e.ds∧x.e.ds.length<=x.c∧x.c<=dL∧x.e.ds.length<=1048576
def pZ(x:El):x.cells.length=9:=rfl
def Jr(x:El):∀u∈x.cells,u.oneCell'=true:=by intro u hu;simp only[El.cells,En.agg,b_,bW,or_false] at hu;rcases hu with rfl|rfl|rfl|rfl|rfl|rfl|rfl|rfl|rfl<;>rfl
def DW:iY mO:=λ_ _ _ _ _ h hj hd=>⟨In.just h.1 hj hd,h.2⟩
def jF:iQ mO:=λ_ _ _ _ h hd=>⟨In.mono h.1 hd,h.2⟩
def Js:(Tryz.prog.info? 40).map (λi=>(i.zero,i.size,i.bytes))=some (some (aZ aK),9,96):=by kernel_rfl
def Jt:Elem N 43 40 9 96 (aZ aK):=⟨Tryz.underlying43,info_parts Js,rfl,by decide,by decide⟩
def kO(w:G)(D:aV)(A:aU)(q:List El):Prop:=In w D 9 A q.length (q.flatMap El.cells)∧∀x∈q,mO w D x
theorem kO.grow{w O:G}{D:aV}{A:aU}{q:List El}(h:kO w D A q)(H:Grow w O):kO O D A q:=⟨h.1.grow H,λx X=>DW _ _ _ _ _ (h.2 x X) (dP.dR (V:=λ_=>False) H) λ_ _ h=>h⟩
theorem kO.mono{w:G}{D D':aV}{A:aU}{q:List El}(h:kO w D A q)(hd:∀b,D b->D' b):kO w D' A q:=⟨h.1.mono hd,λx X=>jF _ _ _ _ (h.2 x X) hd⟩
theorem kO.nil{w:G}{D:aV}{A:aU}:kO w D A []:=⟨In.nil,λx X=>absurd X (by simp)⟩
def Xi(l:List En)(w0:G)(u:E)(w:G):Prop:=∃(A:aU)(c:Nat)(q:List El),u=Y A q.length c∧kO w (New w0 w) A q∧q.map El.e=l∧q.length<=c∧c<=dL
def uy(w:G)(V:aV)(x:El)(h:mO w V x):dF N 126 #[aZ (x.e.agg x.A x.c)] w λen O=>∃A',en=b5 (aZ (x.e.agg A' x.e.ds.length))∧mO O (New w O) ⟨x.e,A',x.e.ds.length⟩∧Grow w O:=by
 obtain⟨⟨k,ag,sh,sq,ep,ds,se,fr,tg⟩,A,c⟩:=x;obtain⟨hd,ng,Db,tR⟩:=h;unfold En.agg;dsimp only at hd ng Db tR ⊢;obtain⟨n,HN⟩:=az (ds.length);rw[<-HN.out] at hd ng tR ⊢;have gN:=(dZ w (.cells #[J k,J ag,J sh,J sq,J ep,Y A n c,aX se,J fr,J tg] 40)).trans (dZ _ (.cells aK 40));have wu:=(eL.made w 40 #[J k,J ag,J sh,J sq,J ep,Y A n c,aX se,J fr,J tg]).alloc (.cells aK 40);have lb:=eL.made (w.alloc (.cells #[J k,J ag,J sh,J sq,J ep,Y A n c,aX se,J fr,J tg] 40)) 40 aK;obtain⟨x,HX⟩:=az ((w:Nat):Nat);have sU:(w.alloc (.cells #[J k,J ag,J sh,J sq,J ep,Y A n c,aX se,J fr,J tg] 40)).heap.size=x+1:=by rw[HX.out];simp
 rw[sU] at lb;rw[<-HX.out] at wu;obtain⟨wa,HA⟩:=az ((w.alloc (.cells #[J k,J ag,J sh,J sq,J ep,Y A n c,aX se,J fr,J tg] 40)).alloc (.cells aK 40):G);rw[<-HA.out] at wu lb gN;have jo:(wa:Nat)=x+2:=by rw[HA.out,HX.out];simp
 go_in;go_wp2_with fail;rw[<-HA.out,<-HX.out];refine (jY wa V A n c ds (In.grow hd gN) ap).mono ?_;rintro e w1 ⟨A1,c1',rfl,Iv,oX,sF,eO⟩;go_wp2_with fail;refine (pi w1 A1 n c1' oX).mono ?_;rintro e w2 ⟨rfl,rfl⟩;have Mn:=wu.grow eO;have Un:=lb.grow eO;have hP:=Mn.put 5 (Y A1 n n);have hD:=Un.far (p:=(x,5)) (show x+1≠x by omega) (Y A1 n n);have f5:=Mn.frozen 5;have d5:=Mn.cell 5;have p0:=hP.cell 0;have p1:=hP.cell 1;have p2:=hP.cell 2;have p3:=hP.cell 3;have p4:=hP.cell 4;have p5:=hP.cell 5;have p6:=hP.cell 6;have p7:=hP.cell 7;have p8:=hP.cell 8;have d0:=hD.cell 0;have d1:=hD.cell 1;have d2:=hD.cell 2;have d3:=hD.cell 3;have d4:=hD.cell 4;have d5:=hD.cell 5;have d6:=hD.cell 6;have d7:=hD.cell 7;have d8:=hD.cell 8;have g0:=hD.frozen 0;have g1:=hD.frozen 1;have g2:=hD.frozen 2;have g3:=hD.frozen 3;have g4:=hD.frozen 4;have g5:=hD.frozen 5;have g6:=hD.frozen 6;have g7:=hD.frozen 7;have g8:=hD.frozen 8;go_wp2_with fail;change bodyPost _ _ _ _ _ (World.setCells (w1.setCell (x,5) (Y A1 n n)) (x+1) 0 [J k,J ag,J sh,J sq,J ep,Y A1 n n,aX se,J fr,J tg]);have hE:=eL.all hD [J k,J ag,J sh,J sq,J ep,Y A1 n n,aX se,J fr,J tg] rfl;have hF:∀i,(World.setCells (w1.setCell (x,5) (Y A1 n n)) (x+1) 0 [J k,J ag,J sh,J sq,J ep,Y A1 n n,aX se,J fr,J tg]).cell? ⟨(x+1),i,none⟩=#[J k,J ag,J sh,J sq,J ep,Y A1 n n,aX se,J fr,J tg][i]?:=hE.cell;have e0:=hF 0;have e1:=hF 1;have e2:=hF 2;have e3:=hF 3;have e4:=hF 4;have e5:=hF 5;have e6:=hF 6;have e7:=hF 7;have e8:=hF 8;refine bodyPost_ret (v := aZ #[J k,J ag,J sh,J sq,J ep,Y A1 n n,aX se,J fr,J tg]) (by simp[results,Tryz.results126,go_sem,e0,e1,e2,e3,e4,e5,e6,e7,e8]) rfl ?_;have hj:dP (λb=>b=x∨b=x+1) w1 ((w1.setCell (x,5) (Y A1 n n)).setCells (x+1) 0 [J k,J ag,J sh,J sq,J ep,Y A1 n n,aX se,J fr,J tg]):=((dP.dR (Grow.refl w1)).put (V:=λb=>b=x∨b=x+1) (.inl rfl) 5 _).trans (dP.jW (i5 _ _ _ _) (.inr rfl))
 have ku:=Below.trans (gN.trans eO) (hj.below (B:=(w:Nat)) (λb hb=>by have:=HX.out;omega) (gN.trans eO).size);have hn:=HN.out;subst hn;refine⟨A1,rfl,⟨In.mono (V:=New wa w1) (In.just Iv hj λb hb=>by have:=hb.1;omega) λb hb=>⟨by have:=hb.1;have:=gN.size;omega,by have:=hb.2;simpa [setCells_size,gV] using this⟩,bh _,(show ds.length<=dL by unfold dL;omega),tR⟩,ku⟩
def FU(w:G)(A:aU)(n c:Nat)(hn:n<=c):dF N 163 #[Y A n c] w λe O=>e=b5 (Y A n n)∧w=O:=by go_in;go_wp2;go_ret;exact⟨rfl,rfl⟩
def nR(w:G)(V:aV)(A:aU)(c:Nat)(q:List El)(h:kO w V A q)(hq:q.length<=1048576):dF N 119 #[Y A q.length c] w λe O=>∃u,e=b5 u∧Xi (q.map El.e) w u O∧(∃A',u=Y A' q.length q.length)∧Grow w O:=by
 go_in;go_wp2_with fail;go_loopw [3,8] (λs i wr=>∃(k:Nat)(q':List El),k<=q.length∧i=J k∧q'.length=k∧Acc 40 9 El.cells mO w s q' wr∧q'.map El.e=(q.take k).map El.e) (λ_ i _=>q.length-(intOf i).toNat);case atStart=>exact⟨0,[],by omega,rfl,rfl,Acc.nil w,by simp⟩
 case round=>
  obtain⟨k,q',oF,rfl,iH,hA,Ia⟩:=hrel;have H:=hA.base;obtain⟨A1,c1,tQ⟩:=hA.slice;rw[iH] at tQ;subst tQ;by_cases K:k<q.length
  ·obtain⟨ad,xj,rfl,hV,hB,e0,e1⟩:=(h.1.grow H).ni ap pZ K
   have jZ:=(h.grow H).2 q[k] (bD xj);have xk:q.take (k+1)=q.take k++[q[k]]:=br xj;have HS:=Q xk;clear xk;generalize q[k]=b at jZ e0 e1 HS;have hcp:=λw1(eO:Grow wr w1)=>uy w1 V b (DW _ _ _ _ _ jZ (dP.dR (V:=λ_=>False) eO) λ_ _ h=>h);obtain⟨⟨bk,ag,sh,sq,ep,ds,se,fr,tg⟩,Ab,cb⟩:=b;dsimp only[El.cells,En.agg] at e0 e1 hcp;have e3:=e1 2 _ rfl;have e4:=e1 3 _ rfl;have e5:=e1 4 _ rfl;have e1:=e1 0 _ rfl;have e0:=e0 _ rfl;have fA:=dZ wr (.cells #[J bk,J ag,J sh,J sq,J ep,Y Ab ds.length cb,aX se,J fr,J tg] 40);have hcp:=hcp _ fA;clear jZ;go_wp2_with fail;refine hcp.mono ?_;rintro e w1 ⟨A2,rfl,nu,eO⟩;go_wp2_with (at_builtin;refine stay ?_);refine dN ?_;refine IQ Jt DW jF pZ Jr aj (.tmp 12) (.tmp 15) aj hA (fA.trans eO) ⟨⟨bk,ag,sh,sq,ep,ds,se,fr,tg⟩,A2,ds.length⟩ (jF _ _ _ _ nu λb hb=>⟨by have:=hb.1;simp at this;omega,hb.2⟩) ap aj aj ?_;intro v2 w2 sn;go_wp2_with fail;go_roundw;case rel=>exact⟨k+1,q'++[⟨⟨bk,ag,sh,sq,ep,ds,se,fr,tg⟩,A2,ds.length⟩],by omega,by go_num,by simp[iH],sn,by rw[bM,Ia,HS.out,bM];rfl⟩
   case measure=>simp[intOf];omega
  ·obtain rfl:k=q.length:=by omega
   have hD:=hA.done jF;obtain⟨A3,c3,e3,T,h4,h5,h6,h7⟩:=hD;rw[iH] at e3 h5;injection e3 with e3 e4 e5;subst e3 e5;go_wp2_with fail;refine (FU wr A1 q.length c1 h5).mono ?_;rintro e w2 ⟨rfl,rfl⟩;go_wp2;go_ret;exact⟨Y A1 q.length q.length,rfl,⟨A1,q.length,q',by rw[iH],⟨T,h4⟩,by rw[Ia,dy],by omega,by unfold dL;omega⟩,⟨A1,rfl⟩,h7⟩
def pA(P:Prop)(en:Ending):Prop:=∃aep:Int,en=b5 (J aep)∧(aep=0↔P)
def pA.yes(h:P):pA P (b5 (J 0)):=⟨0,rfl,by simp[h]⟩
def pA.no{aep:Int}(h:¬ P)(hE:aep≠0):pA P (b5 (J aep)):=⟨aep,rfl,by simp[h,hE]⟩
def tu(w:G)(n m:Int):dF N 186 #[J n,J m] w λe O=>e=b5 (aY (decide (0<=n∧n<m)))∧w=O:=by
 by_cases h0:0<=n
 ·by_cases I:n<m
  ·have d0:decide (n >= 0)=true:=aC h0
   rw[aC (show 0<=n∧n<m from ⟨h0,I⟩)];go_in;go_wp2;go_ret;trivial
  ·have d0:decide (n >= 0)=true:=aC h0
   rw[aD (show ¬ (0<=n∧n<m) from λh=>I h.2)];go_in;go_wp2;go_ret;trivial
 ·have d0:decide (n >= 0)=false:=aD h0
  rw[aD (show ¬ (0<=n∧n<m) from λh=>h0 h.1)];go_in;go_wp2;go_ret;trivial
def UP(w:G)(s:aR)(x:Nat):dF N 244 #[aZ #[aX s,ae ah x]] w λe O=>e=b5 (aY (decide (x=0)))∧Grow w O:=by
 have h:((x:Int) == 0)=decide (x=0):=by rw[Bool.eq_iff_iff];simp
 go_in;go_wp2;go_ret;exact⟨rfl,(Below.refl _ w).alloc (bh _) _⟩
def Xj(l:List Dl):Prop:=∃d∈l,d.2=0
def a7b(P:Prop)(en:Ending):Prop:=∃z:Int,en=b5 (J z)∧(0<=z↔P)
def Ju(w:G)(V:aV)(A:aU)(n c:Nat)(l:List Dl)(h:kg w V A n l)(hl:l.length=n)(hn:n<=1048576):dF N 302 #[Y A n c,.func (.func 244) #[] #[]] w λe O=>a7b (Xj l) e∧Grow w O:=by
 go_in;go_wp2_with fail;go_loopw [8] (λi wr=>∃k:Nat,k<=n∧i=J k∧(∀d∈l.take k,d.2≠0)∧Grow w wr) (λi _=>n-(intOf i).toNat);case atStart=>exact⟨0,by omega,rfl,by simp,Grow.refl _⟩
 case round=>
  obtain⟨k,oF,rfl,fM,i7⟩:=hrel;by_cases K:k<n
  ·obtain⟨ad,hq,rfl,f0,f1⟩:=kY (In.grow h i7) K
   have e0:=f0 wr (Grow.refl _);have e1:=f1 wr (Grow.refl _);have lC:l[k]∈l:=bD hq;have jA:∀d∈l.take (k+1),d.2=0->d=l[k]:=λd hd h0=>by
    rw[br hq] at hd;rcases List.mem_append.1 hd with hd|hd
    ·exact absurd h0 (fM d hd)
    ·exact List.mem_singleton.1 hd
   generalize l[k]=y at e0 e1 lC jA;obtain⟨s,x⟩:=y;dsimp only at e0 e1;have hc:=UP wr s x;replace fM:=Q fM;replace jA:=Q jA;clear f0 f1;go_wp2_with fail;refine hc.mono ?_;by_cases X:x=0
   ·rw[aC X]
    rintro e w2 ⟨rfl,fN⟩;go_wp2;go_ret;exact⟨⟨(k:Int),rfl,by constructor<;>intro _;exact⟨_,lC,X⟩;omega⟩,i7.trans fN⟩
   ·rw[aD X]
    rintro e w2 ⟨rfl,fN⟩;go_wp2_with fail;exact⟨⟨k+1,by omega,by go_num,λd hd h0=>X (by rw[jA.out d hd h0] at h0;exact h0),i7.trans fN⟩,by simp[intOf];omega⟩
  ·obtain rfl:k=n:=by omega
   replace fM:=Q fM;go_wp2;go_ret;exact⟨⟨-1,rfl,by
    constructor;·intro h;omega
    ·rintro ⟨d,hd,h0⟩;exact absurd h0 (fM.out d (by rw[<-hl,dy];exact hd))⟩,i7⟩
def wV(P:Prop)(en:Ending):Prop:=∃b:Bool,en=b5 (aY b)∧(b=true↔P)
def Bj(w:G)(V:aV)(A:aU)(n c:Nat)(l:List Dl)(h:kg w V A n l)(hl:l.length=n)(hn:n<=1048576):dF N 243 #[Y A n c,.func (.func 244) #[] #[]] w λe O=>wV (Xj l) e∧Grow w O:=by have hI:=Ju w V A n c l h hl hn;go_in;go_wp2_with fail;refine hI.mono ?_;rintro e w2 ⟨⟨z,rfl,hz⟩,fN⟩;replace hz:=Q hz;go_wp2;go_ret;exact⟨⟨decide (z >= 0),rfl,by rw[decide_eq_true_eq];exact hz.out⟩,fN⟩
theorem FV{α:Type}(f:α->List UInt8)(m:Nat):∀(q:List α),(∀d∈q,(f d).length<=m)->((q.map f).flatten).length<=q.length*m
 | [],_=>by simp
 | d::q,h=>by
   have I:=FV f m q λx X=>h x (by simp[X]);have Z:=h d (by simp);simp only[bX,List.flatten_cons,bd,bC,Nat.add_mul];omega
open aev in
def jM{s:aR}(h:gl s=0):s.size<=1000:=by
 unfold gl at h;split at h
 ·rename_i I
  unfold nm at I;simp only[bP,decide_eq_true_eq] at I;obtain⟨Z,T⟩:=I;obtain⟨h8,hf⟩:=zh Z;have hb:=Jo (fW s);have hq:∀d∈can (fW s),(px d).length<=65:=λd hd=>by have h4:=((nQ _).1 hf).1 d (hb.perm.mem_iff.1 hd);unfold ER at h4;rw[bP] at h4;have h5:=lR h4.1;have h6:=lR h4.2;unfold px;rw[bd,bC];have e1:d.1.data.toList.length=d.1.size:=ch;have e2:d.2.data.toList.length=d.2.size:=ch;omega
  have hl:(can (fW s)).length<=8:=by rw[hb.perm.length_eq];exact h8
  have e:s.size=(Jp (can (fW s))).length:=(congrArg ByteArray.size T).symm.trans (by simp[txt,mk,ByteArray.size]);rw[e];generalize can (fW s)=q at hq hl;cases q with
  | nil=>simp[Jp,Lib.join]
  | cons d q=>
    rw[Cp,bd];have h7:=FV (λd=>44::px d) 66 q λx X=>by have:=hq x (by simp[X]);rw[bC];omega
    have h9:=hq d (by simp);rw[bC] at hl;omega
 ·cases h
structure En.X1(e:En):Prop where
 sq:e.sq<=9223372036854775807
 ep:e.ep<=9223372036854775807
 tg:e.tg<=9223372036854775807
 ds:∀d∈e.ds,d.2<=18446744073709551615∧d.1.size<=1000000
 se:e.se.size<=1000000
 n:e.ds.length<=1048576
def FW(w:G)(e:En)(V:aV)(A:aU)(c:Nat)(hr:e.X1)(K:e.k=1)(B8:e.se=⟨#[]⟩)(hd:kg w V A e.ds.length e.ds):dF N 187 #[aZ (e.agg A c)] w λen O=>pA e.aeu en∧Grow w O:=by
 obtain⟨aeu,HW⟩:=az (e.aeu);rw[<-HW.out];obtain⟨k,ag,sh,sq,ep,ds,se,fr,tg⟩:=e;obtain⟨r1,r2,r3,r4,r5,r6⟩:=hr;have OO:aeu↔((0<=ag∧ag<8)∧(0<=sh∧sh<4)∧1<=sq∧1<=ep∧(1<=ds.length∧ds.length<=8)∧∀d∈ds,FT d):=by rw[HW.out];unfold En.aeu;dsimp only at K B8 r1 r2 ⊢;exact⟨λh=>⟨h.2.2.1,h.2.2.2.1,h.2.2.2.2.1.1,h.2.2.2.2.2.1.1,h.2.2.2.2.2.2.1,h.2.2.2.2.2.2.2⟩,λh=>⟨K,B8,h.1,h.2.1,⟨h.2.2.1,r1⟩,⟨h.2.2.2.1,r2⟩,h.2.2.2.2.1,h.2.2.2.2.2⟩⟩
 clear HW;unfold En.agg;dsimp only at K B8 r1 r2 r3 r4 r5 r6 hd ⊢;subst K B8;obtain⟨n,HN⟩:=az (ds.length);rw[<-HN.out] at hd r6 OO ⊢;replace OO:=Q OO;have L:=St.begin_ (l:=[]) (w:=w) (V:=λ_=>False) trivial (λ_ h=>h.elim) trivial;obtain⟨x,wa,HX,HA,L⟩:=L.new' #[J 1,J ag,J sh,J sq,J ep,Y A n c,"",J fr,J tg] 40;have gN:Grow w wa:=L.grown;have hc:=L.facts;simp only[fE] at hc;go_in;go_wp2_with fail;rw[<-HA.out,<-HX.out];refine (tu wa ag 8).mono ?_;rintro e w1 ⟨rfl,rfl⟩;by_cases I:0<=ag∧ag<8;case neg=>
  rw[aD I];go_wp2;go_ret;exact⟨pA.no (λh=>I (OO.out.1 h).1) am,gN⟩
 rw[aC I];go_wp2_with fail;refine (tu wa sh 4).mono ?_;rintro e w1 ⟨rfl,rfl⟩;by_cases Z:0<=sh∧sh<4;case neg=>
  rw[aD Z];go_wp2;go_ret;exact⟨pA.no (λh=>Z (OO.out.1 h).2.1) am,gN⟩
 rw[aC Z];by_cases T:sq<1
 ·have d3:decide (sq<1)=true:=aC T
  replace T:=Q T;go_wp2;go_ret;exact⟨pA.no (λh=>by have:=(OO.out.1 h).2.2.1;have:=T.out;omega) am,gN⟩
 have d3:decide (sq<1)=false:=aD T;by_cases h4:ep<1
 ·have d4:decide (ep<1)=true:=aC h4
  replace h4:=Q h4;go_wp2;go_ret;exact⟨pA.no (λh=>by have:=(OO.out.1 h).2.2.2.1;have:=h4.out;omega) am,gN⟩
 have d4:decide (ep<1)=false:=aD h4;by_cases h5:n<=8;case neg=>
  have d5:decide ((8:Int)<(n:Int))=true:=aC ap;go_wp2;go_ret;exact⟨pA.no (λh=>h5 (OO.out.1 h).2.2.2.2.1.2) am,gN⟩
 have d5:decide ((8:Int)<(n:Int))=false:=aD ap;by_cases h6:n=0
 ·have d6:((n:Int) == 0)=true:=by simp[h6]
  replace h6:=Q h6;go_wp2;go_ret;exact⟨pA.no (λh=>by have:=(OO.out.1 h).2.2.2.2.1.1;have:=h6.out;omega) am,gN⟩
 have d6:((n:Int) == 0)=false:=beq_eq_false_iff_ne.2 ap;have hda:=In.grow hd gN;have hC:=Bj wa V A n c ds hda HN.out.symm ap;go_wp2_with fail;refine hC.mono ?_;rintro e w1 ⟨⟨b,rfl,hb⟩,eO⟩;replace hb:=Q hb;rcases bB b with h7|h7
 ·subst h7
  go_wp2;go_ret;exact⟨pA.no (λh=>by obtain⟨d,hd,h0⟩:=hb.out.1 trivial;have:=((OO.out.1 h).2.2.2.2.2 d hd).1;omega) am,gN.trans eO⟩
 subst h7;have hdb:=In.grow hda eO;have c5':=(L.grow eO).facts;simp only[fE] at c5';have nI:=gN.trans eO;clear hc hC;go_wp2_with fail;clear c5';go_loopw [49] (λi wr=>∃k:Nat,k<=n∧i=J k∧(∀d∈ds.take k,FT d)∧Grow w1 wr) (λi _=>n-(intOf i).toNat);case atStart=>exact⟨0,by omega,rfl,by simp,Grow.refl _⟩
 case round=>
  obtain⟨k,oF,rfl,fM,i7⟩:=hrel;by_cases K:k<n
  ·obtain⟨ad,hq,rfl,f0,f1⟩:=kY (In.grow hdb i7) K
   have e0:=f0 wr (Grow.refl _);have e1:=f1 wr (Grow.refl _);have lC:ds[k]∈ds:=bD hq;have jA:FT ds[k]->∀d∈ds.take (k+1),FT d:=λho d hd=>by
    rw[br hq] at hd;rcases List.mem_append.1 hd with hd|hd
    ·exact fM d hd
    ·rw[List.mem_singleton.1 hd];exact ho
   have hr4:=r4 _ lC;generalize ds[k]=y at e0 e1 lC jA hr4;obtain⟨s,x2⟩:=y;dsimp only at e0 e1 hr4;have WQ:1<=x2:=by
    rcases cn x2 with h0|h0
    ·have:=hb.out.2 ⟨_,lC,h0⟩;cases this
    ·exact h0
   have hP:=aev.rU ((wr.alloc (.cells #[aX s,ae ah x2] 147))) s hr4.2;replace fM:=Q fM;replace jA:=Q jA;replace hr4:=Q hr4;clear f0 f1;by_cases hp:aev.gl s=0
   ·rw[hp] at hP
    replace hp:=Q hp;go_wp2_with fail;refine hP.mono ?_;rintro e w2 ⟨Ap,cp,rfl,_,_,fN⟩;have jU:Grow wr w2:=(dZ wr _).trans fN;go_wp2_with fail;exact⟨⟨k+1,by omega,by go_num,jA.out ⟨WQ,hr4.out.1,hp.out,jM hp.out⟩,i7.trans jU⟩,by simp[intOf];omega⟩
   ·have EM:aev.gl s=12:=by unfold aev.gl at hp ⊢;split;rename_i h;rw[aA h] at hp;exact absurd rfl hp;rfl
    rw[EM] at hP;replace EM:=Q EM;replace hp:=Q hp;go_wp2_with fail;refine hP.mono ?_;rintro e w2 ⟨Ap,cp,rfl,_,_,fN⟩;have jU:Grow wr w2:=(dZ wr _).trans fN;go_wp2;go_ret;exact⟨pA.no (λh=>hp.out ((OO.out.1 h).2.2.2.2.2 _ lC).2.2.1) am,nI.trans (i7.trans jU)⟩
  ·obtain rfl:k=n:=by omega
   replace fM:=Q fM;go_wp2;go_ret;exact⟨pA.yes (OO.out.2 ⟨I,Z,by omega,by omega,⟨by omega,h5⟩,λd hd=>fM.out d (by rw[HN.out,dy];exact hd)⟩),nI.trans i7⟩
theorem FX(s:aR):∀(n i:Nat)(r:aT),s.size-i=n->(ByteArray.toList.loop s i r).length=n+r.length
 | 0,i,r,h=>by
   unfold ByteArray.toList.loop;rw[aB ap];simp
 | n+1,i,r,h=>by
   unfold ByteArray.toList.loop;rw[aA ap,FX s n (i+1) _ ap];simp;omega
def toList_empty(s:aR):s.toList.isEmpty=true↔s=⟨#[]⟩:=by
 have h:s.toList.length=s.size:=by unfold ByteArray.toList;rw[FX s s.size 0 [] ap];simp
 constructor
 ·intro I
  have:s.size=0:=by rw[<-h,List.isEmpty_iff.1 I];rfl
  obtain⟨⟨l⟩⟩:=s;simp[ByteArray.size] at this;rw[this]
 ·rintro rfl;rw[List.isEmpty_iff];exact bv h
def wV.of{b:Bool}(h:b=true↔P):wV P (b5 (aY b)):=⟨b,rfl,h⟩
def En.Kd(e:En):Prop:=(e.k=1∧e.se=⟨#[]⟩)∨(e.k=2∧e.ag=0∧e.sh=0∧e.sq=0∧e.ep=0∧e.ds=[])
def Qw(w:G)(e:En)(A:aU)(c:Nat):dF N 185 #[aZ (e.agg A c)] w λen O=>wV e.Kd en∧Grow w O:=by
 obtain⟨aeu,HW⟩:=aE (e.Kd);rw[<-HW];obtain⟨k,ag,sh,sq,ep,ds,se,fr,tg⟩:=e;unfold En.Kd at HW;unfold En.agg;dsimp only at HW ⊢;have hn:ds=[]↔ds.length=0:=List.length_eq_zero_iff.symm;rw[hn] at HW;generalize ds.length=n at HW;clear hn;have H:∀o,Grow w (w.alloc o):=fc w;by_cases jb:k=1
 ·subst jb
  have HV:Hid (se.toList.isEmpty=true↔aeu):=Q (by rw[HW,toList_empty];simp);clear HW;go_in;go_wp2;go_ret;exact⟨wV.of HV.out,H _⟩
 ·by_cases iM:k=2
  ·subst iM
   have HV:Hid (aeu↔(ag=0∧sh=0∧sq=0∧ep=0∧n=0)):=Q (by rw[HW];simp);clear HW;have B4:((n:Int) == 0)=decide (n=0):=by rw[Bool.eq_iff_iff];simp
   go_in;by_cases h:ag=0∧sh=0∧sq=0∧ep=0∧n=0
   ·obtain⟨rfl,rfl,rfl,rfl,rfl⟩:=h
    go_wp2;go_ret;exact⟨wV.of (by simp[HV.out]),H _⟩
   ·have HV:Hid (¬ aeu):=Q λhw=>h (HV.out.1 hw)
    have hX:(¬ ag=0)∨(ag=0∧¬ sh=0)∨(ag=0∧sh=0∧¬ sq=0)∨(ag=0∧sh=0∧sq=0∧¬ ep=0)∨(ag=0∧sh=0∧sq=0∧ep=0∧¬ n=0):=by omega
    clear h;rcases hX with I|⟨rfl,I⟩|⟨rfl,rfl,I⟩|⟨rfl,rfl,rfl,I⟩|⟨rfl,rfl,rfl,rfl,I⟩
    all_goals
     go_wp2
     go_ret
     refine⟨wV.of ?_,H _⟩
     simp[HV.out,I]
  ·have I:(k == 1)=false:=beq_eq_false_iff_ne.2 jb
   have Z:(k == 2)=false:=beq_eq_false_iff_ne.2 iM;have HV:Hid (¬ aeu):=Q (by rw[HW];intro h;rcases h with h|h<;>omega);clear HW;go_in;go_wp2;go_ret;exact⟨wV.of (by simp[HV.out]),H _⟩
def py(w:G)(e:En)(V:aV)(A:aU)(c:Nat)(hr:e.X1)(hd:kg w V A e.ds.length e.ds):dF N 125 #[aZ (e.agg A c)] w λen O=>pA e.Ok en∧Grow w O:=by
 obtain⟨aeu,HW⟩:=aE (e.Ok);rw[<-HW];have hK:=λw1=>Qw w1 e A c;have hWr:=λw1(H:Grow w w1)I Z=>FW w1 e V A c hr I Z (In.grow hd H);have kj:=hr.tg;have rV:=hr.se;obtain⟨k,ag,sh,sq,ep,ds,se,fr,tg⟩:=e;replace HW:Hid (aeu↔(((0<=fr∧fr<8)∧0<=tg)∧(En.aeu ⟨k,ag,sh,sq,ep,ds,se,fr,tg⟩∨En.R ⟨k,ag,sh,sq,ep,ds,se,fr,tg⟩))):=Q (by rw[HW];unfold En.Ok;dsimp only at kj ⊢;exact⟨λh=>⟨⟨h.1.1,h.1.2.1⟩,h.2⟩,λh=>⟨⟨h.1.1,h.1.2,kj⟩,h.2⟩⟩)
 replace hr:=Q hr;unfold En.agg at hK hWr ⊢;dsimp only at kj rV hK hWr ⊢;obtain⟨n,HN⟩:=az (ds.length);rw[<-HN.out] at hK hWr ⊢;have L:=St.begin_ (l:=[]) (w:=w) (V:=λ_=>False) trivial (λ_ h=>h.elim) trivial;obtain⟨x,wa,HX,HA,L⟩:=L.new' #[J k,J ag,J sh,J sq,J ep,Y A n c,aX se,J fr,J tg] 40;go_in;have hc:=L.facts;simp only[fE] at hc;go_wp2_with fail;rw[<-HA.out,<-HX.out];refine (hK wa).mono ?_;rintro e w1 ⟨⟨b,rfl,hb⟩,eO⟩;replace hb:=Q hb;have eC:=L.grow eO;have hc:=eC.facts;simp only[fE] at hc;rcases bB b with h|h
 case inr=>
  subst h;go_wp2;go_ret;refine⟨pA.no (λh=>?_) am,eC.grown⟩;have hb:=hb.out;simp only[Bool.false_eq_true,false_iff] at hb;refine hb ?_;unfold En.Kd;rcases (HW.out.1 h).2 with Z|Z
  ·exact .inl ⟨Z.1,Z.2.1⟩
  ·exact .inr ⟨Z.1,Z.2.1,Z.2.2.1,Z.2.2.2.1,Z.2.2.2.2.1,Z.2.2.2.2.2.1⟩
 subst h;replace hb:Hid (En.Kd ⟨k,ag,sh,sq,ep,ds,se,fr,tg⟩):=Q (by have:=hb.out;simpa using this);go_wp2_with fail;refine (tu w1 fr 8).mono ?_;rintro e w2 ⟨rfl,rfl⟩;by_cases I:0<=fr∧fr<8;case neg=>
  rw[aD I];go_wp2;go_ret;exact⟨pA.no (λh=>I (HW.out.1 h).1.1) am,eC.grown⟩
 rw[aC I];by_cases Z:tg<0
 ·have d2:decide (tg<0)=true:=aC Z
  replace Z:=Q Z;go_wp2;go_ret;exact⟨pA.no (λh=>by have:=(HW.out.1 h).1.2;have:=Z.out;omega) am,eC.grown⟩
 have d2:decide (tg<0)=false:=aD Z;replace I:=Q I;replace Z:=Q Z;rcases hb.out with ⟨K,hs⟩|⟨K,k1,k2,k3,k4,k5⟩
 ·dsimp only at K hs
  subst K;have hWc:=hWr w1 eC.grown rfl hs;obtain⟨W2,HW2⟩:=az (En.aeu ⟨1,ag,sh,sq,ep,ds,se,fr,tg⟩);rw[<-HW2.out,hs] at hWc;clear hWr;go_wp2_with fail;refine hWc.mono ?_;rintro e w2 ⟨⟨aep,rfl,hE⟩,fN⟩;replace hE:=Q hE;go_wp2;go_ret;rw[HW2.out] at hE;refine⟨⟨aep,rfl,hE.out.trans ⟨λh=>HW.out.2 ⟨⟨I.out,by have:=Z.out;omega⟩,.inl h⟩,λh=>?_⟩⟩,eC.grown.trans fN⟩;rcases (HW.out.1 h).2 with T|T
  ·exact T
  ·have:=T.1;cases this
 ·dsimp only at K k1 k2 k3 k4 k5
  have hP:=aev.rU w1 se rV;subst K;clear hWr hK;by_cases hp:aev.gl se=0
  ·rw[hp] at hP
   replace hp:=Q hp;replace k1:=Q k1;replace k2:=Q k2;replace k3:=Q k3;replace k4:=Q k4;replace k5:=Q k5;go_wp2_with fail;refine hP.mono ?_;rintro e w2 ⟨Ap,cp,rfl,_,_,fN⟩;go_wp2;go_ret;exact⟨pA.yes (HW.out.2 ⟨⟨I.out,by have:=Z.out;omega⟩,.inr ⟨rfl,k1.out,k2.out,k3.out,k4.out,k5.out,hp.out,jM hp.out⟩⟩),eC.grown.trans fN⟩
  ·have EM:aev.gl se=12:=by unfold aev.gl at hp ⊢;split;rename_i h;rw[aA h] at hp;exact absurd rfl hp;rfl
   rw[EM] at hP;replace EM:=Q EM;replace hp:=Q hp;replace k1:=Q k1;replace k2:=Q k2;replace k3:=Q k3;replace k4:=Q k4;replace k5:=Q k5;go_wp2_with fail;refine hP.mono ?_;rintro e w2 ⟨Ap,cp,rfl,_,_,fN⟩;go_wp2;go_ret;refine⟨pA.no (λh=>?_) am,eC.grown.trans fN⟩;rcases (HW.out.1 h).2 with T|T
   ·have:=T.1;cases this
   ·exact hp.out T.2.2.2.2.2.2.1
def jN(w:G)(e:En)(V:aV)(A:aU)(c:Nat)(h:e.Ok)(hd:kg w V A e.ds.length e.ds):dF N 125 #[aZ (e.agg A c)] w λen O=>en=b5 (J 0)∧Grow w O:=
 (py w e V A c h.rng hd).mono λ_ _ ⟨⟨aep,I,Z⟩,T⟩=>⟨by rw[I,Z.2 h],T⟩
def iq(d:Dl):Bool:=decide (aev.gl d.1=0)&&decide (0<d.2)
def xv(s:aR):List Dl->Nat->Option Nat
 | [],a=>some a
 | d::l,a=>if d.1=s then (if 18446744073709551615-d.2<a then none else xv s l (a+d.2)) else xv s l a
def Ct(s:aR)(d:Dl)(l:List Dl)(a:Nat):xv s (d::l) a=if d.1=s then (if 18446744073709551615-d.2<a then none else xv s l (a+d.2)) else xv s l a:=rfl
def jl(l:List Dl)(d:Dl):Int:=if iq d=false then 1 else if 32<=l.length then 24 else if xv d.1 l d.2=none then 25 else 0
def FY(w:G)(s:aR)(x:Nat)(hs:s.size<=1000000):dF N 332 #[aZ #[aX s,ae ah x]] w λe O=>e=b5 (aY (iq (s,x)))∧Grow w O:=by
 have fA:=dZ w (.cells #[aX s,ae ah x] 147);have hB:=eL.made w 147 #[aX s,ae ah x];have hP:=aev.rU (w.alloc (.cells #[aX s,ae ah x] 147)) s hs;obtain⟨R,HR⟩:=az (iq (s,x));rw[<-HR.out];go_in;go_wp2_with fail;refine hP.mono ?_;rintro e w2 ⟨Ap,cp,rfl,_,_,fN⟩;have c1:=(hB.grow fN).cell 1;by_cases hp:aev.gl s=0
 ·have HR2:Hid (R=decide (0<x)):=Q (by rw[HR.out];simp[iq,hp])
  rw[hp];go_wp2;go_ret;exact⟨by rw[HR2.out];simp,fA.trans fN⟩
 ·have HR2:Hid (R=false):=Q (by rw[HR.out];simp[iq,hp])
  have hb:(aev.gl s == 0)=false:=beq_eq_false_iff_ne.2 hp;replace hp:=Q hp;go_wp2;go_ret;exact⟨by rw[HR2.out];rfl,fA.trans fN⟩
def Qx(w:G)(st:Nat)(A:aU)(n c:Nat)(l:List Dl)(D:aV)(hd:kg w D A n l)(kc:w.cell? (st,1)=some (Y A n c))(fM:st<(w:Nat))(hn:n<=1048576)(hl:∀d∈l,d.2<=18446744073709551615)(s:aR)(x:Nat)(hs:s.size<=1000000)(X:x<=18446744073709551615):dF N 278 #[st,aZ #[aX s,ae ah x]] w λe O=>e=b5 (J (jl l (s,x)))∧Grow w O:=by
 have fA:=dZ w (.cells #[aX s,ae ah x] 147);have hB:=eL.made w 147 #[aX s,ae ah x];have W:=FY (w.alloc (.cells #[aX s,ae ah x] 147)) s x hs;have sI:Hid (l.length=n):=Q hd.len;have a4G:Hid (∀O,Grow w O->O.cell? (st,1)=some (Y A n c)):=Q λO H=>(H.cell (p:=(st,1)) fM).trans kc;obtain⟨R,HR⟩:=az (jl l (s,x));rw[<-HR.out];clear kc;go_in;go_wp2_with fail;refine W.mono ?_;rintro e w2 ⟨rfl,fN⟩;have c0:=(hB.grow fN).cell 0;have c1:=(hB.grow fN).cell 1;have b1:=a4G.out w2 (fA.trans fN);rcases bB (iq (s,x)) with hr|hr
 case inr=>
  have HR2:Hid (R=1):=Q (by rw[HR.out];unfold jl;rw[aA hr]);go_wp2;go_ret;exact⟨by rw[HR2.out];rfl,fA.trans fN⟩
 case inl=>
 have XU:¬ iq (s,x)=false:=by rw[hr];simp
 by_cases h32:32<=n
 ·have HR2:Hid (R=24):=Q (by rw[HR.out];unfold jl;rw[aB XU,aA (by rw[sI.out];exact h32)])
  have d32:decide ((32:Int)<=(n:Int))=true:=aC ap;go_wp2;go_ret;exact⟨by rw[HR2.out];rfl,fA.trans fN⟩
 have HR2:Hid (R=if xv s l x=none then 25 else 0):=Q (by rw[HR.out];unfold jl;rw[aB XU,aB (by rw[sI.out];exact h32)]);have d32:decide ((32:Int)<=(n:Int))=false:=aD ap;go_wp2_with fail;clear c1 b1 d32 XU hr;go_loopw [5,24] (λa i wr=>∃(k a':Nat),a=ae ah a'∧i=J k∧k<=n∧a'<=18446744073709551615∧xv s (l.drop k) a'=xv s l x∧Grow w2 wr) (λ_ i _=>n-(intOf i).toNat);case atStart=>exact⟨0,x,rfl,rfl,by omega,X,rfl,Grow.refl _⟩
 case round=>
  obtain⟨k,a',rfl,rfl,oF,WL,hm,i7⟩:=hrel;have c0:=(hB.grow (fN.trans i7)).cell 0;by_cases K:k<n
  ·obtain⟨ad,hq,rfl,f0,f1⟩:=kY (In.grow hd ((fA.trans fN).trans i7)) K
   have e0:=f0 wr (Grow.refl _);have e1:=f1 wr (Grow.refl _);have lC:=hl l[k] (bD hq);rw[bR hq,Ct] at hm;generalize l[k]=y at e0 e1 lC hm;obtain⟨s',x'⟩:=y;dsimp only at e0 e1 lC;dsimp only at hm;have UQ:=dZ wr (.cells #[aX s',ae ah x'] 147);have mJ:=eL.made wr 147 #[aX s',ae ah x'];have c02:=((hB.grow (fN.trans i7)).grow UQ).cell 0;have c20:=mJ.cell 0;have c21:=mJ.cell 1;have wr1:IntKind.u64.wrap ((18446744073709551615:Int)-(x':Int))=((18446744073709551615-x':Nat):Int):=by rw[wrap_u64];omega
   clear f0 f1;by_cases hss:s'=s
   ·subst hss
    rw[aA rfl] at hm;by_cases ho:18446744073709551615-x'<a'
    ·rw[aA ho] at hm
     have HR3:Hid (R=25):=Q (by rw[HR2.out,<-hm,aA rfl]);replace hm:=Q hm;go_wp2;go_ret;exact⟨by rw[HR3.out];rfl,(fA.trans fN).trans (i7.trans UQ)⟩
    ·rw[aB ho] at hm
     have wr2:IntKind.u64.wrap ((a':Int)+(x':Int))=((a'+x':Nat):Int):=by rw[wrap_u64];omega
     replace hm:=Q hm;go_wp2_with fail;exact⟨⟨k+1,a'+x',by go_num,by go_num,by omega,by omega,hm.out,i7.trans UQ⟩,by simp[intOf];omega⟩
   ·rw[aB hss] at hm
    have hb:=aev.ux hss;replace hss:=Q hss;replace hm:=Q hm;go_wp2_with fail;exact⟨⟨k+1,a',rfl,by go_num,by omega,by omega,hm.out,i7.trans UQ⟩,by simp[intOf];omega⟩
  ·have XQ:k=n:=by omega
   have lD:l.drop k=[]:=cT (by rw[sI.out];omega);rw[lD] at hm;have HR3:Hid (R=0):=Q (by rw[HR2.out,<-hm];rfl);replace hm:=Q hm;replace lD:=Q lD;replace XQ:=Q XQ;go_wp2;go_ret;exact⟨by rw[HR3.out];rfl,(fA.trans fN).trans i7⟩
def Cu(F:FuncId)(caps:aP)(p:Dl->Bool)(l:List Dl)(w:G):Prop:=(∀(vs:aP)(w:G),(callFunc F vs).run N w=.ok (.enter F vs) w)∧∀O,Grow w O->∀d∈l,dF N F (#[aZ #[aX d.1,ae ah d.2]]++caps) O λe w''=>e=b5 (aY (p d))∧Grow O w''
def a7c(p:Dl->Bool)(l:List Dl)(e:Ending):Prop:=(e=b5 (J (-1))∧∀d∈l,p d=false)∨∃(k:Nat)(h:k<l.length),e=b5 (J k)∧p l[k]=true∧∀d∈l.take k,p d=false
def uz(w:G)(V:aV)(A:aU)(n c:Nat)(l:List Dl)(h:kg w V A n l)(hn:n<=1048576)(F:FuncId)(caps:aP)(p:Dl->Bool)(hF:Cu F caps p l w):dF N 302 #[Y A n c,.func (.func F) #[] caps] w λe O=>a7c p l e∧Grow w O:=by
 have hl:l.length=n:=h.len;have WH:=hF.1;go_in;go_wp2_with fail;go_loopw [8] (λi wr=>∃k:Nat,k<=n∧i=J k∧(∀d∈l.take k,p d=false)∧Grow w wr) (λi _=>n-(intOf i).toNat);case atStart=>exact⟨0,by omega,rfl,by simp,Grow.refl _⟩
 case round=>
  obtain⟨k,oF,rfl,fM,i7⟩:=hrel;replace fM:=Q fM;by_cases K:k<n
  ·obtain⟨ad,hq,rfl,f0,f1⟩:=kY (In.grow h i7) K
   have e0:=f0 wr (Grow.refl _);have e1:=f1 wr (Grow.refl _);have hc:=hF.2 wr i7 l[k] (bD hq);have jA:Hid (l.take (k+1)=l.take k++[l[k]]):=Q (br hq);have hat:Hid (l[k]?=some l[k]):=Q (List.getElem?_eq_getElem hq);generalize l[k]=y at e0 e1 hc jA hat
   obtain⟨s,x⟩:=y;dsimp only at e0 e1 hc;clear f0 f1;go_wp2_with fail;refine hc.mono ?_;rintro e w2 ⟨rfl,fN⟩;rcases bB (p (s,x)) with hb|hb
   ·go_wp2_with fail
    go_ret;exact⟨.inr ⟨k,hq,rfl,by rw[(List.getElem?_eq_some_iff.1 hat.out).2];exact hb,fM.out⟩,i7.trans fN⟩
   ·go_wp2_with fail
    exact⟨⟨k+1,by omega,by go_num,λd hd=>by
     rw[jA.out] at hd;rcases List.mem_append.1 hd with hd|hd
     ·exact fM.out d hd
     ·rw[List.mem_singleton.1 hd];exact hb,i7.trans fN⟩,by simp[intOf];omega⟩
  ·have a93:Hid (k=n):=Q ap
   go_wp2;go_ret;exact⟨.inl ⟨rfl,λd hd=>fM.out d (by rw[a93.out,<-hl,dy];exact hd)⟩,i7⟩
def Lq(w:G)(V:aV)(A:aU)(n c:Nat)(l:List Dl)(h:kg w V A n l)(hn:n<=1048576)(F:FuncId)(caps:aP)(p:Dl->Bool)(hF:Cu F caps p l w):dF N 243 #[Y A n c,.func (.func F) #[] caps] w λe O=>e=b5 (aY (l.any p))∧Grow w O:=by
 have hI:=uz w V A n c l h hn F caps p hF;go_in;go_wp2_with fail;refine hI.mono ?_;rintro e w2 ⟨hI|⟨k,K,rfl,I,Z⟩,fN⟩
 ·obtain⟨rfl,Z⟩:=hI
  replace Z:=Q Z;go_wp2;go_ret;refine⟨?_,fN⟩;rw[show l.any p=false from List.any_eq_false.2 λd hd=>by rw[Z.out d hd];simp];rfl
 ·have dk:decide ((0:Int)<=(k:Int))=true:=aC ap
  replace Z:=Q Z;replace I:=Q I;go_wp2;go_ret;refine⟨?_,fN⟩;rw[show l.any p=true from List.any_eq_true.2 ⟨_,bD K,I.out⟩];rfl
def UR(w:G)(s s':aR)(n x y:Nat)(hy:eL w y 147 #[aX s',ae ah x]):dF N 371 #[aZ #[aX s,ae ah n],y] w λe O=>e=b5 (aY (decide (s=s')))∧Grow w O:=by
 have fA:=dZ w (.cells #[aX s,ae ah n] 147);have c0:=(hy.grow fA).cell 0;by_cases h:s=s'
 ·subst h
  go_in;go_wp2;go_ret;exact⟨by simp,fA⟩
 ·have hb:=aev.ux h
  have hd:Hid (decide (s=s')=false):=Q (aD h);replace h:=Q h;go_in;go_wp2;go_ret;exact⟨by rw[hd.out];rfl,fA⟩
def OP(ds:List Dl)(d:Dl):Bool:=ds.any λx=>decide (x.1=d.1)
def US(w:G)(s:aR)(n y m c:Nat)(sq:Int)(A:aU)(D:aV)(ds:List Dl)(hd:kg w D A m ds)(hm:m<=1048576)(hy:eL w y 196 #[J sq,Y A m c]):dF N 370 #[aZ #[aX s,ae ah n],y] w λe O=>e=b5 (aY (OP ds (s,n)))∧Grow w O:=by have fA:=dZ w (.cells #[aX s,ae ah n] 147);have hB:=eL.made w 147 #[aX s,ae ah n];have c1:=(hy.grow fA).cell 1;have hC:=Lq (w.alloc (.cells #[aX s,ae ah n] 147)) D A m c ds (In.grow hd fA) hm 371 #[(((w:Nat),0):E)] (λx=>decide (x.1=s)) ⟨λvs w=>by kernel_rfl,λO H d _=>UR O d.1 s d.2 n _ (hB.grow H)⟩;go_in;go_wp2_with fail;refine hC.mono ?_;rintro e w2 ⟨rfl,fN⟩;go_wp2;go_ret;exact⟨rfl,fA.trans fN⟩
def Cv(cs:aP)(b:Nat)(vs:List E)(h:b+vs.length<=cs.size):(cs.toList.take b++vs++cs.toList.drop (b+vs.length)).toArray.size=cs.size:=by simp only[cE,bd,bn,bU,ch];omega
def Nh(cs:aP)(b:Nat)(vs:List E)(h:b+vs.length<=cs.size):(cs.toList.take b++vs++cs.toList.drop (b+vs.length)).toArray.toList.take (b+vs.length)=cs.toList.take b++vs:=by rw[show ∀l:List E,l.toArray.toList=l from λ_=>rfl,List.take_left' (by simp only[bd,bn,ch];omega)]
def Ni(cs:aP)(b:Nat)(vs:List E)(h:b+vs.length<=cs.size)(q:Nat)(hq:b+vs.length<=q):(cs.toList.take b++vs++cs.toList.drop (b+vs.length)).toArray[q]?=cs[q]?:=by
 have I:(cs.toList.take b++vs).length=b+vs.length:=by simp only[bd,bn,ch];omega
 rw[List.getElem?_toArray,List.getElem?_append_right ap,I,List.getElem?_drop,Array.getElem?_toList];congr 1;omega
def filter_none{p:Dl->Bool}{l:List Dl}(h:∀d∈l,p d=false):l.filter (λd => !p d)=l:=List.filter_eq_self.2 λd hd=>by rw[h d hd];rfl
def wW{p:Dl->Bool}{l:List Dl}(K:k<l.length):(l.take (k+1)).filter (λd => !p d)=if p l[k]=true then (l.take k).filter (λd => !p d) else (l.take k).filter (λd => !p d)++[l[k]]:=by
 rw[br K,List.filter_append];split;·rename_i h;simp[h]
 ·rename_i h
  have:p l[k]=false:=by simpa using h
  simp[this]
def YQ(w:G)(l:List Dl)(V:aV)(sl:E)(n:Nat)(W:Row w V 147 2 sl n (fw l))(hn:n<=1048576)(F:FuncId)(y:Nat)(p:Dl->Bool)(hF:Cu F #[y] p l w)(hFV:∀O,dP V w O->Cu F #[y] p l O):dF N 369 #[sl,.func (.func F) #[] #[y]] w λe O=>∃sl',e=b5 sl'∧Row O V 147 2 sl' (l.filter λd => !p d).length (fw (l.filter λd => !p d))∧dP V w O:=by
 have WH:=hF.1;obtain⟨hl,h0|⟨g,cap,cur,rfl,hV,H,lx,jg,ko,jA⟩⟩:=id W
 ·obtain⟨rfl,rfl⟩:=h0
  obtain rfl:l=[]:=bv (by have:=kM l;omega);have hI:=uz w V none 0 0 [] In.nil (bo _) F #[y] p hF;go_in;go_wp2_with fail;refine hI.mono ?_;rintro e w2 ⟨⟨rfl,_⟩|⟨k,K,_⟩,fN⟩
  ·go_wp2_with fail
   go_ret;exact⟨_,rfl,Row.nil,dP.dR fN⟩
  ·exact absurd K (by simp)
 obtain⟨A2,c2,e2,hd2,_,_⟩:=W.kB;injection e2 with e2 _ e3;subst e2 e3;have sI:l.length=n:=by have:=kM l;omega
 have hI:=uz w V _ n cap l hd2 hn F #[y] p hF;go_in;go_wp2_with fail;refine hI.mono ?_;rintro e w1 ⟨⟨rfl,kS⟩|⟨k0,jB,rfl,tO,kS⟩,eO⟩
 ·replace kS:=Q kS
  go_wp2;go_ret;refine⟨_,rfl,?_,dP.dR eO⟩;rw[filter_none kS.out,sI];exact W.grow eO
 have lb:eL w1 g 147 cur:=(eO.block g (Array.getElem?_eq_some_iff.1 H).1).trans H;have hf0:Hid ((l.take (k0+1)).filter (λd => !p d)=l.take k0):=Q (by rw[wW jB,aA tO,filter_none kS]);replace kS:=Q kS;replace tO:=Q tO;have hne1:((k0:Int) == -1)=false:=beq_eq_false_iff_ne.2 ap;replace W:=Q W;replace jA:=Q jA;replace ko:=Q ko;go_wp2_with fail;go_loopw [5,6] (λi j wr=>∃(i' j':Nat)(cur':aP),i=J i'∧j=J j'∧j'<=n∧i'<j'∧i'=((l.take j').filter λd => !p d).length∧eL wr g 147 cur'∧cur'.size=cap*2∧cur'.toList.take (i'*2)=fw ((l.take j').filter λd => !p d)∧(∀q,j'*2<=q->q<n*2->cur'[q]?=(fw l)[q]?)∧dP V w wr) (λ_ j _=>n-(intOf j).toNat);case atStart=>
  refine⟨k0,k0+1,cur,rfl,by go_num,by omega,by omega,by rw[hf0.out,bn];omega,lb,ko.out,?_,λq _ hq=>?_,dP.dR eO⟩;·rw[hf0.out,fw,<-kV nO 2 j4,<-fw,<-jA.out,List.take_take,cF ap]
  ·rw[<-jA.out,List.getElem?_take,aA hq,Array.getElem?_toList]
 case round=>
  obtain⟨i,j,cu,rfl,rfl,xf,o7,xP,hB,jo,Bm,sW,hj⟩:=hrel;replace xP:=Q xP;replace Bm:=Q Bm;replace sW:=Q sW;replace jo:=Q jo;have WI:=jo.out;by_cases xg:j<n
  ·have hjL:j<l.length:=by omega
   have c0:wr.cell? ⟨g,j*2,none⟩=some (aX l[j].1):=by rw[hB.cell,sW.out (j*2) (bh _) ap];exact (flat_get nO 2 j4 l j 0 hjL ap).trans rfl
   have c1:wr.cell? ⟨g,j*2+1,none⟩=some (ae ah (l[j].2:Int)):=by rw[hB.cell,sW.out (j*2+1) ap ap];exact (flat_get nO 2 j4 l j 1 hjL ap).trans rfl
   have hfn:Hid ((l.take (j+1)).filter (λd => !p d)=if p l[j]=true then (l.take j).filter (λd => !p d) else (l.take j).filter (λd => !p d)++[l[j]]):=Q (wW hjL);obtain⟨z,wa,HZ,HA⟩:∃z wa,Hid (z=(wr:Nat))∧Hid (wa=wr.alloc (.cells #[aX l[j].1,ae ah (l[j].2:Int)] 147)):=⟨_,_,Q rfl,Q rfl⟩;have fA:Grow wr wa:=by rw[HA.out];exact dZ _ _
   have hBz:eL wa z 147 #[aX l[j].1,ae ah (l[j].2:Int)]:=by rw[HA.out,HZ.out];exact eL.made wr _ _
   have sD:=(hFV wa (hj.trans (dP.dR fA))).2 wa (Grow.refl _) l[j] (bD hjL);have hBa:=hB.grow fA;generalize l[j]=d at c0 c1 hBz HA sD hfn;obtain⟨s,x⟩:=d;dsimp only at c0 c1 hBz HA sD;have z0:=hBz.cell 0;have z1:=hBz.cell 1;have hjz:dP V w wa:=hj.trans (dP.dR fA);go_wp2_with fail;rw[<-HA.out,<-HZ.out];go_wp2_with fail;refine sD.mono ?_;rintro e w2 ⟨rfl,fN⟩;have z0:=(hBz.grow fN).cell 0;have z1:=(hBz.grow fN).cell 1;have mJ:=hBa.grow fN;rcases bB (p (s,x)) with hb|hb
   ·replace hfn:=hfn.out
    rw[aA hb] at hfn;replace hfn:=Q hfn;go_wp2_with fail;exact⟨⟨i,j+1,cu,rfl,by go_num,by omega,by omega,by rw[hfn.out];exact xP.out,mJ,jo.out,by rw[hfn.out];exact Bm.out,λq I Z=>sW.out q ap Z,hjz.trans (dP.dR fN)⟩,by simp[intOf];omega⟩
   ·replace hfn:=hfn.out
    rw[aB (by rw[hb];simp)] at hfn;replace hfn:=Q hfn;go_wp2_with (refine qX rfl 147 (.tmp 33) (.tmp 32) rfl g (i*2) rfl [aX s,ae ah x] rfl mJ (by simp;omega) rfl aw rfl ?_;intro w3 I9 nx _;refine stay ?_);refine dN ?_;have ng:i*2+[Value.string s,ae ah x].length<=cu.size:=by simp;omega
    have p1:=Q (Cv cu (i*2) _ ng);have p2:=Q (Nh cu (i*2) _ ng);have p3:=Q (Ni cu (i*2) _ ng);have hjw:dP V w w3:=(hjz.trans (dP.dR fN)).trans (nx.imp λb hb=>hb▸hV);generalize (cu.toList.take (i*2)++[Value.string s,ae ah x]++cu.toList.drop (i*2+[Value.string s,ae ah x].length)).toArray=cu' at I9 p1 p2 p3;go_wp2_with fail;exact⟨⟨i+1,j+1,cu',by go_num,by go_num,by omega,by omega,by rw[hfn.out,bd,<-xP.out];rfl,I9,p1.out.trans jo.out,by rw[hfn.out,show (i+1)*2=i*2+[Value.string s,ae ah x].length by simp;omega,p2.out,Bm.out];simp[fw,nO],λq I Z=>(p3.out q (by simp;omega)).trans (sW.out q ap Z),hjw⟩,by simp[intOf];omega⟩
  ·have Jv:j=n:=by omega
   replace Jv:=Q Jv;have l8:i<cap:=by omega
   have sD:∀ty,(Builtin.clear_ #[38] ty #[Y (some ⟨g,i*2,none⟩) (n-i) (cap-i)]).run N wr=.ok (a_ #[]) (wr.setCells g (i*2) (bQ (aZ #[.string .empty,ae ah 0]:E).cells (n-i)).toList):=λty=>by refine kH pS (u6 pS) (by simp[Value.cells,Value.oneCell']) wr ty g (i*2) (n-i) (cap-i) ap (λq hq=>?_) (λq hq=>hB.frozen _);rw[hB.cell,Array.getElem?_eq_getElem ap];rfl
   go_wp2;go_ret;have Tg:(l.filter λd => !p d)=(l.take j).filter λd => !p d:=by rw[Jv.out,<-sI,dy]
   have hZl:(bQ #[Value.string ByteArray.empty,Value.int IntKind.u64 0] (n-i)).toList.length=(n-i)*2:=by simp[bQ]
   generalize (bQ #[Value.string ByteArray.empty,Value.int IntKind.u64 0] (n-i)).toList=aek at hZl ⊢;have ng:i*2+aek.length<=cu.size:=by omega
   refine⟨_,rfl,⟨kM _,.inr ⟨g,cap,_,by rw[Tg,<-xP.out];rfl,hV,hB.part (i*2) aek ng,by rw[Tg,<-xP.out];omega,jg,(Cv cu _ _ ng).trans jo.out,?_⟩⟩,hj.trans ((vq g (i*2) aek wr).imp λb hb=>hb▸hV)⟩;rw[Tg,<-xP.out,show ∀l:List E,l.toArray.toList=l from λ_=>rfl,bp,List.take_append_of_le_length (by simp;omega),List.take_take,Nat.min_self,Bm.out]
structure Qu where
 (l:List aes.Ab) (k:Int)
structure Bk where
 (ep:Int) (eW:List Dl) (sh:Nat) (q:List Qu) (cuts:List (Int×Int))
def Qu.new:Qu:=⟨[],0⟩
def Bk.new:Bk:=⟨0,[],1,[.new,.new,.new,.new],[]⟩
def Bk.qu(b:Bk)(k:Nat):Qu:=b.q.getD k .new
def Bk.add(b:Bk)(k:Nat)(sq:Int)(ds:List Dl):Bk:=if aes.vE (b.qu k).l (b.qu k).k sq ds.length=0 then { b with eW:=b.eW.filter (λd => !OP ds d),q:=b.q.set k ⟨(b.qu k).l++[(sq,ds)],sq⟩,cuts:=b.cuts++[((k:Int),sq)] } else b
def a2z(c:Int×Int):List E:=[(),J c.1,J c.2]
def pz(z:aQ)(i:Nat):E := .pointer (some ⟨z.getD i 0,0,none⟩)
def Im(z:aQ)(sl cu:E)(b:Bk):Array E:=#[J b.ep,sl,J b.sh,pz z 0,pz z 1,pz z 2,pz z 3,cu]
def oO(z:aQ)(q:List Qu):List Bl:=(z.zip q).map λp => .o (aes.eA p.1 p.2.l p.2.k)
def Nj(z:aQ)(q:List Qu):qD (oO z q):=qV λx X=>by obtain⟨p,_,rfl⟩:=List.mem_map.1 X;exact aes.eA.framed _ _ _
def lS{q:List Qu}(hz:z.length=4)(hq:q.length=4)(K:k<4):(oO z q)[k]?=some (.o (aes.eA (z.getD k 0) (q.getD k .new).l (q.getD k .new).k)):=by unfold oO;rw[List.getElem?_map,List.getElem?_eq_getElem (by simp;omega),dp,List.getElem_zip];simp[List.getD_eq_getElem?_getD,List.getElem?_eq_getElem (show k<z.length by omega),List.getElem?_eq_getElem (show k<q.length by omega)]
def tv{q:List Qu}(hz:z.length=4)(hq:q.length=4)(K:k<4)(x:Qu):(oO z q).set k (.o (aes.eA (z.getD k 0) x.l x.k))=oO z (q.set k x):=by
 unfold oO;apply List.ext_getElem?;intro i;rw[List.getElem?_map,List.getElem?_set,List.getElem?_map];by_cases hi:i<4
 ·rw[List.getElem?_eq_getElem (l:=z.zip q) (by simp;omega),List.getElem?_eq_getElem (l:=z.zip (q.set k x)) (by simp;omega),dp,dp,List.getElem_zip,List.getElem_zip,List.getElem_set]
  by_cases hki:k=i
  ·subst hki
   simp[hz,hq,K,List.getD_eq_getElem?_getD,List.getElem?_eq_getElem (show k<z.length by omega)]
  ·rw[aB hki];simp[hki]
 ·rw[List.getElem?_eq_none (l:=z.zip q) (by simp;omega),List.getElem?_eq_none (l:=z.zip (q.set k x)) (by simp;omega)]
  split;·omega
  ·rfl
def YR{b:Bk}(hq:b.q.length=4)(K:k<4):b.q.set k ⟨(b.qu k).l,(b.qu k).k⟩=b.q:=by
 unfold Bk.qu;apply List.ext_getElem?;intro i;rw[List.getElem?_set];split
 ·rename_i h
  subst h;rw[aA ap,List.getD_eq_getElem?_getD,List.getElem?_eq_getElem (show k<b.q.length by omega)];rfl
 ·rfl
def ib(st:Nat)(z:aQ)(sl cu:E)(b:Bk):List Bl := .c st 186 (Im z sl cu b)::.o (fT 147 2 sl b.eW.length (fw b.eW))::.o (fT 37 3 cu b.cuts.length (b.cuts.flatMap a2z))::oO z b.q
def Cw(st:Nat)(z:aQ)(sl cu:E)(b:Bk):qD (ib st z sl cu b):=⟨trivial,fT.framed _ _ _ _ _,fT.framed _ _ _ _ _,Nj _ _⟩
def iO(st:Nat)(z:aQ)(b:Bk):ei:=λw V=>(z.length=4∧b.q.length=4)∧∃sl cu,dU (qv (ib st z sl cu b)) w V
theorem iO.framed(st:Nat)(z:aQ)(b:Bk):eQ (iO st z b):=λw O V ⟨I,sl,cu,Z⟩ K=>⟨I,sl,cu,dU.framed _ (f_ (Cw _ _ _ _ _)) w O V Z K⟩
section
variable{w0:G}{l:List Bl}{b:Bk}
theorem iO.opn(h:St V w0 (.o (iO st z b)::l) w):(z.length=4∧b.q.length=4)∧∃sl cu,St V w0 (ib st z sl cu b++l) w:=by obtain⟨U,hU,_⟩:=h.own.see 0 rfl;obtain⟨k,K⟩:=St.opn (κ:=E×E) (o:=λk=>ib st z k.1 k.2 b) h λU ⟨_,sl,cu,hM⟩=>⟨(sl,cu),hM,Cw _ _ _ _ _⟩;exact⟨hU.1,k.1,k.2,K⟩
theorem iO.cls{sl cu:E}(hz:z.length=4∧b.q.length=4)(h:St V w0 (ib st z sl cu b++l) w):St V w0 (.o (iO st z b)::l) w:=h.cls (iO.framed _ _ _) λU hM=>⟨hz,sl,cu,hM⟩
end
def YS(w:G)(U D D2:aV)(sl:E)(l:List Dl)(y m c:Nat)(sq:Int)(A:aU)(ds:List Dl)(hl:l.length<=1048576)(hU:∀b,D2 b->U b∨D b)(kp:∀b,U b∨D b->b<(w:Nat))(hd:kg w D2 A m ds)(hm:m<=1048576)(hy:U y)(hB:eL w y 196 #[J sq,Y A m c]):Lw N (λb=>U b∨D b) 369 #[sl,.func (.func 370) #[] #[y]] [.o (fT 147 2 sl l.length (fw l))] (λsl' e=>e=b5 sl') (λsl'=>[.o (fT 147 2 sl' (l.filter λd => !OP ds d).length (fw (l.filter λd => !OP ds d)))]) w:=λV hM hV=>by
 obtain⟨V1,_,W,_,k1,_⟩:=hM;have hT:∀O,dP V1 w O->Cu 370 #[y] (OP ds) l O:=λO hj=>⟨λvs w=>by kernel_rfl,λw2 H d _=>by have mJ:eL w2 y 196 #[J sq,Y A m c]:=eL.grow ((hj.block y (kp y (.inl hy)) λh=>(hV y (k1 y h)).2 (.inl hy)).trans hB) H;have hd2:kg w2 D2 A m ds:=In.grow (In.just hd hj λb hb h=>(hV b (k1 b h)).2 (hU b hb)) H;exact US w2 d.1 d.2 y m c sq A D2 ds hd2 hm mJ⟩
 refine (YQ w l V1 sl l.length W hl 370 y (OP ds) (hT w (dP.dR (Grow.refl w))) hT).mono ?_;rintro e O ⟨sl',rfl,B7,hj⟩;exact⟨sl',rfl,⟨_,λ_=>False,B7.mono λb hb => .inl (k1 b hb),trivial,λ_ h=>h,λ_ h=>h.elim,λ_ _ h=>h⟩,hj.imp k1⟩
def Qy:(Tryz.prog.info? 37).map (λi=>(i.zero,i.size,i.bytes))=some (some (aZ #[(),(),()]),3,24):=by kernel_rfl
def YT:Elem N 81 37 3 24 (aZ #[(),(),()]):=⟨Tryz.underlying81,info_parts Qy,rfl,by decide,by decide⟩
def Qz(w:G)(D:aV)(st:Nat)(z:aQ)(b:Bk)(k:Nat)(K:k<4)(sq:Int)(ds:List Dl)(A:aU)(c:Nat)(hd:kg w D A ds.length ds)(xR:ds.length<=c)(jg:c<=dL)(vb:ds.length<=1048576)(jv:∀b,D b->b<(w:Nat))(hs:b.eW.length<=1048576)(hc:b.cuts.length<=1048576):Lw N D 337 #[st,J k,aZ #[J sq,Y A ds.length c]] [.o (iO st z b)] (λ(_:Unit)e=>e=b5 (a_ #[])) (λ_=>[.o (iO st z (b.add k sq ds))]) w:=by
 intro V hM hV;have lG:∀x,D x->x<(w:Nat)∧¬ V x:=λx X=>⟨jv x X,λh=>(hV x h).2 X⟩;have L:=St.begin_ hM (λb hb=>(hV b hb).1) ⟨iO.framed _ _ _,trivial⟩;obtain⟨⟨hz,hq⟩,sl,cu,L⟩:=iO.opn L;rw[bm] at L;obtain⟨A1,c1,rfl,lx,sF⟩:=fT.oJ L 1 rfl;obtain⟨A2,c2,rfl,mL,BO⟩:=fT.oJ L 2 rfl;obtain⟨y,wa,HY,HA,L⟩:=L.new' #[J sq,Y A ds.length c] 196;obtain⟨g,Hg⟩:=az (z.getD k 0);have Mu:(Im z (Y A1 b.eW.length c1) (Y A2 b.cuts.length c2) b)[3+k]?=some ((g:E)):=by
  have h4:k=0∨k=1∨k=2∨k=3:=by omega
  rw[Hg.out];rcases h4 with rfl|rfl|rfl|rfl<;>rfl
 have xw:∀O,St V w (.c y 196 #[J sq,Y A ds.length c]::ib st z (Y A1 b.eW.length c1) (Y A2 b.cuts.length c2) b) O->O.cell? ⟨st,3+k,none⟩=some ((g:E))∧O.cell? (y,0)=some (J sq)∧O.cell? (y,1)=some (Y A ds.length c):=λO h=>by have hf:=h.facts;exact⟨(hf.2.1.1 (3+k)).trans Mu,hf.1.1 0,hf.1.1 1⟩
 go_in;go_wp2_with fail;rw[<-HA.out,<-HY.out];have eZ:=L.grow (Grow.refl _).drew;have EN:=xw _ eZ;refine dO rfl ?_;refine fV (λO=>O.cell? ⟨st,3+k,none⟩=some ((g:E))∧O.cell? (y,0)=some (J sq)∧O.cell? (y,1)=some (Y A ds.length c)) [] 9 rfl [0,1,2,3,4,5,6] ?_;iterate 4 (refine ff rfl EN (λw1 ⟨I,Z,T⟩=>aM) ?_)
 refine ff rfl EN (λw1 ⟨I,Z,T⟩ R W=>by go_simp;rw[aA ap];go_simp;exact W) ?_;iterate 2 (refine ff rfl EN (λw1 ⟨I,Z,T⟩=>aM) ?_)
 refine fG 7 [8] rfl ?_;go_wp2_with fail;rw[Hg.out];have Tv:∀l' O,St V w l' O->kg O D A ds.length ds:=λl' O h=>In.keep hd λb hb _=>h.keep lG b hb;obtain⟨aep,HE⟩:=az (aes.vE (b.qu k).l (b.qu k).k sq ds.length);refine (eZ.Il (k+4) (S:=aes.eA (z.getD k 0) (b.qu k).l (b.qu k).k) (lS hz hq K) (λ_=>aes.eA.framed _ _ _) (St.far lG) (λU hU kp=>Lw.turns (aes.ut _ D _ _ _ sq A ds.length c ds (Tv _ _ eZ) xR jg))).mono ?_;rw[<-HE.out];rintro e w1 ⟨_,rfl,eC⟩;have eC:St V w (.c y 196 #[J sq,Y A ds.length c]::.c st 186 (Im z (Y A1 b.eW.length c1) (Y A2 b.cuts.length c2) b)::.o (fT 147 2 (Y A1 b.eW.length c1) b.eW.length (fw b.eW))::.o (fT 37 3 (Y A2 b.cuts.length c2) b.cuts.length (b.cuts.flatMap a2z))::oO z (b.q.set k ⟨aes.Jc (b.qu k).l (b.qu k).k sq ds.length ds,aes.Jd (b.qu k).l (b.qu k).k sq ds.length⟩)) w1:=by rw[<-tv hz hq K];exact eC
 have EN:w1.cell? ⟨st,3+k,none⟩=some ((g:E))∧w1.cell? (y,0)=some (J sq)∧w1.cell? (y,1)=some (Y A ds.length c):=by have hf:=eC.facts;exact⟨(hf.2.1.1 (3+k)).trans Mu,hf.1.1 0,hf.1.1 1⟩
 clear eZ L;have nu:b.add k sq ds=if aep=0 then { b with eW:=b.eW.filter (λd => !OP ds d),q:=b.q.set k ⟨(b.qu k).l++[(sq,ds)],sq⟩,cuts:=b.cuts++[((k:Int),sq)] } else b:=by rw[HE.out];rfl
 by_cases h0:aep=0
 ·rw[aA h0] at nu
  have hL:aes.Jc (b.qu k).l (b.qu k).k sq ds.length ds=(b.qu k).l++[(sq,ds)]:=by unfold aes.Jc;rw[aA (by rw[<-HE.out];exact h0)]
  have hK:aes.Jd (b.qu k).l (b.qu k).k sq ds.length=sq:=by unfold aes.Jd;rw[aA (by rw[<-HE.out];exact h0)]
  rw[hL,hK] at eC;replace nu:=Q nu;subst h0;go_wp2_with fail;refine⟨λ_=>EN,?_⟩;refine ff rfl EN (λw1 ⟨I,Z,T⟩=>aM) ?_;refine gQ ?_;have ko:w1.cell? (st,1)=some (Y A1 b.eW.length c1):=eC.facts.2.1.1 1;go_wp2_with fail;refine (eC.Il 2 rfl (λ_=>fT.framed _ _ _ _ _) (St.far lG) (λU hU kp=>YS w1 U D D (Y A1 b.eW.length c1) b.eW y ds.length c sq A ds hs (λ_ h => .inr h) (λx X=>X.elim (kp x) λh=>bu (jv x h) eC.size) (Tv _ _ eC) vb (yE hU 0 rfl).1 (yE hU 0 rfl).2)).mono ?_;rintro e w2 ⟨sl',rfl,ec⟩;simp only[bI,bL] at ec;obtain⟨A3,c3,rfl,tP,Ud⟩:=fT.oJ ec 2 rfl;clear EN ko eC;have WH:=ec.facts.2.1;simp only[Im] at WH;go_wp2_with fail;have eh:=ec.put 1 rfl 1 (Y A3 (b.eW.filter λd => !OP ds d).length c3);clear ec WH;generalize (w2.setCell (st,1) (Y A3 (b.eW.filter λd => !OP ds d).length c3))=w3 at eh;obtain⟨y2,wb,zl,HB,eU⟩:=eh.new' #[(),J k,J sq] 37;have tP:w3.drew.cell? (st,7)=some (Y A2 b.cuts.length c2)∧w3.drew.cell? (y,0)=some (J sq):=by have hf:=(eh.grow (Grow.refl _).drew).facts;exact⟨hf.2.1.1 7,hf.1.1 0⟩
  refine dO rfl ?_;refine fV (λO=>O.cell? (st,7)=some (Y A2 b.cuts.length c2)∧O.cell? (y,0)=some (J sq)) [11,12,13] 14 rfl [0,1,2,3,4,5,6,7,8] ?_;iterate 9 (refine ff rfl tP (λw1 ⟨I,Z⟩=>aM) ?_)
  refine fG 9 [] rfl ?_;go_wp2_with fail;rw[<-HB.out,<-zl.out];have eI:=eU.grow (Grow.refl _).drew;refine⟨λ_=>⟨eI.facts.2.2.1.1 7,eI.facts.2.1.1 0⟩,?_⟩;refine fG 10 [] rfl ?_;refine iw YT rfl (.tmp 28) (.tmp 33) rfl rfl (eI.front 4 rfl) (A:=some (y2,0)) (m:=1) (c:=1) (news:=[(),J k,J sq]) rfl (In.reads ((eI.blk 0 rfl).kB (size:=3) (n:=1) rfl)) (by simp[Value.oneCell']) ap ?_;intro v' w4 eS;obtain⟨A6,c6,rfl,lE,hm6⟩:=fT.oJ eS 0 rfl;refine wpList_nil ⟨λ_=>⟨eS.facts.2.2.1.1 7,eS.facts.2.1.1 0⟩,?_⟩;refine gx 11 rfl aw ?_;have hf6:=eS.facts.2.2.1;simp only[Im] at hf6;go_wp2_with fail;have fQ:=((eS.put 3 rfl 7 (Y A6 (b.cuts.length+1) c6)).dT 1 rfl).dT 1 rfl;go_end0;have fK:=iO.cls (l:=[]) (st:=st) (z:=z) (b:=b.add k sq ds) (sl := Y A3 (b.eW.filter λd => !OP ds d).length c3) (cu := Y A6 (b.cuts.length+1) c6) (by rw[nu.out];exact⟨hz,by rw[dq];exact hq⟩) (by rw[bm,nu.out];have h9:=fQ.perm ((List.Perm.swap _ _ _).trans (List.Perm.cons _ (List.Perm.swap _ _ _)));unfold ib;dsimp only;rw[bd,bO];exact h9)
  obtain⟨r1,r2⟩:=fK.fin;exact⟨(),rfl,r1,r2⟩
 ·rw[aB h0] at nu
  have hL:aes.Jc (b.qu k).l (b.qu k).k sq ds.length ds=(b.qu k).l:=by unfold aes.Jc;rw[aB (by rw[<-HE.out];exact h0)]
  have hK:aes.Jd (b.qu k).l (b.qu k).k sq ds.length=(b.qu k).k:=by unfold aes.Jd;rw[aB (by rw[<-HE.out];exact h0)]
  rw[hL,hK,YR hq K] at eC;have OD:(aep != 0)=true:=by simp[h0]
  replace nu:=Q nu;replace h0:=Q h0;go_wp2_with fail;refine⟨λ_=>EN,?_⟩;refine ff rfl EN (λw1 ⟨I,Z,T⟩=>aM) ?_;refine gQ ?_;go_wp2;refine bodyPost_ret (results_none rfl _ _ _) rfl ?_;obtain⟨r1,r2⟩:=(iO.cls (l:=[]) ⟨hz,hq⟩ (by rw[bm];exact eC.dT 0 rfl)).fin;exact⟨(),rfl,by rw[nu.out];exact r1,r2⟩
open V
def iE(w:G)(u:E)(l:aT)(m:Nat)(h:dX l u w)(hl:l.length<=1099511627776)(hm:m<18446744073709551616):dF N 182 #[u,ae ah m] w λe O=>∃v,e=b5 v∧Grow w O∧dX (l++enc m) v O:=by obtain⟨A,n,c,rfl,hb,_⟩:=h;exact (Du w A n c l hb (by rw[<-hb.len];exact hl) m hm).mono λ_ _ ⟨v,he,hO,H⟩=>⟨v,he,H,Own.isBytes hO⟩
def uA(w:G)(u:E)(l:aT)(s:aR)(h:dX l u w)(hl:l.length<=1099511627776)(hs:s.size<=1099511627776):dF N 240 #[u,aX s] w λe O=>∃v,e=b5 v∧Grow w O∧dX (l++enc s.size++s.data.toList) v O:=by obtain⟨A,n,c,rfl,hb,_⟩:=h;exact (yQ w A n c l hb (by rw[<-hb.len];exact hl) s hs).mono λ_ _ ⟨v,he,hO,H⟩=>⟨v,he,H,Own.isBytes hO⟩
def wX(w:G):dX [] (Y none 0 0) w:=⟨none,0,0,rfl,Reads.nil,bh _,bo _⟩
def dB(d:Dl):List UInt8:=enc d.1.size++d.1.data.toList++enc d.2
def nC(l:List Dl):List UInt8:=l.flatMap dB
def Small(d:Dl):Prop:=d.1.size<=1000∧d.2<18446744073709551616
def YU(h:Small d):(dB d).length<=1020:=by have I:=eG (n:=d.1.size) (by have:=h.1;omega);have Z:=eG h.2;have T:d.1.data.toList.length=d.1.size:=rfl;unfold dB;rw[bd,bd,T];have:=h.1;omega
theorem DX:∀(l:List Dl),(∀d∈l,Small d)->(nC l).length<=l.length*1020
 | [],_=>by simp[nC]
 | d::l,h=>by
   have I:=DX l λx X=>h x (by simp[X]);have Z:=YU (h d (by simp));rw[show nC (d::l)=dB d++nC l from rfl,bd,bC];omega
def QA(l:List Dl)(d:Dl):nC (l++[d])=nC l++dB d:=by simp[nC]
def vM(w:G)(u:E)(l:aT)(V:aV)(A:aU)(n c:Nat)(ds:List Dl)(hu:dX l u w)(hl:l.length<=1048576)(hd:kg w V A n ds)(hn:n<=1048576)(hs:∀d∈ds,Small d):dF N 299 #[u,Y A n c] w λe O=>∃v,e=b5 v∧Grow w O∧dX (l++nC ds) v O:=by
 have sI:=kg.len hd;have a7e:∀(vs:aP)(w:G),(callFunc 240 vs).run N w=.ok (.enter 240 vs) w:=λvs w=>by go_simp
 have zm:∀(vs:aP)(w:G),(callFunc 182 vs).run N w=.ok (.enter 182 vs) w:=λvs w=>by go_simp
 go_in;go_wp2_with fail;go_loopw [0,9] (λv i wr=>∃k:Nat,k<=n∧i=J k∧dX (l++nC (ds.take k)) v wr∧Grow w wr) (λ_ i _=>n-(intOf i).toNat);case atStart=>exact⟨0,by omega,rfl,by simpa [nC] using hu,Grow.refl _⟩
 case round=>
  obtain⟨k,oF,rfl,hB,i7⟩:=hrel;by_cases K:k<n
  ·obtain⟨ad,hq,rfl,f0,f1⟩:=kY (In.grow hd i7) K
   have e0:=f0 wr (Grow.refl _);have e1:=f1 wr (Grow.refl _);have xk:ds.take (k+1)=ds.take k++[ds[k]]:=br hq;have tR:=hs _ (bD hq);have HS:=Q xk;have Ic:=DX (ds.take k) λd hd=>hs d (bY hd);rw[bn,cF ap] at Ic;clear xk f0 f1;generalize ds[k]=y at e0 e1 tR HS;obtain⟨s,x⟩:=y;dsimp only[Small] at e0 e1 tR;have HL:=Q Ic;clear Ic;obtain⟨L0,OQ⟩:=az (l++nC (ds.take k));rw[<-OQ.out] at hB;have TL:L0.length<=1099511627776:=by rw[OQ.out,bd];have:=HL.out;have:=cK 1020 (show k<=1048576 by omega);omega
   obtain⟨b,HBb⟩:=az ((wr:Nat));obtain⟨wa,HA⟩:=az (wr.alloc (.cells #[aX s,ae ah x] 147):G);have zn:=eL.made wr 147 #[aX s,ae ah x];have fA:=dZ wr (.cells #[aX s,ae ah x] 147);rw[<-HA.out] at zn fA;rw[<-HBb.out] at zn;have hBa:=hB.below fA;go_wp2_with fail;rw[<-HA.out,<-HBb.out];refine ia 8 22 [(3,.inr (λ_=>dX (L0++enc s.size++s.data.toList))),(6,.inr (λ_=>dX (L0++enc s.size++s.data.toList++enc x)))] rfl rfl aw aw aw ?_ ?_
   ·intro x X φ he
    simp only[b_,bW,or_false] at X;rcases X with rfl|rfl<;>cases he
    all_goals first|exact gB (gJ _)|fail
   intro ops' A' K' aeq oT o8 hK hT;refine ji 13 (u0) ?_;refine gT 14 (.tmp 6) ((b:E)) ((b:E)) ?_;refine eD 15 (.tmp 14) ((b:E)) (aX s) (λρ I kk w1(H:Grow _ w1)hb hf=>by have c:=(zn.grow H).cell 0;go_simp) ?_;refine gP 16 aj am (eu aj) (λ_=>dX (L0++enc s.size++s.data.toList)) (by rw[hK.out];rfl) 240 _ _ aj [u0,aX s] aj a7e (λkk w1(H:Grow _ w1)hb hf=>fj (φ:=λ_=>dX (L0++enc s.size++s.data.toList)) aj (by exact uA w1 u0 L0 s (hBa.below H) TL ap)) (λv16=>?_);refine gT 17 (.tmp 6) ((b:E)) (((b,1):E)) ?_;refine eD 18 (.tmp 17) (((b,1):E)) (ae ah x) (λρ I kk w1(H:Grow _ w1)hb hf=>by have c:=(zn.grow H).cell 1;go_simp) ?_;refine gP 19 aj am (eu aj) (λ_=>dX (L0++enc s.size++s.data.toList++enc x)) (by rw[hK.out];rfl) 182 _ _ aj [v16,ae ah x] aj zm (λkk w1(H:Grow _ w1)hb hf=>fj (φ:=λ_=>dX (L0++enc s.size++s.data.toList++enc x)) aj (by exact iE w1 v16 _ x (gj hf (by rw[o8.out];kernel_rfl)) (by have:s.data.toList.length=s.size:=rfl;have:=eG (n:=s.size) ap;simp only[bd];have:=OQ.out;rw[OQ.out,bd];have:=HL.out;have:=cK 1020 (show k<=1048576 by omega);omega) tR.2)) (λv19=>?_);refine ji 0 (v19) ?_;refine nL (λ_ _ w1(H:Grow _ w1)_ gy=>hT _ _ ?_);clear oT o8 hK hT;simp only[jq,Act.put,bJ,bL,bI,cJ,d9];have hE:=gy.1;clear gy;have Ie:dX (l++nC (ds.take (k+1))) v19 w1:=by rw[HS.out,QA,<-bp,<-OQ.out];show dX (L0++(enc s.size++s.data.toList++enc x)) v19 w1;rw[<-bp,<-bp];exact hE
   go_wp2_with fail;go_roundw;case rel=>exact⟨k+1,by omega,by go_num,Ie,i7.trans (fA.trans H)⟩
   case measure=>simp[intOf];omega
  ·obtain rfl:k=n:=by omega
   rw[bH ap] at hB;go_wp2;go_ret;exact⟨_,rfl,i7,hB⟩
def p_(e:En):List UInt8:=if e.k=2 then [UInt8.ofNat 2]++enc e.fr.toNat++enc e.tg.toNat++enc e.se.size++e.se.data.toList
 else [UInt8.ofNat 1]++enc e.fr.toNat++enc e.tg.toNat++([e.ag.toNat,e.sh.toNat,e.sq.toNat,e.ep.toNat,e.ds.length].flatMap enc)++nC e.ds
theorem rk:∀(l:aQ),(∀n∈l,n<18446744073709551616)->(l.flatMap enc).length<=l.length*10
 | [],_=>by simp
 | n::l,h=>by
   have I:=rk l λx X=>h x (by simp[X]);have Z:=eG (h n (by simp));rw[bN,bd,bC];omega
def Ls{e:En}(h:e.aeu):∀d∈e.ds,Small d:=λd hd=>by obtain⟨I,Z,T,h4⟩:=h.2.2.2.2.2.2.2 d hd;exact⟨h4,by omega⟩
def UT(w:G)(e:En)(V:aV)(A:aU)(c:Nat)(gS:e.Ok)(hr:e.R)(hd:kg w V A e.ds.length e.ds):dF N 239 #[aZ (e.agg A c)] w λen O=>∃v,en=b5 (a_ #[v,()])∧Grow w O∧dX (p_ e) v O:=by
 obtain⟨⟨qC,Nk⟩,_⟩:=id gS;obtain⟨k,ag,sh,sq,ep,ds,se,fr,tg⟩:=e;obtain⟨I,Z,T,h4,h5,h6,h7,jo⟩:=hr;simp only at I Z T h4 h5 h6 jo qC Nk;subst I Z T h4 h5 h6;obtain⟨F,rfl⟩:=cX qC.1;obtain⟨aeo,rfl⟩:=cX Nk.1;unfold En.agg;dsimp only[cx] at hd ⊢;have zm:∀(vs:aP)(w:G),(callFunc 182 vs).run N w=.ok (.enter 182 vs) w:=λvs w=>by go_simp
 have gN:=dZ w (.cells #[J 2,(),(),(),(),Y A 0 c,aX se,J F,J aeo] 40);have hB:=eL.made w 40 #[J 2,(),(),(),(),Y A 0 c,aX se,J F,J aeo];obtain⟨x,HX⟩:=az ((w:Nat):Nat);obtain⟨wa,HA⟩:=az (w.alloc (.cells #[J 2,(),(),(),(),Y A 0 c,aX se,J F,J aeo] 40):G);rw[<-HA.out] at hB gN;rw[<-HX.out] at hB;have X:x<(wa:Nat):=hB.lt;have W:=jN wa _ V A c gS (In.grow hd gN);unfold En.agg at W;dsimp only at W;have c0:=λ(w1:G)(H:Grow wa w1)=>(hB.grow H).cell 0;go_in;go_wp2_with fail;rw[<-HA.out,<-HX.out];refine W.mono ?_;rintro e w2 ⟨rfl,fN⟩;have zn:=hB.grow fN;have xS:=gN.trans fN;have wF:IntKind.u64.wrap (F:Int)=(F:Int):=by rw[wrap_u64];omega
 have wG:IntKind.u64.wrap (aeo:Int)=(aeo:Int):=by rw[wrap_u64];omega
 clear W c0;go_wp2_with fail;refine ia 13 65 [(3,.inr (λ_=>dX [UInt8.ofNat 2])),(7,.inr (λ_=>dX ([UInt8.ofNat 2]++enc F))),(11,.inr (λ_=>dX ([UInt8.ofNat 2]++enc F++enc aeo)))] rfl rfl aw aw aw ?_ ?_
 ·intro x X φ he
  simp only[b_,bW,or_false] at X;rcases X with rfl|rfl|rfl<;>cases he
  all_goals first|exact gB (gJ _)|fail
 intro ops' A' K' aeq oT o8 hK hT;refine gT 13 (.tmp 1) ((x:E)) ((x:E)) ?_;refine eD 14 (.tmp 13) ((x:E)) (J 2) (λρ I kk w1(H:Grow _ w1)hb hf=>by have c:=(zn.grow H).cell 0;go_simp) ?_;refine eD 15 (.tmp 14) (J 2) (.int .u8 2) (λρ I kk w1(H:Grow _ w1)hb hf=>by go_simp;try rfl) ?_;refine tX 16 aj am (eu aj) (λ_=>dX [UInt8.ofNat 2]) (by rw[hK.out];rfl) (.tmp 15) (.int .u8 2) aj (λρ I kk w1(H:Grow _ w1)hb hf=>by refine i9 (φ:=λ_=>dX [UInt8.ofNat 2]) aj ?_;exact gC (w:=w1.alloc (.cells #[.int .u8 2] 5)) (by go_simp) ⟨dZ w1 _,yz w1 #[.int .u8 2] 5 1 [UInt8.ofNat 2] rfl rfl am⟩) (λv16=>?_);refine gT 17 (.tmp 1) ((x:E)) (((x,7):E)) ?_;refine eD 18 (.tmp 17) (((x,7):E)) (J F) (λρ I kk w1(H:Grow _ w1)hb hf=>by have c:=(zn.grow H).cell 7;go_simp) ?_;refine eD 19 (.tmp 18) (J F) (ae ah F) (λρ I kk w1(H:Grow _ w1)hb hf=>by go_simp;try rfl) ?_;refine gP 20 aj am (eu aj) (λ_=>dX ([UInt8.ofNat 2]++enc F)) (by rw[hK.out];rfl) 182 _ _ aj [v16,ae ah F] aj zm (λkk w1(H:Grow _ w1)hb hf=>fj (φ:=λ_=>dX ([UInt8.ofNat 2]++enc F)) aj (by exact iE w1 v16 [UInt8.ofNat 2] F (gj hf (by rw[o8.out];kernel_rfl)) (by simp) ap)) (λv20=>?_);refine gT 21 (.tmp 1) ((x:E)) (((x,8):E)) ?_;refine eD 22 (.tmp 21) (((x,8):E)) (J aeo) (λρ I kk w1(H:Grow _ w1)hb hf=>by have c:=(zn.grow H).cell 8;go_simp) ?_;refine eD 23 (.tmp 22) (J aeo) (ae ah aeo) (λρ I kk w1(H:Grow _ w1)hb hf=>by go_simp;try rfl) ?_;refine gP 24 aj am (eu aj) (λ_=>dX ([UInt8.ofNat 2]++enc F++enc aeo)) (by rw[hK.out];rfl) 182 _ _ aj [v20,ae ah aeo] aj zm (λkk w1(H:Grow _ w1)hb hf=>fj (φ:=λ_=>dX ([UInt8.ofNat 2]++enc F++enc aeo)) aj (by exact iE w1 v20 ([UInt8.ofNat 2]++enc F) aeo (gj hf (by rw[o8.out];kernel_rfl)) (by have:=eG (n:=F) ap;rw[bd];simp only[bw];omega) ap)) (λv24=>?_);refine ji 5 (v24) ?_;refine nL (λ_ _ w1(H:Grow _ w1)_ gy=>hT _ _ ?_);clear oT o8 hK hT;simp only[jq,Act.put,bJ,bL,bI,cJ,d9];have hE:=gy.1;clear gy;have c0:=(zn.grow H).cell 0;have c6:=(zn.grow H).cell 6;have hTx:=uA w1 v24 _ se hE (by have:=eG (n:=F) ap;have:=eG (n:=aeo) ap;simp only[bd,bw];omega) ap;go_wp2_with fail;refine hTx.mono ?_;rintro e w3 ⟨v3,rfl,jU,Lu⟩;go_wp2;go_ret2;refine⟨v3,rfl,xS.trans (H.trans jU),?_⟩;unfold p_;rw[aA rfl];simpa only[cG,bp] using Lu
def UU(w:G)(e:En)(V:aV)(A:aU)(c:Nat)(gS:e.Ok)(hr:e.aeu)(hd:kg w V A e.ds.length e.ds):dF N 239 #[aZ (e.agg A c)] w λen O=>∃v,en=b5 (a_ #[v,()])∧Grow w O∧dX (p_ e) v O:=by
 obtain⟨⟨qC,Nk⟩,_⟩:=id gS;have tR:=Ls hr;obtain⟨k,ag,sh,sq,ep,ds,se,fr,tg⟩:=e;obtain⟨I,Z,T,h4,h5,h6,h7,_⟩:=hr;simp only at I Z T h4 h5 h6 h7 qC Nk tR;subst I Z;obtain⟨F,rfl⟩:=cX qC.1;obtain⟨aeo,rfl⟩:=cX Nk.1;obtain⟨AG,rfl⟩:=cX T.1;obtain⟨SH,rfl⟩:=cX h4.1;obtain⟨SQ,rfl⟩:=cX (show 0<=sq by omega);obtain⟨EP,rfl⟩:=cX (show 0<=ep by omega);unfold En.agg;dsimp only at hd ⊢;have zm:∀(vs:aP)(w:G),(callFunc 182 vs).run N w=.ok (.enter 182 vs) w:=λvs w=>by go_simp
 have gN:=dZ w (.cells #[J 1,J AG,J SH,J SQ,J EP,Y A ds.length c,"",J F,J aeo] 40);have hB:=eL.made w 40 #[J 1,J AG,J SH,J SQ,J EP,Y A ds.length c,"",J F,J aeo];obtain⟨x,HX⟩:=az ((w:Nat):Nat);obtain⟨wa,HA⟩:=az (w.alloc (.cells #[J 1,J AG,J SH,J SQ,J EP,Y A ds.length c,"",J F,J aeo] 40):G);rw[<-HA.out] at hB gN;rw[<-HX.out] at hB;have X:x<(wa:Nat):=hB.lt;have W:=jN wa _ V A c gS (In.grow hd gN);unfold En.agg at W;dsimp only at W;have c0:=λ(w1:G)(H:Grow wa w1)=>(hB.grow H).cell 0;go_in;go_wp2_with fail;rw[<-HA.out,<-HX.out];refine W.mono ?_;rintro e w2 ⟨rfl,fN⟩;have zn:=hB.grow fN;have xS:=gN.trans fN;have wF:IntKind.u64.wrap (F:Int)=(F:Int):=by rw[wrap_u64];omega
 have wG:IntKind.u64.wrap (aeo:Int)=(aeo:Int):=by rw[wrap_u64];omega
 clear W c0;go_wp2_with fail;refine ia 13 65 [(3,.inr (λ_=>dX [UInt8.ofNat 1])),(7,.inr (λ_=>dX ([UInt8.ofNat 1]++enc F))),(11,.inr (λ_=>dX ([UInt8.ofNat 1]++enc F++enc aeo)))] rfl rfl aw aw aw ?_ ?_
 ·intro x X φ he
  simp only[b_,bW,or_false] at X;rcases X with rfl|rfl|rfl<;>cases he
  all_goals first|exact gB (gJ _)|fail
 intro ops' A' K' aeq oT o8 hK hT;refine gT 13 (.tmp 1) ((x:E)) ((x:E)) ?_;refine eD 14 (.tmp 13) ((x:E)) (J 1) (λρ I kk w1(H:Grow _ w1)hb hf=>by have c:=(zn.grow H).cell 0;go_simp) ?_;refine eD 15 (.tmp 14) (J 1) (.int .u8 1) (λρ I kk w1(H:Grow _ w1)hb hf=>by go_simp;try rfl) ?_;refine tX 16 aj am (eu aj) (λ_=>dX [UInt8.ofNat 1]) (by rw[hK.out];rfl) (.tmp 15) (.int .u8 1) aj (λρ I kk w1(H:Grow _ w1)hb hf=>by refine i9 (φ:=λ_=>dX [UInt8.ofNat 1]) aj ?_;exact gC (w:=w1.alloc (.cells #[.int .u8 1] 5)) (by go_simp) ⟨dZ w1 _,yz w1 #[.int .u8 1] 5 1 [UInt8.ofNat 1] rfl rfl am⟩) (λv16=>?_);refine gT 17 (.tmp 1) ((x:E)) (((x,7):E)) ?_;refine eD 18 (.tmp 17) (((x,7):E)) (J F) (λρ I kk w1(H:Grow _ w1)hb hf=>by have c:=(zn.grow H).cell 7;go_simp) ?_;refine eD 19 (.tmp 18) (J F) (ae ah F) (λρ I kk w1(H:Grow _ w1)hb hf=>by go_simp;try rfl) ?_;refine gP 20 aj am (eu aj) (λ_=>dX ([UInt8.ofNat 1]++enc F)) (by rw[hK.out];rfl) 182 _ _ aj [v16,ae ah F] aj zm (λkk w1(H:Grow _ w1)hb hf=>fj (φ:=λ_=>dX ([UInt8.ofNat 1]++enc F)) aj (by exact iE w1 v16 [UInt8.ofNat 1] F (gj hf (by rw[o8.out];kernel_rfl)) (by simp) ap)) (λv20=>?_);refine gT 21 (.tmp 1) ((x:E)) (((x,8):E)) ?_;refine eD 22 (.tmp 21) (((x,8):E)) (J aeo) (λρ I kk w1(H:Grow _ w1)hb hf=>by have c:=(zn.grow H).cell 8;go_simp) ?_;refine eD 23 (.tmp 22) (J aeo) (ae ah aeo) (λρ I kk w1(H:Grow _ w1)hb hf=>by go_simp;try rfl) ?_;refine gP 24 aj am (eu aj) (λ_=>dX ([UInt8.ofNat 1]++enc F++enc aeo)) (by rw[hK.out];rfl) 182 _ _ aj [v20,ae ah aeo] aj zm (λkk w1(H:Grow _ w1)hb hf=>fj (φ:=λ_=>dX ([UInt8.ofNat 1]++enc F++enc aeo)) aj (by exact iE w1 v20 ([UInt8.ofNat 1]++enc F) aeo (gj hf (by rw[o8.out];kernel_rfl)) (by have:=eG (n:=F) ap;rw[bd];simp only[bw];omega) ap)) (λv24=>?_);refine ji 5 (v24) ?_;refine nL (λ_ _ w1(H:Grow _ w1)_ gy=>hT _ _ ?_);clear oT o8 hK hT;simp only[jq,Act.put,bJ,bL,bI,cJ,d9];have hE:=gy.1;clear gy;have Jw:=zn.grow H;have c0:=Jw.cell 0;have c1:=Jw.cell 1;have c2:=Jw.cell 2;have c3:=Jw.cell 3;have c4:=Jw.cell 4;have c5:=Jw.cell 5;have wA:IntKind.u64.wrap (AG:Int)=(AG:Int):=by rw[wrap_u64];omega
 have wS:IntKind.u64.wrap (SH:Int)=(SH:Int):=by rw[wrap_u64];omega
 have wQ:IntKind.u64.wrap (SQ:Int)=(SQ:Int):=by rw[wrap_u64];omega
 have wE:IntKind.u64.wrap (EP:Int)=(EP:Int):=by rw[wrap_u64];omega
 have wD:IntKind.u64.wrap (ds.length:Int)=(ds.length:Int):=by rw[wrap_u64];omega
 obtain⟨L0,OQ⟩:=az ([UInt8.ofNat 1]++enc F++enc aeo);rw[<-OQ.out] at hE;have TL:L0.length<=21:=by have:=eG (n:=F) ap;have:=eG (n:=aeo) ap;rw[OQ.out];simp only[bd,bw];omega
 obtain⟨aet,HN⟩:=az ([AG,SH,SQ,EP,ds.length]:List Nat);have hN5:aet.length=5:=by rw[HN.out];rfl
 have hNs:∀n∈aet,n<18446744073709551616:=by rw[HN.out];intro n hn;simp at hn;omega
 have hgn:=dZ w1 (.cells #[ae ah AG,ae ah SH,ae ah SQ,ae ah EP,ae ah ds.length] 42);have hNb:=eL.made w1 42 #[ae ah AG,ae ah SH,ae ah SQ,ae ah EP,ae ah ds.length];obtain⟨y,HY⟩:=az ((w1:Nat):Nat);obtain⟨wb,HB⟩:=az (w1.alloc (.cells #[ae ah AG,ae ah SH,ae ah SQ,ae ah EP,ae ah ds.length] 42):G);rw[<-HB.out] at hNb hgn;rw[<-HY.out] at hNb;have hEb:=hE.below hgn;have hNc:∀(wr:G),Grow wb wr->∀k,(K:k<aet.length)->wr.cell? ⟨y,k,none⟩=some (ae ah (aet[k]:Int)):=λwr i7 k K=>by
  rw[(hNb.grow i7).cell k];subst_eqs;have h5:k<5:=by omega
  have hN:=HN.out;subst hN;match k,h5 with
  | 0,_=>rfl
  | 1,_=>rfl
  | 2,_=>rfl
  | 3,_=>rfl
  | 4,_=>rfl
 have UV:=Jw.grow hgn;have fA:=xS.trans (H.trans hgn);go_wp2_with fail;rw[<-HB.out,<-HY.out];clear c0 c1 c2 c3 c4 c5;go_loopw [5,53] (λv i wr=>∃k:Nat,k<=5∧i=J k∧dX (L0++(aet.take k).flatMap enc) v wr∧Grow wb wr) (λ_ i _=>5-(intOf i).toNat);case atStart=>exact⟨0,by omega,rfl,by simpa using hEb,Grow.refl _⟩
 case round=>
  obtain⟨k,oF,rfl,hI,i7⟩:=hrel;by_cases K:k<5
  ·have cN:=hNc wr i7 k ap
   clear hNc;have hkN:k<aet.length:=by omega
   have xk:aet.take (k+1)=aet.take k++[aet[k]]:=br hkN;have fM:=hNs _ (bD hkN);have HS:=Q xk;clear xk;generalize aet[k]=m at cN fM HS;have ng:=rk (aet.take k) λn hn=>hNs n (bY hn);rw[bn] at ng;have hPt:=iE wr u5 _ m hI (by rw[bd];omega) fM;have TM:decide ((k:Int)<5)=true:=aC ap;go_wp2_with fail;refine hPt.mono ?_;rintro e w3 ⟨v3,rfl,jU,Lu⟩;go_wp2_with fail;go_roundw;case rel=>exact⟨k+1,by omega,by go_num,by rw[HS.out,bO,bN,cI,bm,<-bp];exact Lu,i7.trans jU⟩
   case measure=>simp[intOf];omega
  ·obtain rfl:k=5:=by omega
   have c5:=(UV.grow i7).cell 5;rw[bH ap] at hI;have ng:=rk aet hNs;have hDp:=vM wr u5 _ V A ds.length c ds hI (by rw[bd];omega) (In.grow hd (fA.trans i7)) ap tR;go_wp2_with fail;refine hDp.mono ?_;rintro e w3 ⟨v3,rfl,jU,Lu⟩;go_wp2;go_ret2;refine⟨v3,rfl,fA.trans (i7.trans jU),?_⟩;unfold p_;rw[aB (show ¬ (1:Int)=2 by decide)];dsimp only;rw[cG,cG,cG,cG,cG,cG,<-HN.out,<-OQ.out];exact Lu
def FZ(w:G)(e:En)(V:aV)(A:aU)(c:Nat)(gS:e.Ok)(hd:kg w V A e.ds.length e.ds):dF N 239 #[aZ (e.agg A c)] w λen O=>∃v,en=b5 (a_ #[v,()])∧Grow w O∧dX (p_ e) v O:=
 gS.2.elim (λh=>UU w e V A c gS h hd) (λh=>UT w e V A c gS h hd)
def ic(k:Nat)(ns:aQ):List UInt8:=enc k++ns.flatMap enc
theorem uB:∀(ns:aQ),(∀x∈ns,x<18446744073709551616)->(ns.flatMap enc).length<=ns.length*10
 | [],_=>by simp
 | x::ns,h=>by
   have:=uB ns λy hy=>h y (by simp[hy]);have:=eG (h x (by simp));simp only[bN,bd,bC];omega
def q7(w:G)(k:Nat)(A:aU)(n c:Nat)(ns:aQ)(D:aV)(h:In w D 1 A n (ns.map λ(x:Nat) => J x))(K:k<18446744073709551616)(hn:n<=8)(hs:∀x∈ns,x<=9223372036854775807):dF N 259 #[ae ah k,Y A n c] w λe O=>∃v,e=b5 v∧Grow w O∧dX (ic k ns) v O:=by
 have sI:ns.length=n:=by have:=h.1;simpa using this
 have hP:=iE w _ [] k (wX w) (by simp) K;go_in;go_wp2_with fail;refine hP.mono ?_;rintro e w1 ⟨v1,rfl,eO,OB⟩;have a4E:=eG K;go_wp2_with fail;go_loopw [5,12] (λv i wr=>∃j:Nat,j<=n∧i=J j∧dX (ic k (ns.take j)) v wr∧Grow w wr) (λ_ i _=>n-(intOf i).toNat);case atStart=>exact⟨0,by omega,rfl,by simpa [ic] using OB,eO⟩
 case round=>
  obtain⟨j,xf,rfl,hB,i7⟩:=hrel;by_cases hj:j<n
  ·obtain⟨ad,hA,hD,fM,hc⟩:=(h.grow i7).2 ap
   subst hA;have hq:j<ns.length:=by omega
   have e0:=hc j (J (ns[j]:Int)) (by simp[hq]);have e1:wr.cell? (ad.add (j*1))=some (J (ns[j]:Int)):=by rw[cO];exact e0
   have xk:ns.take (j+1)=ns.take j++[ns[j]]:=br hq;have HS:=Q xk;have tR:=hs _ (bD hq);have hl:=uB (ns.take j) λx X=>by have:=hs x (bY X);omega
   rw[bn,cF ap] at hl;clear xk hc;generalize ns[j]=x at e0 e1 tR HS;have X:IntKind.u64.wrap (x:Int)=(x:Int):=by rw[wrap_u64];omega
   have TL:(ic k (ns.take j)).length<=1099511627776:=by unfold ic;rw[bd];omega
   clear hl;have hP:=iE wr u5 _ x hB TL ap;go_wp2_with fail;refine hP.mono ?_;rintro e w2 ⟨v2,rfl,fN,KL⟩;have Tw:dX (ic k (ns.take (j+1))) v2 w2:=by rw[HS.out];unfold ic at KL ⊢;rw[bO,List.flatMap_singleton,<-bp];exact KL
   go_wp2_with fail;go_roundw;case rel=>exact⟨j+1,by omega,by go_num,Tw,i7.trans fN⟩
   case measure=>simp[intOf];omega
  ·obtain rfl:j=n:=by omega
   rw[bH ap] at hB;go_wp2;go_ret;exact⟨_,rfl,i7,hB⟩
def Jx(w:G)(n:Nat)(hn:n<=9223372036854775807):dF N 200 #[J n] w λe O=>∃v,e=b5 v∧Grow w O∧dX (ic 1 [n]) v O:=by have fA:=dZ w (.cells #[J n] 2);have hB:=eL.made w 2 #[J n];have W:=q7 _ 1 (some ⟨(w:Nat),0,none⟩) 1 1 [n] (λb=>b=(w:Nat)) (hB.kB (size:=1) (n:=1) rfl) am am (by intro x X;simp only[b_,bW,or_false] at X;omega);go_in;go_wp2_with fail;refine W.mono ?_;rintro e w1 ⟨v,rfl,H,hI⟩;go_wp2;go_ret;exact⟨v,rfl,fA.trans H,hI⟩
def Nl(w:G)(k n:Nat)(K:k<=9223372036854775807)(hn:n<=9223372036854775807):dF N 329 #[J k,J n] w λe O=>∃v,e=b5 v∧Grow w O∧dX (ic 5 [k,n]) v O:=by have fA:=dZ w (.cells #[J k,J n] 2);have hB:=eL.made w 2 #[J k,J n];have W:=q7 _ 5 (some ⟨(w:Nat),0,none⟩) 2 2 [k,n] (λb=>b=(w:Nat)) (hB.kB (size:=1) (n:=2) rfl) am am (by intro x X;simp only[b_,bW,or_false] at X;omega);go_in;go_wp2_with fail;refine W.mono ?_;rintro e w1 ⟨v,rfl,H,hI⟩;go_wp2;go_ret;exact⟨v,rfl,fA.trans H,hI⟩
def YV(w:G)(r B:Nat)(s:aR)(t:aT)(hs:s.size<18446744073709551616)(h:km r B (enc s.size++s.data.toList++t) w):dF N 138 #[r] w λe O=>e=b5 (aX s)∧km r B t O∧fX r w O:=by have:=N5 w r B s.data.toList t hs h;rwa [Array.toArray_toList] at this
def QB(d:Dl)(l:List Dl):nC (d::l)=dB d++nC l:=rfl
def rW(h:fX r w O):dP (λb=>b=r) w O:=dP.jW h rfl
def km.just{r B:Nat}{l:aT}{w O:G}{U:aV}(h:km r B l w)(hj:dP U w O)(hr:¬ U r)(hB:∀b,b<B->¬ U b):km r B l O:=by obtain⟨I,A,n,c,Z,T,h4⟩:=h;have:=Z.lt;exact⟨I,A,n,c,hj.blk Z hr,Reads.keep T λp hp=>World.cell?_of_block (hj.block p.block ap (hB _ hp)),h4⟩
def F_(w:G)(r B:Nat)(ds:List Dl)(t:aT)(h:km r B (nC ds++t) w)(hs:∀d∈ds,Small d)(hn:ds.length<=1048576):dF N 195 #[r,J ds.length] w λe O=>∃A c,e=b5 (Y A ds.length c)∧km r B t O∧kg O (New w O) A ds.length ds∧ds.length<=c∧c<=dL∧fX r w O:=by
 have hrw:=h.lt;have wu:B<=r:=h.1;obtain⟨n,HN⟩:=az (ds.length);have qJ:ds.length=n:=HN.out.symm;rw[<-HN.out] at hn ⊢;go_in;go_wp2_with fail;go_loopw [5,8] (λv i wr=>∃k:Nat,k<=n∧i=J k∧qW 147 2 nO (λ_ _ _=>True) (w:Nat) v (ds.take k) wr∧km r B (nC (ds.drop k)++t) wr∧fX r w wr) (λ_ i _=>n-(intOf i).toNat);case atStart=>exact⟨0,by omega,rfl,qW.nil (bh _),h,fX.refl r w⟩
 case round=>
  obtain⟨k,oF,rfl,hA,W,ho⟩:=hrel;obtain⟨A1,c1,tQ⟩:=hA.slice;rw[bn,cF ap] at tQ;subst tQ;by_cases K:k<n
  ·have hkd:k<ds.length:=by omega
   have xk:ds.take (k+1)=ds.take k++[ds[k]]:=br hkd;have hdn:ds.drop k=ds[k]::ds.drop (k+1):=bR hkd;have tR:=hs _ (bD hkd);rw[hdn,QB] at W;have HS:=Q xk;clear xk hdn;generalize ds[k]=y at W tR HS;obtain⟨s,x⟩:=y;dsimp only[Small] at tR;have B7:km r B (enc s.size++s.data.toList++(enc x++(nC (ds.drop (k+1))++t))) wr:=by simpa only[dB,bp] using W
   have hT:=YV wr r B s _ ap B7;go_wp2_with fail;refine hT.mono ?_;rintro e w1 ⟨rfl,mK,AO⟩;have hN:=kW w1 r B x _ tR.2 mK;have hA1:=hA.just pf (rW AO) (λb hb => .inl ap);go_wp2_with fail;refine hN.mono ?_;rintro e w2 ⟨rfl,ig,qM⟩;have sn:=hA1.just pf (rW qM) (λb hb => .inl ap);go_wp2_with (at_builtin;refine stay ?_);refine dN ?_;refine wM (b:=(s,x)) pS j4 (λa u hu=>tc [a] u (by simpa [fw] using hu)) aj (.tmp 12) (.tmp 17) aj sn (by rw[bn];omega) aj aj ?_;intro v2 w3 hA3 nx;have pM:fX r w w2:=fX.trans (fX.trans ho AO) qM;have OC:=pM.size;have UW:fX r w w3:=⟨nx.os.trans pM.os,nx.tape.trans pM.tape,nx.output.trans pM.output,bA OC nx.size,λb hb kr=>(nx.block b ap ap).trans (pM.block b hb kr)⟩;have kj:=ig.just nx ap (λb hb=>by omega);go_wp2_with fail;go_roundw;case rel=>exact⟨k+1,by omega,by go_num,by rw[HS.out];exact hA3,kj,UW⟩
   case measure=>simp[intOf];omega
  ·obtain rfl:k=n:=by omega
   have hD:=hA.done vn;rw[bH ap] at hD;rw[cB ap] at W;obtain⟨A3,c3,e3,T,h4,h5,h6⟩:=hD;rw[qJ] at e3 T h5;injection e3 with e3 e4 e5;subst e3 e5;go_wp2;go_ret;exact⟨A1,c1,rfl,W,T,h5,h6,ho⟩
def Nm(h:fX r w O){B:Nat}(hB:B<=r)(hs:B<=(w:Nat)):Below B w O:=fX.below h hB hs
def UX(e:En)(A:aU)(c:Nat):Array E:=#[J 1,J e.k,J e.ag,J e.sh,J e.sq,J e.ep,Y A e.ds.length c,aX e.se,J e.fr,J e.tg,(),(),ae ah 0,(),(),ay,(),()]
def jC(tag code:Int)(n:Nat):Array E:=#[J 2,(),(),(),(),(),ay,"",(),(),J tag,J code,ae ah n,(),(),ay,(),()]
def uC(w:G)(ρ:Operand->E)(o:dJ)(ho:o.op=.alloc 45):(execOp ρ o).run N w=.ok (.value ((((w:Nat),0):E))) (w.alloc (.cells aJ 45)):=by obtain⟨dst,op,ty,pos,after,guard⟩:=o;simp only at ho;subst ho;go_simp
def kX.just{r B aet:Nat}{s:RS}{w O:G}{U:aV}(h:kX r B aet s w)(hj:dP U w O)(hr:¬ U r)(hB:∀b,b<B->¬ U b):kX r B aet s O:=by obtain⟨I,A,n,c,l,b,h0,Z,T,h4⟩:=h;have:=Z.lt;exact⟨I,A,n,c,l,b,h0,hj.blk Z hr,Reads.keep T λp hp=>World.cell?_of_block (hj.block p.block ap (hB _ hp)),h4⟩
def kX.text{B aet:Nat}{s:RS}(h:kX r B aet s w):(⟨(gG s).1.toArray⟩:ByteArray).size<=aet:=by
 obtain⟨_,A,n,c,l,b,h0,_,_,_,hs⟩:=h;show (gG s).1.toArray.size<=aet;rw[cE];unfold gG;split;·exact bo _
 ·rename_i l2
  cases b
  ·have e:l2=l:=Option.some.inj hs
   subst e;cases hc:DK l2 with
   | none=>exact bo _
   | some p=>
     have:=(vH (show DK l2=some (p.1,p.2) from hc)).2;have T:=congrArg List.length this;simp only[bd] at T;dsimp only;omega
  ·cases hs
def mW:Nat->RS->List Dl×RS
 | 0,s=>([],s)
 | n+1,s=>((⟨(gG s).1.toArray⟩,(lz (gG s).2).1)::(mW n (lz (gG s).2).2).1,(mW n (lz (gG s).2).2).2)
theorem Cx:∀(n:Nat)(s:RS),(mW n s).1.length=n
 | 0,_=>rfl
 | n+1,s=>by
   show _+1=_;rw[Cx n]
def DSm(aet:Nat)(ds:List Dl):Prop:=∀d∈ds,d.1.size<=aet∧d.2<=18446744073709551615
def YW(w:G)(r B aet n:Nat)(s:RS)(h:kX r B aet s w)(hn:n<=1048576):dF N 195 #[r,J n] w λe O=>∃z:Option dG×Nat×List Dl,e=b5 (Y z.1 n z.2.1)∧(z.2.2=(mW n s).1∧DSm aet z.2.2)∧kX r B aet (mW n s).2 O∧kg O (New w O) z.1 n z.2.2∧n<=z.2.1∧z.2.1<=dL∧fX r w O:=by
 obtain⟨⟨DS,S'⟩,hq⟩:∃q,Hid (q=mW n s):=⟨_,Q rfl⟩;rw[<-hq.out];dsimp only;have hrw:=h.lt;have wu:B<=r:=h.1;go_in;go_wp2_with fail;go_loopw [5,8] (λv i wr=>∃(k:Nat)(ds:List Dl)(s1:RS),k<=n∧i=J k∧ds.length=k∧(DSm aet ds∧Hid ((DS,S')=(ds++(mW (n-k) s1).1,(mW (n-k) s1).2)))∧qW 147 2 nO (λ_ _ _=>True) (w:Nat) v ds wr∧kX r B aet s1 wr∧fX r w wr) (λ_ i _=>n-(intOf i).toNat);case atStart=>exact⟨0,[],s,by omega,rfl,rfl,⟨λd hd=>absurd hd (by simp),Q hq.out⟩,qW.nil (bh _),h,fX.refl r w⟩
 case round=>
  obtain⟨k,ds,s1,oF,rfl,qJ,⟨vb,H⟩,hA,W,ho⟩:=hrel;obtain⟨A1,c1,tQ⟩:=hA.slice;rw[qJ] at tQ;subst tQ;replace qJ:=Q qJ;replace vb:=Q vb;by_cases K:k<n
  ·have hT:=Lk wr r B aet s1 W
   have jo:=Q W.text;go_wp2_with fail;refine hT.mono ?_;rintro e w1 ⟨rfl,mK,AO⟩;have hN:=vJ w1 r B aet _ mK;have hA1:=hA.just pf (rW AO) (λb hb => .inl ap);go_wp2_with fail;refine hN.mono ?_;rintro e w2 ⟨rfl,ig,qM⟩;have sn:=hA1.just pf (rW qM) (λb hb => .inl ap);go_wp2_with (at_builtin;refine stay ?_);refine dN ?_;refine wM (b:=(⟨(gG s1).1.toArray⟩,(lz (gG s1).2).1)) pS j4 (λa u hu=>tc [a] u (by simpa [fw] using hu)) aj (.tmp 12) (.tmp 17) aj sn (by rw[qJ.out];omega) aj aj ?_;intro v2 w3 hA3 nx;have pM:fX r w w2:=fX.trans (fX.trans ho AO) qM;have OC:=pM.size;have UW:fX r w w3:=⟨nx.os.trans pM.os,nx.tape.trans pM.tape,nx.output.trans pM.output,bA OC nx.size,λb hb kr=>(nx.block b ap ap).trans (pM.block b hb kr)⟩;have kj:=ig.just nx ap (λb hb=>by omega);go_wp2_with fail;exact⟨⟨k+1,ds++[(⟨(gG s1).1.toArray⟩,(lz (gG s1).2).1)],(lz (gG s1).2).2,by omega,by go_num,by rw[bd,qJ.out];rfl,⟨λd hd=>by
    rcases List.mem_append.1 hd with hd|hd
    ·exact vb.out d hd
    ·rw[List.mem_singleton.1 hd];exact⟨jo.out,z7 _⟩,Q (by rw[H.out,show n-k=(n-(k+1))+1 by omega];show (ds++_::_,_)=_;rw[bp];rfl)⟩,hA3,kj,UW⟩,by simp[intOf];omega⟩
  ·obtain rfl:k=n:=by omega
   have hD:=hA.done vn;obtain⟨A3,c3,e3,T,h4,h5,h6⟩:=hD;rw[qJ.out] at e3 T h5;injection e3 with e3 e4 e5;subst e3 e5;go_wp2;go_ret;have e:=H.out;rw[Nat.sub_self] at e;obtain⟨e1,e2⟩:=Prod.mk.inj e;rw[show (mW 0 s1).1=[] from rfl,bm] at e1;subst e1;rw[show S'=s1 from e2];first|exact⟨(A1,c1,DS),rfl,⟨rfl,vb.out⟩,W,T,h5,h6,ho⟩|exact⟨A1,c1,rfl,DS,⟨rfl,vb.out⟩,W,T,h5,h6,ho⟩
def DY(w:G)(r B aet:Nat)(s:RS)(h:kX r B aet s w):dF N 138 #[r] w λe O=>∃(x:aT)(s':RS),Hid (gG s=(x,s'))∧x.length<=aet∧e=b5 (aX ⟨x.toArray⟩)∧kX r B aet s' O∧fX r w O:=(Lk w r B aet s h).mono λe O ⟨I,Z,T⟩=>⟨_,_,Q rfl,by have:=h.text;rw[<-cE];exact this,I,Z,T⟩
end Go.Proofs.YtpeepcmdehhbgaaGreatDoor
namespace Go.Hop
open RowKit Maps WideMaps
structure rm(P:dI)(t k e:dH)(qe:IntKind):Prop where
 und:P.underlying t=some (.map k e)
 key:P.underlying k=some .string
 elem:P.underlying e=some (.int qe)
 zero:∀w,(zeroValue e).run P w=.ok (.int qe 0) w
abbrev Nn(l:aR):Lit := .string l.data.toList
def Jy{a b:aR}(h:Nn a=Nn b):a=b:=by injection h with h;exact ByteArray.ext (Array.toList_inj.1 h)
def Holds(qe:IntKind)(D:DataW Unit)(f:ByteArray->Option Int):Prop:=∀l:aR,l.size<=dL->has D (Nn l)=(f l).isSome∧D.atKey (Nn l) (.lit (.int qe 0))=.lit (.int qe ((f l).getD 0))
def SMap(P:dI)(k e:dH)(qe:IntKind)(w:G)(b n:Nat)(f:ByteArray->Option Int):Prop:=∃D:DataW Unit,w.ownsMap P k (plainElem P e) b n D∧Maps.size D=n∧Holds qe D f
section
variable{P:dI}{k e:dH}{qe:IntKind}{f:ByteArray->Option Int}
def SMap.made(w:G):SMap P k e qe (w.alloc (.map #[] 0)) (w:Nat) 0 (λ_=>none):=⟨.map [],World.ownsMap_made w P k _,rfl,λ_ _=>⟨rfl,rfl⟩⟩
theorem SMap.lt(h:SMap P k e qe w b n f):b<(w:Nat):=by obtain⟨D,h,_⟩:=h;exact h.lt
def SMap.keep(h:SMap P k e qe w b n f)(K:O.heap[b]?=w.heap[b]?):SMap P k e qe O b n f:=by obtain⟨D,⟨es,clock,hb,r⟩,hf⟩:=h;exact⟨D,⟨es,clock,K.trans hb,r⟩,hf⟩
def SMap.grow(h:SMap P k e qe w b n f)(H:Grow w O):SMap P k e qe O b n f:=h.keep (H.block b h.lt)
def SMap.imp{f':ByteArray->Option Int}(h:SMap P k e qe w b n f)(hf:∀x:aR,x.size<=dL->f' x=f x):SMap P k e qe w b n f':=by obtain⟨D,I,Z,T⟩:=h;exact⟨D,I,Z,λx X=>by rw[hf x X];exact T x X⟩
def G0{D:DataW Unit}{R:E->Option (DataW Unit×List MemPlace)}(h:w.ownsMap P k R b n D):w.ownsMap P k R b (Maps.size D) D:=by obtain⟨es,clock,hb,F,hs,rfl⟩:=h;exact⟨es,clock,hb,F,by simp[Maps.size,length_sorted],rfl⟩
def Jz(aeq:rm P t k e qe){l:aR}(hl:l.size<=dL):keyOf P k (aX l)=some (Nn l):=keyOf_string_mk aeq.key hl
def SMap.look(aeq:rm P t k e qe)(h:SMap P k e qe w b n f)(l:aR)(hl:l.size<=dL):(Instr.lookup t (.map (some b)) (aX l) true).run P w=.ok (a_ #[.int qe ((f l).getD 0),aY (f l).isSome]) w:=by
 obtain⟨D,ho,_,hf⟩:=h;have hw0:(Lit.int qe 0).wf=true:=by cases qe<;>decide
 obtain⟨v,ps,eM,W⟩:=ho.look_ok (string_keyed aeq.key) aeq.und (aeq.zero w) (plainElem_int aeq.elem hw0) (Jz aeq hl);rw[(hf l hl).1,(hf l hl).2] at *;obtain⟨a,rfl,hz,_⟩:=plainElem_int_inv aeq.elem W;injection hz with hz;injection hz with hz;injection hz with _ hz;rw[eM,<-hz]
def SMap.Lv(aeq:rm P t k e qe)(h:SMap P k e qe w b n f)(l:aR)(hl:l.size<=dL):(Instr.lookup t (.map (some b)) (aX l) false).run P w=.ok (.int qe ((f l).getD 0)) w:=by
 obtain⟨D,ho,_,hf⟩:=h;obtain⟨c,eM,hat,_⟩:=ho.lookup_int (string_keyed aeq.key) aeq.und aeq.elem (aeq.zero w) (Jz aeq hl);rw[(hf l hl).2] at hat
 injection hat with hz;injection hz with _ hz;rw[eM,hz]
def SMap.put(aeq:rm P t k e qe)(h:SMap P k e qe w b n f)(l:aR)(v:Int)(hl:l.size<=dL)(hv:(Lit.int qe v).wf=true)(hn:n<dL):∃O,(Instr.mapUpdate t (.map (some b)) (aX l) (.int qe v)).run P w=.ok () O∧SMap P k e qe O b (if (f l).isSome then n else n+1) (λy=>if y=l then some v else f y)∧dP (λc=>c=b) w O:=by
 obtain⟨D,ho,hs,hf⟩:=h;obtain⟨O,eM,Z,T⟩:=ho.update (string_keyed aeq.key) aeq.und hn (Jz aeq hl) (plainElem_int aeq.elem hv);have jo:=size_put (ho.tidy (string_keyed aeq.key)) (k:=Nn l) (.lit (.int qe v));rw[(hf l hl).1,hs] at jo;have Z:=G0 Z;rw[jo] at Z;refine⟨O,eM,⟨_,Z,jo,λy hy=>?_⟩,⟨T.os,T.tape,T.output,T.size,λi hi hb=>T.block i hi (λe=>hb (by injection e))⟩⟩;dsimp only;by_cases hyx:y=l
 ·subst hyx
  rw[aA rfl];exact⟨has_put_same ho.isMap (by exact trivial) _,atKey_put_same ho.isMap (by exact trivial) _ _⟩
 ·rw[aB hyx,has_put_other (λe=>hyx (Jy e)),atKey_put_other (λe=>hyx (Jy e))]
  exact hf y hy
theorem SMap.len(h:SMap P k e qe w b n f)(aeq:rm P t k e qe)(ty:dH):(Builtin.len_ #[t] ty #[.map (some b)]).run P w=.ok (J n) w:=by obtain⟨D,ho,hs,_⟩:=h;rw[ho.len aeq.und ty,hs]
def tw(P:dI)(k e:dH)(qe:IntKind)(w:G)(b r n:Nat)(f:ByteArray->Option Int)(left:ByteArray->Bool)(cnt:Nat):Prop:=∃(D:DataW Unit)(lf:Lit->Bool),w.ranges P k (plainElem P e) b r n D lf cnt∧Maps.size D=n∧Holds qe D f∧∀l:aR,lf (Nn l)=left l
theorem tw.left_eq{r cnt:Nat}{left:ByteArray->Bool}(h:tw P k e qe w b r n f left cnt):w.rangeLeft b r=cnt:=by obtain⟨D,lf,I,_⟩:=h;exact I.left_eq
theorem SMap.range(aeq:rm P t k e qe)(h:SMap P k e qe w b n f):∃O,(Instr.range t (.map (some b))).run P w=.ok ((((w:Nat),0):E)) O∧(∃left,tw P k e qe O b (w:Nat) n f left n∧∀l:aR,l.size<=dL->left l=(f l).isSome)∧Grow w O∧(O:Nat)=(w:Nat)+1:=by obtain⟨D,ho,hs,hf⟩:=h;obtain⟨O,eM,hr,H,jo⟩:=ho.range (string_keyed aeq.key) aeq.und;rw[hs] at hr;exact⟨O,eM,⟨λl=>has D (Nn l),⟨D,_,hr,hs,hf,λ_=>rfl⟩,λl hl=>(hf l hl).1⟩,⟨H.os,H.tape,H.output,H.size,λi hi=>H.block i hi (by simp)⟩,jo⟩
theorem tw.next(aeq:rm P t k e qe){r cnt:Nat}{left:ByteArray->Bool}(h:tw P k e qe w b r n f left cnt)(ty:dH):(cnt=0∧(∀l,left l=false)∧(Instr.next ((r:E)) false ty).run P w=.ok (a_ #[aY false]) w)∨
 ∃(l:aR)(v:Int)(O:G)(cnt':Nat),l.size<=dL∧left l=true∧f l=some v∧(Lit.int qe v).wf=true∧(Instr.next ((r:E)) false ty).run P w=.ok (.tuple #[.bool true,Value.string l,.int qe v]) O∧
   tw P k e qe O b r n f (λz=>left z&&decide (z≠l)) cnt'∧cnt'<cnt∧dP (λc=>c=r) w O∧(Instr.entry ((r:E))).run P O=.ok (a_ #[Value.string l,.int qe v]) O:=by
 obtain⟨D,lf,I,Z,T,h4⟩:=h
 rcases I.next (string_keyed aeq.key) ty with ⟨h0,hl,eM⟩|⟨key,v,kl,y,O,cnt',a9a,EO,hv,hat,eM,hrg,fM,i7,jo,hen⟩
 ·exact .inl ⟨h0,λl=>by rw[<-h4];exact hl _,eM⟩
 ·obtain⟨s,rfl,rfl,tQ⟩:=string_of_keyOf aeq.key a9a
  obtain⟨c,rfl,hz,hw⟩:=plainElem_int_inv aeq.elem hv
  have hb:=(T _ tQ).1
  rw[has_true_of_atKey hat] at hb
  have Ig:=(T _ tQ).2
  rw[hat] at Ig
  obtain⟨v0,hv0⟩:=Option.isSome_iff_exists.1 hb.symm
  rw[hv0,hz] at Ig
  injection Ig with Ig
  injection Ig with _ Ig
  simp only[Option.getD_some] at Ig
  refine .inr ⟨s,c,O,cnt',tQ,by rw[<-h4];exact EO,by rw[hv0,Ig],hw,eM,⟨D,_,hrg,Z,T,λz=>?_⟩,fM,⟨i7.os,i7.tape,i7.output,i7.size,λi hi hn=>i7.block i hi (λe=>hn (by injection e))⟩,hen⟩
  show (lf (Nn z)&&!(Nn z).sameKey (Nn s))=(left z&&decide (z≠s))
  rw[h4]
  congr 1
  by_cases hz:z=s
  ·subst hz
   rw[WideAt.sameKey_self (by exact trivial)]
   simp
  ·have:(Nn z).sameKey (Nn s)=false:=sameKey_ne (λe=>hz (Jy e))
   rw[this]
   simp[hz]
end
end Go.Hop
namespace Go.Proofs.YtpeepcmdehhbgaaGreatDoor.aer
open RowKit Hop
def UY:rm N 225 9 42 .u64:=⟨Tryz.underlying225,c_,Tryz.underlying42,λw=>by kernel_rfl⟩
def oU:Nat:=18446744073709551615
def fq(q:Sm)(x:aR):Option Int:=(lk q x).map λv=>(v:Int)
def DZ(q:Sm)(x:aR):(fq q x).getD 0=((gt q x:Nat):Int):=by unfold fq gt;cases lk q x<;>rfl
def D_(q:Sm)(x:aR):(fq q x).isSome=(lk q x).isSome:=by unfold fq;cases lk q x<;>rfl
def YX(q:Sm)(x:aR)(v:Nat):(λy=>if y=x then some (v:Int) else fq q y)=fq (put q x v):=by funext y;unfold fq;rw[DR q];split<;>rfl
structure Right(q:Sm):Prop where
 qz:UG q
 num:∀d∈q,d.2<=oU
 txt:∀d∈q,d.1.size<=dL
theorem Right.gt{q:Sm}(h:Right q)(x:aR):gt q x<=oU:=by
 unfold Proofs.YtpeepcmdehhbgaaGreatDoor.aer.gt;cases X:lk q x with
 | none=>exact bo _
 | some v=>exact h.num _ (z8 X)
theorem Right.put{q:Sm}(h:Right q){x:aR}{v:Nat}(X:x.size<=dL)(hv:v<=oU):Right (put q x v):=by
 refine⟨DT h.qz x v,λd hd=>?_,λd hd=>?_⟩
 ·have:=Jl (DT h.qz x v) hd
  rw[DR q] at this;split at this;·injection this with this;rw[<-this];exact hv
  ·exact h.num _ (z8 this)
 ·have:=Jl (DT h.qz x v) hd
  rw[DR q] at this;split at this;·rename_i e;rw[e];exact X
  ·exact h.txt _ (z8 this)
def Cy:Right []:=⟨List.Pairwise.nil,by simp,by simp⟩
def G1(w:G)(b:Nat)(q:Sm):Prop:=SMap N 9 42 .u64 w b q.length (fq q)
def iK(s:Nat)(q:Sm):ei:=λw V=>V s∧Right q∧∃b,V b∧b≠s∧eL w s 227 #[.map (some b)]∧G1 w b q
def iK.framed(s:Nat)(q:Sm):eQ (iK s q):=λw O V h K=>by obtain⟨I,Z,b,T,h4,h5,h6⟩:=h;exact⟨I,Z,b,T,h4,(K s I).trans h5,h6.keep (K b T)⟩
def iK.wide{s:Nat}{q:Sm}{w:G}{V V':aV}(h:iK s q w V)(hV:∀b,V b->V' b):iK s q w V':=by obtain⟨I,Z,b,T,h4⟩:=h;exact⟨hV s I,Z,b,hV b T,h4⟩
def pR(w:G):dF N 115 #[] w λe O=>∃s,e=b5 (((s:Nat):E))∧iK s [] O (New w O)∧Grow w O:=by
 have TK:=@run_makeMap N;go_in;go_wp2;go_ret;have eO:Grow w (w.alloc (.map #[] 0)):=(Below.refl _ w).alloc (bh _) _;have fN:Grow (w.alloc (.map #[] 0)) ((w.alloc (.map #[] 0)).alloc (.cells #[.map (some (w:Nat))] 227)):=(Below.refl _ _).alloc (bh _) _;refine⟨_,rfl,⟨⟨by simp,by simp⟩,Cy,(w:Nat),⟨bh _,by simp;omega⟩,by simp,?_,?_⟩,eO.trans fN⟩
 ·have:=eL.made (w.alloc (.map #[] 0)) 227 #[.map (some (w:Nat))]
  rwa [fy] at this
 ·have:=(SMap.made (P:=N) (k:=9) (e:=42) (qe := .u64) w).grow fN
  exact this.imp λ_ _=>rfl
def rQ(w:G)(s:Nat)(q:Sm)(V:aV)(h:iK s q w V)(x:aR)(X:x.size<=dL):dF N 173 #[s,aX x] w λe O=>e=b5 (ae ah ((gt q x:Nat):Int))∧w=O:=by obtain⟨I,Z,b,T,h4,hB,hM⟩:=h;have c0:=hB.cell 0;have hl:=SMap.Lv UY hM x X;rw[DZ] at hl;go_in;go_wp2;go_ret;exact⟨rfl,rfl⟩
def G2(w:G)(a b:Nat)(ha:a<=oU)(hb:b<=oU):dF N 297 #[ae ah a,ae ah b] w λe O=>e=b5 (ae ah ((if a+b<=oU then a+b else oU:Nat):Int))∧w=O:=by
 unfold oU at *;have hs:IntKind.u64.wrap ((18446744073709551615:Int)-(b:Int))=((18446744073709551615-b:Nat):Int):=by rw[IntKind.wrap_u64];omega
 by_cases h:a+b<=18446744073709551615
 ·rw[aA h]
  have WL:IntKind.u64.wrap ((a:Int)+(b:Int))=((a+b:Nat):Int):=by rw[IntKind.wrap_u64];omega
  have hd:decide (18446744073709551615-b<a)=false:=aD ap;go_in;go_wp2;go_ret;exact⟨rfl,rfl⟩
 ·rw[aB h]
  have hd:decide (18446744073709551615-b<a)=true:=aC ap;go_in;go_wp2;go_ret;exact⟨rfl,rfl⟩
def add(q:Sm)(l:List Dl):Sm:=l.foldl (λq d=>put q d.1 (gt q d.1+d.2)) q
def add_nil(q:Sm):add q []=q:=rfl
def mC(q:Sm)(d:Dl)(l:List Dl):add q (d::l)=add (put q d.1 (gt q d.1+d.2)) l:=rfl
def tf(q:Sm)(l m:List Dl):add q (l++m)=add (add q l) m:=List.foldl_append
def add_one(q:Sm)(l:List Dl)(d:Dl):add q (l++[d])=put (add q l) d.1 (gt (add q l) d.1+d.2):=by rw[tf];rfl
def Tj(l:List Dl)(x:aR):Nat:=((l.filter λd=>decide (d.1=x)).map (·.2)).sum
def uD(d:Dl)(l:List Dl)(x:aR):Tj (d::l) x=(if d.1=x then d.2 else 0)+Tj l x:=by unfold Tj;by_cases h:d.1=x<;>simp[h]
def zo(q:Sm)(x:aR)(v:Nat)(y:aR):gt (put q x v) y=if y=x then v else gt q y:=by unfold gt;rw[DR];split<;>rfl
theorem JA(q:Sm)(l:List Dl)(x:aR):gt (add q l) x=gt q x+Tj l x:=by
 induction l generalizing q with
 | nil=>rfl
 | cons d l ih=>
   rw[mC,ih,zo,uD];by_cases h:x=d.1;·rw[aA h,aA h.symm,h];omega
   ·rw[aB h,aB (λe=>h e.symm)];omega
def iz(q mo:Sm):List Dl->Bool
 | []=>true
 | d::l=>decide (gt mo d.1+d.2+gt q d.1<=oU)&&iz q (put mo d.1 (gt mo d.1+d.2)) l
theorem qa(q:Sm)(l:List Dl)(d:Dl):∀mo,iz q mo (l++[d])=(iz q mo l&&decide (gt (add mo l) d.1+d.2+gt q d.1<=oU)):=by
 induction l with
 | nil=>intro mo;rw[cC,iz,iz,iz,add_nil,Bool.and_true,Bool.true_and]
 | cons a l ih=>intro mo;rw[cH,iz,iz,ih,mC,Bool.and_assoc]
theorem QC(q:Sm)(l:List Dl):∀mo,iz q mo l=true↔∀d∈l,gt q d.1+gt mo d.1+Tj l d.1<=oU:=by
 induction l with
 | nil=>intro mo;simp[iz]
 | cons a l ih=>
   intro mo;rw[iz,bP,decide_eq_true_eq,ih];have key:∀x:aR,gt (put mo a.1 (gt mo a.1+a.2)) x+Tj l x=gt mo x+Tj (a::l) x:=λx=>by
    rw[zo,uD];by_cases h:x=a.1;·rw[aA h,aA h.symm,h];omega
    ·rw[aB h,aB (λe=>h e.symm)];omega
   constructor
   ·rintro ⟨I,Z⟩ d hd
    rcases List.mem_cons.1 hd with rfl|hd
    ·by_cases he:∃e∈l,e.1=d.1
     ·obtain⟨e,he,hed⟩:=he
      have:=Z e he;rw[hed] at this;have:=key d.1;omega
     ·have h0:Tj l d.1=0:=by
       unfold Tj;have:l.filter (λe=>decide (e.1=d.1))=[]:=List.filter_eq_nil_iff.2 λe XH h=>he ⟨e,XH,of_decide_eq_true h⟩;rw[this];rfl
      rw[uD,aA rfl,h0];omega
    ·have:=Z d hd
     have:=key d.1;omega
   ·intro h
    refine⟨?_,λd hd=>?_⟩
    ·have:=h a cy
     rw[uD,aA rfl] at this;omega
    ·have:=h d (bV _ hd)
     have:=key d.1;omega
theorem QD{mo:Sm}{l:List Dl}:iz q mo l=true->(∀x,gt mo x<=oU)->∀x,gt (add mo l) x<=oU:=by
 induction l generalizing mo with
 | nil=>intro _ h;exact h
 | cons a l ih=>
   intro h hm;rw[iz,bP,decide_eq_true_eq] at h;rw[mC];refine ih h.2 λx=>?_;rw[zo];split;·omega
   ·exact hm x
theorem Cz{l:List Dl}:Right q->(∀d∈l,d.1.size<=dL)->(∀k,k<=l.length->∀x,gt (add q (l.take k)) x<=oU)->Right (add q l):=by
 induction l generalizing q with
 | nil=>intro h _ _;exact h
 | cons a l ih=>
   intro h ht hm;rw[mC];have I:=hm 1 (by simp) a.1;rw[cD,List.take_zero,mC,add_nil,zo,aA rfl] at I;refine ih (h.put (ht a cy) I) (λd hd=>ht d (bV _ hd)) λk K x=>?_;have:=hm (k+1) (by simp;omega) x;rwa [cD,mC] at this
theorem oh:∀(l:List Dl)(q:Sm),(add q l).length<=q.length+l.length:=by
 intro l;induction l with
 | nil=>intro q;exact bh _
 | cons a l ih=>
   intro q;have I:=ih (put q a.1 (gt q a.1+a.2));have Z:=za q a.1 (gt q a.1+a.2);rw[mC,bC];split at Z<;>omega
def news(q mo:Sm):Nat:=(mo.filter λd=>(lk q d.1).isNone).length
def jl(q:Sm)(l:List Dl):Int:=if iz q [] l then (if q.length+news q (add [] l) > 16 then 24 else 0) else 25
theorem qb{mo:Sm}{l:List Dl}(h:iz q mo l=true)(k:Nat):iz q mo (l.take k)=true:=by
 induction l generalizing mo k with
 | nil=>simp[iz]
 | cons a l ih=>
   cases k with
   | zero=>rfl
   | succ k=>
     rw[iz,bP] at h;rw[cD,iz,bP];exact⟨h.1,ih h.2 k⟩
def JB{l:List Dl}(ht:∀d∈l,d.1.size<=dL)(h:iz q [] l=true):Right (add [] l):=Cz Cy ht λk _=>QD (qb h k) λx=>bo _
theorem JC{l:List Dl}(K:k<l.length)(h:oU<gt (add [] (l.take k)) l[k].1+l[k].2+gt q l[k].1):iz q [] l=false:=by
 cases ho:iz q [] l with
 | false=>rfl
 | true=>
   have:=qb ho (k+1);rw[br K,qa,bP,decide_eq_true_eq] at this;omega
theorem JD{mo:Sm}(hs:UG mo){p:Dl->Bool}{left:ByteArray->Bool}{x:aR}{v:Nat}(X:lk mo x=some v)(hl:left x=true):(mo.filter λd=>p d&&!(left d.1&&decide (d.1≠x))).length=(mo.filter λd=>p d&&!left d.1).length+(if p (x,v) then 1 else 0):=by
 induction mo with
 | nil=>cases X
 | cons a mo ih=>
   have sS:=List.pairwise_cons.1 hs;rw[jk] at X;by_cases ha:a.1=x
   ·rw[aA ha] at X
    injection X with X;have hax:a=(x,v):=Prod.ext ha X;have sW:(mo.filter λd=>p d&&!(left d.1&&decide (d.1≠x)))=mo.filter λd=>p d&&!left d.1:=by
     refine List.filter_congr λd hd=>?_;have kr:d.1≠x:=λe=>by have:=sS.1 d hd;rw[e,ha,j_] at this;cases this
     simp[kr]
    subst hax;rw[List.filter_cons,List.filter_cons,sW];simp only[hl,ne_eq,not_true_eq_false,decide_false,Bool.and_false,Bool.not_false,Bool.and_true,Bool.not_true];split<;>simp_all
   ·rw[aB ha] at X
    rw[List.filter_cons,List.filter_cons];have:=ih sS.2 X;simp only[ne_eq,ha,not_false_eq_true,decide_true,Bool.and_true];split;·rw[bC,bC,this];omega
    ·exact this
def QE{A:aU}{q:List Dl}(h:In w V 2 A n (fw q))(K:k<n):∃(ad:dG)(hq:k<q.length),A=some ad∧(∀w1,Grow w w1->w1.cell? (ad.add (k*2))=some (aX q[k].1))∧∀w1,Grow w w1->w1.cell? ⟨(ad.add (k*2)).block,(ad.add (k*2)).off+1,none⟩=some (ae ah ((q[k].2:Nat):Int)):=by obtain⟨ad,hq,e,_,hb,e0,e12⟩:=In.ni (cells:=nO) h ap j4 K;exact⟨ad,hq,e,λw1 H=>(H.cell (by rw[block_add];exact hb)).trans (e0 _ rfl),λw1 H=>(H.cell (p:=⟨(ad.add (k*2)).block,(ad.add (k*2)).off+1,none⟩) (show (ad.add (k*2)).block<_ by rw[block_add];exact hb)).trans (e12 0 _ rfl)⟩
def a7f(h:n<=oU):(Lit.int .u64 (n:Int)).wf=true:=by unfold oU at h;simp[Lit.wf,IntKind.min,IntKind.max,IntKind.signed,IntKind.bits];omega
def G3(h:G1 w b q){x:aR}{v:Nat}(X:x.size<=dL)(hv:v<=oU)(hn:q.length<dL):∃O,(Instr.mapUpdate 225 (.map (some b)) (aX x) (ae ah v)).run N w=.ok () O∧G1 O b (Proofs.YtpeepcmdehhbgaaGreatDoor.aer.put q x v)∧dP (λc=>c=b) w O:=by obtain⟨O,I,Z,T⟩:=SMap.put UY h x v X (a7f hv) hn;refine⟨O,I,?_,T⟩;unfold G1;rw[za,<-YX,<-D_];exact Z
def Lx(h:n<=18446744073709551615):IntKind.u64.wrap ((18446744073709551615:Int)-(n:Int))=((18446744073709551615-n:Nat):Int):=by rw[IntKind.wrap_u64];omega
def UZ(h:m+n<=18446744073709551615):IntKind.u64.wrap ((m:Int)+(n:Int))=((m+n:Nat):Int):=by rw[IntKind.wrap_u64];omega
def U_(w:G)(s:Nat)(q:Sm)(V:aV)(h:iK s q w V)(A:aU)(n c:Nat)(l:List Dl)(D:aV)(hl:In w D 2 A n (fw l))(hd:∀d∈l,d.1.size<=dL∧d.2<=oU)(hn:n<=1048576)(hq:q.length<=1048576):dF N 296 #[s,Y A n c] w λe O=>e=b5 (J (jl q l))∧Grow w O:=by
 have sI:l.length=n:=by have:=hl.1;rw[kM] at this;omega
 obtain⟨I,Z,b,T,h4,wu,wv⟩:=h;obtain⟨aep,HE⟩:=az (jl q l:Int);rw[<-HE.out];have TK:=@run_makeMap N;have eO:Grow w (w.alloc (.map #[] 0)):=(Below.refl _ w).alloc (bh _) _;have sF:G1 (w.alloc (.map #[] 0)) (w:Nat) []:=(SMap.made (P:=N) (k:=9) (e:=42) (qe := .u64) w).imp λ_ _=>rfl;go_in;go_wp2_with fail;obtain⟨m,HM⟩:=az ((w:Nat):Nat);rw[<-HM.out] at sF ⊢;go_loopw [16] (λi wr=>∃k:Nat,k<=n∧i=J k∧iz q [] (l.take k)=true∧G1 wr m (add [] (l.take k))∧Grow w wr) (λi _=>n-(intOf i).toNat);case atStart=>exact⟨0,by omega,rfl,rfl,sF,eO⟩
 case round=>
  clear sF eO;obtain⟨k,oF,rfl,gS,hm,ku⟩:=hrel;have hrt:=JB (λd KM=>(hd d (bY KM)).1) gS;have hB:=wu.grow ku;by_cases K:k<n
  ·have hkt:decide ((k:Int)<(n:Int))=true:=aC ap
   obtain⟨ad,WT,rfl,Iw,Mj⟩:=QE (hl.grow ku) K;have TM:=hd _ (bD WT);have lK:add [] (l.take (k+1))=put (add [] (l.take k)) l[k].1 (gt (add [] (l.take k)) l[k].1+l[k].2):=by rw[br WT,add_one]
   have Np:iz q [] (l.take (k+1))=(iz q [] (l.take k)&&decide (gt (add [] (l.take k)) l[k].1+l[k].2+gt q l[k].1<=oU)):=by rw[br WT,qa]
   have Dd:oU<gt (add [] (l.take k)) l[k].1+l[k].2+gt q l[k].1->aep=25:=λh=>by rw[HE.out];unfold jl;rw[JC WT h];rfl
   have fp:(add [] (l.take k)).length<=1048576:=by have:=oh (l.take k) [];rw[bn] at this;simp only[cx] at this;omega
   have P0:=hrt.gt l[k].1;have X9:=Z.gt l[k].1;generalize l[k]=dk at Iw Mj TM lK Np Dd P0 X9;have f0:=Iw _ (Grow.refl _);have f1:=Mj _ (Grow.refl _);have fA:Grow wr (wr.alloc (.cells #[aX dk.1,ae ah dk.2] 147)):=(Below.refl _ wr).alloc (bh _) _;have Nq:=eL.made wr 147 #[aX dk.1,ae ah dk.2];have BO:=hm.grow fA;have mJ:=hB.grow fA;obtain⟨gm,HGM⟩:=az (gt (add [] (l.take k)) dk.1:Nat);obtain⟨gq,HGQ⟩:=az (gt q dk.1:Nat);have Iu:=SMap.Lv UY BO dk.1 TM.1;rw[DZ,<-HGM.out] at Iu;have k0:=Nq.cell 0;obtain⟨wa,HA⟩:=az (wr.alloc (.cells #[aX dk.1,ae ah dk.2] 147):G);obtain⟨x,HX⟩:=az ((wr:Nat):Nat);have vN:Below (w:Nat) w wa:=HA.out▸eV ku fA ku.size;have qE:eL wa x 147 #[aX dk.1,ae ah dk.2]:=by rw[HA.out,HX.out];exact Nq
   have hB:eL wa s 227 #[.map (some b)]:=HA.out▸mJ;have hma:G1 wa m (add [] (l.take k)):=HA.out▸BO;have xT:∀w1,Grow wa w1->(Instr.lookup 225 (.map (some b)) (aX dk.1) false).run N w1=.ok (ae ah gq) w1:=λw1 H=>by have:=SMap.Lv UY (wv.grow (eV vN H vN.size)) dk.1 TM.1;rwa [DZ,<-HGQ.out] at this
   rw[<-HGM.out] at lK Np Dd P0;rw[<-HGQ.out] at Np Dd X9;unfold oU at Np Dd P0 X9 TM;have TI:=Lx P0;have B6:=Lx X9;clear mJ Nq hm BO fA;by_cases AO:18446744073709551615-gm<dk.2
   ·have a7g:decide (18446744073709551615-gm<dk.2)=true:=aC AO
    obtain rfl:aep=25:=Dd ap;go_wp2_with fail;rw[<-HA.out,<-HX.out];clear Iu k0;have c0:=λw1(H:Grow _ w1)=>qE.grow H |>.cell 1
    refine fv ?_;intro w1 H;clear c0;clear xT;go_wp2;go_ret;exact⟨rfl,eV vN H vN.size⟩
   ·have a7g:decide (18446744073709551615-gm<dk.2)=false:=aD AO
    have OC:=UZ (show gm+dk.2<=18446744073709551615 by omega);by_cases qM:18446744073709551615-gq<gm+dk.2
    ·have a7h:decide (18446744073709551615-gq<gm+dk.2)=true:=aC qM
     obtain rfl:aep=25:=Dd ap;go_wp2_with fail;rw[<-HA.out,<-HX.out];clear Iu k0;have c0:=λw1(H:Grow _ w1)=>qE.grow H |>.cell 1
     have c1:=λw1(H:Grow _ w1)=>hB.grow H |>.cell 0
     have c2:=λw1(H:Grow _ w1)=>qE.grow H |>.cell 0
     have c3:=λw1(H:Grow _ w1)=>xT w1 H;refine fv ?_;intro w1 H;clear c0 c1 c2 c3;clear xT;go_wp2;go_ret;exact⟨rfl,eV vN H vN.size⟩
    ·have a7h:decide (18446744073709551615-gq<gm+dk.2)=false:=aD qM
     rw[aC (show gm+dk.2+gq<=18446744073709551615 by omega),gS] at Np;go_wp2_with fail;rw[<-HA.out,<-HX.out];clear Iu k0;have c0:=λw1(H:Grow _ w1)=>qE.grow H |>.cell 1
     have c1:=λw1(H:Grow _ w1)=>hB.grow H |>.cell 0
     have c2:=λw1(H:Grow _ w1)=>qE.grow H |>.cell 0
     have c3:=λw1(H:Grow _ w1)=>xT w1 H;refine fv ?_;intro w1 H;clear c0 c1 c2 c3;clear xT;obtain⟨w5,EL,hm5,xu⟩:=G3 (hma.grow H) TM.1 (show gm+dk.2<=oU by unfold oU;omega) (by unfold dL;omega);have k0:=(qE.grow H).cell 0;have k1:=(qE.grow H).cell 1;rw[<-lK] at hm5;rw[Int.natCast_add] at EL;have sk:Grow w w5:=Below.trans (eV vN H vN.size) (xu.below (B:=(w:Nat)) (λb hb=>by rw[hb,HM.out];exact bh _) (bA vN.size H.size));clear hma xu qE hB H;go_wp2_with fail;go_roundw;case rel=>exact⟨k+1,by omega,by go_num,Np,hm5,sk⟩
     case measure=>simp[intOf];omega
  ·obtain rfl:k=n:=by omega
   have hkt:decide ((k:Int)<(k:Int))=false:=aD ap;rw[bH ap] at gS hm hrt;have fp:=λty=>SMap.len (wv.grow ku) UY ty;have c0:=hB.cell 0;obtain⟨w2,eM,⟨left,It,Tk⟩,fN,WI⟩:=SMap.range UY hm;have hmo:(add [] l).length<=1048576:=by have:=oh l [];simp only[cx] at this;omega
   have hE:aep=if q.length+news q (add [] l) > 16 then 24 else 0:=by rw[HE.out];unfold jl;rw[aA gS]
   obtain⟨mo,HMO⟩:=az (add [] l);rw[<-HMO.out] at It Tk hrt hE hmo;have vO:=eV ku fN ku.size;obtain⟨r,HR⟩:=az ((wr:Nat):Nat);have hrw:(w:Nat)<=r:=by rw[HR.out];exact ku.size
   clear hm TK;go_wp2_with fail;rw[<-HR.out] at It ⊢;have l9:(mo.filter λd=>(lk q d.1).isNone&&!left d.1).length=0:=by
    rw[List.length_eq_zero_iff,List.filter_eq_nil_iff];intro d KM;have I:(lk mo d.1).isSome=true:=by rw[Jl hrt.qz KM];rfl
    rw[Tk d.1 (hrt.txt d KM),D_,I];simp
   go_loopw [9] (λnv wz=>∃(left:ByteArray->Bool)(cnt:Nat),nv=J ((q.length+(mo.filter λd=>(lk q d.1).isNone&&!left d.1).length:Nat):Int)∧tw N 9 42 .u64 wz m r mo.length (fq mo) left cnt∧Grow w wz) (λ_ wz=>wz.rangeLeft m r);case atStart=>exact⟨left,_,by rw[l9];rfl,It,vO⟩
   case round=>
    clear It Tk l9 fN vO fp c0;obtain⟨left,cnt,rfl,It,vO⟩:=hrel;have c0:=(wu.grow vO).cell 0;rcases It.next UY 0 with ⟨h0,hl0,eM⟩|⟨x,v,w3,cnt3,TF,hlx,hfx,hwv,eM,YY,fM,nx,hen⟩
    ·have KI:(mo.filter λd=>(lk q d.1).isNone&&!left d.1).length=news q mo:=by
      unfold news;congr 1;refine List.filter_congr λd _=>?_;rw[hl0];simp
     rw[KI]
     generalize q.length+news q mo=aeq at hE
     by_cases hT:aeq > 16
     ·rw[aA hT] at hE
      subst hE
      have hT':decide ((16:Int)<(aeq:Int))=true:=aC ap
      go_wp2
      go_ret
      exact⟨rfl,vO⟩
     ·rw[aB hT] at hE
      subst hE
      have hT':decide ((16:Int)<(aeq:Int))=false:=aD ap
      go_wp2
      go_ret
      exact⟨rfl,vO⟩
    ·have a2C:lk mo x=some v.toNat∨True := .inr trivial
     obtain⟨v',hv'⟩:∃v',lk mo x=some v':=by
      unfold fq at hfx;cases hl:lk mo x with
      | none=>rw[hl] at hfx;cases hfx
      | some v'=>exact⟨v',rfl⟩
     have iD:=JD hrt.qz (p:=λd=>(lk q d.1).isNone) hv' hlx;dsimp only at iD;have jU:Grow w w3:=Below.trans vO (nx.below (B:=(w:Nat)) (λb hb=>by rw[hb];exact hrw) vO.size);have c3:=(wu.grow jU).cell 0;have EO:=SMap.look UY (wv.grow jU) x TF;rw[D_] at EO;have hcn:(mo.filter λd=>(lk q d.1).isNone&&!left d.1).length<=1048576:=bA (df _ _) hmo;have Xk:w3.rangeLeft m r<wr.rangeLeft m r:=by rw[YY.left_eq,It.left_eq];exact fM
     by_cases l8:(lk q x).isSome=true
     ·have hN:(lk q x).isNone=false:=by cases O_:lk q x with
       | none=>rw[O_] at l8;cases l8
       | some _=>rfl
      rw[hN] at iD
      rw[l8] at EO
      simp only[Bool.false_eq_true,if_false,Nat.add_zero] at iD
      clear hfx a2C hwv hv' l8 hN vO c0
      go_wp2_with fail
      go_roundw
      case rel=>exact⟨_,cnt3,by rw[iD],YY,jU⟩
      case measure=>exact Xk
     ·have V0:(lk q x).isSome=false:=by simpa using l8
      have hN:(lk q x).isNone=true:=by cases O_:lk q x with
       | none=>rfl
       | some _=>rw[O_] at V0;cases V0
      rw[hN] at iD;rw[V0] at EO;simp only[if_true] at iD;generalize (mo.filter λd=>(lk q d.1).isNone&&!left d.1).length=C at iD hcn ⊢;clear hfx a2C hwv hv' l8 V0 hN vO c0;go_wp2_with fail;go_roundw;case rel=>exact⟨_,cnt3,by rw[iD];go_num,YY,jU⟩
      case measure=>exact Xk
def o5(q:Sm)(l:List Dl):Sm:=if jl q l=0 then add q l else q
def Ly{l:List Dl}(h:jl q l=0):iz q [] l=true:=by
 unfold jl at h;split at h;·assumption
 ·cases h
def V5{l:List Dl}(h:iz q [] l=true)(K:k<l.length):gt (add q (l.take k)) l[k].1+l[k].2<=oU:=by have I:=qb h (k+1);rw[br K,qa,bP,decide_eq_true_eq] at I;have Z:=I.2;rw[JA] at Z ⊢;have:gt ([]:Sm) l[k].1=0:=rfl;omega
def QF{l:List Dl}(hq:Right q)(ht:∀d∈l,d.1.size<=dL)(h:iz q [] l=true):Right (add q l):=by
 refine Cz hq ht λk K x=>?_;rw[JA];have I:=(QC q (l.take k) []).1 (qb h k);by_cases he:∃d∈l.take k,d.1=x
 ·obtain⟨d,hd,rfl⟩:=he
  have:=I d hd;omega
 ·have h0:Tj (l.take k) x=0:=by
   unfold Tj;have:(l.take k).filter (λe=>decide (e.1=x))=[]:=List.filter_eq_nil_iff.2 λe XH h=>he ⟨e,XH,of_decide_eq_true h⟩;rw[this];rfl
  rw[h0]
  exact hq.gt x
def ut(w:G)(s:Nat)(q:Sm)(V:aV)(h:iK s q w V)(hV:∀b,V b->b<(w:Nat))(A:aU)(n c:Nat)(l:List Dl)(D:aV)(hl:In w D 2 A n (fw l))(lG:∀b,D b->¬ V b)(hd:∀d∈l,d.1.size<=dL∧d.2<=oU)(hn:n<=1048576)(hq:q.length<=1048576):dF N 235 #[s,Y A n c] w λe O=>e=b5 (J (jl q l))∧iK s (o5 q l) O (ju V w O)∧dP V w O:=by
 have sI:l.length=n:=by have:=hl.1;rw[kM] at this;omega
 have hm:=U_ w s q V h A n c l D hl hd hn hq;have eC:=λw1(H:Grow w w1)=>iK.framed s q w w1 V h λb hb=>H.block b (hV b hb);obtain⟨I,Z,b,T,h4,wu,wv⟩:=h;have a7i:∀(vs:aP)(w:G),(callFunc 297 vs).run N w=.ok (.enter 297 vs) w:=λvs w=>by go_simp
 obtain⟨aep,HE⟩:=az (jl q l:Int);have OD:aep=0->o5 q l=add q l:=λh=>by unfold o5;rw[<-HE.out,aA h]
 have OE:aep≠0->o5 q l=q:=λh=>by unfold o5;rw[<-HE.out,aB h]
 rw[<-HE.out] at hm ⊢;by_cases he:aep=0
 ·have gS:=Ly (HE.out.symm.trans he)
  rw[OD he];subst he;go_in;go_wp2_with fail;refine hm.mono ?_;rintro e w1 ⟨rfl,eO⟩;clear hm eC OD OE;have WU:=hl.grow eO;have hM1:=wv.grow eO;have lb:=wu.grow eO;go_wp2_with fail;go_loopw [16] (λi wr=>∃k:Nat,k<=n∧i=J k∧G1 wr b (add q (l.take k))∧dP (λc=>c=b) w1 wr) (λi _=>n-(intOf i).toNat);case atStart=>exact⟨0,by omega,rfl,hM1,dP.dR (Grow.refl _)⟩
  case round=>
   clear hM1;obtain⟨k,oF,rfl,hM,hj⟩:=hrel;have hlr:In wr D 2 A n (fw l):=WU.just hj λc hc e=>lG c hc (by rw[e];exact T);have Tl:=hj.blk lb (λe=>h4 e.symm);by_cases K:k<n
   ·have hkt:decide ((k:Int)<(n:Int))=true:=aC ap
    obtain⟨ad,WT,rfl,Iw,Mj⟩:=QE hlr K;have TM:=hd _ (bD WT);have lK:add q (l.take (k+1))=put (add q (l.take k)) l[k].1 (gt (add q (l.take k)) l[k].1+l[k].2):=by rw[br WT,add_one]
    have tL:=V5 gS WT;have fp:(add q (l.take k)).length<dL:=by have:=oh (l.take k) q;rw[bn] at this;unfold dL;omega
    generalize l[k]=dk at Iw Mj TM lK tL;have f0:=Iw _ (Grow.refl _);have f1:=Mj _ (Grow.refl _);have fA:Grow wr (wr.alloc (.cells #[aX dk.1,ae ah dk.2] 147)):=(Below.refl _ wr).alloc (bh _) _;have Nq:=eL.made wr 147 #[aX dk.1,ae ah dk.2];obtain⟨wa,HA⟩:=az (wr.alloc (.cells #[aX dk.1,ae ah dk.2] 147):G);obtain⟨x,HX⟩:=az ((wr:Nat):Nat);have vN:Grow wr wa:=HA.out▸fA;have qE:eL wa x 147 #[aX dk.1,ae ah dk.2]:=by rw[HA.out,HX.out];exact Nq
    have Oz:=Tl.grow vN;have hMa:=hM.grow vN;obtain⟨gq,HGQ⟩:=az (gt (add q (l.take k)) dk.1:Nat);rw[<-HGQ.out] at lK tL;have xT:∀w1,Grow wa w1->(Instr.lookup 225 (.map (some b)) (aX dk.1) false).run N w1=.ok (ae ah gq) w1:=λw1 H=>by have:=SMap.Lv UY (hMa.grow H) dk.1 TM.1;rwa [DZ,<-HGQ.out] at this
    have qG:∀w1:G,dF N 297 #[ae ah gq,ae ah dk.2] w1 λe O=>e=b5 (ae ah ((gq+dk.2:Nat):Int))∧w1=O:=λw1=>by have:=G2 w1 gq dk.2 ap ap;rwa [aA tL] at this
    clear fA Nq hM;go_wp2_with fail;rw[<-HA.out,<-HX.out];refine ia 16 37 [(15,.inl (ae ah ((gq+dk.2:Nat):Int)))] rfl rfl aw aw aw ?_ ?_
    ·intro x X φ he
     simp only[b_,bW,or_false] at X;rcases X with rfl<;>cases he
    intro ops' A' K' aeq oT o8 hK hT;refine ji 20 ((s:E)) ?_;refine gT 21 (.tmp 20) ((s:E)) ((s:E)) ?_;refine gT 22 (.tmp 21) ((s:E)) ((s:E)) ?_;refine eD 23 (.tmp 22) ((s:E)) (.map (some b)) (λρ I kk w1(H:Grow _ w1)hb hf=>by have c:=(Oz.grow H).cell 0;go_simp) ?_;refine gT 24 (.tmp 7) ((x:E)) ((x:E)) ?_;refine eD 25 (.tmp 24) ((x:E)) (aX dk.1) (λρ I kk w1(H:Grow _ w1)hb hf=>by have c:=(qE.grow H).cell 0;go_simp) ?_;refine ji 26 ((s:E)) ?_;refine gT 27 (.tmp 26) ((s:E)) ((s:E)) ?_;refine gT 28 (.tmp 27) ((s:E)) ((s:E)) ?_;refine eD 29 (.tmp 28) ((s:E)) (.map (some b)) (λρ I kk w1(H:Grow _ w1)hb hf=>by have c:=(Oz.grow H).cell 0;go_simp) ?_;refine gT 30 (.tmp 7) ((x:E)) ((x:E)) ?_;refine eD 31 (.tmp 30) ((x:E)) (aX dk.1) (λρ I kk w1(H:Grow _ w1)hb hf=>by have c:=(qE.grow H).cell 0;go_simp) ?_;refine KR 32 (.tmp 29) (.tmp 31) (.map (some b)) (aX dk.1) (ae ah gq) (λρ I Z kk w1(H:Grow _ w1)hb hf=>by have hl:=xT w1 H;go_simp) ?_;refine gT 33 (.tmp 7) ((x:E)) (((x,1):E)) ?_;refine eD 34 (.tmp 33) (((x,1):E)) (ae ah dk.2) (λρ I kk w1(H:Grow _ w1)hb hf=>by have c:=(qE.grow H).cell 1;go_simp) ?_;refine tY 35 aj am (eu aj) (ae ah ((gq+dk.2:Nat):Int)) (by rw[hK.out];rfl) 297 _ _ aj [ae ah gq,ae ah dk.2] aj a7i (λkk w1(H:Grow _ w1)hb hf=>lj aj (by exact rP (qG w1))) ?_;refine nL (λ_ _ w1(H:Grow _ w1)_ gy=>hT _ _ ?_);clear oT o8 hK hT;simp only[jq,Act.put,bJ,bL,bI,cJ,d9];clear gy xT qG;obtain⟨w5,EL,hm5,xu⟩:=G3 (hMa.grow H) TM.1 tL fp;rw[<-lK] at hm5;rw[Int.natCast_add] at EL;have hjj:=hj.trans ((dP.dR (V:=λc=>c=b) (vN.trans H)).trans xu);go_wp2_with fail;go_roundw;case rel=>exact⟨k+1,by omega,by go_num,hm5,hjj⟩
    case measure=>simp[intOf];omega
   ·obtain rfl:k=n:=by omega
    have hkt:decide ((k:Int)<(k:Int))=false:=aD ap;rw[bH ap] at hM;go_wp2;go_ret;exact⟨rfl,⟨.inl I,QF Z (λd KM=>(hd d KM).1) gS,b,.inl T,h4,Tl,hM⟩,(dP.dR eO).trans (hj.imp λc hc=>by rw[hc];exact T)⟩
 ·rw[OE he]
  have heb:(aep != 0)=true:=by simpa using he
  go_in;go_wp2_with fail;refine hm.mono ?_;rintro e w1 ⟨rfl,eO⟩;have L:=eC w1 eO;clear hm OD OE eC;go_wp2;go_ret;exact⟨rfl,L.wide λb hb => .inl hb,dP.dR eO⟩
end Go.Proofs.YtpeepcmdehhbgaaGreatDoor.aer
namespace Go.Proofs.YtpeepcmdehhbgaaGreatDoor.V
open RowKit Hop
def tb(t:BitVec 32)(i:Nat):UInt8:=⟨(t >>> (8*i)).setWidth 8⟩
def zp(c:BitVec 32)(i:Nat):(tb c i).toNat=c.toNat / 2 ^ (8*i) % 256:=by show ((c >>> (8*i)).setWidth 8).toNat=_;rw[BitVec.toNat_setWidth,BitVec.toNat_ushiftRight,Nat.shiftRight_eq_div_pow]
def qd(c:BitVec 32):List UInt8:=[tb c 0,tb c 1,tb c 2,tb c 3]
def G4(c:BitVec 32):(qd c).length=4:=rfl
def frame(l:aT):List UInt8:=enc l.length++(qd (crc l)++l)
def k7(l:aT):(frame l).length=(enc l.length).length+4+l.length:=by unfold frame;rw[bd,bd,G4];omega
def nD{r:aT}(h:frame l <+: r):enc l.length <+: r:=(cM _ _).trans h
def vP{r:aT}(h:frame l <+: r)(h':frame l' <+: r):l=l':=by have he:=kK (nD h) (nD h');obtain⟨s,rfl⟩:=h;unfold frame at h';rw[<-he] at h';rw[bp] at h';have Z:=(List.prefix_append_right_inj _).1 h';obtain⟨t,ht⟩:=Z;rw[bp,bp] at ht;have h4:l'++t=l++s:=(List.append_inj ht rfl).2;exact ((List.append_inj h4 he.symm).1).symm
def lT(l x:aT)(k:Nat)(ok:Bool):Prop:=(ok=true∧x.length<=65536∧frame x <+: l∧k=(frame x).length)∨(ok=false∧(∀y:aT,y.length<=65536->¬ frame y <+: l)∧x=[]∧k=0)
def lT.none(h:∀y:aT,y.length<=65536->¬ frame y <+: l):lT l [] 0 false := .inr ⟨rfl,h,rfl,rfl⟩
def lT.one{x x':aT}{ok ok':Bool}(h:lT l x k ok)(h':lT l x' k' ok'):x=x'∧k=k'∧ok=ok':=by
 rcases h with ⟨a1,a2,a3,a4⟩|⟨a1,a2,a3,a4⟩<;>rcases h' with ⟨b1,b2,b3,b4⟩|⟨b1,b2,b3,b4⟩
 ·have:=vP a3 b3
  subst this;exact⟨rfl,by omega,by rw[a1,b1]⟩
 ·exact absurd a3 (b2 _ a2)
 ·exact absurd b3 (a2 _ b2)
 ·exact⟨by rw[a3,b3],by omega,by rw[a1,b1]⟩
def QG(h:∀m,m<18446744073709551616->¬ enc m <+: l):∀y:aT,y.length<=65536->¬ frame y <+: l:=λy hy hp=>h y.length ap (nD hp)
def JE(h:enc n <+: l)(hn:65536<n):∀y:aT,y.length<=65536->¬ frame y <+: l:=λy hy hp=>by have:=kK h (nD hp);omega
def JF(h:enc n <+: l)(hn:l.length<(enc n).length+4+n):∀y:aT,y.length<=65536->¬ frame y <+: l:=λy hy hp=>by have he:=kK h (nD hp);have I:=hp.length_le;rw[k7,<-he] at I;omega
def Lz(h:enc n <+: l)(K:k=(enc n).length)(hn:k+4+n<=l.length):∃s x r:aT,l=enc n++(s++(x++r))∧s=(l.drop k).take 4∧x=(l.drop (k+4)).take n∧s.length=4∧x.length=n:=by
 obtain⟨t,rfl⟩:=h;subst K;rw[bd] at hn;refine⟨t.take 4,(t.drop 4).take n,(t.drop 4).drop n,?_,?_,?_,by rw[bn];omega,by rw[bn,bU];omega⟩;·rw[dA,dA]
 ·rw[List.drop_left'];rfl
 ·rw[<-List.drop_drop,List.drop_left'];rfl
def G5(h:enc n <+: l)(K:k=(enc n).length)(hn:k+4+n<=l.length)(h6:n<=65536)(hs:(l.drop k).take 4=qd (crc ((l.drop (k+4)).take n))):lT l ((l.drop (k+4)).take n) (k+4+n) true:=by obtain⟨s,x,r,hl,I,Z,T,h4⟩:=Lz h K hn;rw[<-Z];rw[<-I,<-Z] at hs;refine .inl ⟨rfl,by omega,⟨r,?_⟩,by rw[k7,h4,<-K]⟩;unfold frame;rw[hl,h4,hs,bp,bp]
def LA(h:enc n <+: l)(K:k=(enc n).length)(hn:k+4+n<=l.length)(hs:(l.drop k).take 4≠qd (crc ((l.drop (k+4)).take n))):∀y:aT,y.length<=65536->¬ frame y <+: l:=λy hy hp=>by have he:=kK h (nD hp);obtain⟨s,x,r,hl,I,Z,T,h4⟩:=Lz h K hn;rw[<-I,<-Z] at hs;obtain⟨t,ht⟩:=hp;unfold frame at ht;rw[<-he,hl,bp,bp] at ht;have h5:=(List.append_inj ht rfl).2;have h6:=List.append_inj h5 (by rw[G4,T]);have h7:=(List.append_inj h6.2 (by rw[h4,he])).1;exact hs (by rw[<-h6.1,h7])
def E3:List UInt8->Nat
 | []=>0
 | b::r=>b.toNat+256*E3 r
theorem QH:∀l:aT,E3 l<256 ^ l.length
 | []=>by decide
 | b::r=>by
   have:=QH r;have hb:=b.toNat_lt;show b.toNat+256*E3 r<256 ^ (r.length+1);rw[Nat.pow_succ];omega
theorem G7:∀(l:aT)(b:UInt8),E3 (l++[b])=E3 l+b.toNat*256 ^ l.length
 | [],b=>by simp[E3]
 | a::r,b=>by
   show a.toNat+256*E3 (r++[b])=a.toNat+256*E3 r+b.toNat*256 ^ (r.length+1);rw[G7 r b,Nat.pow_succ,Nat.mul_add,<-Nat.mul_assoc 256,Nat.mul_comm 256 b.toNat,Nat.mul_assoc b.toNat,Nat.mul_comm 256 (256 ^ r.length)];omega
theorem yb(s:aT)(c:BitVec 32)(h:s.length=4):E3 s=c.toNat↔s=qd c:=by
 match s,h with
 | [b0,b1,b2,b3],_=>
   have h0:=zp c 0;have I:=zp c 1;have Z:=zp c 2;have T:=zp c 3;have hc:=c.isLt;have g0:=b0.toNat_lt;have g1:=b1.toNat_lt;have g2:=b2.toNat_lt;simp only[E3,Nat.mul_zero,Nat.add_zero,Nat.pow_zero,Nat.div_one,Nat.reduceMul,Nat.reducePow] at h0 I Z T hc ⊢;unfold qd;constructor
   ·intro he
    rw[show b0=tb c 0 from UInt8.toNat_inj.1 ap,show b1=tb c 1 from UInt8.toNat_inj.1 ap,show b2=tb c 2 from UInt8.toNat_inj.1 ap,show b3=tb c 3 from UInt8.toNat_inj.1 ap]
   ·intro he
    injection he with e0 he;injection he with e1 he;injection he with e2 he;injection he with e3 _;rw[e0,e1,e2,e3];omega
def E4(c:BitVec 32)(i:Nat):((tb c i).toNat:Int)=(c.toNat:Int) / ((2 ^ (8*i):Nat):Int) % 256:=by rw[zp];simp
def vQ(w:G)(A:aU)(n c:Nat)(l:aT)(hb:Bytes w (w:Nat) A n l)(hn:n<=65536):dF N 276 #[Y A n c] w λe O=>∃v,e=b5 (a_ #[v,()])∧Own O (New w O) 5 1 v (frame l).length (lg (frame l))∧Grow w O:=by
 have fp:=hb.len;have hpn:=Du w none 0 0 [] Reads.nil ap n ap;have hen:=eG (n:=n) ap;rw[cC,cL] at hpn;have hwn:IntKind.u64.wrap (n:Int)=(n:Int):=by rw[IntKind.wrap_u64];omega
 go_in;go_wp2_with fail;go_at_call 182;refine hpn.mono ?_;rintro e w1 ⟨v1,rfl,l6,eO⟩;clear hpn;have vi:=IY A n c l w1 (w:Nat) (hb.below eO) (by unfold dL;omega);go_wp2_with fail;go_at_call 136;refine vi.mono ?_;rintro e w1' ⟨rfl,rfl⟩;clear vi;go_wp2_with fail;go_loopw [4,16] (λv i wr=>∃k:Nat,k<=4∧i=J k∧Own wr (New w wr) 5 1 v ((enc n).length+k) (lg (enc n++(qd (crc l)).take k))∧Grow w wr) (λ_ i _=>4-(intOf i).toNat);case atStart=>exact⟨0,by omega,rfl,by rw[List.take_zero,bm];exact l6,eO⟩
 case round=>
  obtain⟨k,jw,rfl,hO,H⟩:=hrel;by_cases K:k<4
  ·rcases (show k=0∨k=1∨k=2∨k=3 by omega) with rfl|rfl|rfl|rfl
   ·have hX:((crc l).toNat:Int) % 256=((tb (crc l) 0).toNat:Int):=by rw[E4];simp
    have HX:=Q hX;clear hX;go_wp2_with (at_builtin;refine stay ?_);refine dN ?_;refine fZ (V:=New w wr) MO _ rfl (.tmp 19) (.tmp 25) rfl _ _ _ rfl (nB hO _) ((wr:Nat)+1) (some ⟨(wr:Nat),0,none⟩) 1 1 (lg [tb (crc l) 0]) rfl (Reads.pj (fO wr #[.int .u8 (((crc l).toNat:Int) % 256)] 5 (0,0) rfl _ rfl) (by rw[HX.out];rfl)) mg (by have:=hen;omega) ?_;intro v3 w3 oS nx;rw[<-jh,bp,show (qd (crc l)).take 0++[tb (crc l) 0]=(qd (crc l)).take 1 from rfl] at oS;obtain⟨oS,jU⟩:=nA H oS nx;clear nx hO;go_wp2_with fail;go_roundw;case rel=>exact⟨1,by omega,by go_num,oS,jU⟩
    case measure=>simp[intOf]
   ·have hX:((crc l).toNat:Int) / 256 % 256=((tb (crc l) 1).toNat:Int):=by rw[E4];simp
    have HX:=Q hX;clear hX;go_wp2_with (at_builtin;refine stay ?_);refine dN ?_;refine fZ (V:=New w wr) MO _ rfl (.tmp 19) (.tmp 25) rfl _ _ _ rfl (nB hO _) ((wr:Nat)+1) (some ⟨(wr:Nat),0,none⟩) 1 1 (lg [tb (crc l) 1]) rfl (Reads.pj (fO wr #[.int .u8 (((crc l).toNat:Int) / 256 % 256)] 5 (0,0) rfl _ rfl) (by rw[HX.out];rfl)) mg (by have:=hen;omega) ?_;intro v3 w3 oS nx;rw[<-jh,bp,show (qd (crc l)).take 1++[tb (crc l) 1]=(qd (crc l)).take 2 from rfl] at oS;obtain⟨oS,jU⟩:=nA H oS nx;clear nx hO;go_wp2_with fail;go_roundw;case rel=>exact⟨2,by omega,by go_num,oS,jU⟩
    case measure=>simp[intOf]
   ·have hX:((crc l).toNat:Int) / 65536 % 256=((tb (crc l) 2).toNat:Int):=by rw[E4];simp
    have HX:=Q hX;clear hX;go_wp2_with (at_builtin;refine stay ?_);refine dN ?_;refine fZ (V:=New w wr) MO _ rfl (.tmp 19) (.tmp 25) rfl _ _ _ rfl (nB hO _) ((wr:Nat)+1) (some ⟨(wr:Nat),0,none⟩) 1 1 (lg [tb (crc l) 2]) rfl (Reads.pj (fO wr #[.int .u8 (((crc l).toNat:Int) / 65536 % 256)] 5 (0,0) rfl _ rfl) (by rw[HX.out];rfl)) mg (by have:=hen;omega) ?_;intro v3 w3 oS nx;rw[<-jh,bp,show (qd (crc l)).take 2++[tb (crc l) 2]=(qd (crc l)).take 3 from rfl] at oS;obtain⟨oS,jU⟩:=nA H oS nx;clear nx hO;go_wp2_with fail;go_roundw;case rel=>exact⟨3,by omega,by go_num,oS,jU⟩
    case measure=>simp[intOf]
   ·have hX:((crc l).toNat:Int) / 16777216=((tb (crc l) 3).toNat:Int):=by rw[E4];have:=(crc l).isLt;simp;omega
    have HX:=Q hX;clear hX;go_wp2_with (at_builtin;refine stay ?_);refine dN ?_;refine fZ (V:=New w wr) MO _ rfl (.tmp 19) (.tmp 25) rfl _ _ _ rfl (nB hO _) ((wr:Nat)+1) (some ⟨(wr:Nat),0,none⟩) 1 1 (lg [tb (crc l) 3]) rfl (Reads.pj (fO wr #[.int .u8 (((crc l).toNat:Int) / 16777216)] 5 (0,0) rfl _ rfl) (by rw[HX.out];rfl)) mg (by have:=hen;omega) ?_;intro v3 w3 oS nx;rw[<-jh,bp,show (qd (crc l)).take 3++[tb (crc l) 3]=(qd (crc l)).take 4 from rfl] at oS;obtain⟨oS,jU⟩:=nA H oS nx;clear nx hO;go_wp2_with fail;go_roundw;case rel=>exact⟨4,by omega,by go_num,oS,jU⟩
    case measure=>simp[intOf]
  ·obtain rfl:k=4:=by omega
   rw[show (qd (crc l)).take 4=qd (crc l) from rfl] at hO;obtain⟨A4,c4,rfl,pB,hn4,YZ⟩:=hO.reads;have fA:=(Below.refl (wr:Nat) wr).alloc (bh _) (.cells #[Y A4 ((enc n).length+4) c4,Y A n c] 23);have ku:=eV H fA H.size;have qC:[(⟨A4,(enc n).length+4,c4,enc n++qd (crc l)⟩:Bx),⟨A,n,c,l⟩].flatMap Bx.bs=frame l:=by unfold frame;rw[fp];simp[bp]
   have hcc:=IZ (wr.alloc (.cells #[Y A4 ((enc n).length+4) c4,Y A n c] 23)) (some ⟨(wr:Nat),0,none⟩) 2 2 [⟨A4,(enc n).length+4,c4,enc n++qd (crc l)⟩,⟨A,n,c,l⟩] (Reads.more (fO wr _ 23 _ rfl _ rfl) (by simp)) (λb xh=>by
    simp only[b_,bW,or_false] at xh;rcases xh with rfl|rfl
    ·exact Reads.more (Reads.below pB fA) fA.size
    ·exact Reads.more (Reads.below hb ku) ku.size) (by unfold pQ;rw[qC,k7,fp];omega) ap
   unfold pQ at hcc;rw[qC] at hcc;go_wp2_with fail;refine hcc.mono ?_;rintro e w5 ⟨v5,rfl,UN,sk⟩;clear hcc hO pB;go_wp2;go_ret2;exact⟨v5,rfl,UN.mono λb hb=>⟨by have:=hb.1;have:=ku.size;omega,hb.2⟩,eV ku sk ku.size⟩
def zq(w:G)(A:aU)(n c:Nat)(hn:65536<n):dF N 276 #[Y A n c] w λe O=>e=b5 (a_ #[ay,J 3])∧w=O:=by go_in;go_wp2;go_ret2;exact⟨rfl,rfl⟩
def E5(a:dG)(i:Nat)(h:i≠0):a.add i=⟨a.block,a.off+i,none⟩:=by unfold Addr.add;rw[aB h]
def a7j(a b:Nat)(ha:a<4294967296)(hb:b<4294967296):bits .or .u32 (a:Int) (b:Int)=((a ||| b:Nat):Int):=by
 have hab:a ||| b<2 ^ 32:=Nat.or_lt_two_pow ha hb
 show IntKind.u32.wrap ((BitVec.ofInt 32 (a:Int) ||| BitVec.ofInt 32 (b:Int)).toNat:Int)=_;rw[BitVec.ofInt_natCast,BitVec.ofInt_natCast,BitVec.toNat_or,BitVec.toNat_ofNat,BitVec.toNat_ofNat,Nat.mod_eq_of_lt ha,Nat.mod_eq_of_lt hb,IntKind.wrap_u32'];omega
def le_step(pre:aT)(b:UInt8)(j:Nat)(hj:pre.length=j)(nx:j<=3):bits .or .u32 (E3 pre:Int) ((b.toNat:Int) % 4294967296*((256 ^ j:Nat):Int) % 4294967296)=(E3 (pre++[b]):Int):=by
 have I:=QH pre;have hb:=b.toNat_lt;rw[hj] at I;have Z:256 ^ j<=256 ^ 3:=Nat.pow_le_pow_right am nx;have T:b.toNat*256 ^ j<=255*256 ^ 3:=Nat.mul_le_mul ap Z;have e:(b.toNat:Int) % 4294967296*((256 ^ j:Nat):Int) % 4294967296=((b.toNat*256 ^ j:Nat):Int):=by rw[Int.emod_eq_of_lt (a:=(b.toNat:Int)) ap ap,<-Int.natCast_mul];exact Int.emod_eq_of_lt ap ap
 rw[e,a7j _ _ ap ap,G7,hj];congr 1;have e8:256 ^ j=2 ^ (8*j):=by rw[Nat.pow_mul]
 rw[e8] at I ⊢;rw[Nat.or_comm,Nat.mul_comm b.toNat,<-Nat.two_pow_add_eq_or_of_lt I];omega
def zr(w:G)(A:aU)(n c:Nat)(l:aT)(hb:Bytes w (w:Nat) A n l)(jf:n<=c)(jg:c<=dL):dF N 76 #[Y A n c] w λe O=>∃(x:aT)(k:Nat)(ok:Bool)(v:E),lT l x k ok∧e=b5 (a_ #[v,J k,aY ok])∧Own O (New w O) 5 1 v x.length (lg x)∧Grow w O:=by
 have fp:=hb.len;go_in;go_wp2_with fail;go_at_call 134;refine (rQ w _ A n c l hb (bA jf jg)).mono ?_;rintro e O ⟨m,k,hG,rfl,rfl⟩;unfold dL at jg;rcases hG with ⟨hm,hE,K⟩|⟨kS,rfl,rfl⟩
 ·have a4E:=eG hm
  have jb:=od m;have I2:=hE.length_le;have HK:=Q K;have jB:((k:Int) == 0)=false:=beq_eq_false_iff_ne.2 ap;have qL:1<=k∧k<=10∧k<=n:=by omega
  clear K;by_cases hm6:65536<m
  ·have a7k:decide ((65536:Int)<(m:Int))=true:=aC ap
   go_wp2;refine bodyPost_ret (v := a_ #[ay,(),aY false]) (by simp[results,Tryz.results76,go_sem]) rfl ⟨[],0,false,_,lT.none (JE hE hm6),rfl,Own.nil,Grow.refl _⟩
  ·have a7k:decide ((65536:Int)<(m:Int))=false:=aD ap
   have hwm:IntKind.i64.wrap (m:Int)=(m:Int):=by rw[IntKind.wrap_i64];omega
   by_cases hsh:n<k+4+m
   ·have a9b:decide ((n:Int)<(k:Int)+4+(m:Int))=true:=aC ap
    go_wp2;refine bodyPost_ret (v := a_ #[ay,(),aY false]) (by simp[results,Tryz.results76,go_sem]) rfl ⟨[],0,false,_,lT.none (JF hE (by rw[fp,<-HK.out];exact hsh)),rfl,Own.nil,Grow.refl _⟩
   ·have a9b:decide ((n:Int)<(k:Int)+4+(m:Int))=false:=aD ap
    go_wp2_with fail;go_loopw [7,32] (λs i wr=>∃j:Nat,j<=4∧i=J j∧s=.int .u32 (E3 (((l.drop k).take 4).take j):Int)∧w=wr) (λ_ i _=>4-(intOf i).toNat);case atStart=>exact⟨0,by omega,rfl,rfl,rfl⟩
    case round=>
     obtain⟨j,Tt,rfl,rfl,rfl⟩:=hrel;by_cases hj:j<4
     ·obtain⟨ad,hl,rfl,hc⟩:=hb.at_ (k:=k+j) ap
      have hwj:IntKind.i64.wrap ((k:Int)+(j:Int))=(k:Int)+(j:Int):=by rw[IntKind.wrap_i64];omega
      have HT:=Q (show ((l.drop k).take 4).take (j+1)=((l.drop k).take 4).take j++[l[k+j]] by
       have I:j<((l.drop k).take 4).length:=by rw[bn,bU];omega
       rw[br I,List.getElem_take,List.getElem_drop])
      have WO:(((l.drop k).take 4).take j).length=j:=by rw[bn,bn,bU];omega
      have HS:=Q (le_step (((l.drop k).take 4).take j) l[k+j] j WO ap);generalize l[k+j]=bl at hc HT HS;clear WO;rcases (show j=0∨j=1∨j=2∨j=3 by omega) with rfl|rfl|rfl|rfl
      ·have eN:w.cell? (ad.add k)=some (.int .u8 bl.toNat):=hc
       go_wp2_with fail;go_roundw;case rel=>exact⟨1,by omega,by go_num,by have h:=HS.out;rw[<-HT.out] at h;rw[<-h];rw[show ((256 ^ 0:Nat):Int)=1 from rfl,Int.mul_one,Int.emod_emod];rfl,by trivial⟩
       case measure=>simp[intOf]
      ·have eN:w.cell? ⟨ad.block,ad.off+(k+1),none⟩=some (.int .u8 bl.toNat):=by rw[<-E5 ad (k+1) ap];exact hc
       go_wp2_with fail;go_roundw;case rel=>exact⟨2,by omega,by go_num,by have h:=HS.out;rw[<-HT.out] at h;rw[<-h];rfl,by trivial⟩
       case measure=>simp[intOf]
      ·have eN:w.cell? ⟨ad.block,ad.off+(k+2),none⟩=some (.int .u8 bl.toNat):=by rw[<-E5 ad (k+2) ap];exact hc
       go_wp2_with fail;go_roundw;case rel=>exact⟨3,by omega,by go_num,by have h:=HS.out;rw[<-HT.out] at h;rw[<-h];rfl,by trivial⟩
       case measure=>simp[intOf]
      ·have eN:w.cell? ⟨ad.block,ad.off+(k+3),none⟩=some (.int .u8 bl.toNat):=by rw[<-E5 ad (k+3) ap];exact hc
       go_wp2_with fail;go_roundw;case rel=>exact⟨4,by omega,by go_num,by have h:=HS.out;rw[<-HT.out] at h;rw[<-h];rfl,by trivial⟩
       case measure=>simp[intOf]
     ·obtain rfl:j=4:=by omega
      rw[show ((l.drop k).take 4).take 4=(l.drop k).take 4 by rw[List.take_take];rfl];have WV:((l.drop k).take 4).length=4:=by rw[bn,bU];omega
      have TF:((l.drop (k+4)).take m).length=m:=by rw[bn,bU];omega
      have W:=(Reads.cut hb (k:=k+4) (cap:=c) ap jf).take (k:=m) ap;rw[cO] at W;have hX':Bytes w (w:Nat) (if c=k+4 then A else A.map (·.add (k+4))) m ((l.drop (k+4)).take m):=by unfold Bytes;rw[yO,q_,cO (k+4)];exact W
      by_cases oY:c=k+4
      ·rw[aA oY] at hX'
       have hX:=hX';go_wp2_with fail;refine (jY w A m _ ((l.drop (k+4)).take m) hX ap).mono ?_;rintro e w1 ⟨v1,rfl,l6,eO⟩;obtain⟨A1,c1,rfl,mK,oX,sF⟩:=l6.reads;have vi:=IY A1 m c1 ((l.drop (k+4)).take m) w1 (w1:Nat) mK (by unfold dL;omega);by_cases hs:E3 ((l.drop k).take 4)=(crc ((l.drop (k+4)).take m)).toNat
       ·have hsI:((((crc ((l.drop (k+4)).take m)).toNat:Int) == (E3 ((l.drop k).take 4):Int)))=true:=beq_iff_eq.2 ap
        have hy:=G5 hE HK.out ap ap ((yb _ _ WV).1 hs);go_wp2_with fail;refine vi.mono ?_;rintro e w1' ⟨rfl,rfl⟩;clear vi;go_wp2;refine bodyPost_ret (v := a_ #[Y A1 m c1,J ((k:Int)+4+(m:Int)),aY true]) (by simp[results,Tryz.results76,go_sem]) rfl ⟨_,k+4+m,true,_,hy,by push_cast;rfl,by rw[TF];exact l6,eO⟩
       ·have hsI:((((crc ((l.drop (k+4)).take m)).toNat:Int) == (E3 ((l.drop k).take 4):Int)))=false:=beq_eq_false_iff_ne.2 ap
        have kS:=LA hE HK.out ap (λh=>hs ((yb _ _ WV).2 h));go_wp2_with fail;refine vi.mono ?_;rintro e w1' ⟨rfl,rfl⟩;clear vi;go_wp2;refine bodyPost_ret (v := a_ #[ay,(),aY false]) (by simp[results,Tryz.results76,go_sem]) rfl ⟨[],0,false,_,lT.none kS,rfl,Own.nil,eO⟩
      ·rw[aB oY] at hX'
       have hX:Bytes w (w:Nat) (A.map λx=>⟨x.block,x.off+(k+3+1),none⟩) m ((l.drop (k+4)).take m):=by rwa [show (λa:dG=>a.add (k+4))=λx=>(⟨x.block,x.off+(k+3+1),none⟩:dG) from funext λx=>E5 x (k+4) ap] at hX'
       go_wp2_with fail;refine (jY w _ m _ ((l.drop (k+4)).take m) hX ap).mono ?_;rintro e w1 ⟨v1,rfl,l6,eO⟩;obtain⟨A1,c1,rfl,mK,oX,sF⟩:=l6.reads;have vi:=IY A1 m c1 ((l.drop (k+4)).take m) w1 (w1:Nat) mK (by unfold dL;omega);by_cases hs:E3 ((l.drop k).take 4)=(crc ((l.drop (k+4)).take m)).toNat
       ·have hsI:((((crc ((l.drop (k+4)).take m)).toNat:Int) == (E3 ((l.drop k).take 4):Int)))=true:=beq_iff_eq.2 ap
        have hy:=G5 hE HK.out ap ap ((yb _ _ WV).1 hs);go_wp2_with fail;refine vi.mono ?_;rintro e w1' ⟨rfl,rfl⟩;clear vi;go_wp2;refine bodyPost_ret (v := a_ #[Y A1 m c1,J ((k:Int)+4+(m:Int)),aY true]) (by simp[results,Tryz.results76,go_sem]) rfl ⟨_,k+4+m,true,_,hy,by push_cast;rfl,by rw[TF];exact l6,eO⟩
       ·have hsI:((((crc ((l.drop (k+4)).take m)).toNat:Int) == (E3 ((l.drop k).take 4):Int)))=false:=beq_eq_false_iff_ne.2 ap
        have kS:=LA hE HK.out ap (λh=>hs ((yb _ _ WV).2 h));go_wp2_with fail;refine vi.mono ?_;rintro e w1' ⟨rfl,rfl⟩;clear vi;go_wp2;refine bodyPost_ret (v := a_ #[ay,(),aY false]) (by simp[results,Tryz.results76,go_sem]) rfl ⟨[],0,false,_,lT.none kS,rfl,Own.nil,eO⟩
 ·go_wp2_with fail
  refine bodyPost_ret (v := a_ #[ay,(),aY false]) (by simp[results,Tryz.results76,go_sem]) rfl ⟨[],0,false,_,lT.none (QG kS),rfl,Own.nil,Grow.refl _⟩
def QI{f:aT}(h:f <+: l.drop k):l.take (k+f.length)=l.take k++f:=by obtain⟨t,ht⟩:=h;rw[List.take_add,<-ht,List.take_left' rfl]
def qf(x:aT):5<=(frame x).length:=by have:=od x.length;rw[k7];omega
def uE(l:aT):Prop:=∀y:aT,y.length<=65536->¬ frame y <+: l
def lU(l:aT)(xs:List (List UInt8))(k:Nat):Prop:=xs.flatMap frame++l.drop k=l∧k=(xs.flatMap frame).length∧(∀x∈xs,x.length<=65536)∧uE (l.drop k)
theorem G8:∀(xs ys:List (List UInt8))(r s:aT),xs.flatMap frame++r=ys.flatMap frame++s->(∀x∈xs,x.length<=65536)->(∀x∈ys,x.length<=65536)->uE r->uE s->xs=ys
 | [],[],_,_,_,_,_,_,_=>rfl
 | [],y::ys,r,s,h,_,hy,hr,_=>absurd (show frame y <+: r by
  rw[cI,cC,bN,bp] at h;rw[h];exact cM _ _) (hr y (hy y cy))
 | x::xs,[],r,s,h,X,_,_,hs=>absurd (show frame x <+: s by
     rw[cI,cC,bN,bp] at h;rw[<-h];exact cM _ _) (hs x (X x cy))
 | x::xs,y::ys,r,s,h,X,hy,hr,hs=>by
   rw[bN,bN,bp,bp] at h;have e:x=y:=vP (r:=frame x++(xs.flatMap frame++r)) (cM _ _) (by rw[h];exact cM _ _);subst e;rw[G8 xs ys r s (List.append_cancel_left h) (λz hz=>X z (bV _ hz)) (λz hz=>hy z (bV _ hz)) hr hs]
def lU.one{ys:List (List UInt8)}{j:Nat}(h:lU l xs k)(h':lU l ys j):xs=ys∧k=j:=by have e:=G8 xs ys _ _ (h.1.trans h'.1.symm) h.2.2.1 h'.2.2.1 h.2.2.2 h'.2.2.2;subst e;exact⟨rfl,by rw[h.2.1,h'.2.1]⟩
theorem JG(xs:List (List UInt8)):5*xs.length<=(xs.flatMap frame).length:=by
 induction xs with
 | nil=>simp
 | cons x xs ih=>
   have:=qf x;rw[bN,bd,bC];omega
def G9{x:aT}(h:l.take k=xs.flatMap frame)(X:frame x <+: l.drop k):l.take (k+(frame x).length)=(xs++[x]).flatMap frame:=by rw[QI X,h,bO,bN,cI,bm]
def Ga(h:l.take k=xs.flatMap frame)(K:k<=l.length)(X:∀x∈xs,x.length<=65536)(hn:uE (l.drop k)):lU l xs k:=⟨by rw[<-h,dA],by rw[<-h,bn];omega,X,hn⟩
structure tz(w:G)(V:Nat->Prop)(b:Bx):Prop where
 bs:In w V 1 b.A b.m (lg b.bs)
 le:b.m<=b.c
 max:b.c<=dL
theorem tz.mono{w:G}{V V':aV}{b:Bx}(h:tz w V b)(hV:∀b,V b->V' b):tz w V' b:=⟨In.mono h.bs hV,h.le,h.max⟩
theorem tz.grow{w O:G}{V:aV}{b:Bx}(h:tz w V b)(H:Grow w O):tz O V b:=⟨In.grow h.bs H,h.le,h.max⟩
theorem tz.just{w O:G}{V U:aV}{b:Bx}(h:tz w V b)(hj:dP U w O)(hd:∀b,V b->¬ U b):tz O V b:=⟨In.just h.bs hj hd,h.le,h.max⟩
structure Bxs(w:G)(V D:Nat->Prop)(A:Option dG)(n:Nat)(q:List Bx):Prop where
 row:In w V 1 A n (q.flatMap Bx.cells)
 all:∀b∈q,tz w D b
theorem Bxs.mono{w:G}{V D V' D':aV}{A:aU}{n:Nat}{q:List Bx}(h:Bxs w V D A n q)(hV:∀b,V b->V' b)(hD:∀b,D b->D' b):Bxs w V' D' A n q:=⟨h.row.mono hV,λb hb=>(h.all b hb).mono hD⟩
def a2D(xs:List (List UInt8))(w0:G)(u:E)(w:G):Prop:=∃(A:aU)(c:Nat)(q:List Bx),u=Y A q.length c∧Bxs w (New w0 w) (New w0 w) A q.length q∧q.map Bx.bs=xs∧q.length<=c∧c<=dL
def QJ:(Tryz.prog.info? 23).map (λi=>(i.zero,i.size,i.bytes))=some (some (Y none 0 0),1,24):=by kernel_rfl
def bxE:Elem N 200 23 1 24 (Y none 0 0):=⟨Tryz.underlying200,info_parts QJ,rfl,by decide,by decide⟩
def QK(w:G)(A:aU)(n c:Nat)(l:aT)(hb:Bytes w (w:Nat) A n l)(jf:n<=c)(jg:c<=dL)(hn:n<=1099511627776):dF N 179 #[Y A n c] w λe O=>∃(xs:List (List UInt8))(k:Nat)(u:E),lU l xs k∧e=b5 (a_ #[u,J k])∧a2D xs w u O∧Grow w O:=by
 have fp:=hb.len;go_in;go_wp2_with fail;go_loopw [4,5] (λs i wr=>∃(k:Nat)(q:List Bx)(R D:aV),k<=n∧i=J k∧Own wr R 23 1 s q.length (q.flatMap Bx.cells)∧(∀b∈q,tz wr D b)∧(∀x∈q.map Bx.bs,x.length<=65536)∧l.take k=(q.map Bx.bs).flatMap frame∧(∀b,R b->New w wr b∧¬ D b)∧(∀b,D b->New w wr b)∧Grow w wr) (λ_ i _=>n-(intOf i).toNat);case atStart=>exact⟨0,[],λ_=>False,λ_=>False,by omega,rfl,Own.nil,by simp,by simp,by simp,λ_ h=>h.elim,λ_ h=>h.elim,Grow.refl _⟩
 case round=>
  obtain⟨k,q,R,D,oF,rfl,hO,l8,h6,qC,W,hD,H⟩:=hrel;obtain⟨A1,c1,rfl,OB,PR,sF⟩:=hO.kB;have hq5:5*q.length<=k:=by have I:=JG (q.map Bx.bs);rw[<-qC,bn,bj] at I;omega
  have It:=H.size;have hbr:Bytes wr (wr:Nat) A n l:=Reads.more (Reads.below hb H) H.size;have B7:=Reads.cut hbr (k:=k) (cap:=c) oF jf;have xh:Bytes wr (wr:Nat) (if c=k then A else A.map (·.add k)) (n-k) (l.drop k):=by simp only[cO] at B7;unfold Bytes;rw[q_,cO];exact B7
  have D9:∀(w1:G),Grow wr w1->uE (l.drop k)->∃(xs:List (List UInt8))(k':Nat)(u:E),lU l xs k'∧Ending.returned (a_ #[Y A1 q.length c1,J k])=b5 (a_ #[u,J k'])∧a2D xs w u w1∧Grow w w1:=λw1 eO kS=>
   ⟨q.map Bx.bs,k,_,Ga qC ap h6 kS,rfl,⟨A1,c1,q,rfl,⟨(OB.mono λb hb=>(⟨(W b hb).1.1,by have:=(W b hb).1.2;have:=eO.size;omega⟩:New w w1 b)).grow eO,λb hb=>((l8 b hb).mono λx X=>(⟨(hD x X).1,by have:=(hD x X).2;have:=eO.size;omega⟩:New w w1 x)).grow eO⟩,rfl,PR,sF⟩,H.trans eO⟩
  by_cases oY:c=k
  ·rw[aA oY] at xh
   have hnk:n=k:=by omega
   go_wp2_with fail;go_at_call 76;rw[show n-k=0 by omega] at xh;refine (zr _ _ 0 0 (l.drop k) xh ap ap).mono ?_;rintro e w1 ⟨x,k',ok,v,QL,rfl,l6,eO⟩;rcases QL with ⟨_,hx6,I6,qL⟩|⟨rfl,kS,rfl,rfl⟩
   ·exfalso
    have I:=I6.length_le;have Z:=qf x;rw[bU] at I;omega
   ·go_wp2_with fail
    go_ret2;exact D9 w1 eO kS
  ·rw[aB oY] at xh
   go_wp2_with fail;go_at_call 76;refine (zr _ _ (n-k) (c-k) (l.drop k) xh ap ap).mono ?_;rintro e w1 ⟨x,k',ok,v,QL,rfl,l6,eO⟩;rcases QL with ⟨rfl,hx6,I6,qL⟩|⟨rfl,kS,rfl,rfl⟩
   ·have WO:=I6.length_le
    rw[bU] at WO;have h5:=qf x;have HF:=Q (G9 qC I6);obtain⟨A2,c2,rfl,KL,a7l,BO⟩:=l6.kB;have hwk:IntKind.i64.wrap ((k:Int)+(k':Int))=(k:Int)+(k':Int):=by rw[IntKind.wrap_i64];omega
    have TI:=eO.size;have o9:=(Below.refl (w1:Nat) w1).alloc (bh _) (.cells #[Y A2 x.length c2] 23);have lO:∀b,R b->b<(wr:Nat):=λb hb=>(W b hb).1.2;go_wp2_with (at_builtin;refine stay ?_);refine dN ?_;refine fZ (V:=R) bxE _ rfl (.tmp 21) (.tmp 23) rfl (Y A1 q.length c1) q.length (q.flatMap Bx.cells) rfl (((hO.grow lO eO).grow (λb hb=>by have:=lO b hb;omega) o9)) ((w1:Nat)+1) (some ⟨(w1:Nat),0,none⟩) 1 1 (Bx.cells ⟨A2,x.length,c2,x⟩) rfl (fO w1 _ 23 _ rfl _ rfl) (Yl _) ap ?_;intro v2 w2 tM kI;have B6:=kI.size;simp only[fy] at B6;have hgj:Below (w:Nat) w1 w2:=Below.trans (o9.mono ap) (kI.below (B:=(w:Nat)) (λb hb=>(W b hb).1.1) (by simp;omega));have fN:Grow w w2:=Below.trans (H.trans eO) hgj;have hD2:∀b:Bx,tz w1 D b->tz w2 D b:=λb hb=>(hb.grow o9).just kI λx X hr=>(W x hr).2 X;have PS:∀b:Bx,tz w1 (New wr w1) b->tz w2 (New wr w1) b:=λb hb=>(hb.grow o9).just kI λx X hr=>by have:=X.1;have:=lO x hr;omega
    go_wp2_with fail;go_roundw;case rel=>
     refine⟨k+k',q++[⟨A2,x.length,c2,x⟩],ju R (w1.alloc (.cells #[Y A2 x.length c2] 23)) w2,λb=>D b∨New wr w1 b,by omega,by go_num,?_,λb hb=>?_,λy hy=>?_,?_,λb hb=>?_,λb hb=>?_,fN⟩;·rw[bO,bN,cI,bm,bd];exact tM
     ·rcases List.mem_append.1 hb with hb|hb
      ·exact (hD2 b ((l8 b hb).grow eO)).mono λ_ => .inl
      ·rw[List.mem_singleton.1 hb];exact (PS ⟨A2,x.length,c2,x⟩ ⟨KL,a7l,BO⟩).mono λ_ => .inr
     ·rw[bM] at hy
      rcases List.mem_append.1 hy with hy|hy
      ·exact h6 y hy
      ·rw[List.mem_singleton.1 hy];exact hx6
     ·rw[bM,qL,HF.out];rfl
     ·rcases hb with hb|⟨I,Z⟩
      ·refine⟨⟨(W b hb).1.1,by have:=lO b hb;omega⟩,λhd=>?_⟩
       rcases hd with hd|hd
       ·exact (W b hb).2 hd
       ·have:=hd.1;have:=lO b hb;omega
      ·simp only[fy] at I
       refine⟨⟨by omega,Z⟩,λhd=>?_⟩;rcases hd with hd|hd
       ·have:=(hD b hd).2;omega
       ·have:=hd.2;omega
     ·rcases hb with hb|hb
      ·have:=hD b hb;exact⟨this.1,by have:=this.2;omega⟩
      ·have I:=hb.1;have Z:=hb.2;exact⟨by omega,by omega⟩
    case measure=>simp[intOf];omega
   ·go_wp2_with fail
    go_ret2;exact D9 w1 eO kS
def eF(x d:Nat)(n:Int)(l:aT)(k:Nat):ei:=λw V=>
 V x∧eL w x 278 #[d,J n]∧gD 120 d l k w (λb=>V b∧b≠x)
theorem eF.framed(x d:Nat)(n:Int)(l:aT)(k:Nat):eQ (eF x d n l k):=λw O V h K=>by obtain⟨I,Z,T⟩:=h;exact⟨I,(K x I).trans Z,gD.framed _ d l k w O _ T λb hb=>K b hb.1⟩
theorem eF.wide{x d:Nat}{n:Int}{l:aT}{k:Nat}{w:G}{V V':aV}(h:eF x d n l k w V)(hV:∀b,V b->V' b):eF x d n l k w V':=⟨hV x h.1,h.2.1,h.2.2.wide λb hb=>⟨hV b hb.1,hb.2⟩⟩
def eF.turn{f:FuncId}{args:aP}{C:Ending->Prop}{d:Nat}{n:Int}(h:j9 N f args C (gD 120 d l k) (gD 120 d l' k') w):j9 N f args C (eF x d n l k) (eF x d n l' k') w:=by
 intro V ⟨I,Z,T⟩ hV;refine (h _ T λb hb=>hV b hb.1).mono λe O ⟨he,hd,hj⟩=>⟨he,⟨.inl I,hj.blk Z λh=>h.2 rfl,hd.wide λb hb=>?_⟩,hj.imp λb hb=>hb.1⟩;have:=hV x I;rcases hb with hb|hb
 ·exact⟨.inl hb.1,hb.2⟩
 ·exact⟨.inr hb,by have:=hb.1;omega⟩
def vR(w:G)(x d:Nat)(n:Int)(l:aT)(k:Nat):j9 N 242 #[x] (λe=>e=b5 (a_ #[])) (eF x d n l k) (eF x d n l l.length) w:=by intro V hL hV;have c0:=hL.2.1.cell 0;have ht:=eF.turn (x:=x) (n:=n) (PL w d l k) V hL hV;go_in;go_wp2_with fail;refine ht.mono ?_;rintro e w1 ⟨rfl,hL1,hj⟩;go_wp2;go_end0;exact⟨rfl,hL1,hj⟩
def iA(l b:aT):Int:=if b.length<=65536 then Dw l (frame b) else 3
def Bn(l b:aT):List UInt8:=if b.length<=65536 then Ug l (frame b) else l
def Nr{b:aT}:Dw l b=0↔fits l b=true:=by
 unfold Dw;split;·simp_all
 ·simp_all
def wY(w:G)(x d:Nat)(n:Int)(l:aT)(k:Nat)(A:aU)(m c:Nat)(b:aT)(hb:Bytes w (w:Nat) A m b)(hn:0<=n∧n<=1099511627776):j9 N 241 #[x,Y A m c] (λe=>e=b5 (J (iA l b))) (eF x d n l k) (eF x d (if iA l b=0 then n+1 else n) (Bn l b) k) w:=by
 intro V hL hV;have xQ:=hb.len;by_cases hm:m<=65536
 ·have hm':b.length<=65536:=by omega
  unfold iA Bn;rw[aA hm',aA hm'];cases hf:fits l (frame b) with
  | true=>
    have Iw:Dw l (frame b)=0:=Nr.2 hf;rw[Iw,aA rfl];have hB:=hL.2.1;go_in;go_wp2_with fail;refine (vQ w A m c b hb hm).mono ?_;rintro e w1 ⟨v1,rfl,l6,eO⟩;obtain⟨A1,c1,rfl,mK,oX,sF⟩:=l6.reads;have c0:=(hB.grow eO).cell 0;have hL1:=eF.framed x d n l k w w1 V hL λb hb=>eO.block b (hV b hb);have ht:=eF.turn (x:=x) (n:=n) (yS w1 d l k A1 (frame b).length c1 (frame b) mK) V hL1 (λb hb=>bu (hV b hb) eO.size);rw[Iw] at ht;clear Iw;go_wp2_with fail;refine ht.mono ?_;rintro e w2 ⟨rfl,hL2,kI⟩;have c1:=hL2.2.1.cell 1;have f1:=hL2.2.1.frozen 1;have yk:IntKind.i64.wrap (n+1)=n+1:=by rw[IntKind.wrap_i64];omega
    go_wp2;go_ret;refine⟨rfl,⟨.inl hL.1,hL2.2.1.put 1 _,?_⟩,((dP.dR eO).trans kI).put hL.1 1 _⟩;refine (gD.framed _ d _ _ w2 _ _ hL2.2.2 λb hb=>(mh w2 x 1 _).block b ?_ hb.2).wide λb hb=>⟨?_,hb.2⟩
    ·have:=kI.size
     rcases hb.1 with h|h
     ·have:=hV b h;have:=eO.size;omega
     ·exact h.2
    ·rcases hb.1 with h|h
     ·exact .inl h
     ·exact .inr ⟨bA eO.size h.1,by rw[gV];exact h.2⟩
  | false=>
    have Iw:Dw l (frame b)=24:=by unfold Dw;rw[hf];rfl
    rw[Iw,aB am];have hB:=hL.2.1;go_in;go_wp2_with fail;refine (vQ w A m c b hb hm).mono ?_;rintro e w1 ⟨v1,rfl,l6,eO⟩;obtain⟨A1,c1,rfl,mK,oX,sF⟩:=l6.reads;have c0:=(hB.grow eO).cell 0;have hL1:=eF.framed x d n l k w w1 V hL λb hb=>eO.block b (hV b hb);have ht:=eF.turn (x:=x) (n:=n) (yS w1 d l k A1 (frame b).length c1 (frame b) mK) V hL1 (λb hb=>bu (hV b hb) eO.size);rw[Iw] at ht;clear Iw;go_wp2_with fail;refine ht.mono ?_;rintro e w2 ⟨rfl,hL2,kI⟩;go_wp2;go_ret;refine⟨rfl,hL2.wide λb hb=>?_,(dP.dR eO).trans kI⟩;rcases hb with h|h
    ·exact .inl h
    ·exact .inr ⟨bA eO.size h.1,h.2⟩
 ·have hm':¬ b.length<=65536:=by omega
  unfold iA Bn;rw[aB hm',aB hm',aB ap];go_in;go_wp2_with fail;refine (zq w A m c ap).mono ?_;rintro e w1 ⟨rfl,rfl⟩;go_wp2;go_ret;exact⟨rfl,hL.wide λb hb => .inl hb,dP.dR (Grow.refl w)⟩
end Go.Proofs.YtpeepcmdehhbgaaGreatDoor.V
namespace Go.Proofs.YtpeepcmdehhbgaaGreatDoor
open RowKit Hop V
def a2E(e:En):List UInt8:=[UInt8.ofNat 1]++enc (p_ e).length++p_ e
def Y_(tag code:Int)(n:Nat):List UInt8:=[UInt8.ofNat 2]++enc tag.toNat++enc code.toNat++enc n
def yc{e:En}(h:e.Ok):(p_ e).length<=9000:=by
 obtain⟨⟨I,Z⟩,T⟩:=h;have e1:=eG (n:=e.fr.toNat) ap;have e2:=eG (n:=e.tg.toNat) ap;unfold p_;rcases T with T|T
 ·rw[aB (by rw[T.1];decide)]
  have e3:=DX e.ds (Ls T);obtain⟨_,_,ha,hs,hq,he,hn,_⟩:=T;have e4:=rk [e.ag.toNat,e.sh.toNat,e.sq.toNat,e.ep.toNat,e.ds.length] (by intro n hn;simp at hn;omega);simp only[bd,bw];simp only[bC,cx] at e4;omega
 ·rw[aA T.1]
  obtain⟨_,_,_,_,_,_,_,jo⟩:=T;have e3:=eG (n:=e.se.size) ap;have e4:e.se.data.toList.length=e.se.size:=rfl;simp only[bd,bw];omega
def qA(w:G)(e:dH)(s:aR):Grow w (Lib.bytesWorld w e s):=⟨rfl,rfl,rfl,by rw[Lib.bytesWorld_size];omega,λi hi=>Lib.bytesWorld_at_old w e s i hi⟩
def sQ(w:G)(e:dH)(s:aR)(hs:s.size<=1099511627776):dX s.data.toList (Y (some ⟨(w:Nat),0,none⟩) s.size (grownCap w s.size 0 e)) (Lib.bytesWorld w e s):=by
 refine⟨_,_,_,rfl,⟨by simp[lg],λ_=>⟨_,rfl,by rw[Lib.bytesWorld_size];simp,λj u hu=>?_⟩⟩,grownCap_ge w s.size 0 e,grownCap_le_maxLen w s.size 0 e (by unfold dL;omega)⟩;obtain⟨hj,rfl⟩:=Dj hu;have qG:(⟨(w:Nat),0,none⟩:dG).add j=⟨(w:Nat),j,none⟩:=by unfold Addr.add;split<;>simp_all
 rw[qG,Lib.bytesWorld_cell w e s j hj];have mc:j<s.data.size:=by simpa using hj
 simp[List.getD,Array.getElem?_eq_getElem mc]
end Go.Proofs.YtpeepcmdehhbgaaGreatDoor
namespace Go.Proofs.YtpeepcmdehhbgaaGreatDoor
open RowKit Hop
def mD:List Dl->Dl->List Dl
 | [],d=>[d]
 | x::l,d=>if x.1=d.1 then (x.1,min (x.2+d.2) 18446744073709551615)::l else x::mD l d
def qB(q:List Dl):List Dl:=q.foldl mD []
theorem CB:∀{l:List Dl}{d:Dl},(∀x∈l,decide (x.1=d.1)=false)->mD l d=l++[d]
 | [],_,_=>rfl
 | x::l,d,h=>by
   have X:x.1≠d.1:=by simpa using h x (by simp)
   unfold mD;rw[aB X,CB λy hy=>h y (by simp[hy])];rfl
theorem LC:∀{l:List Dl}{d:Dl}{k:Nat}(K:k<l.length),decide (l[k].1=d.1)=true->(∀x∈l.take k,decide (x.1=d.1)=false)->mD l d=l.set k (l[k].1,min (l[k].2+d.2) 18446744073709551615)
 | x::l,d,0,K,h,_=>by
   have X:x.1=d.1:=by simpa using h
   unfold mD;rw[aA X];rfl
 | x::l,d,k+1,K,h,Z=>by
   have X:x.1≠d.1:=by simpa using Z x (by simp)
   unfold mD;rw[aB X,LC (l:=l) (d:=d) (k:=k) (by simpa using K) (by simpa using h) λy hy=>Z y (by simp[hy])];rfl
theorem QM(l:List Dl)(d:Dl):(mD l d).length<=l.length+1:=by
 induction l with
 | nil=>simp[mD]
 | cons x l ih=>unfold mD;split<;>simp<;>omega
theorem QN{l:List Dl}(h:∀x∈l,x.2<=18446744073709551615)(hd:d.2<=18446744073709551615):∀x∈mD l d,x.2<=18446744073709551615:=by
 induction l with
 | nil=>intro x X;simp[mD] at X;subst X;exact hd
 | cons y l ih=>
   intro x X;unfold mD at X;split at X
   ·rcases List.mem_cons.1 X with rfl|X
    ·exact Nat.min_le_right _ _
    ·exact h x (by simp[X])
   ·rcases List.mem_cons.1 X with rfl|X
    ·exact h _ (by simp)
    ·exact ih (λz hz=>h z (by simp[hz])) x X
def a2F(w:G)(s s':aR)(n x y:Nat)(hy:eL w y 147 #[aX s',ae ah x]):dF N 334 #[aZ #[aX s,ae ah n],y] w λe O=>e=b5 (aY (decide (s=s')))∧Grow w O:=by
 have fA:=dZ w (.cells #[aX s,ae ah n] 147);have c0:=(hy.grow fA).cell 0;by_cases h:s=s'
 ·subst h
  go_in;go_wp2;go_ret;exact⟨by simp,fA⟩
 ·have hb:=aev.ux h
  have hd:Hid (decide (s=s')=false):=Q (aD h);replace h:=Q h;go_in;go_wp2;go_ret;exact⟨by rw[hd.out];rfl,fA⟩
theorem zt:∀(h:List Dl)(k v:Nat)(K:k<h.length),(fw h).set (k*2+1) (ae ah v)=fw (h.set k (h[k].1,v))
 | [],k,v,K=>absurd K (by simp)
 | b::l,0,v,K=>rfl
 | b::l,k+1,v,K=>by
   rw[show (k+1)*2+1=k*2+1+1+1 by omega,show fw (b::l)=aX b.1::ae ah b.2::fw l from rfl,bI,bI,zt l k v (by simpa using K)];rfl
def Ns(w:G)(D:aV)(A:aU)(n c:Nat)(l:List Dl)(h:kg w D A n l)(hn:n<=1000)(hl:∀d∈l,d.2<=18446744073709551615):dF N 281 #[Y A n c] w λe O=>∃A2,e=b5 (Y A2 (qB l).length (qB l).length)∧kg O (New w O) A2 (qB l).length (qB l)∧Grow w O:=by
 have sI:Hid (l.length=n):=Q h.len;have L:=St.begin_ (l:=[]) (w:=w) (V:=λ_=>False) trivial (λ_ h=>h.elim) trivial;go_in;go_wp2_with fail;go_loopw [3,9] (λu i wr=>∃(k:Nat)(q:List Dl),i=J k∧k<=n∧(l.drop k).foldl mD q=qB l∧q.length<=k∧(∀x∈q,x.2<=18446744073709551615)∧St (λ_=>False) w [.o (fT 147 2 u q.length (fw q))] wr) (λ_ i _=>n-(intOf i).toNat);case atStart=>exact⟨0,[],rfl,by omega,rfl,bh _,(λ_ h=>absurd h (by simp)),L.join (fT.framed _ _ _ _ _) (Grow.refl _) (U:=λ_=>False) Row.nil (λ_ h=>h.elim)⟩
 case round=>
  obtain⟨k,q,rfl,oF,hf,WT,Uq,L⟩:=hrel;obtain⟨Aq,cq,rfl,hcq,hmq⟩:=fT.sl L;have i7:Grow w wr:=L.grown;by_cases K:k<n
  ·obtain⟨ad,hq,rfl,f0,f1⟩:=kY (In.grow h i7) K
   have e0:=f0 wr (Grow.refl _);have e1:=f1 wr (Grow.refl _);have V6:=hl l[k] (bD hq);rw[bR hq,List.foldl_cons] at hf;generalize l[k]=d at e0 e1 V6 hf;obtain⟨s,x⟩:=d;dsimp only at e0 e1 V6;obtain⟨y,wa,HY,HA,mX⟩:=L.new' #[aX s,ae ah x] 147;obtain⟨U,hU,_⟩:=mX.own.see 1 rfl;obtain⟨Aq',cq',e6,V7,_⟩:=Row.kB (show Row wa U 147 2 (Y Aq q.length cq) q.length (fw q) from hU);injection e6 with e6 _ e7;subst e6 e7;have hY:=mX.blk 0 rfl;have hIx:=uz wa U Aq q.length cq q V7 ap 334 #[y] (λz=>decide (z.1=s)) ⟨λvs w=>by kernel_rfl,λO H d _=>a2F O d.1 s d.2 x y (hY.grow H)⟩;clear f0 f1;replace hf:=Q hf;go_wp2_with fail;rw[<-HA.out,<-HY.out];refine hIx.mono ?_;rintro e w2 ⟨⟨rfl,kS⟩|⟨j,hj,rfl,hp,kS⟩,fN⟩
   ·have ec:=mX.grow fN
    have Nt:=Q (CB (d:=(s,x)) kS);replace kS:=Q kS;have y0:w2.cell? (y,0)=some (aX s):=ec.facts.1.1 0;have y1:w2.cell? (y,1)=some (ae ah x):=ec.facts.1.1 1;obtain⟨y2,wb,zl,HB,eh⟩:=ec.new' #[aX s,ae ah x] 147;go_wp2_with (at_builtin;refine stay ?_);refine dN ?_;rw[<-HB.out,<-zl.out];refine iw pS rfl (.tmp 18) (.tmp 20) rfl rfl (eh.front 2 rfl) (A:=some (y2,0)) (m:=1) (c:=1) (news:=[aX s,ae ah x]) rfl (In.reads ((eh.blk 0 rfl).kB (size:=2) (n:=1) rfl)) (by simp[Value.oneCell']) ap ?_;intro v' w4 eU;go_wp2_with fail;refine⟨⟨k+1,q++[(s,x)],by go_num,by omega,by rw[<-Nt.out];exact hf.out,by simp;omega,λz hz=>?_,?_⟩,by simp[intOf];omega⟩
    ·rcases List.mem_append.1 hz with hz|hz
     ·exact Uq z hz
     ·rw[List.mem_singleton.1 hz];exact V6
    ·have h5:=(eU.dT 1 rfl).dT 1 rfl
     rw[bd,fw,bO];exact h5
   ·have ec:=(mX.grow fN).front 1 rfl
    have Nt:=Q (LC (d:=(s,x)) hj hp kS);have fp:Hid ((q.set j (q[j].1,min (q[j].2+x) 18446744073709551615)).length=q.length):=Q (by rw[dq]);have hdc:=Q (zt q j (min (q[j].2+x) 18446744073709551615) hj);have hqj:=Uq q[j] (bD hj);replace kS:=Q kS;replace hp:=Q hp;obtain⟨g,cg,e8,_⟩:=fT.shape ec ap;injection e8 with e8 _ e9;subst e8 e9;have DI:=QN (l:=q) (d:=(s,x)) Uq V6;rw[Nt.out] at DI;replace DI:=Q DI;have iT:∀l' O,St (λ_=>False) w (.o (fT 147 2 (Y (some (g,0)) q.length cq) q.length (fw q))::.c y 147 #[aX s,ae ah x]::l') O->O.cell? ⟨g,j*2+1,none⟩=some (ae ah (q[j].2:Int))∧O.cell? (y,1)=some (ae ah x):=λl' O h=>
     ⟨((fT.at_ h).1 (j*2+1) ap).trans ((flat_get nO 2 j4 q j 1 hj ap).trans rfl),h.facts.1.1 1⟩
    have mc:j<q.length:=hj;generalize q[j]=d0 at Nt fp hdc hqj iT DI;obtain⟨s0,x0⟩:=d0;dsimp only at Nt fp hdc hqj iT DI;have dj0:decide ((j:Int)<0)=false:=aD ap;go_wp2_with fail;have eZ:=ec.grow (Grow.refl _).drew;have eN:=iT _ _ eZ;refine dO rfl ?_;refine fV (λO=>O.cell? ⟨g,j*2+1,none⟩=some (ae ah x0)∧O.cell? (y,1)=some (ae ah x)) [10,11,12] 13 rfl [0,1,2,3,4,5,6,7,8] ?_;iterate 9 (refine ff rfl eN (λw1 ⟨I,Z⟩=>aM) ?_)
    refine fG 9 [] rfl ?_;have Xl:=aer.G2 w2.drew x0 x (by unfold aer.oU;omega) (by unfold aer.oU;omega);obtain⟨M,HM⟩:=az (min (x0+x) 18446744073709551615);rw[show (if x0+x<=aer.oU then x0+x else aer.oU)=M by rw[HM.out];unfold aer.oU;split<;>omega] at Xl;rw[<-HM.out] at Nt fp hdc DI;go_wp2_with fail;refine Xl.mono ?_;rintro e w3 ⟨rfl,rfl⟩;go_wp2_with fail;refine⟨λ_=>eN,?_⟩;refine gx 10 rfl aw ?_;have hcR:=fT.at_ eZ;obtain⟨lx,mL⟩:=eN;have hfz:=hcR.2 (j*2+1);clear hcR;go_wp2_with fail;have eU:=((ec.a6G (j*2+1) (ae ah M)).grow (Grow.refl _).drew).dT 1 rfl;refine⟨⟨k+1,q.set j (s0,M),by go_num,by omega,by rw[<-Nt.out];exact hf.out,by rw[fp.out];omega,DI.out,?_⟩,by simp[intOf];omega⟩;rw[fp.out,<-hdc.out];exact eU
  ·have lD:l.drop k=[]:=cT (by rw[sI.out];omega)
   rw[lD] at hf;replace hf:=Q hf;replace lD:=Q lD;have sD:=pi wr Aq q.length cq hcq;go_wp2_with fail;refine sD.mono ?_;rintro e w2 ⟨rfl,rfl⟩;go_wp2;go_ret;rw[<-hf.out];obtain⟨U,hU,fM⟩:=L.own.see 0 rfl;obtain⟨A7,c7,e7,hI7,_⟩:=Row.kB (show Row wr U 147 2 (Y Aq q.length cq) q.length (fw q) from hU);injection e7 with e7;subst e7;exact⟨_,rfl,hI7.mono λb hb=>⟨(fM b hb).1.elim False.elim id,(fM b hb).2⟩,i7⟩
open V
def eB(e:En):List UInt8:=enc (p_ e).length++p_ e
def sR(l:List En):List UInt8:=l.flatMap eB
def Z0{e:En}(h:e.Ok):(eB e).length<=9010:=by have:=yc h;have:=eG (n:=(p_ e).length) ap;unfold eB;rw[bd];omega
theorem LD:∀(l:List En),(∀e∈l,e.Ok)->(sR l).length<=l.length*9010
 | [],_=>by simp[sR]
 | e::l,h=>by
   have I:=LD l λx X=>h x (by simp[X]);have Z:=Z0 (h e (by simp));rw[show sR (e::l)=eB e++sR l from rfl,bd,bC];omega
def QO(l:List En)(e:En):sR (l++[e])=sR l++eB e:=by simp[sR]
def zu(w:G)(u:E)(l:aT)(D:aV)(A:aU)(c:Nat)(q:List El)(hu:dX l u w)(hl:l.length<=1048576)(hq:kO w D A q)(gS:∀x∈q,x.e.Ok)(hn:q.length<=1024):dF N 181 #[u,Y A q.length c] w λe O=>∃v,e=b5 v∧Grow w O∧dX (l++enc q.length++sR (q.map El.e)) v O:=by
 have wq:IntKind.u64.wrap (q.length:Int)=(q.length:Int):=by rw[wrap_u64];omega
 have hP:=iE w u l q.length hu ap ap;have XH:=eG (n:=q.length) ap;obtain⟨L0,OQ⟩:=az (l++enc q.length:aT);rw[<-OQ.out] at hP ⊢;have TL:L0.length<=1048600:=by rw[OQ.out,bd];omega
 go_in;go_wp2_with fail;refine hP.mono ?_;rintro e w1 ⟨v1,rfl,eO,sH⟩;have Ih:=hq.grow eO;go_wp2_with fail;go_loopw [0,16] (λv i wr=>∃k:Nat,k<=q.length∧i=J k∧dX (L0++sR ((q.take k).map El.e)) v wr∧Grow w1 wr) (λ_ i _=>q.length-(intOf i).toNat);case atStart=>exact⟨0,by omega,rfl,by simpa [sR] using sH,Grow.refl _⟩
 case round=>
  obtain⟨k,oF,rfl,hI,i7⟩:=hrel;by_cases K:k<q.length
  ·have KN:=Ih.grow i7
   obtain⟨ad,xj,rfl,hV,zn,e0,e1⟩:=KN.1.ni ap pZ K;have jZ:=KN.2 q[k] (bD xj);have xk:q.take (k+1)=q.take k++[q[k]]:=br xj;have hqm:=bD xj;have HS:=Q xk;clear xk;have ss:=gS _ hqm;have ym:=LD ((q.take k).map El.e) λe he=>by obtain⟨x,X,rfl⟩:=List.mem_map.1 he;exact gS x (bY X)
   rw[bj,bn,cF ap] at ym;have HLL:=Q ym;clear ym hqm;generalize q[k]=b at jZ e0 e1 HS ss;have hEB:=λw1(eO:Grow wr w1)=>FZ w1 b.e D b.A b.c ss (In.grow jZ.1 eO);have fp:=yc ss;obtain⟨⟨bk,ag,sh,sq,ep,ds,se,fr,tg⟩,Ab,cb⟩:=b;dsimp only[El.cells,En.agg] at e0 e1 hEB;have e1:=e1 0 _ rfl;have e0:=e0 _ rfl;have fA:=dZ wr (.cells #[J bk,J ag,J sh,J sq,J ep,Y Ab ds.length cb,aX se,J fr,J tg] 40);have hEB:=hEB _ fA;obtain⟨bs,HB⟩:=az (p_ ⟨bk,ag,sh,sq,ep,ds,se,fr,tg⟩:List UInt8);rw[<-HB.out] at hEB fp;clear jZ ss;go_wp2_with fail;refine hEB.mono ?_;rintro e w2 ⟨v2,rfl,fN,nu⟩;have cv:=KZ w2 nu;have hT:=uA w2 u0 _ ⟨bs.toArray⟩ (hI.below (fA.trans fN)) (by rw[bd];have:=HLL.out;have:=cK 9010 (show k<=1024 by omega);omega) (by show bs.toArray.size<=_;simp;omega);rw[show (ByteArray.mk bs.toArray).size=bs.length by show bs.toArray.size=_;simp,show (ByteArray.mk bs.toArray).data.toList=bs from rfl] at hT;go_wp2_with fail;refine hT.mono ?_;rintro e w3 ⟨v3,rfl,jU,P1⟩;have hb4:dX (L0++sR ((q.take (k+1)).map El.e)) v3 w3:=by rw[HS.out,bM,bX,cS,QO,<-bp];show dX (L0++sR ((q.take k).map El.e)++(enc (p_ ⟨bk,ag,sh,sq,ep,ds,se,fr,tg⟩).length++p_ ⟨bk,ag,sh,sq,ep,ds,se,fr,tg⟩)) v3 w3;rw[<-HB.out,<-bp];exact P1
   go_wp2_with fail;go_roundw;case rel=>exact⟨k+1,by omega,by go_num,hb4,i7.trans (fA.trans (fN.trans jU))⟩
   case measure=>simp[intOf];omega
  ·obtain rfl:k=q.length:=by omega
   rw[dy] at hI;go_wp2;go_ret;exact⟨_,rfl,eO.trans i7,hI⟩
def gg(A:aU)(q:List El):ei:=λw V=>kO w V A q
def gg.framed(A:aU)(q:List El):eQ (gg A q):=λw O V h K=>⟨h.1.keep λb hb _=>K b hb,λx X=>⟨In.keep (h.2 x X).1 λb hb _=>K b hb,(h.2 x X).2⟩⟩
def ol(t h:Nat)(l:List En):List UInt8:=enc t++enc h++enc l.length++sR l
def pL(t h:Int)(sl:E)(x:Nat):Array E:=#[J t,J h,sl,x]
def Room(bs b:aT):Prop:=b.length<=65536∧bs.length+(frame b).length<=1048576
def rn(size n:Nat)(xs:List E)(u:E)(w:G):Prop:=∃A,u=Y A n n∧In w (λ_=>True) size A n xs
def qg(size n:Nat)(xs:List E):jV (rn size n xs):=λu w O ⟨A,e,h⟩ H=>⟨A,e,h.grow H⟩
def zv{cs:aP}(h:eL w x t cs){size:Nat}(hn:cs.toList.length=n*size):rn size n cs.toList (Y (some (x,0)) n n) w:=⟨_,rfl,(h.kB hn).mono λ_ _=>trivial⟩
def JH{x z:Operand}{b:Int}(ho:o.op=.buildSlice 72 3 #[(0,x),(1,y),(2,z)])(X:ρ x=J a)(hy:ρ y=J b)(hz:ρ z=J c):eJ N (λu O=>Grow w O∧rn 1 3 [J a,J b,J c] u O) ((execOp ρ o).run N w):=by obtain⟨dst,op,ty,pos,after,guard⟩:=o;simp only at ho;subst ho;exact gC (u := Y (some ⟨(w:Nat),0,none⟩) 3 3) (w:=w.alloc (.cells #[J a,J b,J c] 2)) (by go_simp) ⟨(Below.refl _ w).alloc (bh _) _,zv (eL.made w _ _) rfl⟩
def JI{x:Operand}{s:aR}{n:Int}(ho:o.op=.buildSlice 38 1 #[(0,x)])(X:ρ x=aZ #[aX s,ae ah n]):eJ N (λu O=>Grow w O∧rn 2 1 [aX s,ae ah n] u O) ((execOp ρ o).run N w):=by obtain⟨dst,op,ty,pos,after,guard⟩:=o;simp only at ho;subst ho;exact gC (u := Y (some ⟨(w:Nat),0,none⟩) 1 1) (w:=w.alloc (.cells #[aX s,ae ah n] 147)) (by go_simp) ⟨(Below.refl _ w).alloc (bh _) _,zv (eL.made w _ _) rfl⟩
def Nu(w:G)(k n:Nat)(ns:aQ)(u:E)(h:rn 1 n (ns.map λ(x:Nat) => J x) u w)(K:k<18446744073709551616)(hn:n<=8)(hs:∀x∈ns,x<=9223372036854775807):dF N 259 #[ae ah k,u] w λe O=>∃v,e=b5 v∧Grow w O∧dX (ic k ns) v O:=by obtain⟨A,rfl,h⟩:=h;exact q7 w k A n n ns _ h K hn hs
def V8(w:G)(u v:E)(l:aT)(n:Nat)(ds:List Dl)(hu:dX l u w)(hl:l.length<=1048576)(hd:rn 2 n (fw ds) v w)(hn:n<=1048576)(hs:∀d∈ds,Small d):dF N 299 #[u,v] w λe O=>∃v,e=b5 v∧Grow w O∧dX (l++nC ds) v O:=by obtain⟨A,rfl,h⟩:=hd;exact vM w u l _ A n n ds hu hl h hn hs
def Gb(k:Nat)(ns:aQ)(K:k<18446744073709551616)(h:∀x∈ns,x<18446744073709551616):(ic k ns).length<=10+ns.length*10:=by have:=eG K;have:=uB ns h;unfold ic;rw[bd];omega
def Gc(w:G)(s:aR)(x:Nat)(hs:Small (s,x)):dF N 279 #[aZ #[aX s,ae ah x]] w λe O=>∃v,e=b5 v∧Grow w O∧dX (ic 2 []++nC [(s,x)]) v O:=by
 have Z1:∀(vs:aP)(w:G),(callFunc 259 vs).run N w=.ok (.enter 259 vs) w:=λvs w=>by go_simp
 have Z2:∀(vs:aP)(w:G),(callFunc 299 vs).run N w=.ok (.enter 299 vs) w:=λvs w=>by go_simp
 have fA:=dZ w (.cells #[aX s,ae ah x] 147);have iN:=eL.made w 147 #[aX s,ae ah x];obtain⟨y,HY⟩:=az ((w:Nat):Nat);obtain⟨wa,mP⟩:=az (w.alloc (.cells #[aX s,ae ah x] 147):G);rw[<-mP.out] at fA iN;rw[<-HY.out] at iN;have hl:=Gb 2 [] am (by simp);have tR:∀d∈[(s,x)],Small d:=λd hd=>by rw[List.mem_singleton.1 hd];exact hs
 go_in;go_wp2_with fail;rw[<-mP.out,<-HY.out];refine ia 5 7 [(0,.inr (λ_=>dX (ic 2 []))),(2,.inr (λ_=>rn 2 1 [aX s,ae ah x])),(3,.inr (λ_=>dX (ic 2 []++nC [(s,x)])))] rfl rfl aw aw aw ?_ ?_
 ·intro x X φ he
  simp only[b_,bW,or_false] at X;rcases X with rfl|rfl|rfl<;>cases he
  all_goals first|exact gB (gJ _)|exact gB (qg _ _ _)
 intro ops' A' K' aeq oT o8 hK hT;refine gP 3 aj am (eu aj) (λ_=>dX (ic 2 [])) (by rw[hK.out];rfl) 259 _ _ aj [ae ah 2,ay] aj Z1 (λkk w1(H:Grow _ w1)hb hf=>fj (φ:=λ_=>dX (ic 2 [])) aj (by exact q7 w1 2 none 0 0 [] (λ_=>True) In.nil am am (by simp))) (λv3=>?_);refine eD 4 (.tmp 1) ((y:E)) (aZ #[aX s,ae ah x]) (λρ I kk w1(H:Grow _ w1)hb hf=>by have c0:=(iN.grow H).cell 0;have c1:=(iN.grow H).cell 1;go_simp) ?_;refine tX 5 aj am (eu aj) (λ_=>rn 2 1 [aX s,ae ah x]) (by rw[hK.out];rfl) (.tmp 4) (aZ #[aX s,ae ah x]) aj (λρ I kk w1(H:Grow _ w1)hb hf=>by refine i9 (φ:=λ_=>rn 2 1 [aX s,ae ah x]) aj ?_;exact JI rfl I) (λv5=>?_);refine gP 6 aj am (eu aj) (λ_=>dX (ic 2 []++nC [(s,x)])) (by rw[hK.out];rfl) 299 _ _ aj [v3,v5] aj Z2 (λkk w1(H:Grow _ w1)hb hf=>fj (φ:=λ_=>dX (ic 2 []++nC [(s,x)])) aj (by exact V8 w1 v3 v5 _ 1 [(s,x)] (gj (II hf) (by rw[o8.out];kernel_rfl)) (by simp at hl;omega) (gj hf (by rw[o8.out];kernel_rfl)) am tR)) (λv6=>?_);refine ji 2 (v6) ?_;refine nL (λ_ _ w1(H:Grow _ w1)_ gy=>hT _ _ ?_);clear oT o8 hK hT;simp only[jq,Act.put,bJ,bL,bI,cJ,d9];have hE:=gy.1;clear gy;go_wp2;go_ret;exact⟨_,rfl,fA.trans H,hE⟩
def JJ(w:G)(k sq:Nat)(A:aU)(n c:Nat)(ds:List Dl)(D:aV)(hd:kg w D A n ds)(hn:n<=8)(K:k<=9223372036854775807)(qh:sq<=9223372036854775807)(hs:∀d∈ds,Small d):dF N 336 #[J k,aZ #[J sq,Y A n c]] w λe O=>∃v,e=b5 v∧Grow w O∧dX (ic 3 [k,sq,n]++nC ds) v O:=by
 have Z1:∀(vs:aP)(w:G),(callFunc 259 vs).run N w=.ok (.enter 259 vs) w:=λvs w=>by go_simp
 have Z2:∀(vs:aP)(w:G),(callFunc 299 vs).run N w=.ok (.enter 299 vs) w:=λvs w=>by go_simp
 have fA:=dZ w (.cells #[J sq,Y A n c] 196);have iN:=eL.made w 196 #[J sq,Y A n c];obtain⟨y,HY⟩:=az ((w:Nat):Nat);obtain⟨wa,mP⟩:=az (w.alloc (.cells #[J sq,Y A n c] 196):G);rw[<-mP.out] at fA iN;rw[<-HY.out] at iN;have hda:=In.grow hd fA;have hl:=Gb 3 [k,sq,n] am (by intro x X;simp only[b_,bW,or_false] at X;omega);have Dc:(ic 3 [k,sq,n]).length<=1048576:=by simp at hl;omega
 clear hl;go_in;go_wp2_with fail;rw[<-mP.out,<-HY.out];refine ia 12 16 [(6,.inr (λ_=>rn 1 3 ([k,sq,n].map λ(x:Nat) => J x))),(7,.inr (λ_=>dX (ic 3 [k,sq,n]))),(10,.inr (λ_=>dX (ic 3 [k,sq,n]++nC ds)))] rfl rfl aw aw aw ?_ ?_
 ·intro x X φ he
  simp only[b_,bW,or_false] at X;rcases X with rfl|rfl|rfl<;>cases he
  all_goals first|exact gB (gJ _)|exact gB (qg _ _ _)
 intro ops' A' K' aeq oT o8 hK hT;refine ji 5 (J k) ?_;refine gT 6 (.tmp 3) ((y:E)) ((y:E)) ?_;refine eD 7 (.tmp 6) ((y:E)) (J sq) (λρ I kk w1(H:Grow _ w1)hb hf=>by have c0:=(iN.grow H).cell 0;go_simp) ?_;refine gT 8 (.tmp 3) ((y:E)) (((y,1):E)) ?_;refine eD 9 (.tmp 8) (((y,1):E)) (Y A n c) (λρ I kk w1(H:Grow _ w1)hb hf=>by have c1:=(iN.grow H).cell 1;go_simp) ?_;refine gT 10 (.tmp 9) (Y A n c) (J n) ?_;refine yw 11 aj am (eu aj) (λ_=>rn 1 3 ([k,sq,n].map λ(x:Nat) => J x)) (by rw[hK.out];rfl) (λkk w1(H:Grow _ w1)hb hf=>by refine i9 (φ:=λ_=>rn 1 3 ([k,sq,n].map λ(x:Nat) => J x)) aj ?_;exact JH rfl rfl rfl rfl) (λv11=>?_);refine gP 12 aj am (eu aj) (λ_=>dX (ic 3 [k,sq,n])) (by rw[hK.out];rfl) 259 _ _ aj [ae ah 3,v11] aj Z1 (λkk w1(H:Grow _ w1)hb hf=>fj (φ:=λ_=>dX (ic 3 [k,sq,n])) aj (by exact Nu w1 3 3 [k,sq,n] v11 (gj hf (by rw[o8.out];kernel_rfl)) am am (by intro x X;simp only[b_,bW,or_false] at X;omega))) (λv12=>?_);refine gT 13 (.tmp 3) ((y:E)) (((y,1):E)) ?_;refine eD 14 (.tmp 13) (((y,1):E)) (Y A n c) (λρ I kk w1(H:Grow _ w1)hb hf=>by have c1:=(iN.grow H).cell 1;go_simp) ?_;refine gP 15 aj am (eu aj) (λ_=>dX (ic 3 [k,sq,n]++nC ds)) (by rw[hK.out];rfl) 299 _ _ aj [v12,Y A n c] aj Z2 (λkk w1(H:Grow _ w1)hb hf=>fj (φ:=λ_=>dX (ic 3 [k,sq,n]++nC ds)) aj (by exact vM w1 v12 _ D A n c ds (gj hf (by rw[o8.out];kernel_rfl)) Dc (In.grow hda H) ap hs)) (λv15=>?_);refine ji 4 (v15) ?_;refine nL (λ_ _ w1(H:Grow _ w1)_ gy=>hT _ _ ?_);clear oT o8 hK hT;simp only[jq,Act.put,bJ,bL,bI,cJ,d9];have hE:=gy.1;clear gy;go_wp2;go_ret;exact⟨_,rfl,fA.trans H,hE⟩
def gX(s x d t h:Nat)(es:List En)(n:Int)(bs:aT):ei:=λw V=>∃(A:aU)(c:Nat)(q:List El),q.map El.e=es∧q.length<=c∧c<=dL∧dU [gg A q,Cell s 206 (pL t h (Y A q.length c) x),eF x d n bs bs.length] w V
def E6(A:aU)(q:List El)(s x d:Nat)(cs:aP)(n:Int)(bs:aT)(k:Nat):fb [gg A q,Cell s 206 cs,eF x d n bs k]:=((fb.nil.cons (eF.framed _ _ _ _ _)).cons (Cell.framed _ _ _)).cons (gg.framed _ _)
theorem gX.framed(s x d t h:Nat)(es:List En)(n:Int)(bs:aT):eQ (gX s x d t h es n bs):=λw O V ⟨A,c,q,I,Z,T,h4⟩ K=>⟨A,c,q,I,Z,T,dU.framed _ (E6 _ _ _ _ _ _ _ _ _) w O V h4 K⟩
def gX.cells{d t h:Nat}{es:List En}{n:Int}{bs:aT}(L:gX s x d t h es n bs w V):∃(A:aU)(c:Nat)(q:List El),q.map El.e=es∧q.length<=c∧c<=dL∧(∃D,kO w D A q)∧eL w s 206 (pL t h (Y A q.length c) x):=by obtain⟨A,c,q,I,Z,T,V1,V2,hE,⟨V3,V4,hB,_⟩,_⟩:=L;exact⟨A,c,q,I,Z,T,⟨V1,hE⟩,hB.2⟩
def CF(w:G)(s x d t h:Nat)(es:List En)(n:Int)(bs:aT)(V:aV)(L:gX s x d t h es n bs w V):dF N 56 #[s] w λe O=>e=b5 (J t)∧w=O:=by obtain⟨A,c,q,_,_,_,_,hB⟩:=L.cells;unfold pL at hB;have c0:=hB.cell 0;go_in;go_wp2;go_ret;exact⟨rfl,rfl⟩
def Ge(w:G)(s x d t h:Nat)(es:List En)(n:Int)(bs:aT)(V:aV)(L:gX s x d t h es n bs w V):dF N 61 #[s] w λe O=>e=b5 (J h)∧w=O:=by obtain⟨A,c,q,_,_,_,_,hB⟩:=L.cells;unfold pL at hB;have c0:=hB.cell 1;go_in;go_wp2;go_ret;exact⟨rfl,rfl⟩
def uF(w:G)(s x d t h:Nat)(es:List En)(n:Int)(bs:aT)(V:aV)(L:gX s x d t h es n bs w V):dF N 108 #[s] w λe O=>e=b5 (J es.length)∧w=O:=by
 obtain⟨A,c,q,hq,_,_,_,hB⟩:=L.cells;have hl:es.length=q.length:=by rw[<-hq,bj]
 unfold pL at hB;have c0:=hB.cell 2;rw[hl];clear hl;go_in;go_wp2;go_ret;exact⟨rfl,rfl⟩
def rq(w:G)(s x d t h:Nat)(es:List En)(n:Int)(bs:aT)(V:aV)(L:gX s x d t h es n bs w V)(hn:es.length<=1048576):dF N 62 #[s] w λe O=>∃u,e=b5 u∧Xi es w u O∧(∃A',u=Y A' es.length es.length)∧Grow w O:=by
 obtain⟨A,c,q,hq,_,_,⟨D,hE⟩,hB⟩:=L.cells;have hl:es.length=q.length:=by rw[<-hq,bj]
 have hC:=nR w D A c q hE ap;rw[hq,<-hl] at hC;unfold pL at hB;rw[<-hl] at hB;have c0:=hB.cell 2;clear hl;go_in;go_wp2_with fail;refine hC.mono ?_;rintro e w1 ⟨u,rfl,hI,hu,H⟩;go_wp2;go_ret;exact⟨u,rfl,hI,hu,H⟩
end Go.Proofs.YtpeepcmdehhbgaaGreatDoor
namespace Go.Proofs.YtpeepcmdehhbgaaGreatDoor
open RowKit Hop
structure Qs where
 (a b c d:Nat)
def bkC(ep:Int)(sl:E)(z:Qs)(cu:E):Array E:=#[J ep,sl,J 1,((z.a,0):E),((z.b,0):E),((z.c,0):E),((z.d,0):E),cu]
def Smp(sl:E)(l:List Dl):ei:=λw V=>Row w V 147 2 sl l.length (fw l)
theorem Smp.nil(w:G)(V:aV):Smp (Y none 0 0) [] w V:=Row.nil
def a2I(s:Nat)(z:Qs)(ep:Int)(sl:E)(eW:List Dl)(l0:List aes.Ab)(k0:Int)(cu:E):List ei:=[Cell s 186 (bkC ep sl z cu),Smp sl eW,aes.eA z.a l0 k0,aes.eA z.b [] 0,aes.eA z.c [] 0,aes.eA z.d [] 0]
def a2J(s:Nat)(z:Qs)(ep:Int)(sl:E)(eW:List Dl)(l0:List aes.Ab)(k0:Int)(cu:E):ei:=dU (a2I s z ep sl eW l0 k0 cu)
def pq(gs:aQ)(i:Nat):E:=(gs[i]?.map λg => ((g:Nat):E)).getD (.pointer none)
def Tx(gs:aQ):Array E:=#[(),ay,J 1,pq gs 0,pq gs 1,pq gs 2,pq gs 3,ay]
theorem QP(gs:aQ)(g:Nat)(h:gs.length<4):(Tx gs).setIfInBounds (3+gs.length) ((g:E))=Tx (gs++[g]):=by
 match gs,h with
 | [],_=>rfl
 | [a],_=>rfl
 | [a,b],_=>rfl
 | [a,b,c],_=>rfl
theorem QQ(gs:aQ)(h:gs.length<4):(Tx gs)[3+gs.length]?=some (.pointer none):=by
 match gs,h with
 | [],_=>rfl
 | [a],_=>rfl
 | [a,b],_=>rfl
 | [a,b,c],_=>rfl
def CG(B:Nat)(u:E)(w:G):Prop:=∃g,u=((g:Nat):E)∧∃V:aV,(∀b,V b->B<=b∧b<(w:Nat))∧aes.eA g [] 0 w V
def Bo(B:Nat):jV (CG B):=λu w O ⟨g,e,V,I,Z⟩ H=>⟨g,e,V,λb hb=>by have:=I b hb;have:=H.size;omega,aes.eA.framed _ _ _ w O V Z λb hb=>H.block b (I b hb).2⟩
def V9(wr w:G)(hs:Grow wr w):dF N 257 #[] w λe O=>∃v,e=b5 v∧Grow w O∧CG (wr:Nat) v O:=(aes.pR w).mono λe O ⟨I,Z,T⟩=>⟨_,I,T,_,rfl,_,λb hb=>⟨by have:=hs.size;have:=hb.1;omega,hb.2⟩,Z⟩
def E7(s:Nat)(cs:aP)(gs:aQ):fb (Cell s 186 cs::gs.map λg=>aes.eA g [] 0):=fb.cons (Cell.framed _ _ _) λS L=>by obtain⟨g,_,rfl⟩:=List.mem_map.1 L;exact aes.eA.framed _ _ _
def QR(w:G):dF N 198 #[] w λe O=>∃s z,e=b5 (((s:Nat):E))∧a2J s z 0 (Y none 0 0) [] [] 0 (Y none 0 0) O (New w O)∧Grow w O:=by
 have a7o:∀(vs:aP)(w:G),(callFunc 257 vs).run N w=.ok (.enter 257 vs) w:=λvs w=>by go_simp
 have fA:=dZ w (.cells (Tx []) 186);have Xm:=eL.made w 186 (Tx []);obtain⟨s,HS⟩:=az ((w:Nat):Nat);obtain⟨wa,mP⟩:=az (w.alloc (.cells (Tx []) 186):G);rw[<-mP.out] at fA Xm;rw[<-HS.out] at Xm;have fY:Solo (λb=>(w:Nat)<=b) (dU (Cell s 186 (Tx [])::([]:List Nat).map λg=>aes.eA g [] 0)) wa:=Solo.Yd (V:=λb=>b=s) (λb hb=>by have:=fA.size;omega) ⟨λb=>b=s,λ_=>False,⟨rfl,Xm⟩,trivial,λ_ h=>h,λ_ h=>h.elim,λ_ _ h=>h⟩ λb hb=>by have:=HS.out;have:=Xm.lt;omega
 have HA2:Hid (wa=w.alloc (.cells #[(),ay,J 1,.pointer none,.pointer none,.pointer none,.pointer none,ay] 186)):=mP;clear mP;go_in;go_wp2_with fail;rw[<-HA2.out,<-HS.out];go_loopw [5] (λi wr=>∃gs:aQ,gs.length<=4∧i=J gs.length∧Solo (λb=>(w:Nat)<=b) (dU (Cell s 186 (Tx gs)::gs.map λg=>aes.eA g [] 0)) wr∧dP (λb=>(w:Nat)<=b) w wr) (λi _=>4-(intOf i).toNat);case atStart=>exact⟨[],by decide,rfl,fY,dP.dR fA⟩
 case round=>
  obtain⟨gs,B5,rfl,L,hj⟩:=hrel;by_cases K:gs.length<4
  ·have hF:=E7 s (Tx gs) gs
   have hB:=L.blk 0 rfl;have a7p:decide ((gs.length:Int)<4)=true:=aC ap;obtain⟨k,HK⟩:=az (gs.length:Nat);have EX:=QQ gs K;rw[<-HK.out] at a7p K EX ⊢;go_wp2_with fail;refine ia 6 16 [(2,.inr (λ_=>CG (wr:Nat)))] rfl rfl aw aw aw ?_ ?_
   ·intro x X φ he
    simp only[b_,bW,or_false] at X;rcases X with rfl<;>cases he;all_goals first|exact gB (gJ _)|exact gB (Bo _)
   intro ops' A' K' aeq oT o8 hK hT;refine ji 8 ((s:E)) ?_;refine ji 9 (J k) ?_;refine gP 10 aj am (eu aj) (λ_=>CG (wr:Nat)) (by rw[hK.out];rfl) 257 _ _ aj [] aj a7o (λkk w1(H:Grow _ w1)hb hf=>fj (φ:=λ_=>CG (wr:Nat)) aj (by exact (V9 wr w1 H))) (λv10=>?_);refine gT 11 (.tmp 8) ((s:E)) ((s:E)) ?_;refine gT 12 (.tmp 11) ((s:E)) (((s,3):E)) ?_;refine KR 13 (.tmp 12) (.tmp 9) (((s,3):E)) (J k) (.pointer (some ⟨s,3+k,none⟩)) (λρ I Z kk w1(H:Grow _ w1)hb hf=>by go_simp;try (intro h;exfalso;omega)) ?_;refine nL (λ_ _ w1(H:Grow _ w1)_ gy=>hT _ _ ?_);clear oT o8 hK hT;simp only[jq,Act.put,bJ,bL,bI,cJ,d9];obtain⟨g,rfl,V,hV,hQ⟩:CG (wr:Nat) v10 w1:=gy.1;clear gy;have eC:=(L.join hF H hQ hV).puts 1 rfl (hF.cons (aes.eA.framed _ _ _)) (3+k) ((g:E));have hP:=(L.Yb 0 rfl).1;rw[HK.out,QP gs g (by have:=HK.out;omega),<-HK.out] at eC;have ec:=eC.perm (l':=Cell s 186 (Tx (gs++[g]))::(gs++[g]).map λg=>aes.eA g [] 0) ((List.Perm.swap _ _ _).trans (List.Perm.cons _ (by rw[bM];exact (List.perm_append_singleton _ _).symm)));have yl:=(hj.trans (dP.dR H)).put (V:=λb=>(w:Nat)<=b) hP (3+k) ((g:E));have lb:=hB.grow H;have c0:=lb.cell (3+k);rw[EX] at c0;have f0:=lb.frozen (3+k);clear hB EX;obtain⟨w2,HW⟩:=az (w1.setCell ⟨s,3+k,none⟩ ((g:E)):G);rw[<-HW.out] at ec yl;have a7q:k+1<=4:=by have:=HK.out;omega
   go_wp2_with fail;go_roundw;case rel=>exact⟨gs++[g],by rw[bd,<-HK.out];exact a7q,by rw[bd,<-HK.out];go_num,by rw[<-HW.out];exact ec,by rw[<-HW.out];exact yl⟩
   case measure=>simp[intOf];omega
  ·obtain⟨k,HK⟩:=az (gs.length:Nat)
   have h4:gs.length=4:=by omega
   obtain⟨g0,g1,g2,g3,rfl⟩:∃a b c d,gs=[a,b,c,d]:=by
    match gs,h4 with
    | [a,b,c,d],_=>exact⟨a,b,c,d,rfl⟩
   go_wp2;go_ret;obtain⟨_,U,hU,fM⟩:=L;have hU2:dU (Smp (Y none 0 0) []::Cell s 186 (bkC 0 (Y none 0 0) ⟨g0,g1,g2,g3⟩ (Y none 0 0))::[g0,g1,g2,g3].map λg=>aes.eA g [] 0) wr U:=⟨λ_=>False,U,Smp.nil _ _,hU,λ_ h=>h.elim,λ_ h=>h,λ_ h=>h.elim⟩;exact⟨s,⟨g0,g1,g2,g3⟩,rfl,dU.wide _ wr U _ (λb hb=>fM b hb) (dU.perm (List.Perm.swap _ _ _) hU2),hj.below (B:=(w:Nat)) (λb hb=>hb) (bh _)⟩
def Va:(Tryz.prog.info? 37).map (λi=>(i.zero,i.size,i.bytes))=some (some (aZ #[(),(),()]),3,24):=by kernel_rfl
def idE:Elem N 81 37 3 24 (aZ #[(),(),()]):=⟨Tryz.underlying81,info_parts Va,rfl,by decide,by decide⟩
def oV(x:Int):E := J x
def LF(k:Int×Int):E := aZ #[J k.1,J k.2]
def QS:pe N 3 oV:=C4 aw
def Z3:pe N 325 LF:=ub (fs:=(Tryz.prog.fieldsOf 325)) aw (λw b k=>by unfold LF;kernel_rfl)
 (λw a b=>by unfold LF;show (Op.equalIn 10000 _ _ _).run N w=_;go_simp;by_cases I:a.1=b.1<;>by_cases Z:a.2=b.2<;>simp[I,Z,Prod.ext_iff])
 (λk=>by simp[LF,Instr.sameBits])
def zI(w:G):(zeroValue 2).run N w=.ok (J 0) w:=by kernel_rfl
def zS(w:G):(zeroValue 268).run N w=.ok (.pointer none) w:=by kernel_rfl
def a2K(m s bE bS p g:Nat)(q:aer.Sm)(gp:List (Int×E))(ie:List ((Int×Int)×E))(F:Int)(M:Nat):List ei:=[Cell m 138 #[s,.map (some bE),.map (some bS)],aer.iK s q,eR oV bE gp,eR LF bS ie,Cell p 272 #[g,ay],Cell g 328 #[J F,ae ah M]]
def Z4(m:Nat)(q:aer.Sm)(gp:List (Int×E))(st:Option ((Int×Int)×(Int×Nat))):ei:=λw V=>match st with
 | none=>∃s bE bS,dU [Cell m 138 #[.pointer (some ⟨s,0,none⟩),.map (some bE),.map (some bS)],aer.iK s q,eR oV bE gp,eR LF bS []] w V
 | some (k,F,M)=>∃s bE bS p g,dU (a2K m s bE bS p g q gp [(k,.pointer (some ⟨p,0,none⟩))] F M) w V
def Nv(w:G):dF N 54 #[] w λe O=>∃m,e=b5 (((m:Nat):E))∧Z4 m [] [] none O (New w O)∧Grow w O:=by
 have TK:=@run_makeMap N;have hK:=aer.pR w;go_in;go_wp2_with fail;refine hK.mono ?_;rintro e w1 ⟨s,rfl,L,eO⟩;go_wp2;go_ret;have g1:Grow w1 (w1.alloc (.map #[] 0)):=(Below.refl _ w1).alloc (bh _) _;have g2:=(Below.refl _ (w1.alloc (.map #[] 0))).alloc (bh _) (.map #[] 0);generalize tS:w1.alloc (.map #[] 0)=w2 at g1 g2 ⊢;have m1:eR (κ:=Int) oV (w1:Nat) [] w2 (λb=>b=(w1:Nat)):=tS▸eR.made w1;have m2:eR (κ:=Int×Int) LF (w2:Nat) [] (w2.alloc (.map #[] 0)) (λb=>b=(w2:Nat)):=eR.made w2;have z2:(w2:Nat)=(w1:Nat)+1:=by rw[<-tS];simp
 rw[<-z2];generalize De:w2.alloc (.map #[] 0)=w3 at g2 m2 ⊢;have z3:(w3:Nat)=(w2:Nat)+1:=by rw[<-De];simp
 have g3:=dZ w3 (.cells #[s,.map (some (w1:Nat)),.map (some (w2:Nat))] 138);have hB:=eL.made w3 138 #[s,.map (some (w1:Nat)),.map (some (w2:Nat))];generalize hw4:w3.alloc (.cells #[s,.map (some (w1:Nat)),.map (some (w2:Nat))] 138)=w4 at g3 hB ⊢;have z4:(w4:Nat)=(w3:Nat)+1:=by rw[<-hw4];simp
 have zz:=eO.size;have gA:Grow w1 w4:=(g1.trans g2).trans g3;have eU:=aer.iK.framed s [] w1 w4 _ L λb hb=>gA.block b hb.2;have m14:=eR.framed (ke:=oV) _ _ w2 w4 _ m1 λb hb=>(Grow.trans g2 g3).block b (by rw[hb];omega);have m24:=eR.framed (ke:=LF) _ _ w3 w4 _ m2 λb hb=>g3.block b (by rw[hb];omega);refine⟨(w3:Nat),by rw[z3];rfl,⟨s,(w1:Nat),(w2:Nat),λb=>b=(w3:Nat),λb=>New w w4 b∧b≠(w3:Nat),⟨rfl,hB⟩,⟨New w w1,λb=>b=(w1:Nat)∨b=(w2:Nat),eU,⟨λb=>b=(w1:Nat),λb=>b=(w2:Nat),m14,⟨λb=>b=(w2:Nat),λ_=>False,m24,trivial,λ_ h=>h,λ_ h=>h.elim,λ_ _ h=>h⟩,λ_ h => .inl h,λ_ h => .inr h,λb I Z=>?_⟩,λb hb=>?_,λb hb=>?_,λb hb hc=>?_⟩,λb hb=>?_,λb hb=>hb.1,λb hb hc=>hc.2 hb⟩,eO.trans gA⟩;·subst I;omega
 ·exact⟨⟨hb.1,by have:=hb.2;omega⟩,by have:=hb.2;omega⟩
 ·rcases hb with rfl|rfl
  ·exact⟨⟨by omega,by omega⟩,by omega⟩
  ·exact⟨⟨by omega,by omega⟩,by omega⟩
 ·rcases hc with rfl|rfl
  ·have:=hb.2;omega
  ·have:=hb.2;omega
 ·subst hb;exact⟨by omega,by omega⟩
open V
def gF(w O:G):Prop:=∃(q:Nat)(os:Array Obj),O=Sort.grow (w.drewN q) os
def gF.refl(w:G):gF w w:=⟨0,#[],by rw[Sort.grow_empty];rfl⟩
theorem gF.drew(w:G):gF w w.drew:=⟨1,#[],by rw[Sort.grow_empty];rfl⟩
theorem gF.alloc(w:G)(o:Obj):gF w (w.alloc o):=⟨0,#[o],by rw[Sort.alloc_eq_grow];rfl⟩
def gF.trans{a b c:G}(h:gF a b)(k:gF b c):gF a c:=by obtain⟨q,os,rfl⟩:=h;obtain⟨q',os',rfl⟩:=k;exact⟨q+q',os++os',by rw[show Sort.grow ((Sort.grow (a.drewN q) os).drewN q') os'=Sort.grow (Sort.grow ((a.drewN q).drewN q') os) os' from rfl,Sort.grow_grow,World.drewN_drewN]⟩
theorem gF.grow{a b:G}(h:gF a b):Grow a b:=by obtain⟨q,os,rfl⟩:=h;exact⟨rfl,rfl,rfl,by simp[Sort.grow,World.drewN],λk K=>by simp only[Sort.grow,World.drewN];exact Array.getElem?_append_left K⟩
def Ba.laid:Ba:=⟨gF,gF.refl⟩
def E8:fx where
 aeo:=gF
 aeq:=λ_ _ _=>False
 aej:=λ_ _=>True
 muts:=[]
 stage:=λ_=>none
 q:=Ba.laid
def Nw:E8.Ok:=⟨λ_ _ _=>gF.trans,λ_ _ h=>h,λ_ _ _ h=>h.elim,λ_ _ _ h _=>h⟩
def E9{φ:E->G->Prop}(h:jV φ):p9 E8 (λ_=>φ):=λ_ u w O hu=>⟨λH=>h u w O hu (gF.grow H),λK=>by simp[E8] at K⟩
def kP(a b:Int):Int:=if a<b then -1 else if b<a then 1 else 0
def Z5:List Int->Int
 | []=>0
 | x::l=>if x=0 then Z5 l else x
def zw(w:G)(x:Int):dF N 294 #[J x] w λe O=>e=b5 (aY false)∧w=O:=by go_in;go_wp2;go_ret;exact⟨by simp,rfl⟩
def QT(w:G)(a b:Int):dF N 228 #[J a,J b] w λe O=>e=b5 (J (kP a b))∧w=O:=by
 unfold kP;by_cases I:a<b
 ·have d1:decide (a<b)=true:=aC I
  rw[aA I];go_in;go_wp2_with (go_at_call 294;refine (zw _ _).mono ?_;rintro e O ⟨rfl,rfl⟩);go_ret;exact⟨rfl,rfl⟩
 ·have d1:decide (a<b)=false:=aD I
  rw[aB I];by_cases Z:b<a
  ·have d2:decide (b<a)=true:=aC Z
   rw[aA Z];go_in;go_wp2_with (go_at_call 294;refine (zw _ _).mono ?_;rintro e O ⟨rfl,rfl⟩);go_ret;exact⟨rfl,rfl⟩
  ·have d2:decide (b<a)=false:=aD Z
   rw[aB Z];go_in;go_wp2_with (go_at_call 294;refine (zw _ _).mono ?_;rintro e O ⟨rfl,rfl⟩);go_ret;exact⟨rfl,rfl⟩
def zx(w:G)(x:Int):dF N 295 #[J x] w λe O=>e=b5 (aY false)∧w=O:=by go_in;go_wp2;go_ret;exact⟨by simp,rfl⟩
def QU(w:G)(a b:Int):dF N 229 #[J a,J b] w λe O=>e=b5 (J (kP a b))∧w=O:=by
 unfold kP;by_cases I:a<b
 ·have d1:decide (a<b)=true:=aC I
  rw[aA I];go_in;go_wp2_with (go_at_call 295;refine (zx _ _).mono ?_;rintro e O ⟨rfl,rfl⟩);go_ret;exact⟨rfl,rfl⟩
 ·have d1:decide (a<b)=false:=aD I
  rw[aB I];by_cases Z:b<a
  ·have d2:decide (b<a)=true:=aC Z
   rw[aA Z];go_in;go_wp2_with (go_at_call 295;refine (zx _ _).mono ?_;rintro e O ⟨rfl,rfl⟩);go_ret;exact⟨rfl,rfl⟩
  ·have d2:decide (b<a)=false:=aD Z
   rw[aB Z];go_in;go_wp2_with (go_at_call 295;refine (zx _ _).mono ?_;rintro e O ⟨rfl,rfl⟩);go_ret;exact⟨rfl,rfl⟩
def Nx(w:G)(D:aV)(A:aU)(n c:Nat)(l:aN)(h:In w D 1 A n (l.map (Value.int .i64)))(hn:n<=1048576):dF N 227 #[Y A n c] w λe O=>e=b5 (J (Z5 l))∧w=O:=by
 have sI:l.length=n:=by have:=h.1;simpa using this
 obtain⟨R,HR⟩:=az (Z5 l:Int);rw[<-HR.out];go_in;go_wp2_with fail;go_loopw [8] (λi wr=>∃k:Nat,k<=n∧i=J k∧Z5 (l.drop k)=R∧w=wr) (λi _=>n-(intOf i).toNat);case atStart=>exact⟨0,by omega,rfl,HR.out.symm,rfl⟩
 case round=>
  obtain⟨k,K,rfl,W,rfl⟩:=hrel;by_cases fM:k<n
  ·obtain⟨ad,u,rfl,_,hu,sD⟩:=h.reads.at_ fM
   rw[List.getElem?_map,List.getElem?_eq_getElem ap] at hu;obtain rfl:=Option.some.inj hu;rw[bR ap,Z5] at W;generalize l[k]=z at sD W;clear hu;by_cases hz:z=0
   ·subst hz
    rw[aA rfl] at W;have HR2:=Q W;clear W;go_wp2_with fail;go_roundw;case rel=>exact⟨k+1,by omega,by go_num,HR2.out,by trivial⟩
    case measure=>simp[intOf];omega
   ·rw[aB hz] at W
    subst W;have dz2:(z == 0)=false:=beq_eq_false_iff_ne.2 hz;go_wp2;go_ret;exact⟨rfl,rfl⟩
  ·obtain rfl:k=n:=by omega
   rw[cB ap] at W;have W:0=R:=W;subst W;go_wp2;go_ret;exact⟨rfl,rfl⟩
def QV(w:G)(u:E)(l:aN)(h:rn 1 l.length (l.map (Value.int .i64)) u w)(hn:l.length<=1048576):dF N 227 #[u] w λe O=>e=b5 (J (Z5 l))∧gF w O:=by obtain⟨A,rfl,h⟩:=h;exact (Nx w _ A _ _ l h hn).mono λe O ⟨I,Z⟩=>⟨I,Z▸gF.refl _⟩
def JK{x z:Operand}{b:Int}(ho:o.op=.buildSlice 22 3 #[(0,x),(1,y),(2,z)])(X:ρ x=J a)(hy:ρ y=J b)(hz:ρ z=J c):eJ N (λu O=>gF w O∧rn 1 3 [J a,J b,J c] u O) ((execOp ρ o).run N w):=by obtain⟨dst,op,ty,pos,after,guard⟩:=o;simp only at ho;subst ho;exact gC (u := Y (some ⟨(w:Nat),0,none⟩) 3 3) (w:=w.alloc (.cells #[J a,J b,J c] 3)) (by go_simp) ⟨gF.alloc _ _,zv (eL.made w _ _) rfl⟩
def QW(w:G)(a b:Int):dF N 228 #[J a,J b] w λe O=>e=b5 (J (kP a b))∧gF w O:=(QT w a b).mono λe O ⟨I,Z⟩=>⟨I,by subst Z;exact gF.refl _⟩
def Z6(w:G)(a b:Int):dF N 229 #[J a,J b] w λe O=>e=b5 (J (kP a b))∧gF w O:=(QU w a b).mono λe O ⟨I,Z⟩=>⟨I,by subst Z;exact gF.refl _⟩
def wZ(x y:Int×Int×Int):Int:=Z5 [kP x.1 y.1,kP x.2.1 y.2.1,kP x.2.2 y.2.2]
def Ny(x y:Int×Int×Int)(w:G):dF N 167 #[aZ #[J x.1,J x.2.1,J x.2.2],aZ #[J y.1,J y.2.1,J y.2.2]] w λe O=>e=b5 (J (wZ x y))∧∃q os',O=Sort.grow (w.drewN q) os':=by
 have a2L:∀(vs:aP)(w:G),(callFunc 228 vs).run N w=.ok (.enter 228 vs) w:=λvs w=>by go_simp
 have a7r:∀(vs:aP)(w:G),(callFunc 229 vs).run N w=.ok (.enter 229 vs) w:=λvs w=>by go_simp
 have a7s:∀(vs:aP)(w:G),(callFunc 227 vs).run N w=.ok (.enter 227 vs) w:=λvs w=>by go_simp
 have g1:=gF.alloc w (.cells #[J x.1,J x.2.1,J x.2.2] 37);have b1:=eL.made w 37 #[J x.1,J x.2.1,J x.2.2];obtain⟨xa,HX⟩:∃y:Nat,Hid (y=(w:Nat)):=⟨_,rfl⟩;obtain⟨wa,mP⟩:=az (w.alloc (.cells #[J x.1,J x.2.1,J x.2.2] 37):G);have hz0:(wa:Nat)=xa+1:=by rw[mP.out,HX.out];simp
 rw[<-mP.out] at g1 b1;rw[<-HX.out] at b1;have g2:=gF.alloc wa (.cells #[J y.1,J y.2.1,J y.2.2] 37);have b2:=eL.made wa 37 #[J y.1,J y.2.1,J y.2.2];obtain⟨ya,HY⟩:∃y:Nat,Hid (y=xa+1):=⟨_,rfl⟩;obtain⟨wb,HB_⟩:=az (wa.alloc (.cells #[J y.1,J y.2.1,J y.2.2] 37):G);rw[hz0,<-HY.out] at b2;rw[<-HB_.out] at g2 b2;have b1:=b1.grow g2.grow;go_in;go_wp2_with fail;rw[<-mP.out,<-HX.out,<-HY.out,<-HB_.out];refine dO rfl ?_;refine t_ E8 Nw 0 18 22 [(4,.inl (J (kP x.1 y.1))),(9,.inl (J (kP x.2.1 y.2.1))),(14,.inl (J (kP x.2.2 y.2.2))),(15,.inr (λ_=>rn 1 3 [J (kP x.1 y.1),J (kP x.2.1 y.2.1),J (kP x.2.2 y.2.2)])),(16,.inl (J (wZ x y)))] rfl aw aw aw ?_ (gF.drew _) trivial ?_
 ·intro x X φ he
  simp only[b_,bW,or_false] at X;rcases X with rfl|rfl|rfl|rfl|rfl<;>cases he
  all_goals first|exact gB (gJ _)|exact E9 (qg _ _ _)
 intro ops' A' K' aeq oT o8 hK hT;refine eD 5 (.tmp 2) ((xa:E)) ((xa:E)) (λρ I kk w1(H:gF _ w1)hb hf=>by go_simp) ?_;refine eD 6 (.tmp 5) ((xa:E)) (J x.1) (λρ I kk w1(H:gF _ w1)hb hf=>by have c:=(b1.grow H.grow).cell 0;go_simp) ?_;refine eD 7 (.tmp 3) ((ya:E)) ((ya:E)) (λρ I kk w1(H:gF _ w1)hb hf=>by go_simp) ?_;refine eD 8 (.tmp 7) ((ya:E)) (J y.1) (λρ I kk w1(H:gF _ w1)hb hf=>by have c:=(b2.grow H.grow).cell 0;go_simp) ?_;refine tY 9 aj am (eu aj) (J (kP x.1 y.1)) (by rw[hK.out];rfl) 228 _ _ aj [J x.1,J y.1] aj a2L (λkk w1(H:gF _ w1)hb hf=>lj aj (by exact QW w1 x.1 y.1)) ?_;refine eD 10 (.tmp 2) ((xa:E)) (((xa,1):E)) (λρ I kk w1(H:gF _ w1)hb hf=>by go_simp) ?_;refine eD 11 (.tmp 10) (((xa,1):E)) (J x.2.1) (λρ I kk w1(H:gF _ w1)hb hf=>by have c:=(b1.grow H.grow).cell 1;go_simp) ?_;refine eD 12 (.tmp 3) ((ya:E)) (((ya,1):E)) (λρ I kk w1(H:gF _ w1)hb hf=>by go_simp) ?_;refine eD 13 (.tmp 12) (((ya,1):E)) (J y.2.1) (λρ I kk w1(H:gF _ w1)hb hf=>by have c:=(b2.grow H.grow).cell 1;go_simp) ?_;refine tY 14 aj am (eu aj) (J (kP x.2.1 y.2.1)) (by rw[hK.out];rfl) 228 _ _ aj [J x.2.1,J y.2.1] aj a2L (λkk w1(H:gF _ w1)hb hf=>lj aj (by exact QW w1 x.2.1 y.2.1)) ?_;refine eD 15 (.tmp 2) ((xa:E)) (((xa,2):E)) (λρ I kk w1(H:gF _ w1)hb hf=>by go_simp) ?_;refine eD 16 (.tmp 15) (((xa,2):E)) (J x.2.2) (λρ I kk w1(H:gF _ w1)hb hf=>by have c:=(b1.grow H.grow).cell 2;go_simp) ?_;refine eD 17 (.tmp 3) ((ya:E)) (((ya,2):E)) (λρ I kk w1(H:gF _ w1)hb hf=>by go_simp) ?_;refine eD 18 (.tmp 17) (((ya,2):E)) (J y.2.2) (λρ I kk w1(H:gF _ w1)hb hf=>by have c:=(b2.grow H.grow).cell 2;go_simp) ?_;refine tY 19 aj am (eu aj) (J (kP x.2.2 y.2.2)) (by rw[hK.out];rfl) 229 _ _ aj [J x.2.2,J y.2.2] aj a7r (λkk w1(H:gF _ w1)hb hf=>lj aj (by exact Z6 w1 x.2.2 y.2.2)) ?_;refine yw 20 aj am (eu aj) (λ_=>rn 1 3 [J (kP x.1 y.1),J (kP x.2.1 y.2.1),J (kP x.2.2 y.2.2)]) (by rw[hK.out];rfl) (λkk w1(H:gF _ w1)hb hf=>by refine i9 (φ:=λ_=>rn 1 3 [J (kP x.1 y.1),J (kP x.2.1 y.2.1),J (kP x.2.2 y.2.2)]) aj ?_;exact JK rfl rfl rfl rfl) (λv20=>?_);refine tY 21 aj am (eu aj) (J (wZ x y)) (by rw[hK.out];rfl) 227 _ _ aj [v20] aj a7s (λkk w1(H:gF _ w1)hb hf=>lj aj (by exact QV w1 v20 [kP x.1 y.1,kP x.2.1 y.2.1,kP x.2.2 y.2.2] (gj hf (by rw[o8.out];kernel_rfl)) (by simp))) ?_;refine ji 4 (J (wZ x y)) ?_;refine nL (λ_ _ w1(H:gF _ w1)I1 gy=>hT _ _ ?_);clear oT o8 hK hT;simp only[jq,Act.put,bJ,bL,bI];refine ob ?_;clear gy;go_wp2;go_ret;exact⟨rfl,(g1.trans g2).trans H⟩
def JL:Go.Shelf.Ren:=⟨λ|6=>166|15=>192|14=>226|28=>254|29=>255|20=>286|21=>287|22=>288|23=>289|24=>290|25=>291|26=>292|27=>293|46=>338|47=>313|48=>314|49=>339|50=>340|57=>372|n=>n,λ|22=>81|24=>37|25=>261|3=>3|39=>62|0=>0|53=>61|55=>42|4=>4|46=>340|45=>339|50=>344|5=>5|9=>9|66=>390|70=>393|76=>417|77=>418|n=>n,λ|n=>n⟩
def QX:Go.Proofs.SlLaysF0.n6 N JL:={
 mixed:=by kernel_rfl
 f6:=⟨Tryz.f166.name,by decide,Tryz.func166.trans (congrArg some aw)⟩
 f14:=⟨Tryz.f226.name,by decide,Tryz.func226.trans (congrArg some aw)⟩
 f15:=Tryz.func192.trans (congrArg some aw)
 f20:=⟨Tryz.f286.name,by decide,Tryz.func286.trans (congrArg some aw)⟩
 f21:=⟨Tryz.f287.name,by decide,Tryz.func287.trans (congrArg some aw)⟩
 f22:=⟨Tryz.f288.name,by decide,Tryz.func288.trans (congrArg some aw)⟩
 f23:=⟨Tryz.f289.name,by decide,Tryz.func289.trans (congrArg some aw)⟩
 f24:=⟨Tryz.f290.name,by decide,Tryz.func290.trans (congrArg some aw)⟩
 f25:=⟨Tryz.f291.name,by decide,Tryz.func291.trans (congrArg some aw)⟩
 f26:=⟨Tryz.f292.name,by decide,Tryz.func292.trans (congrArg some aw)⟩
 f27:=⟨Tryz.f293.name,by decide,Tryz.func293.trans (congrArg some aw)⟩
 f28:=Tryz.func254.trans (congrArg some aw)
 f29:=Tryz.func255.trans (congrArg some aw)
 f46:=⟨Tryz.f338.name,by decide,Tryz.func338.trans (congrArg some aw)⟩
 f47:=Tryz.func313.trans (congrArg some aw)
 f48:=Tryz.func314.trans (congrArg some aw)
 f49:=⟨Tryz.f339.name,by decide,Tryz.func339.trans (congrArg some aw)⟩
 f50:=⟨Tryz.f340.name,by decide,Tryz.func340.trans (congrArg some aw)⟩
 f57:=⟨Tryz.f372.name,by decide,Tryz.func372.trans (congrArg some aw)⟩
 t0:=Tryz.underlying0
 a0:=Tryz.isAgg0
 z0:=Tryz.sizeOf0
 v0:=Tryz.zeroValue0
 t3:=dx
 a3:=Tryz.isAgg3
 z3:=Tryz.sizeOf3
 v3:=Tryz.zeroValue3
 t4:=Tryz.underlying4
 a4:=Tryz.isAgg4
 z4:=Tryz.sizeOf4
 v4:=Tryz.zeroValue4
 t5:=dw
 a5:=Tryz.isAgg5
 z5:=Tryz.sizeOf5
 v5:=Tryz.zeroValue5
 t9:=c_
 a9:=Tryz.isAgg9
 z9:=Tryz.sizeOf9
 v9:=Tryz.zeroValue9
 t22:=Tryz.underlying81
 a22:=Tryz.isAgg81
 z22:=Tryz.sizeOf81
 v22:=Tryz.zeroValue81
 t25:=Tryz.underlying261
 a25:=Tryz.isAgg261
 z25:=Tryz.sizeOf261
 v25:=Tryz.zeroValue261
 t39:=Tryz.underlying62
 a39:=Tryz.isAgg62
 z39:=Tryz.sizeOf62
 v39:=Tryz.zeroValue62
 t45:=Tryz.underlying339
 a45:=Tryz.isAgg339
 z45:=Tryz.sizeOf339
 v45:=Tryz.zeroValue339
 t46:=Tryz.underlying340
 a46:=Tryz.isAgg340
 z46:=Tryz.sizeOf340
 v46:=Tryz.zeroValue340
 t50:=Tryz.underlying344
 a50:=Tryz.isAgg344
 z50:=Tryz.sizeOf344
 v50:=Tryz.zeroValue344
 t53:=Tryz.underlying61
 a53:=Tryz.isAgg61
 z53:=Tryz.sizeOf61
 v53:=Tryz.zeroValue61
 t55:=Tryz.underlying42
 a55:=Tryz.isAgg42
 z55:=Tryz.sizeOf42
 v55:=Tryz.zeroValue42
 t66:=Tryz.underlying390
 a66:=Tryz.isAgg390
 z66:=Tryz.sizeOf390
 v66:=Tryz.zeroValue390
 t70:=Tryz.underlying393
 a70:=Tryz.isAgg393
 z70:=Tryz.sizeOf393
 v70:=Tryz.zeroValue393
 t76:=Tryz.underlying417
 a76:=Tryz.isAgg417
 z76:=Tryz.sizeOf417
 v76:=Tryz.zeroValue417
 t77:=Tryz.underlying418
 a77:=Tryz.isAgg418
 z77:=Tryz.sizeOf418
 v77:=Tryz.zeroValue418 }
def je(x:Int×Int×Int):List E:=[J x.1,J x.2.1,J x.2.2]
def fP(l:List (Int×Int×Int)):List E:=l.flatMap je
def k8(x:Int×Int×Int):(je x).length=3:=rfl
def tA(l:List (Int×Int×Int)):(fP l).length=l.length*3:=jL je 3 k8 l
def vS(l:List (Int×Int×Int)):∀u∈fP l,u.oneCell'=true:=λu hu=>by obtain⟨x,_,X⟩:=List.mem_flatMap.1 hu;simp only[je,b_,bW,or_false] at X;rcases X with rfl|rfl|rfl<;>rfl
def ES(x y:Int×Int×Int):Bool:=decide (x.1<y.1)||(decide (x.1=y.1)&&(decide (x.2.1<y.2.1)||(decide (x.2.1=y.2.1)&&decide (x.2.2<y.2.2))))
def uG(x y:Int×Int×Int):ES x y=true↔(x.1<y.1∨(x.1=y.1∧(x.2.1<y.2.1∨(x.2.1=y.2.1∧x.2.2<y.2.2)))):=by simp[ES]
def zy(x y:Int×Int×Int):ES x y=false↔¬ (x.1<y.1∨(x.1=y.1∧(x.2.1<y.2.1∨(x.2.1=y.2.1∧x.2.2<y.2.2)))):=by rw[<-uG];simp
def lV(a b:Int):(a<b∧kP a b=-1)∨(b<a∧kP a b=1)∨(a=b∧kP a b=0):=by
 unfold kP;by_cases I:a<b;·exact .inl ⟨I,aA I⟩
 ·by_cases Z:b<a
  ·exact .inr (.inl ⟨Z,by rw[aB I,aA Z]⟩)
  ·exact .inr (.inr ⟨by omega,by rw[aB I,aB Z]⟩)
theorem yd(x y:Int×Int×Int):Go.Proofs.ltOf wZ x y=ES x y:=by
 unfold Go.Proofs.ltOf wZ;cases hl:ES x y with
 | true=>
   rw[uG] at hl;rcases lV x.1 y.1 with ⟨I,e1⟩|⟨I,e1⟩|⟨I,e1⟩<;>rcases lV x.2.1 y.2.1 with ⟨Z,e2⟩|⟨Z,e2⟩|⟨Z,e2⟩<;>rcases lV x.2.2 y.2.2 with ⟨T,e3⟩|⟨T,e3⟩|⟨T,e3⟩<;>rw[e1,e2,e3]<;>first|decide|(exfalso;omega)
 | false=>
   rw[zy] at hl;rcases lV x.1 y.1 with ⟨I,e1⟩|⟨I,e1⟩|⟨I,e1⟩<;>rcases lV x.2.1 y.2.1 with ⟨Z,e2⟩|⟨Z,e2⟩|⟨Z,e2⟩<;>rcases lV x.2.2 y.2.2 with ⟨T,e3⟩|⟨T,e3⟩|⟨T,e3⟩<;>rw[e1,e2,e3]<;>first|decide|(exfalso;omega)
def a2M:Sort.SWO (Go.Proofs.ltOf wZ) where
 irrefl x:=by rw[yd,zy];omega
 trans x y z h k:=by rw[yd] at *;rw[uG] at *;omega
 ntrans x y z h k:=by rw[yd] at *;rw[zy] at *;omega
def zA(l:List (Int×Int×Int))(j:Nat)(hj:j<l.length*3):(fP l)[j]?=some (Sort.flatK je 3 l.toArray)[j]!:=by
 have h:=flat_get je 3 k8 l (j / 3) (j % 3) ap (Nat.mod_lt _ ap);rw[show j / 3*3+j % 3=j by omega] at h;unfold fP;rw[h,Sort.get_flatK je 3 l.toArray j (by simpa using hj)];have Z:j / 3<l.length:=by omega
 have T:l.toArray[j / 3]! = l[j / 3]:=by simp[Z]
 rw[T];have h4:j % 3<(je l[j / 3]).length:=by rw[k8];exact Nat.mod_lt _ ap
 rw[List.getElem?_eq_getElem h4];simp[h4]
def Nz(w:G)(V:aV)(v:E)(l:List (Int×Int×Int))(W:Row w V 37 3 v l.length (fP l))(hl:l.length<4611686018427387904):dF N 166 #[v,.func (.func 167) #[] #[]] w λe O=>e=b5 (a_ #[])∧∃l':List (Int×Int×Int),l'.Perm l∧(∀i j(hi:i<l'.length)(hj:j<l'.length),i<j->ES l'[j] l'[i]=false)∧Row O V 37 3 v l'.length (fP l')∧dP V w O:=by
 obtain⟨fp,⟨rfl,h0⟩|⟨g,cap,cur,rfl,hV,H,lx,jg,ko,jA⟩⟩:=W
 ·have hn:l=[]:=bv h0
  subst hn;refine (Go.Proofs.AnyF.slices_SortFunc_none QX none 0 _ w).mono λe O ⟨I,Z⟩=>⟨I,[],List.Perm.refl _,λi j hi=>absurd hi (by simp),⟨rfl,.inl ⟨rfl,rfl⟩⟩,?_⟩;rw[Z];exact dP.dR (Grow.refl _)
 have B5:g<(w:Nat):=(Array.getElem?_eq_some_iff.1 H).1;have hH:Sort.HoldsK je 3 w g 0 l.toArray:=λj hj=>by
  rw[Sort.size_flatK] at hj;have mc:j<l.length*3:=by simpa using hj
  have hc:=zA l j mc;rw[<-jA,List.getElem?_take_of_lt mc,Array.getElem?_toList] at hc;refine⟨?_,?_⟩
  ·unfold World.cell?
   simp only[H,cL];exact hc
  ·unfold World.frozen?
   simp only[H];simp
 have eg:∀args w,(callFunc 167 args).run N w=.ok (.enter 167 args) w:=λargs w=>by go_simp
 have hcon:=Go.Proofs.AnyQ.slices_SortFunc QX 3 Tryz.isAgg37 Tryz.sizeOf37 je k8 (λx v hv=>by simp only[je,b_,bW,or_false] at hv;rcases hv with rfl|rfl|rfl<;>rfl) wZ a2M 167 #[] g 0 cap l.toArray w eg (λm os dk _ x y=>Ny x y _) hH B5 (by simpa using hl);change dF N 166 _ _ _ at hcon;rw[cE] at hcon;refine hcon.mono ?_;rintro e O ⟨he,d',n,os,hp,hs,rfl⟩;obtain⟨l',rfl⟩:∃l':List (Int×Int×Int),d'=l'.toArray:=⟨d'.toList,by simp⟩;have ym:l'.length=l.length:=by have:=hp.1;simpa using this
 have jo:=Go.Proofs.size_sortWorldK_c je 3 w g 0 n l'.toArray os;have KI:(Go.Proofs.sortWorldK je 3 w g 0 n l'.toArray os).heap[g]?=some (.cells (Sort.putCells id 0 (Sort.flatK je 3 l'.toArray) cur) 37 (0,0)):=by show ((w.heap.modify g (Sort.onCells (Sort.putCells id 0 (Sort.flatK je 3 l'.toArray))))++os)[g]?=_;rw[Array.getElem?_append_left (by simpa using B5),Array.getElem?_modify,aA rfl,H];rfl
 have I8:(Sort.putCells id 0 (Sort.flatK je 3 l'.toArray) cur).size=cur.size:=by simp[Sort.putCells]
 refine⟨he,l',?_,λi j hi hj o7=>?_,⟨tA l',.inr ⟨g,cap,_,by rw[ym],hV,KI,by omega,jg,by rw[I8,ko],?_⟩⟩,⟨rfl,rfl,rfl,jo,λb hb hbg=>?_⟩⟩
 ·have:=hp.2.2
  simp only[List.extract_toArray,List.extract_eq_take_drop,d9,Nat.sub_zero] at this;rwa [bH ap,bH ap] at this
 ·have:=hs i j (bo _) o7 ap
  rw[yd] at this;simpa [hi,hj] using this
 ·apply List.ext_getElem?
  intro j;by_cases hj:j<l'.length*3
  ·rw[List.getElem?_take_of_lt hj,Array.getElem?_toList,zA l' j hj]
   have hjc:j<cur.size:=by rw[ko];exact bu hj (cK 3 ap)
   simp only[Sort.putCells,Array.getElem?_mapIdx,Array.getElem?_eq_getElem hjc,dp,bo,true_and,cL,Sort.size_flatK,cE,hj,if_true,Nat.sub_zero,id_eq]
  ·rw[List.getElem?_eq_none (by rw[bn];omega),List.getElem?_eq_none (by rw[tA];omega)]
 ·have xh:b<(w.heap.modify g (Sort.onCells (Sort.putCells id 0 (Sort.flatK je 3 l'.toArray)))).size:=by simpa using hb
  show ((w.heap.modify g (Sort.onCells (Sort.putCells id 0 (Sort.flatK je 3 l'.toArray))))++os)[b]?=w.heap[b]?;rw[Array.getElem?_append_left xh,Array.getElem?_modify,aB (λe=>hbg (by rw[<-e];exact hV))]
def NA(w:G)(n:Nat)(hn:n<=1048576):dF N 225 #[ay,J n] w λe O=>∃v,e=b5 v∧Row O (λb=>(w:Nat)<=b∧b<(O:Nat)) 37 3 v 0 []∧Grow w O:=by
 obtain⟨i,hi,hz,hs,hb⟩:=idE.info;have yk:IntKind.i64.wrap (n:Int)=(n:Int):=by rw[IntKind.wrap_i64];omega
 have tS:wrap64 (n:Int)=(n:Int):=by unfold wrap64;omega
 by_cases h0:n=0
 ·subst h0
  go_in;go_wp2;go_ret;exact⟨_,rfl,Row.nil,Grow.refl _⟩
 go_in;go_wp2_with (at_builtin;refine Lib.wpList_append_run _ rfl _ _ _ _ rfl _ _ rfl rfl _ _ (Lib.run_append_nil_zeros _ 81 3 _ 37 i (aZ #[(),(),()]) .i64 .i64 Tryz.underlying81 dx hi hz n ap ap ap (by rw[hb];omega)) ?_);have TH:=grownCap_ge w n 0 37;have ng:grownCap w n 0 37<=dL:=grownCap_le_maxLen w n 0 37 (by unfold dL;omega);generalize grownCap w n 0 37=cap at TH ng;have ko:(bQ #[Value.int .i64 0,(),()] n++bQ #[Value.int .i64 0,(),()] (cap-n)).size=cap*3:=by rw[Array.size_append,size_zeroCells,size_zeroCells,show (#[Value.int .i64 0,(),()]:Array E).size=3 from rfl];omega
 generalize bQ #[Value.int .i64 0,(),()] n++bQ #[Value.int .i64 0,(),()] (cap-n)=cur at ko;go_wp2;go_ret;refine⟨_,rfl,⟨rfl,.inr ⟨(w:Nat),cap,cur,rfl,⟨bh _,by simp⟩,?_,bo _,ng,ko,by simp⟩⟩,Grow.drew ((Below.refl _ _).alloc (bh _) _)⟩;exact heap_alloc_new w _
theorem NB(w:G)(A:aU)(n c:Nat)(hc:n<=c):dF N 168 #[Y A n c] w λe O=>e=b5 (Y A n n)∧w=O:=by
 go_in;cases A with
 | none=>
   go_wp2;go_ret;exact⟨rfl,rfl⟩
 | some a=>
   go_wp2;go_ret;exact⟨rfl,rfl⟩
set_option maxRecDepth 100000
set_option maxHeartbeats 1000000
def Gf(w:G)(b:Nat)(A A2:aU)(c c2:Nat)(l m:List (Int×Int×Int))(hB:eL w b 81 #[Y A l.length c,Y A2 m.length c2])(D D2:aV)(hI:In w D 3 A l.length (fP l))(KL:In w D2 3 A2 m.length (fP m))(hn:l.length+m.length<=1048576):dF N 165 #[Y (some ⟨b,0,none⟩) 2 2] w λe O=>∃v,e=b5 v∧Row O (λb=>(w:Nat)<=b∧b<(O:Nat)) 37 3 v (l.length+m.length) (fP l++fP m)∧Grow w O:=by
 have e0:=hB.cell 0;have e1:=hB.cell 1;obtain⟨n,HN⟩:=az (l.length:Nat);obtain⟨k,HK⟩:=az (m.length:Nat);have hnl:=HN.out;have I2:=HK.out;rw[<-hnl] at e0 hI hn hB ⊢;rw[<-I2] at e1 KL hn hB ⊢;have yk:IntKind.i64.wrap (n:Int)=(n:Int):=by rw[IntKind.wrap_i64];omega
 have tS:wrap64 (n:Int)=(n:Int):=by unfold wrap64;omega
 have De:IntKind.i64.wrap ((n:Int)+(k:Int))=((n+k:Nat):Int):=by rw[IntKind.wrap_i64];omega
 have hw4:wrap64 ((n:Int)+(k:Int))=((n+k:Nat):Int):=by unfold wrap64;omega
 have a8W:decide ((n:Int)<0)=false:=aD ap;have hG:=NA w (n+k) hn;clear hnl I2;go_in;go_wp2_with fail;go_loopw [3,11] (λs i wr=>((s=J 0∧i=J 0)∨(s=J n∧i=J 1)∨(s=J ((n+k:Nat):Int)∧i=J 2))∧w=wr) (λ_ i _=>2-(intOf i).toNat);case atStart=>exact⟨.inl ⟨rfl,rfl⟩,rfl⟩
 case round=>
  obtain⟨hsi,rfl⟩:=hrel;rcases hsi with ⟨rfl,rfl⟩|⟨rfl,rfl⟩|⟨rfl,rfl⟩
  ·go_wp2_with fail
   go_roundw;case rel=>exact⟨.inr (.inl ⟨by first|rfl|simp[yk]|simp[tS],rfl⟩),by trivial⟩
   case measure=>simp[intOf]
  ·go_wp2_with fail
   go_roundw;case rel=>exact⟨.inr (.inr ⟨by first|rfl|simp[De]|simp[hw4],rfl⟩),by trivial⟩
   case measure=>simp[intOf]
  ·go_wp2_with fail
   refine hG.mono ?_;rintro e w1 ⟨v1,rfl,mK,eO⟩;go_wp2_with fail;go_loopw [6,27] (λv i wr=>((i=J 0∧Row wr (λb=>(w:Nat)<=b∧b<(wr:Nat)) 37 3 v 0 [])∨(i=J 1∧Row wr (λb=>(w:Nat)<=b∧b<(wr:Nat)) 37 3 v n (fP l))∨(i=J 2∧Row wr (λb=>(w:Nat)<=b∧b<(wr:Nat)) 37 3 v (n+k) (fP l++fP m)))∧Grow w wr) (λ_ i _=>2-(intOf i).toNat);case atStart=>exact⟨.inl ⟨rfl,mK⟩,eO⟩
   case round=>
    obtain⟨hsi,i7⟩:=hrel;have e0:=(hB.grow i7).cell 0;have e1:=(hB.grow i7).cell 1;have hwr:=i7.size;rcases hsi with ⟨rfl,W⟩|⟨rfl,W⟩|⟨rfl,W⟩
    ·go_wp2_with (at_builtin;refine stay ?_)
     refine dN ?_;refine yA idE _ rfl (.tmp 31) (.tmp 32) rfl _ 0 [] rfl W _ A n c (fP l) rfl (hI.grow i7).reads (vS l) ap ?_;intro v2 w2 ig kI;have fN:Grow w w2:=Below.trans i7 (kI.below (B:=(w:Nat)) (λb hb=>hb.1) hwr);have ig:=ig.mono (V':=(λb=>(w:Nat)<=b∧b<(w2:Nat))) λb hb=>hb.elim (λh=>⟨h.1,bu h.2 kI.size⟩) λh=>⟨bA hwr h.1,h.2⟩;simp only[cL,cC] at ig;go_wp2_with fail;go_roundw;case rel=>exact⟨.inr (.inl ⟨rfl,ig⟩),fN⟩
     case measure=>simp[intOf]
    ·go_wp2_with (at_builtin;refine stay ?_)
     refine dN ?_;refine yA idE _ rfl (.tmp 31) (.tmp 32) rfl _ n (fP l) rfl W _ A2 k c2 (fP m) rfl (KL.grow i7).reads (vS m) ap ?_;intro v2 w2 ig kI;have fN:Grow w w2:=Below.trans i7 (kI.below (B:=(w:Nat)) (λb hb=>hb.1) hwr);have ig:=ig.mono (V':=(λb=>(w:Nat)<=b∧b<(w2:Nat))) λb hb=>hb.elim (λh=>⟨h.1,bu h.2 kI.size⟩) λh=>⟨bA hwr h.1,h.2⟩;go_wp2_with fail;go_roundw;case rel=>exact⟨.inr (.inr ⟨rfl,ig⟩),fN⟩
     case measure=>simp[intOf]
    ·go_wp2_with fail
     go_ret;exact⟨_,rfl,W,i7⟩
def dd:Int×Int×Int->List (Int×Int×Int)->List (Int×Int×Int)
 | _,[]=>[]
 | p,x::l=>if x=p then dd x l else x::dd x l
def Z7:List (Int×Int×Int)->List (Int×Int×Int)
 | []=>[]
 | x::l=>x::dd x l
set_option maxRecDepth 100000
set_option maxHeartbeats 1000000
abbrev I3:=Int×Int×Int
theorem NC{l:List I3}(h:l.length<2):Z7 l=l:=by
 match l,h with
 | [],_=>rfl
 | [x],_=>rfl
def ye{M:List I3}(hB:eL w g 37 cur)(ht:cur.toList.take (M.length*3)=fP M)(K:k<M.length):w.cell? ⟨g,k*3,none⟩=some (J M[k].1)∧w.cell? ⟨g,k*3+1,none⟩=some (J M[k].2.1)∧w.cell? ⟨g,k*3+2,none⟩=some (J M[k].2.2):=by
 have h:∀j,j<3->w.cell? ⟨g,k*3+j,none⟩=(je M[k])[j]?:=λj hj=>by rw[hB.cell,<-Array.getElem?_toList,<-List.getElem?_take_of_lt (show k*3+j<M.length*3 by omega),ht];unfold fP;rw[flat_get je 3 k8 M k j K hj]
 exact⟨h 0 ap,h 1 ap,h 2 ap⟩
def JM(M:List I3)(K:k<M.length)(x:I3):fP (M.set k x)=(fP M).take (k*3)++je x++(fP M).drop (k*3+3):=by rw[List.set_eq_take_append_cons_drop,aA K];unfold fP;rw[show k*3+3=(k+1)*3 by omega,kV je 3 k8,pc je 3 k8,bO,bN,bp]
def a2N{α:Type}{p q r:Prop}[Decidable p][Decidable q][Decidable r](h:¬ (p∧q∧r))(a b:α):(if p then if q then if r then a else b else b else b)=b:=by
 split
 ·split
  ·split
   ·next I Z T=>exact absurd ⟨I,Z,T⟩ h
   ·rfl
  ·rfl
 ·rfl
def Gg{α:Type}(a x:List α)(i m:Nat)(h:i+x.length<=m)(ha:i<=a.length):(a.take i++x++a.drop (i+x.length)).take m=(a.take m).take i++x++(a.take m).drop (i+x.length):=by
 have hl:(a.take i++x).length=i+x.length:=by rw[bd,bn,cF ha]
 rw[List.take_append,hl,bH ap,List.take_take,cF ap,List.drop_take]
def LG{cap:Nat}{M:List I3}(hV:V g)(hB:eL w g 37 cur)(hs:cur.size=cap*3)(ht:cur.toList.take (n*3)=fP M)(hM:M.length=n)(I:n<=cap)(Z:cap<=dL):Row w V 37 3 (Y (some (g,0)) n cap) n (fP M):=⟨by rw[tA,hM],.inr ⟨g,cap,cur,rfl,hV,hB,I,Z,hs,ht⟩⟩
theorem Ea(w:G)(V:aV)(v:E)(l:List I3)(W:Row w V 37 3 v l.length (fP l))(hn:l.length<=1048576):dF N 169 #[v] w λe O=>∃v',e=b5 v'∧Row O V 37 3 v' (Z7 l).length (fP (Z7 l))∧dP V w O:=by
 obtain⟨n,HN⟩:=az (l.length:Nat);by_cases Z:n<2
 ·have hs:=NC (l:=l) (by rw[<-HN.out];exact Z)
  obtain⟨A,c,rfl,hI,hc,hm⟩:=W.kB;rw[hs];generalize fP l=xs at W ⊢;rw[<-HN.out] at W hn ⊢;have d1:decide ((n:Int)<2)=true:=aC ap;go_in;go_wp2;go_ret;exact⟨_,rfl,W,dP.dR (Grow.refl _)⟩
 rw[<-HN.out] at W hn;obtain⟨hl,h0|⟨g,cap,cur,rfl,hV,H,lx,jg,ko,jA⟩⟩:=W;·omega
 have d1:decide ((n:Int)<2)=false:=aD ap;have wu:eL w g 37 cur:=H;obtain⟨f,HF⟩:=az (Z7 l);rw[<-HF.out];clear hl;go_in;go_wp2_with fail;clear d1;go_loopw [3] (λi wr=>∃k:Nat,1<=k∧k<=n∧i=J k∧Hid (f=l.take k++dd (l.getD (k-1) (0,0,0)) (l.drop k))∧Grow w wr) (λi _=>n-(intOf i).toNat);case atStart=>exact⟨1,by omega,by omega,rfl,Q (by
  rw[HF.out];match l,HN.out with
  | [],h=>simp at h;omega
  | x::l,_=>rfl),Grow.refl _⟩
 case round=>
  obtain⟨k,jb,oF,rfl,Hf,i7⟩:=hrel;have Tl:=wu.grow i7;by_cases fM:k<n
  ·have I2:k<l.length:=by rw[<-HN.out];exact fM
   have WO:k-1<l.length:=by omega
   have Vb:=jA;rw[HN.out] at Vb;obtain⟨x0,x1,x2⟩:=ye Tl Vb I2;obtain⟨y0,y1,y2⟩:=ye Tl Vb WO;clear Vb;obtain⟨x,HX⟩:=az (l[k]);obtain⟨y,HY⟩:=az (l[k-1]);rw[<-HX.out] at x0 x1 x2;rw[<-HY.out] at y0 y1 y2;obtain⟨q,HQ⟩:=az (k-1:Nat);have B9:IntKind.i64.wrap ((k:Int)-1)=((q:Nat):Int):=by rw[HQ.out,IntKind.wrap_i64];omega
   rw[<-HQ.out] at y0 y1 y2;have UO:q<n:=by have:=HQ.out;omega
   go_wp2_with fail;go_still_tail 9,(by kernel_rfl);by_cases OX:x=y
   ·have HD:Hid (f=l.take k++dd (l.getD (k+1-1) (0,0,0)) (l.drop (k+1))):=Q (by
     rw[Hf.out,bR I2];have e1:l.getD (k-1) (0,0,0)=x:=by rw[List.getD_eq_getElem?_getD,List.getElem?_eq_getElem WO,<-HY.out,OX];rfl
     have e2:l.getD (k+1-1) (0,0,0)=x:=by rw[Nat.add_sub_cancel,List.getD_eq_getElem?_getD,List.getElem?_eq_getElem I2,<-HX.out];rfl
     rw[e1,e2,<-HX.out];show _++(if x=x then _ else _)=_;rw[aA rfl])
    subst OX
    go_wp2_with fail
    go_loopw [3,5] (λa b wr=>∃(p j:Nat)(M:List I3)(cur':aP),a=J p∧b=J j∧(1<=j∧k+j<=n∧p+1<=k+j)∧M.length=n∧Hid (M.drop (k+j-1)=l.drop (k+j-1))∧Hid (f=M.take p++dd (l.getD (k+j-1) (0,0,0)) (l.drop (k+j)))∧eL wr g 37 cur'∧cur'.size=cap*3∧Hid (cur'.toList.take (n*3)=fP M)∧dP (λb=>b=g) w wr) (λ_ b _=>n-k-(intOf b).toNat)
    case atStart=>exact⟨k,1,l,cur,rfl,rfl,⟨by omega,by omega,by omega⟩,HN.out.symm,Q rfl,HD,Tl.grow (Grow.refl _).drew,ko,Q jA,dP.dR (i7.trans (Grow.refl _).drew)⟩
    case round=>
     obtain⟨p,j,M,cur',rfl,rfl,⟨yl,kI,nx⟩,hMl,HM,Hf2,mJ,I8,Bm,hJ⟩:=hrel
     obtain⟨nk,HNK⟩:=az (n-k:Nat)
     rw[<-HNK.out]
     by_cases ht:j<nk
     ·have u_:k+j<M.length:=by rw[hMl];have:=HNK.out;omega
      have hkp:k+j-1<M.length:=by omega
      have Vd:=Bm.out
      rw[<-hMl] at Vd
      obtain⟨q2,Z8⟩:=az (j-1:Nat)
      have oG:IntKind.i64.wrap ((j:Int)-1)=((q2:Nat):Int):=by rw[Z8.out,IntKind.wrap_i64];omega
      obtain⟨s0,s1,s2⟩:=ye mJ Vd u_
      obtain⟨t0,t1,t2⟩:=ye mJ Vd hkp
      clear Vd
      obtain⟨aem,kq⟩:=az (M[k+j])
      obtain⟨ael,zl⟩:=az (M[k+j-1])
      rw[<-kq.out,show (k+j)*3=k*3+j*3 from Nat.add_mul _ _ _] at s0 s1 s2
      rw[<-zl.out,show (k+j-1)*3=k*3+q2*3 by have:=Z8.out;omega] at t0 t1 t2
      have d3:decide ((j:Int)<(nk:Int))=true:=aC ap
      have hq2n:q2<nk:=by have:=Z8.out;omega
      clear B9
      clear x0 x1 x2 y0 y1 y2
      go_wp2_with fail
      clear d3
      go_still_tail 9,(by kernel_rfl)
      by_cases hXY:aem=ael
      ·rw[<-hXY] at t0 t1 t2 zl
       go_wp2_with fail
       have hY:l.getD (k+j-1) (0,0,0)=aem:=by rw[List.getD_eq_getElem?_getD];have:=congrArg (λz=>z[0]?) HM.out;simp only[List.getElem?_drop,Nat.add_zero] at this;rw[<-this,List.getElem?_eq_getElem hkp,<-zl.out,hXY];rfl
       have hX:l.getD (k+j) (0,0,0)=aem:=by rw[List.getD_eq_getElem?_getD];have:=congrArg (λz=>z[1]?) HM.out;simp only[List.getElem?_drop,show k+j-1+1=k+j by omega] at this;rw[<-this,List.getElem?_eq_getElem u_,<-kq.out];rfl
       have hlj:k+j<l.length:=by rw[<-HN.out];omega
       refine⟨⟨p,j+1,M,cur',rfl,by go_num,⟨by omega,by have:=HNK.out;omega,by omega⟩,hMl,Q ?_,Q ?_,mJ.grow (Grow.refl _).drew,I8,Bm,hJ.trans (dP.dR (Grow.refl _).drew)⟩,by simp[intOf];omega⟩
       ·have:=congrArg (List.drop 1) HM.out
        rw[List.drop_drop,List.drop_drop,show k+j-1+1=k+(j+1)-1 by omega] at this
        exact this
       ·rw[Hf2.out,bR hlj]
        have e3:l[k+j]=aem:=by rw[List.getD_eq_getElem?_getD,List.getElem?_eq_getElem hlj] at hX;exact hX
        rw[hY,e3,show k+(j+1)-1=k+j by omega,hX]
        show _++(if aem=aem then _ else _)=_
        rw[aA rfl];rfl
      ·have a7u:¬ (aem.1=ael.1∧aem.2.1=ael.2.1∧aem.2.2=ael.2.2):=λ⟨a,b,c⟩=>hXY (Prod.ext a (Prod.ext b c))
       refine pg rfl (v := aY true) (by go_simp;rw[a2N a7u]) ?_
       have I9:=mJ.grow (Grow.refl wr).drew
       have hp3:p*3+[Value.int .i64 aem.1,J aem.2.1,J aem.2.2].length<=cur'.size:=by rw[I8];show p*3+3<=_;omega
       have hpc:¬ n<=p:=by omega
       clear t0 t1 t2
       go_wp2_with (refine qX rfl 37 (.tmp 51) (.tmp 50) rfl g (p*3) rfl [J aem.1,J aem.2.1,J aem.2.2] rfl I9 hp3 rfl aw rfl ?_;intro w6 Z9 hj6 hs6;refine stay ?_)
       refine dN ?_
       go_wp2_with fail
       have hY:l.getD (k+j-1) (0,0,0)=ael:=by rw[List.getD_eq_getElem?_getD];have:=congrArg (λz=>z[0]?) HM.out;simp only[List.getElem?_drop,Nat.add_zero] at this;rw[<-this,List.getElem?_eq_getElem hkp,<-zl.out];rfl
       have hlj:k+j<l.length:=by rw[<-HN.out];have:=HNK.out;omega
       have hX:l[k+j]=aem:=by have:=congrArg (λz=>z[1]?) HM.out;simp only[List.getElem?_drop,show k+j-1+1=k+j by omega] at this;rw[List.getElem?_eq_getElem u_,List.getElem?_eq_getElem hlj,<-kq.out] at this;exact (Option.some.inj this).symm
       have hpM:p<M.length:=by omega
       refine⟨⟨p+1,j+1,M.set p aem,_,by go_num,by go_num,⟨by omega,by have:=HNK.out;omega,by omega⟩,by rw[dq];exact hMl,Q ?_,Q ?_,Z9,?_,Q ?_,(hJ.trans (dP.dR (Grow.refl _).drew)).trans hj6⟩,by simp[intOf];omega⟩
       ·have:=congrArg (List.drop 1) HM.out
        rw[List.drop_drop,List.drop_drop,show k+j-1+1=k+(j+1)-1 by omega] at this
        rw[<-this,List.drop_set_of_lt ap]
       ·rw[Hf2.out,bR hlj,hY,hX,show k+(j+1)-1=k+j by omega]
        have e3:l.getD (k+j) (0,0,0)=aem:=by rw[List.getD_eq_getElem?_getD,List.getElem?_eq_getElem hlj,hX];rfl
        have e4:(M.set p aem).take (p+1)=M.take p++[aem]:=by rw[br (by rw[dq];exact hpM),List.take_set_of_le (bh _),List.getElem_set_self]
        rw[e3,e4]
        show _++(if aem=ael then _ else _)=_
        rw[aB hXY,bp];rfl
       ·simp only[cE,bd,bn,bU,ch,bC,cx]
        have:p*3+3<=cur'.size:=hp3
        omega
       ·show List.take (n*3) (cur'.toList.take (p*3)++je aem++cur'.toList.drop (p*3+(je aem).length))=_
        have:p*3+3<=cur'.size:=hp3
        rw[Gg _ _ _ _ (by rw[k8];omega) (by rw[ch];omega),Bm.out,JM M hpM];rfl
     ·have d3:decide ((j:Int)<(nk:Int))=false:=aD ap
      have hpn:p<n:=by omega
      have a7v:Hid (k+j=n):=Q (by have:=HNK.out;omega)
      have sD:∀ty,(Builtin.clear_ #[81] ty #[Y (some ⟨g,p*3,none⟩) (n-p) (cap-p)]).run N wr=.ok (a_ #[]) (wr.setCells g (p*3) (bQ (aZ #[(),(),()]:E).cells (n-p)).toList):=λty=>by refine kH idE (u6 idE) (by simp[Value.cells,Value.oneCell']) wr ty g (p*3) (n-p) (cap-p) ap (λq hq=>?_) (λq hq=>mJ.frozen _);rw[mJ.cell,Array.getElem?_eq_getElem ap];rfl
      clear x0 x1 x2 y0 y1 y2
      go_wp2
      go_ret
      have hZl:(bQ #[Value.int .i64 0,(),()] (n-p)).toList.length=(n-p)*3:=by simp[bQ]
      generalize (bQ #[Value.int .i64 0,(),()] (n-p)).toList=aek at hZl ⊢
      have ng:p*3+aek.length<=cur'.size:=by omega
      have hf:f=M.take p:=by rw[Hf2.out,a7v.out,cT (by rw[<-HN.out];exact bh _)];exact bm _
      have Tg:f.length=p:=by rw[hf,bn];omega
      refine⟨_,rfl,?_,hJ.imp (λb hb=>hb▸hV) |>.trans ((vq g (p*3) aek wr).imp λb hb=>hb▸hV)⟩
      rw[Tg]
      refine LG hV (mJ.part (p*3) aek ng) (by simp only[cE,bd,bn,bU,ch];omega) ?_ Tg ap jg
      rw[hf,show ∀l:List E,l.toArray.toList=l from λ_=>rfl,bp,List.take_append_of_le_length (by simp;omega),List.take_take,Nat.min_self]
      have:=congrArg (List.take (p*3)) Bm.out
      rw[List.take_take,cF ap] at this
      rw[this]
      exact kV je 3 k8 M p
   ·have a7w:¬ (x.1=y.1∧x.2.1=y.2.1∧x.2.2=y.2.2):=λ⟨a,b,c⟩=>OX (Prod.ext a (Prod.ext b c))
    refine pg rfl (v := aY false) (by go_simp;rw[a2N a7w]) ?_;go_wp2_with fail;refine⟨⟨k+1,by omega,by omega,by go_num,Q ?_,i7.trans (Grow.refl _).drew⟩,by simp[intOf];omega⟩;rw[Hf.out,bR I2];have e1:l.getD (k-1) (0,0,0)=y:=by rw[List.getD_eq_getElem?_getD,List.getElem?_eq_getElem WO,<-HY.out];rfl
    have e2:l.getD (k+1-1) (0,0,0)=x:=by rw[Nat.add_sub_cancel,List.getD_eq_getElem?_getD,List.getElem?_eq_getElem I2,<-HX.out];rfl
    rw[e1,e2,br I2,<-HX.out];show _++(if x=y then _ else _)=_;rw[aB OX,bp];rfl
  ·have a9g:Hid (k=n):=Q ap
   have hf:f=l:=by rw[Hf.out,a9g.out,cT (by rw[<-HN.out];exact bh _),bH (by rw[<-HN.out];exact bh _)];exact bm _
   go_wp2;go_ret;rw[hf,<-HN.out];exact⟨_,rfl,LG hV Tl ko jA HN.out.symm lx jg,dP.dR i7⟩
def j6(k:Int×Int×Int):E := aZ #[J k.1,J k.2.1,J k.2.2]
def QY:pe N 2 oV:=C4 aw
def QZ:pe N 37 j6:=ub (fs:=(Tryz.prog.fieldsOf 37)) aw (λw b k=>by unfold j6;kernel_rfl)
 (λw a b=>by unfold j6;show (Op.equalIn 10000 _ _ _).run N w=_;go_simp;by_cases I:a.1=b.1<;>by_cases Z:a.2.1=b.2.1<;>by_cases T:a.2.2=b.2.2<;>simp[I,Z,T,Prod.ext_iff])
 (λk=>by simp[j6,Instr.sameBits])
def Q_(b:aT)(h:b.length<=65536):(frame b).length<=b.length+14:=by rw[k7];have:=eG (n:=b.length) ap;omega
structure qi where
 (r s x d m:Nat)
def kQ(p:qi)(node nodes commit:Int)(v:E)(leads:Bool)(own:Int):Array E:=#[J node,J nodes,((p.s,0):E),((p.m,0):E),J commit,v,aY leads,J own]
def vT(w:G)(g:Nat)(l:List aes.Ab)(last:Int)(V:aV)(h:aes.eA g l last w V):dF N 283 #[g] w λe O=>e=b5 (J last)∧w=O:=by obtain⟨_,v,q,R,D,_,_,hB,_⟩:=h;have c1:=hB.cell 1;go_in;go_wp2;go_ret;exact⟨rfl,rfl⟩
def zB(w:G)(ρ:Operand->E)(o:dJ)(ho:o.op=.alloc 218):(execOp ρ o).run N w=.ok (.value ((((w:Nat),0):E))) (w.alloc (.cells aI 218)):=by obtain⟨dst,op,ty,pos,after,guard⟩:=o;simp only at ho;subst ho;go_simp
def ND:(Tryz.prog.info? 218).map (λi=>(i.zero,i.size,i.bytes))=some (some (aZ aI),19,192):=by kernel_rfl
def CH:Elem N 30 218 19 192 (aZ aI):=⟨Tryz.underlying30,info_parts ND,rfl,by decide,by decide⟩
def ix{B:Nat}{w1 w2:G}(H:Grow w w1)(W:km r (w:Nat) l w1)(ho:fX r w1 w2):Grow w w2:=Below.trans H (Nm ho W.1 H.size)
inductive Rc where
 | ep (n:Nat)
 | eW (d:Dl)
 | qF (k sq:Nat) (ds:List Dl)
 | sh (n:Nat)
 | dn (k sq:Nat)
def Rc.B:Rc->List UInt8
 | .ep n=>ic 1 [n]
 | .eW d=>ic 2 []++nC [d]
 | .qF k sq ds=>ic 3 [k,sq,ds.length]++nC ds
 | .sh n=>ic 4 [n]
 | .dn k sq=>ic 5 [k,sq]
def jG(d:Dl):Prop:=iq d=true∧Small d
def Rc.Ok:Rc->Prop
 | .ep n=>1<=n∧n<=1073741824
 | .eW d=>jG d
 | .qF k sq ds=>k<4∧sq<=9223372036854775807∧ds.length<=8∧∀d∈ds,jG d
 | .sh n=>1<=n∧n<=4
 | .dn k sq=>k<4∧sq<=9223372036854775807
def Bk.done(b:Bk)(k:Nat)(sq:Int):Bk:={ b with q:=b.q.set k ⟨aes.ra (b.qu k).l sq,(b.qu k).k⟩ }
def Bk.take(b:Bk):Rc->Bk
 | .ep n=>{ b with ep:=n }
 | .eW d=>if jl b.eW d=0 then { b with eW:=b.eW++[d] } else b
 | .qF k sq ds=>b.add k sq ds
 | .sh n=>{ b with sh:=n }
 | .dn k sq=>b.done k sq
structure Bk.Lim(b:Bk):Prop where
 eW:b.eW.length<=1000
 u64:∀d∈b.eW,d.2<=18446744073709551615
 cuts:b.cuts.length<=1000000
def Eb{b b':Bk}{sl cu:E}(hz:z.length=4∧b'.q.length=4)(e:b=b')(h:St V w (ib st z sl cu b') O):dU (qv [.o (iO st z b)]) O (ju V w O)∧dP V w O:=by subst e;exact (iO.cls (l:=[]) hz (by rw[bm];exact h)).fin
def Ve(w:G)(D:aV)(st:Nat)(z:aQ)(b:Bk)(n:Nat)(hn:1<=n∧n<=1073741824)(A:aU)(m c:Nat)(hb:Bytes w (w:Nat) A m (ic 1 [n]))(xR:m<=c)(jg:c<=dL):Lw N D 258 #[st,Y A m c] [.o (iO st z b)] (λ(_:Unit)e=>e=b5 (a_ #[])) (λ_=>[.o (iO st z (b.take (.ep n)))]) w:=by intro V hM hV;obtain⟨hz,sl,cu,L⟩:=iO.opn (St.begin_ hM (λb hb=>(hV b hb).1) ⟨iO.framed _ _ _,trivial⟩);rw[bm] at L;rw[show ic 1 [n]=enc 1++(enc n++[]) by simp[ic]] at hb;have hN:=re w A m c _ hb xR jg;have d1:decide ((1:Int)<=(n:Int))=true:=aC ap;have d2:decide ((n:Int)<=1073741824)=true:=aC ap;go_in;go_wp2_with fail;refine hN.mono ?_;rintro e w1 ⟨r,rfl,mK,eO⟩;have hU:=kW w1 r _ 1 _ ap mK;go_wp2_with fail;refine hU.mono ?_;rintro e w2 ⟨rfl,ig,qM⟩;have fN:=ix (B:=0) eO mK qM;have hI:=rh w2 r _ n _ ap ig;go_wp2_with fail;refine hI.mono ?_;rintro e w3 ⟨rfl,kj,pM⟩;have jU:=ix (B:=0) fN ig pM;have hD:=pv w3 r _ kj;go_wp2_with fail;refine hD.mono ?_;rintro e w4 ⟨rfl,rfl⟩;have eh:=L.grow jU;clear L hb mK ig kj qM pM eO fN jU hN hU hI hD;go_wp2_with (refine fB eh 0 rfl 2 _ _ rfl 0 rfl (J n) rfl (bf rfl) rfl aw rfl ?_;clear eh;intro w5 eI;refine stay ?_);refine dN ?_;go_wp2;go_end0;obtain⟨r1,r2⟩:=Eb (st:=st) (z:=z) (b:=b.take (.ep n)) (b':={ b with ep:=n }) hz rfl eI;exact⟨(),rfl,r1,r2⟩
def Vf(w:G)(D:aV)(st:Nat)(z:aQ)(b:Bk)(n:Nat)(hn:1<=n∧n<=4)(A:aU)(m c:Nat)(hb:Bytes w (w:Nat) A m (ic 4 [n]))(xR:m<=c)(jg:c<=dL):Lw N D 258 #[st,Y A m c] [.o (iO st z b)] (λ(_:Unit)e=>e=b5 (a_ #[])) (λ_=>[.o (iO st z (b.take (.sh n)))]) w:=by intro V hM hV;obtain⟨hz,sl,cu,L⟩:=iO.opn (St.begin_ hM (λb hb=>(hV b hb).1) ⟨iO.framed _ _ _,trivial⟩);rw[bm] at L;rw[show ic 4 [n]=enc 4++(enc n++[]) by simp[ic]] at hb;have hN:=re w A m c _ hb xR jg;have d1:decide ((1:Int)<=(n:Int))=true:=aC ap;have d2:decide ((n:Int)<=4)=true:=aC ap;go_in;go_wp2_with fail;refine hN.mono ?_;rintro e w1 ⟨r,rfl,mK,eO⟩;have hU:=kW w1 r _ 4 _ ap mK;go_wp2_with fail;refine hU.mono ?_;rintro e w2 ⟨rfl,ig,qM⟩;have fN:=ix (B:=0) eO mK qM;have hI:=rh w2 r _ n _ ap ig;go_wp2_with fail;refine hI.mono ?_;rintro e w3 ⟨rfl,kj,pM⟩;have jU:=ix (B:=0) fN ig pM;have hD:=pv w3 r _ kj;go_wp2_with fail;refine hD.mono ?_;rintro e w4 ⟨rfl,rfl⟩;have eh:=L.grow jU;clear L hb mK ig kj qM pM eO fN jU hN hU hI hD;go_wp2_with (refine fB eh 0 rfl 3 _ _ rfl 2 rfl (J n) rfl (bf rfl) rfl aw rfl ?_;clear eh;intro w5 eI;refine stay ?_);refine dN ?_;go_wp2;go_end0;obtain⟨r1,r2⟩:=Eb (st:=st) (z:=z) (b:=b.take (.sh n)) (b':={ b with sh:=n }) hz rfl eI;exact⟨(),rfl,r1,r2⟩
def lW(h:jG d):d.1.size<=1000000∧d.2<=18446744073709551615:=⟨bA h.2.1 am,by have:=h.2.2;omega⟩
def R1(w:G)(D:aV)(st:Nat)(z:aQ)(b:Bk)(s:aR)(x:Nat)(hd:jG (s,x))(hl:b.Lim)(A:aU)(m c:Nat)(hb:Bytes w (w:Nat) A m (ic 2 []++nC [(s,x)]))(xR:m<=c)(jg:c<=dL):Lw N D 258 #[st,Y A m c] [.o (iO st z b)] (λ(_:Unit)e=>e=b5 (a_ #[])) (λ_=>[.o (iO st z (b.take (.eW (s,x))))]) w:=by
 intro V hM hV;obtain⟨hz,sl,cu,L⟩:=iO.opn (St.begin_ hM (λb hb=>(hV b hb).1) ⟨iO.framed _ _ _,trivial⟩);rw[bm] at L;obtain⟨A1,c1,rfl,lx,sF⟩:=fT.oJ L 1 rfl;rw[show ic 2 []++nC [(s,x)]=enc 2++(nC [(s,x)]++[]) by simp[ic]] at hb;have hN:=re w A m c _ hb xR jg;obtain⟨aep,HE⟩:=az (jl b.eW (s,x));have Df:b.take (.eW (s,x))=if aep=0 then { b with eW:=b.eW++[(s,x)] } else b:=by rw[HE.out];rfl
 go_in;go_wp2_with fail;refine hN.mono ?_;rintro e w1 ⟨r,rfl,mK,eO⟩;have hU:=kW w1 r _ 2 _ ap mK;go_wp2_with fail;refine hU.mono ?_;rintro e w2 ⟨rfl,ig,qM⟩;have fN:=ix (B:=0) eO mK qM;have hG:dF N 195 #[r,J 1] w2 λe O=>∃A c,e=b5 (Y A 1 c)∧km r (w:Nat) [] O∧kg O (New w2 O) A 1 [(s,x)]∧1<=c∧c<=dL∧fX r w2 O:=F_ w2 r _ [(s,x)] [] ig (λd KM=>by rw[List.mem_singleton.1 KM];exact hd.2) (by simp);go_wp2_with fail;refine hG.mono ?_;rintro e w3 ⟨A3,c3,rfl,kj,Tw,tP,Ud,pM⟩;have jU:=ix (B:=0) fN ig pM;obtain⟨ad,hq,rfl,f0,f1⟩:=kY Tw (k:=0) ap;have e0:w3.cell? ad=some (aX s):=f0 w3 (Grow.refl _);have e1:w3.cell? ⟨ad.block,ad.off+1,none⟩=some (ae ah x):=f1 w3 (Grow.refl _);clear f0 f1;obtain⟨y,wa,HY,HA,mX⟩:=(L.grow jU).new' #[aX s,ae ah x] 147;have pB:=kj.grow (show Grow w3 wa by rw[HA.out];exact fc _ _);go_wp2_with fail;rw[<-HA.out,<-HY.out];clear e0 e1;have hD:=pv wa r _ pB;go_wp2_with fail;refine hD.mono ?_;rintro e w4 ⟨rfl,rfl⟩;obtain⟨U,hU5,hU6⟩:=mX.own.see 2 rfl;obtain⟨A1',c1',e6,V7,_⟩:=Row.kB (show Row _ U 147 2 (Y A1 b.eW.length c1) b.eW.length (fw b.eW) from hU5);injection e6 with e6 _ e7;subst e6 e7;have hMy:=Qx wa st A1 b.eW.length c1 b.eW U V7 (mX.facts.2.1.1 1) (mX.blk 1 rfl).lt (by have:=hl.eW;omega) hl.u64 s x (lW hd).1 (lW hd).2;rw[<-HE.out] at hMy;have XV:wa.cell? (y,0)=some (aX s):=mX.facts.1.1 0;have xm:wa.cell? (y,1)=some (ae ah x):=mX.facts.1.1 1;go_wp2_with fail;refine hMy.mono ?_;rintro e w5 ⟨rfl,sk⟩;have eI:=mX.grow sk;clear mX XV xm hU5 hU6 V7 pB kj Tw;by_cases h0:aep=0
 ·subst h0
  rw[aA rfl] at Df;replace Df:=Q Df;go_wp2_with fail;have eZ:=eI.grow (Grow.refl _).drew;have EN:∀l O,St V w (.c y 147 #[aX s,ae ah x]::.c st 186 (Im z (Y A1 b.eW.length c1) cu b)::l) O->O.cell? (st,1)=some (Y A1 b.eW.length c1)∧O.cell? (y,0)=some (aX s)∧O.cell? (y,1)=some (ae ah x):=λl O h=>⟨h.facts.2.1.1 1,h.facts.1.1 0,h.facts.1.1 1⟩;have eN:=EN _ _ eZ;refine dO rfl ?_;refine fV (λO=>O.cell? (st,1)=some (Y A1 b.eW.length c1)∧O.cell? (y,0)=some (aX s)∧O.cell? (y,1)=some (ae ah x)) [8,9,10] 11 rfl [0,1,2,3,4,5] ?_;iterate 6 (refine ff rfl eN (λw1 ⟨I,Z,T⟩=>aM) ?_)
  refine fG 6 [] rfl ?_;obtain⟨y2,wb,zl,HB,eS⟩:=eI.new' #[aX s,ae ah x] 147;go_wp2_with fail;rw[<-HB.out,<-zl.out];have fQ:=eS.grow (Grow.refl _).drew;refine⟨λ_=>⟨fQ.facts.2.2.1.1 1,fQ.facts.2.1.1 0,fQ.facts.2.1.1 1⟩,?_⟩;refine fG 7 [] rfl ?_;refine iw pS rfl (.tmp 50) (.tmp 52) rfl rfl (fQ.front 3 rfl) (A:=some (y2,0)) (m:=1) (c:=1) (news:=[aX s,ae ah x]) rfl (In.reads ((fQ.blk 0 rfl).kB (size:=2) (n:=1) rfl)) (by simp[Value.oneCell']) (by have:=hl.eW;omega) ?_;intro v' w8 fK;obtain⟨A8,c8,rfl,hc8,hm8⟩:=fT.oJ fK 0 rfl;refine wpList_nil ⟨λ_=>⟨fK.facts.2.2.1.1 1,fK.facts.2.1.1 0,fK.facts.2.1.1 1⟩,?_⟩;refine gx 8 rfl aw ?_;have hf8:=fK.facts.2.2.1;simp only[Im] at hf8;go_wp2_with fail;have gM:=((fK.put 3 rfl 1 (Y A8 (b.eW.length+1) c8)).dT 1 rfl).dT 1 rfl;go_end0;obtain⟨r1,r2⟩:=Eb (st:=st) (z:=z) (b:=b.take (.eW (s,x))) (b':={ b with eW:=b.eW++[(s,x)] }) (sl := Y A8 (b.eW.length+1) c8) hz Df.out (by have h9:=gM.perm (List.Perm.swap _ _ _);unfold ib fw;dsimp only;rw[bd,bO];exact h9)
  exact⟨(),rfl,r1,r2⟩
 ·rw[aB h0] at Df
  have OD:(aep == 0)=false:=beq_eq_false_iff_ne.2 h0;replace Df:=Q Df;replace h0:=Q h0;go_wp2;go_end0;obtain⟨r1,r2⟩:=Eb (st:=st) (z:=z) (b:=b.take (.eW (s,x))) hz Df.out (eI.dT 0 rfl);exact⟨(),rfl,r1,r2⟩
def OR(A:aU)(ds:List Dl):ei:=λw V=>kg w V A ds.length ds
def OR.framed(A:aU)(ds:List Dl):eQ (OR A ds):=λ_ _ _ h K=>In.keep h λb hb _=>K b hb
def a2R(w:G)(s:aR)(x:Nat)(hs:s.size<=1000000):dF N 354 #[aZ #[aX s,ae ah x]] w λe O=>e=b5 (aY (!iq (s,x)))∧Grow w O:=by have fA:=dZ w (.cells #[aX s,ae ah x] 147);have hB:=eL.made w 147 #[aX s,ae ah x];have c0:=hB.cell 0;have c1:=hB.cell 1;have W:=FY (w.alloc (.cells #[aX s,ae ah x] 147)) s x hs;go_in;go_wp2_with fail;refine W.mono ?_;rintro e w2 ⟨rfl,fN⟩;go_wp2;go_ret;exact⟨rfl,fA.trans fN⟩
def R3(w:G)(D:aV)(st r:Nat)(z:aQ)(b:Bk)(k sq:Nat)(K:k<4)(qh:sq<=9223372036854775807)(w0:G)(gN:Grow w0 w)(V:aV)(fY:St V w0 [.o (iO st z b)] w0)(W:km r (w0:Nat) (enc k++(enc sq++[])) w):dF N 317 #[st,r,aY true] w λe O=>e=b5 (a_ #[])∧St V w0 [.o (iO st z (b.done k sq))] O:=by
 obtain⟨⟨hz,hq⟩,sl,cu,L⟩:=iO.opn fY;rw[bm] at L;obtain⟨g,Hg⟩:=az (z.getD k 0);have Mu:(Im z sl cu b)[3+k]?=some ((g:E)):=by
  have h4:k=0∨k=1∨k=2∨k=3:=by omega
  rw[Hg.out];rcases h4 with rfl|rfl|rfl|rfl<;>rfl
 have Un:dF N 140 #[r,J 3] w λe O=>e=b5 (J k)∧km r (w0:Nat) _ O∧fX r w O:=tq w r _ k 3 _ ap ap W;go_in;go_wp2_with fail;refine Un.mono ?_;rintro e w1 ⟨rfl,mK,AO⟩;have eO:=ix (B:=0) gN W AO;have hC2:=rh w1 r _ sq _ qh mK;go_wp2_with fail;refine hC2.mono ?_;rintro e w2 ⟨rfl,ig,qM⟩;have fN:=ix (B:=0) eO mK qM;have hD:=pv w2 r _ ig;go_wp2_with fail;refine hD.mono ?_;rintro e w3 ⟨rfl,rfl⟩;have ec:=L.grow fN;have sD:w2.cell? ⟨st,3+k,none⟩=some ((g:E)):=(ec.facts.1.1 (3+k)).trans Mu;go_wp2_with fail;rw[Hg.out];refine (ec.Il (k+3) (S:=aes.eA (z.getD k 0) (b.qu k).l (b.qu k).k) (lS hz hq K) (λ_=>aes.eA.framed _ _ _) ec.no (λU hU kp=>Lw.turns (aes.Fy _ _ _ _ (sq:Int)))).mono ?_;rintro e w4 ⟨_,rfl,eU⟩;have eU:St V w0 (ib st z sl cu (b.done k sq)) w4:=by unfold ib Bk.done;dsimp only;rw[<-tv hz hq K];exact eU
 go_wp2;refine bodyPost_ret (results_none rfl _ _ _) rfl ?_;exact⟨rfl,iO.cls (l:=[]) ⟨hz,by unfold Bk.done;rw[dq];exact hq⟩ (by rw[bm];exact eU)⟩
def NF(w:G)(l:List Dl)(hl:∀d∈l,d.1.size<=1000000):Cu 354 #[] (λd => !iq d) l w:=⟨λvs w=>by kernel_rfl,λO _ d hd=>a2R O d.1 d.2 (hl d hd)⟩
def NG(w:G)(st r:Nat)(z:aQ)(b:Bk)(k sq:Nat)(K:k<4)(qh:sq<=9223372036854775807)(ds:List Dl)(vb:ds.length<=8)(hfd:∀d∈ds,jG d)(hl:b.Lim)(w0:G)(gN:Grow w0 w)(V:aV)(fY:St V w0 [.o (iO st z b)] w0)(W:km r (w0:Nat) (enc k++(enc sq++(enc ds.length++(nC ds++[])))) w):dF N 317 #[st,r,aY false] w λe O=>e=b5 (a_ #[])∧St V w0 [.o (iO st z (b.add k sq ds))] O:=by
 have Un:dF N 140 #[r,J 3] w λe O=>e=b5 (J k)∧km r (w0:Nat) _ O∧fX r w O:=tq w r _ k 3 _ ap ap W;have XU:(ds.any λd => !iq d)=false:=List.any_eq_false.2 λd hd=>by rw[(hfd d hd).1];simp
 go_in;go_wp2_with fail;refine Un.mono ?_;rintro e w1 ⟨rfl,mK,AO⟩;have eO:=ix (B:=0) gN W AO;have hC2:=rh w1 r _ sq _ qh mK;go_wp2_with fail;refine hC2.mono ?_;rintro e w2 ⟨rfl,ig,qM⟩;have fN:=ix (B:=0) eO mK qM;have hC3:dF N 140 #[r,J 8] w2 λe O=>e=b5 (J ds.length)∧km r (w0:Nat) _ O∧fX r w2 O:=tq w2 r _ ds.length 8 _ vb ap ig;go_wp2_with fail;refine hC3.mono ?_;rintro e w3 ⟨rfl,kj,pM⟩;have jU:=ix (B:=0) fN ig pM;have hG:=F_ w3 r _ ds [] kj (λd hd=>(hfd d hd).2) ap;go_wp2_with fail;refine hG.mono ?_;rintro e w4 ⟨A4,c4,rfl,pB,hI4,sr,YZ,UW⟩;have Dg:=ix (B:=0) jU kj UW;have P2:=fY.join (OR.framed A4 ds) Dg (U:=New w3 w4) hI4 (λb hb=>⟨bA jU.size hb.1,hb.2⟩);obtain⟨y,wa,HY,HA,mX⟩:=P2.new' #[J sq,Y A4 ds.length c4] 196;have fA:Grow w4 wa:=by rw[HA.out];exact fc _ _
 go_wp2_with fail;rw[<-HA.out,<-HY.out];have hD:=pv wa r _ (pB.grow fA);go_wp2_with fail;refine hD.mono ?_;rintro e w5 ⟨rfl,rfl⟩;have XV:wa.cell? (y,0)=some (J sq):=mX.facts.1.1 0;have xm:wa.cell? (y,1)=some (Y A4 ds.length c4):=mX.facts.1.1 1;have hCF:=Lq wa _ A4 ds.length c4 ds (In.grow hI4 fA) ap 354 #[] (λd => !iq d) (NF wa ds λd hd=>(lW (hfd d hd)).1);rw[XU] at hCF;go_wp2_with fail;refine hCF.mono ?_;rintro e w6 ⟨rfl,vg⟩;have eS:=mX.grow vg;clear XV xm;have XV:w6.cell? (y,0)=some (J sq):=eS.facts.1.1 0;have xm:w6.cell? (y,1)=some (Y A4 ds.length c4):=eS.facts.1.1 1;go_wp2_with fail;refine (eS.Il 2 rfl (λ_=>iO.framed _ _ _) eS.no (λU hU kp=>Qz w6 (λx=>U x∨False) st z b k K (sq:Int) ds A4 c4 (by obtain⟨U',I,Z⟩:=oI hU 1 rfl;exact In.mono I λb hb => .inl (Z b hb)) sr YZ ap (λx X=>X.elim (kp x) False.elim) (by have:=hl.eW;omega) (by have:=hl.cuts;omega))).mono ?_;rintro e w7 ⟨_,rfl,fQ⟩;go_wp2;go_end0;exact⟨rfl,(fQ.dT 0 rfl).dT 0 rfl⟩
theorem Za(w:G)(D:aV)(st:Nat)(z:aQ)(b:Bk)(x:Rc)(X:x.Ok)(hl:b.Lim)(A:aU)(m c:Nat)(hb:Bytes w (w:Nat) A m x.B)(xR:m<=c)(jg:c<=dL):Lw N D 258 #[st,Y A m c] [.o (iO st z b)] (λ(_:Unit)e=>e=b5 (a_ #[])) (λ_=>[.o (iO st z (b.take x))]) w:=by
 have main:∀(kd:Nat)(kd2:Bool)(t:aT)(b':Bk),x.B=enc kd++t->(kd=3∧kd2=false∨kd=5∧kd2=true)->
  (∀(V:aV),St V w [.o (iO st z b)] w->∀(r:Nat)(w2:G),Grow w w2->km r (w:Nat) t w2->dF N 317 #[st,r,aY kd2] w2 λe O=>e=b5 (a_ #[])∧St V w [.o (iO st z b')] O)->
  Lw N D 258 #[st,Y A m c] [.o (iO st z b)] (λ(_:Unit)e=>e=b5 (a_ #[])) (λ_=>[.o (iO st z b')]) w:=by
  intro kd kd2 t b' e K hc V hM hV;have L:=St.begin_ hM (λb hb=>(hV b hb).1) ⟨iO.framed _ _ _,trivial⟩;rw[e] at hb;have hN:=re w A m c _ hb xR jg;go_in;go_wp2_with fail;refine hN.mono ?_;rintro e w1 ⟨r,rfl,mK,eO⟩;have hU:=kW w1 r _ kd _ ap mK;go_wp2_with fail;refine hU.mono ?_;rintro e w2 ⟨rfl,ig,qM⟩;have fN:=ix (B:=0) eO mK qM;have hC:=hc V L r w2 fN ig;clear hc mK ig hU hN hb;rcases K with ⟨rfl,rfl⟩|⟨rfl,rfl⟩
  all_goals
   go_wp2_with fail
   refine hC.mono ?_
   rintro e w3 ⟨rfl,eh⟩
   go_wp2
   go_end0
   obtain⟨r1,r2⟩:=eh.fin
   exact⟨(),rfl,r1,r2⟩
 cases x with
 | ep n=>exact Ve w D st z b n X A m c hb xR jg
 | eW d=>exact R1 w D st z b d.1 d.2 X hl A m c hb xR jg
 | sh n=>exact Vf w D st z b n X A m c hb xR jg
 | qF k sq ds=>exact main 3 false (enc k++(enc sq++(enc ds.length++(nC ds++[])))) _ (by simp[Rc.B,ic]) (.inl ⟨rfl,rfl⟩) λV L r w2 H W=>NG w2 st r z b k sq X.1 X.2.1 ds X.2.2.1 X.2.2.2 hl w H V L W
 | dn k sq=>exact main 5 true (enc k++(enc sq++[])) _ (by simp[Rc.B,ic]) (.inr ⟨rfl,rfl⟩) λV L r w2 H W=>R3 w2 D st r z b k sq X.1 X.2 w H V L W
structure Bk.Lm(n:Nat)(b:Bk):Prop where
 eW:b.eW.length<=32
 fine:∀d∈b.eW,jG d
 cuts:b.cuts.length<=n
def Bk.Lm.lim{b:Bk}(h:b.Lm n)(hn:n<=1000000):b.Lim:=⟨bA h.eW am,λd hd=>(lW (h.fine d hd)).2,bA h.cuts hn⟩
theorem Bk.Lm.add{n:Nat}{b:Bk}(h:b.Lm n)(k:Nat)(sq:Int)(ds:List Dl):(b.add k sq ds).Lm (n+1):=by
 unfold Bk.add;split;·exact⟨bA (df _ _) h.eW,λd hd=>h.fine d (List.mem_filter.1 hd).1,by have:=h.cuts;simp;omega⟩
 ·exact⟨h.eW,h.fine,dC h.cuts⟩
def yf{l:List Dl}(h:jl l d=0):l.length<32∧iq d=true:=by
 unfold jl at h;split at h;·cases h
 ·rename_i I
  split at h;·cases h
  ·exact⟨by omega,by simpa using I⟩
theorem Bk.Lm.take{n:Nat}{b:Bk}(h:b.Lm n){x:Rc}(X:x.Ok):(b.take x).Lm (n+1):=by
 cases x with
 | ep _=>exact⟨h.eW,h.fine,dC h.cuts⟩
 | sh _=>exact⟨h.eW,h.fine,dC h.cuts⟩
 | dn k sq=>exact⟨h.eW,h.fine,dC h.cuts⟩
 | qF k sq ds=>exact h.add k sq ds
 | eW d=>
   unfold Bk.take;dsimp only;split
   ·rename_i h0
    have I:=(yf h0).1;refine⟨by simp;omega,λe he=>?_,dC h.cuts⟩;rcases List.mem_append.1 he with he|he
    ·exact h.fine e he
    ·rw[List.mem_singleton.1 he];exact X
   ·exact⟨h.eW,h.fine,dC h.cuts⟩
def Vg(w:G)(D:aV)(st:Nat)(z:aQ)(b:Bk)(rs:List Rc)(gS:∀r∈rs,r.Ok)(n:Nat)(hl:b.Lm n)(hn:n+rs.length<=1000000)(A:aU)(q:List Bx)(c:Nat)(hq:Bxs w D D A q.length q)(lL:q.map Bx.bs=rs.map Rc.B)(jv:∀b,D b->b<(w:Nat)):Lw N D 199 #[st,Y A q.length c] [.o (iO st z b)] (λ(_:Unit)e=>e=b5 (a_ #[])) (λ_=>[.o (iO st z (rs.foldl Bk.take b))]) w:=by
 intro V hM hV;have lG:∀x,D x->x<(w:Nat)∧¬ V x:=λx X=>⟨jv x X,λh=>(hV x h).2 X⟩;have L:=St.begin_ hM (λb hb=>(hV b hb).1) ⟨iO.framed _ _ _,trivial⟩;have fp:Hid (q.length=rs.length):=Q (by rw[<-bj (f:=Bx.bs),lL,bj]);go_in;go_wp2_with fail;go_loopw [8] (λi wr=>∃(k:Nat)(b':Bk),k<=q.length∧i=J k∧(rs.drop k).foldl Bk.take b'=rs.foldl Bk.take b∧b'.Lm (n+k)∧St V w [.o (iO st z b')] wr) (λi _=>q.length-(intOf i).toNat);case atStart=>exact⟨0,b,by omega,rfl,rfl,hl,L⟩
 case round=>
  obtain⟨k,b',K,rfl,hb,Iu,L⟩:=hrel;by_cases fM:k<q.length
  ·have Ix:k<rs.length:=by rw[<-fp.out];exact fM
   rw[bR Ix,List.foldl_cons] at hb;have hrk:=gS rs[k] (bD Ix);have hK:∀b,D b->b<(w:Nat)->wr.heap[b]?=w.heap[b]?:=λb hb _=>L.keep lG b hb;have Ih:In wr D 1 A q.length (q.flatMap Bx.cells):=In.keep hq.row hK;obtain⟨ad,E_,rfl,_,nu,e0,_⟩:=In.ni (cells:=Bx.cells) Ih ap yR fM;have I7:=hq.all q[k] (bD fM);have e0:wr.cell? (ad.add (k*1))=some (.slice q[k].A q[k].m q[k].c):=e0 _ rfl;rw[cO] at e0;have TN:Bytes wr (wr:Nat) q[k].A q[k].m rs[k].B:=by
    have e1:q[k].bs=rs[k].B:=by have e2:=congrArg (λl=>l[k]?) lL;simp only[List.getElem?_map,List.getElem?_eq_getElem fM,List.getElem?_eq_getElem Ix,dp,Option.some.injEq] at e2;exact e2
    rw[<-e1];exact In.reads (In.keep I7.bs hK)
   have hT:=λD'=>Za wr D' st z b' rs[k] hrk (Iu.lim ap) q[k].A q[k].m q[k].c TN I7.le I7.max;have a2S:=Iu.take hrk;generalize q[k]=b0 at e0 hT;generalize rs[k]=r0 at hb hT a2S;clear TN I7 hrk Ih;replace hb:=Q hb;go_wp2_with fail;refine (L.at_ 0 rfl (λ_=>iO.framed _ _ _) L.no (hT _)).mono ?_;rintro e w1 ⟨_,rfl,eC⟩;go_wp2_with fail;exact⟨⟨k+1,_,by omega,by go_num,hb.out,a2S,eC⟩,by simp[intOf];omega⟩
  ·have XQ:k=q.length:=by omega
   rw[show rs.drop k=[] from cT (by rw[<-fp.out];omega)] at hb;replace hb:=Q hb;replace XQ:=Q XQ;go_wp2;go_end0;rw[<-hb.out];obtain⟨r1,r2⟩:=L.fin;exact⟨(),rfl,r1,r2⟩
def Vh(w:G):dF N 198 #[] w λe O=>∃(st:Nat)(z:aQ),e=b5 ((st:E))∧iO st z Bk.new O (New w O)∧Grow w O:=by
 refine (QR w).mono ?_;rintro e O ⟨s,z,rfl,hB,H⟩;exact⟨s,[z.a,z.b,z.c,z.d],rfl,⟨⟨rfl,rfl⟩,Y none 0 0,Y none 0 0,by obtain⟨U1,U2,I,⟨U3,U4,T,h4,k1,k2,k3⟩,m1,m2,m3⟩:=hB;exact⟨U1,U2,I,⟨U3,U4,T,⟨λ_=>False,U4,Row.nil,h4,λ_ h=>h.elim,λ_ h=>h,λ_ h=>h.elim⟩,k1,k2,k3⟩,m1,m2,m3⟩⟩,H⟩
end Go.Proofs.YtpeepcmdehhbgaaGreatDoor
section
namespace Go.Hop
open Go.RowKit
def dU.one{aem:ei}(h:aem w V):dU [aem] w V:=⟨V,λ_=>False,h,trivial,λ_ h=>h,λ_ h=>h.elim,λ_ _ h=>h⟩
def dU.one'{aem:ei}(hX:Ya aem)(h:dU [aem] w V):aem w V:=by obtain⟨V1,V2,a,_,c,_⟩:=h;exact hX w V1 V c a
def Solo.opx{P:aV}{S:ei}{l:List ei}(i:Nat)(hi:l[i]?=some S)(hF:fb l)(h:Solo P (dU l) w):∃U:aV,S w U∧(∀b,U b->P b∧b<(w:Nat))∧∀(S':ei)(O:G),S' O (ju U w O)->dP U w O->Solo P (dU (l.set i S')) O∧dP P w O:=by
 obtain⟨h0,V,I,h4⟩:=h;obtain⟨V1,V2,a,b,c,d,e⟩:=dU.pick l i S hi I;refine⟨V1,a,λx X=>h4 x (c x X),λS' O hs hj=>⟨⟨λx X=>h0 x (bA hj.size X),ju V w O,dU.yB l i S S' hi ⟨ju V1 w O,V2,hs,dU.framed _ (λR W=>hF R (dz W)) w O V2 b λx X=>hj.block x (h4 x (d x X)).2 (λI=>e x I X),λx X=>?_,λx X => .inl (d x X),λx X Z=>?_⟩,Pg h4 h0 hj.size⟩,hj.imp λx X=>(h4 x (c x X)).1⟩⟩
 ·rcases X with X|X
  ·exact .inl (c x X)
  ·exact .inr X
 ·rcases X with X|X
  ·exact e x X Z
  ·have:=(h4 x (d x Z)).2;have:=X.1;omega
end Go.Hop
namespace Go.Proofs.YtpeepcmdehhbgaaGreatDoor
open Go.RowKit Go.Hop
structure Pl where
 F:Int
 M:Nat
 B:List Int
abbrev Key:=Int×Int
abbrev Tz:=List (Key×Nat×Pl)
def xy(v:E)(B:aN):ei:=λw V=>Own w V 2 1 v B.length (lI B)
def xy.framed(v:E)(B:aN):eQ (xy v B):=λw O V h K=>Own.keep h K
def Xn(p g:Nat)(v:E)(x:Pl):List ei:=[Cell p 272 #[g,v],Cell g 328 #[J x.F,ae ah x.M],xy v x.B]
def JN(p g:Nat)(v:E)(x:Pl):fb (Xn p g v x):=((fb.nil.cons (xy.framed _ _)).cons (Cell.framed _ _ _)).cons (Cell.framed _ _ _)
def ShT(p:Nat)(x:Pl):ei:=λw V=>∃(g:Nat)(v:E),dU (Xn p g v x) w V
theorem ShT.framed(p:Nat)(x:Pl):eQ (ShT p x):=λw O V ⟨g,v,h⟩ K=>⟨g,v,dU.framed _ (JN _ _ _ _) w O V h K⟩
def j7(aev:Tz):List (Key×E):=aev.map λx=>(x.1,((x.2.1,0):E))
def su(aev:Tz):List ei:=aev.map λx=>ShT x.2.1 x.2.2
def pC(aev:Tz):List (Key×Pl):=aev.map λx=>(x.1,x.2.2)
def w_(aev:Tz):fb (su aev):=λS h=>by obtain⟨x,_,rfl⟩:=List.mem_map.1 h;exact ShT.framed _ _
def nS(aev:Tz):(j7 aev).map Prod.fst=aev.map Prod.fst:=by simp[j7]
def rX(aev:Tz):(pC aev).map Prod.fst=aev.map Prod.fst:=by simp[pC]
def ik(l:List (Key×Pl))(k:Key):Pl:=((l.find? λa=>decide (a.1=k)).map (·.2)).getD ⟨0,0,[]⟩
def jr:List (Key×Pl)->Key->Pl->List (Key×Pl)
 | [],k,x=>[(k,x)]
 | a::l,k,x=>if a.1=k then (k,x)::l else a::jr l k x
theorem R4{L1 L2:List (Key×Pl)}{k:Key}{x:Pl}(h:k ∉ L1.map Prod.fst):ik (L1++(k,x)::L2) k=x:=by
 unfold ik;induction L1 with
 | nil=>simp
 | cons a l ih=>
   have I:¬ a.1=k:=λe=>h (by simp[e]);have Z:k ∉ l.map Prod.fst:=λe=>h (by simp at e ⊢;exact .inr e);rw[cH,List.find?_cons];simp only[I,decide_false];exact ih Z
def JO{l:List (Key×Pl)}{k:Key}(h:k ∉ l.map Prod.fst):ik l k=⟨0,0,[]⟩:=by
 unfold ik;rw[List.find?_eq_none.2 λa ha=>by have:¬ a.1=k:=λe=>h (e▸cW ha);simpa using this]
 rfl
theorem R5{L1 L2:List (Key×Pl)}{k:Key}{x y:Pl}(h:k ∉ L1.map Prod.fst):jr (L1++(k,x)::L2) k y=L1++(k,y)::L2:=by
 induction L1 with
 | nil=>simp[jr]
 | cons a l ih=>
   have I:¬ a.1=k:=λe=>h (by simp[e]);have Z:k ∉ l.map Prod.fst:=λe=>h (by simp at e ⊢;exact .inr e);rw[cH,jr,aB I,ih Z,cH]
theorem JP{l:List (Key×Pl)}{k:Key}{y:Pl}(h:k ∉ l.map Prod.fst):jr l k y=l++[(k,y)]:=by
 induction l with
 | nil=>rfl
 | cons a l ih=>
   have I:¬ a.1=k:=λe=>h (by simp[e]);have Z:k ∉ l.map Prod.fst:=λe=>h (by simp at e ⊢;exact .inr e);rw[jr,aB I,ih Z,cH]
theorem CI(l:List (Key×Pl))(k:Key)(y:Pl)(k':Key):ik (jr l k y) k'=if k'=k then y else ik l k':=by
 unfold ik;induction l with
 | nil=>
   by_cases h:k'=k;·subst h;simp[jr]
   ·rw[aB h]
    have h':¬ k=k':=λe=>h e.symm;simp[jr,h']
 | cons a l ih=>
   by_cases I:a.1=k
   ·rw[jr,aA I]
    by_cases h:k'=k;·subst h;simp
    ·have h':¬ k=k':=λe=>h e.symm
     rw[aB h,List.find?_cons,List.find?_cons];simp[h',I]
   ·rw[jr,aB I,List.find?_cons]
    by_cases Z:a.1=k'
    ·have h:¬ k'=k:=λe=>I (Z.trans e)
     rw[aB h,List.find?_cons];simp[Z]
    ·simp only[Z,decide_false]
     rw[ih,List.find?_cons];simp[Z]
def rr(m s bE bS:Nat)(q:aer.Sm)(gp:List (Int×E))(ie:List (Key×E)):List ei:=[Cell m 138 #[s,.map (some bE),.map (some bS)],aer.iK s q,eR oV bE gp,eR LF bS ie]
def Ec(m s bE bS:Nat)(q:aer.Sm)(gp:List (Int×E))(ie:List (Key×E)):fb (rr m s bE bS q gp ie):=(((fb.nil.cons (eR.framed _ _)).cons (eR.framed _ _)).cons (aer.iK.framed _ _)).cons (Cell.framed _ _ _)
def iI(m:Nat)(q:aer.Sm)(gp:List (Int×E))(lh:List (Key×Pl)):ei:=λw V=>∃s bE bS aev,pC aev=lh∧dU (rr m s bE bS q gp (j7 aev)++[dU (su aev)]) w V
def CJ(m s bE bS:Nat)(q:aer.Sm)(gp:List (Int×E))(aev:Tz):fb (rr m s bE bS q gp (j7 aev)++[dU (su aev)]):=λS h=>by
 rcases List.mem_append.1 h with h|h
 ·exact Ec _ _ _ _ _ _ _ S h
 ·rw[List.mem_singleton.1 h];exact dU.framed _ (w_ aev)
theorem iI.framed(m:Nat)(q:aer.Sm)(gp:List (Int×E))(lh:List (Key×Pl)):eQ (iI m q gp lh):=λw O V ⟨s,bE,bS,aev,e,h⟩ K=>⟨s,bE,bS,aev,e,dU.framed _ (CJ _ _ _ _ _ _ _) w O V h K⟩
theorem iI.wide(m:Nat)(q:aer.Sm)(gp:List (Int×E))(lh:List (Key×Pl)):Ya (iI m q gp lh):=λw U U' hu ⟨s,bE,bS,aev,e,h⟩=>⟨s,bE,bS,aev,e,dU.wide _ w U U' hu h⟩
def g_(m s bE bS p g:Nat)(v:E)(q:aer.Sm)(gp:List (Int×E))(ie:List (Key×E))(F:Int)(M:Nat)(B:aN)(R:ei):List ei:=[Cell m 138 #[s,.map (some bE),.map (some bS)],aer.iK s q,eR oV bE gp,eR LF bS ie,Cell p 272 #[g,v],Cell g 328 #[J F,ae ah M],xy v B,R]
def fL(m s bE bS p g:Nat)(v:E)(q:aer.Sm)(gp:List (Int×E))(ie:List (Key×E))(F:Int)(M:Nat)(B:aN){R:ei}(W:eQ R):fb (g_ m s bE bS p g v q gp ie F M B R):=(((((((fb.nil.cons W).cons (xy.framed _ _)).cons (Cell.framed _ _ _)).cons (Cell.framed _ _ _)).cons (eR.framed _ _)).cons (eR.framed _ _)).cons (aer.iK.framed _ _)).cons (Cell.framed _ _ _)
def tB(k:Key)(lh:List (Key×Pl))(x:Pl)(p:Nat)(ie:List (Key×E))(R:ei):Prop:=∃aev,pC aev=lh∧ie=j7 aev∧((∃L1 L2,aev=L1++(k,p,x)::L2∧k ∉ L1.map Prod.fst∧R=dU (su (L1++L2)))∨(k ∉ aev.map Prod.fst∧R=dU (su aev)))
theorem tB.framed{k:Key}{lh:List (Key×Pl)}{x:Pl}{p:Nat}{ie:List (Key×E)}{R:ei}(h:tB k lh x p ie R):eQ R:=by obtain⟨aev,_,_,⟨L1,L2,_,_,e⟩|⟨_,e⟩⟩:=h<;>rw[e]<;>exact dU.framed _ (w_ _)
def uH{q:aer.Sm}{ie:List (Key×E)}{B:aN}{l:List ei}(h:dU (g_ m s bE bS p g v q gp ie F M B (dU l)) w V):dU (rr m s bE bS q gp ie++[dU (ShT p ⟨F,M,B⟩::l)]) w V:=by refine dU.flat _ ((dU.app (rr m s bE bS q gp ie) (l':=Xn p g v ⟨F,M,B⟩++[dU l]) h).imp (λ_ h=>h) λU h=>dU.one ?_);exact (dU.app (Xn p g v ⟨F,M,B⟩) (l':=[dU l]) h).imp (λU h=>⟨g,v,h⟩) λU h=>dU.one' (dU.wide l) h
def NH{q:aer.Sm}{ie:List (Key×E)}{B:aN}{l:List ei}(h:dU (rr m s bE bS q gp ie++[dU (ShT p ⟨F,M,B⟩::l)]) w V):∃g v,dU (g_ m s bE bS p g v q gp ie F M B (dU l)) w V:=by obtain⟨V1,V2,I,Z,a,b,c⟩:=dU.app (rr m s bE bS q gp ie) h;obtain⟨U1,U2,⟨g,v,T⟩,h4,d,e,f⟩:=dU.one' (dU.wide _) Z;exact⟨g,v,dU.flat (rr m s bE bS q gp ie) (l':=Xn p g v ⟨F,M,B⟩++[dU l]) ⟨V1,V2,I,dU.flat _ ⟨U1,U2,T,dU.one h4,d,e,f⟩,a,b,c⟩⟩
def uI(L1 L2:Tz)(k:Key)(p:Nat)(x:Pl):(ShT p x::su (L1++L2)).Perm (su (L1++(k,p,x)::L2)):=by unfold su;rw[bM,bM,bX];exact List.perm_middle.symm
def yg{aen l l':List ei}(hp:l.Perm l')(h:dU (aen++[dU l]) w V):dU (aen++[dU l']) w V:=dU.flat aen ((dU.app aen h).imp (λ_ h=>h) λU h=>dU.one (dU.perm hp (dU.one' (dU.wide l) h)))
def NI{κ:Type}{ke:κ->E}[DecidableEq κ]{q:List (κ×E)}(h:eR ke b q w V):(q.map Prod.fst).Nodup:=h.2.1
def NJ{k:Key}{lh:List (Key×Pl)}{x:Pl}{q:aer.Sm}{ie:List (Key×E)}{B:aN}{R:ei}(hO:tB k lh x p ie R)(hn:(ie.map Prod.fst).Nodup)(h:dU (g_ m s bE bS p g v q gp (lN ie k ((p:E))) F M B R) w V):iI m q gp (jr lh k ⟨F,M,B⟩) w V:=by
 obtain⟨aev,rfl,rfl,⟨L1,L2,rfl,K,rfl⟩|⟨K,rfl⟩⟩:=hO
 ·refine⟨s,bE,bS,L1++(k,p,⟨F,M,B⟩)::L2,?_,?_⟩
  ·have e:pC (L1++(k,p,x)::L2)=pC L1++(k,x)::pC L2:=by simp[pC]
   rw[e,R5 (by rw[rX];exact K)];simp[pC]
  ·have I:=yg (uI L1 L2 k p ⟨F,M,B⟩) (uH h)
   have e:lN (j7 (L1++(k,p,x)::L2)) k ((p:E))=j7 (L1++(k,p,⟨F,M,B⟩)::L2):=by
    unfold lN;rw[aA (by rw[nS];simp)];rw[nS,bM,bX] at hn;have WE:k ∉ L2.map Prod.fst:=λe=>by have:=(List.nodup_append.1 hn).2.1;exact (List.nodup_cons.1 this).1 e
    have hid:∀aev:Tz,k ∉ aev.map Prod.fst->((j7 aev).map λa=>if a.1=k then (k,Value.pointer (some (p,0))) else a)=j7 aev:=λaev hL=>by
     conv=>rhs;rw[<-List.map_id (j7 aev)]
     refine cP λa ha=>?_;have:¬ a.1=k:=λe=>hL (by rw[<-nS];exact e▸cW ha);rw[aB this];rfl
    have es:∀y:Pl,j7 (L1++(k,p,y)::L2)=j7 L1++(k,(p:E))::j7 L2:=λy=>by simp[j7]
    rw[es,es,bM,bX,hid L1 K,hid L2 WE,aA rfl]
   rw[e] at I;exact I
 ·refine⟨s,bE,bS,aev++[(k,p,⟨F,M,B⟩)],?_,?_⟩
  ·rw[JP (by rw[rX];exact K)]
   simp[pC]
  ·have I:=yg (l':=su (aev++[(k,p,⟨F,M,B⟩)])) (by
    have:=uI aev [] k p ⟨F,M,B⟩;rwa [bm] at this) (uH h)
   rw[Pm _ (by rw[nS];exact K)] at I
   have e:j7 aev++[(k,(p:E))]=j7 (aev++[(k,p,⟨F,M,B⟩)]):=by simp[j7]
   rw[e] at I
   exact I
def nT{k:Key}{lh:List (Key×Pl)}{x:Pl}{q:aer.Sm}{ie:List (Key×E)}{R:ei}(hO:tB k lh x p ie R)(h:dU (g_ m s bE bS p g v q gp ie x.F x.M x.B R) w V):iI m q gp lh w V:=by
 obtain⟨aev,rfl,rfl,⟨L1,L2,rfl,K,rfl⟩|⟨K,rfl⟩⟩:=hO;·exact⟨s,bE,bS,_,rfl,yg (uI L1 L2 k p x) (uH h)⟩
 ·refine⟨s,bE,bS,aev,rfl,?_⟩
  have I:=uH h;exact dU.flat _ ((dU.app (rr m s bE bS q gp (j7 aev)) I).imp (λ_ h=>h) λU h=>dU.one (by obtain⟨U1,hU,hs⟩:=(dU.one' (dU.wide _) h:dU (ShT p ⟨x.F,x.M,x.B⟩::su aev) w U).snd;exact dU.wide _ w U1 U hs hU))
def JQ(w:G):dF N 54 #[] w λe O=>∃m,e=b5 (((m:Nat):E))∧iI m [] [] [] O (New w O)∧Grow w O:=(Nv w).mono λe O ⟨m,I,⟨s,bE,bS,Z⟩,T⟩=>⟨m,I,⟨s,bE,bS,[],rfl,dU.flat _ ⟨New w O,λ_=>False,Z,dU.one trivial,λ_ h=>h,λ_ h=>h.elim,λ_ _ h=>h⟩⟩,T⟩
theorem NK{aev:Tz}{k:Key}(h:k∈aev.map Prod.fst):∃L1 L2 p x,aev=L1++(k,p,x)::L2∧k ∉ L1.map Prod.fst:=by
 induction aev with
 | nil=>simp at h
 | cons a l ih=>
   obtain⟨k',p,x⟩:=a;by_cases e:k'=k;·subst e;exact⟨[],l,p,x,rfl,by simp⟩
   ·have:k∈l.map Prod.fst:=by
     rw[bX] at h;rcases List.mem_cons.1 h with h|h
     ·exact absurd h.symm e
     ·exact h
    obtain⟨L1,L2,p',x',e1,e2⟩:=ih this
    exact⟨(k',p,x)::L1,L2,p',x',by rw[e1];rfl,λh=>by
     rw[bX] at h;rcases List.mem_cons.1 h with h|h
     ·exact e h.symm
     ·exact e2 h⟩
def uJ(w:G)(m:Nat)(q:aer.Sm)(gp:List (Int×E))(lh:List (Key×Pl))(V:aV)(hV:∀b,V b->b<(w:Nat))(ag sh:Int)(h:iI m q gp lh w V):dF N 174 #[m,J ag,J sh] w λe O=>∃s bE bS p g v ie R,e=b5 (((p:Nat):E))∧tB (ag,sh) lh (ik lh (ag,sh)) p ie R∧Grow w O∧∃U,dU (g_ m s bE bS p g v q gp ie (ik lh (ag,sh)).F (ik lh (ag,sh)).M (ik lh (ag,sh)).B R) O U∧∀b,U b->V b∨New w O b:=by
 obtain⟨s,bE,bS,aev,rfl,h⟩:=h;have tK:=(dU.pick _ 0 _ rfl h).fst;obtain⟨_,tK,_⟩:=tK;have Zb:=tK.2;obtain⟨_,hG0,_⟩:=(dU.pick _ 3 _ rfl h).fst;have EO:=eR.look Z3 (t:=136) (et:=268) aw (zS w) hG0 (ag,sh) true;have c2:=Zb.cell 2;by_cases K:(ag,sh)∈aev.map Prod.fst
 ·obtain⟨L1,L2,p,x,rfl,jb⟩:=NK K
  have B5:vm (j7 (L1++((ag,sh),p,x)::L2)) (ag,sh)=some ((p:E)):=by refine IP (j:=L1.length) hG0.2.1 ?_;simp[j7]
  have kc:ik (pC (L1++((ag,sh),p,x)::L2)) (ag,sh)=x:=by
   have e:pC (L1++((ag,sh),p,x)::L2)=pC L1++((ag,sh),x)::pC L2:=by simp[pC]
   rw[e,R4 (by rw[rX];exact jb)]
  have hO:tB (ag,sh) (pC (L1++((ag,sh),p,x)::L2)) x p (j7 (L1++((ag,sh),p,x)::L2)) (dU (su (L1++L2))):=⟨_,rfl,rfl,.inl ⟨L1,L2,rfl,jb,rfl⟩⟩;obtain⟨g,v,hM⟩:=NH (yg (uI L1 L2 (ag,sh) p x).symm h);rw[kc];rw[B5] at EO;simp only[LF,if_true,Option.getD_some,Option.isSome_some] at EO;clear B5 kc K jb hG0 Zb tK h;generalize j7 (L1++((ag,sh),p,x)::L2)=ie at hO hM;generalize pC (L1++((ag,sh),p,x)::L2)=lh at hO;generalize dU (su (L1++L2))=R at hO hM;go_in;go_wp2;go_ret;exact⟨s,bE,bS,p,g,v,ie,R,rfl,hO,Grow.refl _,V,hM,λ_ h => .inl h⟩
 ·have B5:vm (j7 aev) (ag,sh)=none:=yC (by rw[nS];exact K)
  have kc:ik (pC aev) (ag,sh)=⟨0,0,[]⟩:=JO (by rw[rX];exact K);rw[kc];rw[B5] at EO;simp only[LF,if_true] at EO;have hO:∀p,tB (ag,sh) (pC aev) ⟨0,0,[]⟩ p (j7 aev) (dU (su aev)):=λp=>⟨aev,rfl,rfl,.inr ⟨K,rfl⟩⟩;have hFh:=CJ m s bE bS q gp aev;clear B5 kc K hG0 tK;have hN:=aeu.UA w;go_in;go_wp2_with fail;refine hN.mono ?_;rintro e w1 ⟨rfl,hW,eO⟩;go_wp2;go_ret;have hgp:=dZ w1 (.cells #[(((w:Nat),0):E),ay] 272);have hP:=eL.made w1 272 #[(((w:Nat),0):E),ay];generalize tS:w1.alloc (.cells #[(((w:Nat),0):E),ay] 272)=w2 at hgp hP ⊢;have z2:(w2:Nat)=(w1:Nat)+1:=by rw[<-tS];simp
  have Dh:=eO.trans hgp;have hM:=dU.framed _ hFh w w2 V h λb hb=>Dh.block b (hV b hb);have hW2:=hW.grow hgp;have hwl:=hW.lt;have Z:dU (Xn (w1:Nat) (w:Nat) (Y none 0 0) ⟨0,0,[]⟩) w2 (λb=>b=(w1:Nat)∨b=(w:Nat)):=⟨λb=>b=(w1:Nat),λb=>b=(w:Nat),⟨rfl,hP⟩,⟨λb=>b=(w:Nat),λ_=>False,⟨rfl,hW2⟩,dU.one Own.nil,λ_ h=>h,λ_ h=>h.elim,λ_ _ h=>h⟩,λ_ h => .inl h,λ_ h => .inr h,λb I Z=>by omega⟩
  refine⟨s,bE,bS,(w1:Nat),(w:Nat),Y none 0 0,j7 aev,dU (su aev),rfl,hO _,Dh,λb=>V b∨b=(w1:Nat)∨b=(w:Nat),?_,λb hb=>?_⟩
  ·have T:dU ((rr m s bE bS q gp (j7 aev)++[dU (su aev)])++Xn (w1:Nat) (w:Nat) (Y none 0 0) ⟨0,0,[]⟩) w2 (λb=>V b∨b=(w1:Nat)∨b=(w:Nat)):=
    dU.flat _ ⟨V,λb=>b=(w1:Nat)∨b=(w:Nat),hM,Z,λ_ h => .inl h,λ_ h => .inr h,λb I Z=>by have:=hV b I;have:=eO.size;omega⟩
   rw[bp] at T
   exact dU.perm (List.Perm.append_left (rr m s bE bS q gp (j7 aev)) (bg (l₁:=[dU (su aev)]) (l₂:=Xn (w1:Nat) (w:Nat) (Y none 0 0) ⟨0,0,[]⟩))) T
  ·rcases hb with hb|rfl|rfl
   ·exact .inl hb
   ·exact .inr ⟨eO.size,by omega⟩
   ·exact .inr ⟨bh _,by omega⟩
end Go.Proofs.YtpeepcmdehhbgaaGreatDoor
end
