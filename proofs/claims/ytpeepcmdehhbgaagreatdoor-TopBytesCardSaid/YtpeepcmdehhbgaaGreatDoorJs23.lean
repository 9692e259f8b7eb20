/- Vo1, Vo2, Bk2, Vo3, Vo4, Vo5. -/
import Derived.Test.YtpeepcmdehhbgaaGreatDoorJs21
import Derived.Test.YtpeepcmdehhbgaaGreatDoorJs10
set_option linter.all false
set_option maxRecDepth 100000
open Go.Value renaming int->ae,slice->Z,string->aX,bool->aY,agg->aZ,tuple->a_
open Go.Ending renaming returned->b5
open Go.IntKind renaming i64->af,u64->ah
open Go (J az aE aA aB aC aD ay aj am ap aw aL aK aJ aI aH aV aU aT aR aQ aP aO aN)
open Go.Proofs.Tryz renaming prog->W
open Go.Lib renaming hid->Q
open List renaming length_append->bd,length_map->bj,length_take->bn,append_assoc->bp,take_succ_eq_append_getElem->br,length_cons->bD,getElem_mem->bF,map_append->bI,map_cons->bQ,mem_of_mem_take->bW,not_mem_nil->cF,mem_cons->cI,map_nil->cQ,take_length->dq
open Nat renaming le_refl->bh,min_eq_left->cz,mul_le_mul_right->cK
open Go renaming Value->K,World->X,Calls->dz,TypeId->dC,Oper->dE,maxLen->dG
variable{w:X}{x:Nat}{o:dE}{ρ:Go.Operand->K}{n:Int}
namespace Go.Proofs.YtpeepcmdehhbgaaGreatDoor
open RowKit Hop V
def eB(e:En):List UInt8:=enc (pg e).length++pg e
def r_(l:List En):List UInt8:=l.flatMap eB
theorem Wq{e:En}(h:e.Ok):(eB e).length<=9010:=by have:=vZ h;have:=eE (n:=(pg e).length) ap;unfold eB;rw[bd];omega
theorem Je:∀(l:List En),(∀e∈l,e.Ok)->(r_ l).length<=l.length*9010
 | [],_=>by simp[r_]
 | e::l,h=>by
   have I:=Je l λx Y=>h x (by simp[Y]);have G:=Wq (h e (by simp));rw[show r_ (e::l)=eB e++r_ l from rfl,bd,bD];omega
theorem O3(l:List En)(e:En):r_ (l++[e])=r_ l++eB e:=by simp[r_]
theorem xM(w:X)(u:K)(l:aT)(D:aV)(A:aU)(c:Nat)(q:List El)(hu:eM l u w)(hl:l.length<=1048576)(hq:jO w D A q)(gC:∀x∈q,x.e.Ok)(hn:q.length<=1024):dz W 181 #[u,Z A q.length c] w λe O=>∃v,e=b5 v∧Grow w O∧eM (l++enc q.length++r_ (q.map El.e)) v O:=by
 have wq:IntKind.u64.wrap (q.length:Int)=(q.length:Int):=by rw[wrap_u64];omega
 have hP:=ic w u l q.length hu ap ap;have hel:=eE (n:=q.length) ap;obtain⟨L0,Ml⟩:=az (l++enc q.length:aT);rw[<-Ml.out] at hP ⊢;have QN:L0.length<=1048600:=by rw[Ml.out,bd];omega
 go_in;go_wp2_with fail;refine hP.mono ?_;rintro e w1 ⟨v1,rfl,eD,lU⟩;have Fg:=hq.grow eD;go_wp2_with fail;go_loopw [0,16] (λv i wr=>∃k:Nat,k<=q.length∧i=J k∧eM (L0++r_ ((q.take k).map El.e)) v wr∧Grow w1 wr) (λ_ i _=>q.length-(intOf i).toNat);case atStart=>exact⟨0,by omega,rfl,by simpa [r_] using lU,Grow.refl _⟩
 case round=>
  obtain⟨k,oL,rfl,hI,gP⟩:=hrel;by_cases N:k<q.length
  ·have Iy:=Fg.grow gP
   obtain⟨ad,vo,rfl,hV,i4,e0,e1⟩:=Iy.1.mr ap pf N;have jE:=Iy.2 q[k] (bF vo);have vq:q.take (k+1)=q.take k++[q[k]]:=br vo;have hqm:=bF vo;have HS:=Q vq;clear vq;have re:=gC _ hqm;have wu:=Je ((q.take k).map El.e) λe he=>by obtain⟨x,Y,rfl⟩:=List.mem_map.1 he;exact gC x (bW Y)
   rw[bj,bn,cz ap] at wu;have HLL:=Q wu;clear wu hqm;generalize q[k]=b at jE e0 e1 HS re;have ZN:=λw1(eD:Grow wr w1)=>DW w1 b.e D b.A b.c re (In.grow jE.1 eD);have fj:=vZ re;obtain⟨⟨bk,ag,sh,sq,ep,ds,se,fr,tg⟩,Ab,cb⟩:=b;dsimp only[El.cells,En.agg] at e0 e1 ZN;have e1:=e1 0 _ rfl;have e0:=e0 _ rfl;have fu:=dT wr (.cells #[J bk,J ag,J sh,J sq,J ep,Z Ab ds.length cb,aX se,J fr,J tg] 40);have ZN:=ZN _ fu;obtain⟨bs,HB⟩:=az (pg ⟨bk,ag,sh,sq,ep,ds,se,fr,tg⟩:List UInt8);rw[<-HB.out] at ZN fj;clear jE re;go_wp2_with fail;refine ZN.mono ?_;rintro e w2 ⟨v2,rfl,fk,lA⟩;have cv:=IF w2 lA;have hT:=t8 w2 u0 _ ⟨bs.toArray⟩ (hI.below (fu.trans fk)) (by rw[bd];have:=HLL.out;have:=cK 9010 (show k<=1024 by omega);omega) (by show bs.toArray.size<=_;simp;omega);rw[show (ByteArray.mk bs.toArray).size=bs.length by show bs.toArray.size=_;simp,show (ByteArray.mk bs.toArray).data.toList=bs from rfl] at hT;go_wp2_with fail;refine hT.mono ?_;rintro e w3 ⟨v3,rfl,ib,MB⟩;have hb4:eM (L0++r_ ((q.take (k+1)).map El.e)) v3 w3:=by rw[HS.out,bI,bQ,cQ,O3,<-bp];show eM (L0++r_ ((q.take k).map El.e)++(enc (pg ⟨bk,ag,sh,sq,ep,ds,se,fr,tg⟩).length++pg ⟨bk,ag,sh,sq,ep,ds,se,fr,tg⟩)) v3 w3;rw[<-HB.out,<-bp];exact MB
   go_wp2_with fail;go_roundw;case rel=>exact⟨k+1,by omega,by go_num,hb4,gP.trans (fu.trans (fk.trans ib))⟩
   case measure=>simp[intOf];omega
  ·obtain rfl:k=q.length:=by omega
   rw[dq] at hI;go_wp2;go_ret;exact⟨_,rfl,eD.trans gP,hI⟩
def fT(A:aU)(q:List El):dW:=λw V=>jO w V A q
theorem fT.framed(A:aU)(q:List El):eu (fT A q):=λw O V h N=>⟨h.1.keep λb hb _=>N b hb,λx Y=>⟨In.keep (h.2 x Y).1 λb hb _=>N b hb,(h.2 x Y).2⟩⟩
def nC(t h:Nat)(l:List En):List UInt8:=enc t++enc h++enc l.length++r_ l
def lY(t h:Int)(sl:K)(x:Nat):Array K:=#[J t,J h,sl,x]
def Room(bs b:aT):Prop:=b.length<=65536∧bs.length+(frame b).length<=1048576
def DY(size n:Nat)(xs:List K)(u:K)(w:X):Prop:=∃A,u=Z A n n∧In w (λ_=>True) size A n xs
theorem BW(size n:Nat)(xs:List K):QU (DY size n xs):=λu w O ⟨A,e,h⟩ H=>⟨A,e,h.grow H⟩
theorem xN{t:dC}{cs:aP}(h:eJ w x t cs){size n:Nat}(hn:cs.toList.length=n*size):DY size n cs.toList (Z (some ⟨x,0,none⟩) n n) w:=⟨_,rfl,(h.jL hn).mono λ_ _=>trivial⟩
theorem Gx{x y z:Operand}{a b c:Int}(ho:o.op=.buildSlice 72 3 #[(0,x),(1,y),(2,z)])(Y:ρ x=J a)(hy:ρ y=J b)(hz:ρ z=J c):gE W (λu O=>Grow w O∧DY 1 3 [J a,J b,J c] u O) ((execOp ρ o).run W w):=by obtain⟨dst,op,ty,pos,after,guard⟩:=o;simp only at ho;subst ho;exact gv (u := Z (some ⟨(w:Nat),0,none⟩) 3 3) (w:=w.alloc (.cells #[J a,J b,J c] 2)) (by go_simp) ⟨(Below.refl _ w).alloc (bh _) _,xN (eJ.made w _ _) rfl⟩
theorem xO{x:Operand}{s:aR}(ho:o.op=.buildSlice 38 1 #[(0,x)])(Y:ρ x=aZ #[aX s,ae ah n]):gE W (λu O=>Grow w O∧DY 2 1 [aX s,ae ah n] u O) ((execOp ρ o).run W w):=by obtain⟨dst,op,ty,pos,after,guard⟩:=o;simp only at ho;subst ho;exact gv (u := Z (some ⟨(w:Nat),0,none⟩) 1 1) (w:=w.alloc (.cells #[aX s,ae ah n] 147)) (by go_simp) ⟨(Below.refl _ w).alloc (bh _) _,xN (eJ.made w _ _) rfl⟩
theorem KW(w:X)(k n:Nat)(ns:aQ)(u:K)(h:DY 1 n (ns.map λ(x:Nat) => J x) u w)(N:k<18446744073709551616)(hn:n<=8)(hs:∀x∈ns,x<=9223372036854775807):dz W 259 #[ae ah k,u] w λe O=>∃v,e=b5 v∧Grow w O∧eM (iJ k ns) v O:=by obtain⟨A,rfl,h⟩:=h;exact mR w k A n n ns _ h N hn hs
theorem S6(w:X)(u v:K)(l:aT)(n:Nat)(ds:List Dl)(hu:eM l u w)(hl:l.length<=1048576)(hd:DY 2 n (fm ds) v w)(hn:n<=1048576)(hs:∀d∈ds,Small d):dz W 299 #[u,v] w λe O=>∃v,e=b5 v∧Grow w O∧eM (l++o7 ds) v O:=by obtain⟨A,rfl,h⟩:=hd;exact uE w u l _ A n n ds hu hl h hn hs
theorem DZ(k:Nat)(ns:aQ)(N:k<18446744073709551616)(h:∀x∈ns,x<18446744073709551616):(iJ k ns).length<=10+ns.length*10:=by have:=eE N;have:=tj ns h;unfold iJ;rw[bd];omega
theorem D_(w:X)(s:aR)(x:Nat)(hs:Small (s,x)):dz W 279 #[aZ #[aX s,ae ah x]] w λe O=>∃v,e=b5 v∧Grow w O∧eM (iJ 2 []++o7 [(s,x)]) v O:=by
 have fu:=dT w (.cells #[aX s,ae ah x] 147);have gU:=eJ.made w 147 #[aX s,ae ah x];obtain⟨y,HY⟩:=az ((w:Nat):Nat);obtain⟨wa,lZ⟩:=az (w.alloc (.cells #[aX s,ae ah x] 147):X);rw[<-lZ.out] at fu gU;rw[<-HY.out] at gU;have hl:=DZ 2 [] am (by simp);have sB:∀d∈[(s,x)],Small d:=λd hd=>by rw[List.mem_singleton.1 hd];exact hs
 go_in;go_wp2_with fail;rw[<-lZ.out,<-HY.out];have gd:Grow wa wa.drew:=(Grow.refl _).drew;refine dJ rfl ?_;refine fC (Grow wa) [] 5 rfl [1] ?_;refine eV rfl gd (λw1 H R T=>by have c0:=(gU.grow H).cell 0;have c1:=(gU.grow H).cell 1;go_simp;exact T) ?_;refine Rv 0 2 [] [] rfl rfl ?_ ?_;case' refine_1=>
  go_wp2_with fail;refine (mR _ 2 none 0 0 [] (λ_=>True) In.nil am am (by simp)).mono ?_;rintro en u1 ⟨v3,rfl,pO,lU⟩;replace pO:=gd.trans pO;go_wp2_with fail;refine⟨λ_=>pO,?_⟩;refine eZ 2 [] rfl ?_;refine fV rfl (xO (x := .tmp 4) rfl rfl) ?_;rintro v5 u2 ⟨ng,hb5⟩;replace lU:=lU.below ng;replace ng:=pO.trans ng;go_wp2_with fail;refine⟨λ_=>ng,?_⟩
 case' refine_2=>
  refine fV rfl (xO (x := .tmp 4) rfl rfl) ?_;rintro v5 u0 ⟨ng,hb5⟩;replace ng:=gd.trans ng;go_wp2_with fail;refine⟨λ_=>ng,?_⟩;refine eZ 0 [] rfl ?_;go_wp2_with fail;refine (mR _ 2 none 0 0 [] (λ_=>True) In.nil am am (by simp)).mono ?_;rintro en u1 ⟨v3,rfl,pO,lU⟩;replace hb5:=BW _ _ _ _ _ _ hb5 pO;replace ng:=ng.trans pO;go_wp2_with fail;refine⟨λ_=>ng,?_⟩
 all_goals
  refine eZ 3 [] rfl ?_
  go_wp2_with fail
  refine (S6 _ v3 v5 _ 1 [(s,x)] lU (by simp at hl;omega) hb5 am sB).mono ?_
  rintro en w1 ⟨v6,rfl,H,hE⟩
  replace H:=ng.trans H
  go_wp2_with fail
  refine⟨λ_=>H,?_⟩
  refine eZ 4 [] rfl ?_
  go_wp2_with fail
  refine⟨λ_=>H,?_⟩
  refine gj ?_
  go_wp2
  go_ret
  exact⟨_,rfl,fu.trans H,hE⟩
theorem Gy(w:X)(k sq:Nat)(A:aU)(n c:Nat)(ds:List Dl)(D:aV)(hd:jM w D A n ds)(hn:n<=8)(N:k<=9223372036854775807)(pi:sq<=9223372036854775807)(hs:∀d∈ds,Small d):dz W 336 #[J k,aZ #[J sq,Z A n c]] w λe O=>∃v,e=b5 v∧Grow w O∧eM (iJ 3 [k,sq,n]++o7 ds) v O:=by
 have fu:=dT w (.cells #[J sq,Z A n c] 196);have gU:=eJ.made w 196 #[J sq,Z A n c];obtain⟨y,HY⟩:=az ((w:Nat):Nat);obtain⟨wa,lZ⟩:=az (w.alloc (.cells #[J sq,Z A n c] 196):X);rw[<-lZ.out] at fu gU;rw[<-HY.out] at gU;have hda:=In.grow hd fu;have hl:=DZ 3 [k,sq,n] am (by intro x Y;simp only[cI,cF,or_false] at Y;omega);have Be:(iJ 3 [k,sq,n]).length<=1048576:=by simp at hl;omega
 clear hl;go_in;go_wp2_with fail;rw[<-lZ.out,<-HY.out];have gd:Grow wa wa.drew:=(Grow.refl _).drew;refine dJ rfl ?_;refine gi (Grow wa) 12 rfl ?_;refine held 0 rfl gd (λw1 E R T=>by have c0:=(gU.grow E).cell 0;have c1:=(gU.grow E).cell 1;go_simp;exact T) ?_;refine held 1 rfl gd (λw1 E R T=>by have c0:=(gU.grow E).cell 0;have c1:=(gU.grow E).cell 1;go_simp;exact T) ?_;refine held 2 rfl gd (λw1 E R T=>by have c0:=(gU.grow E).cell 0;have c1:=(gU.grow E).cell 1;go_simp;exact T) ?_;refine held 3 rfl gd (λw1 E R T=>by have c0:=(gU.grow E).cell 0;have c1:=(gU.grow E).cell 1;go_simp;exact T) ?_;refine held 4 rfl gd (λw1 E R T=>by have c0:=(gU.grow E).cell 0;have c1:=(gU.grow E).cell 1;go_simp;exact T) ?_;refine held 5 rfl gd (λw1 E R T=>by have c0:=(gU.grow E).cell 0;have c1:=(gU.grow E).cell 1;go_simp;exact T) ?_;refine held 8 rfl gd (λw1 E R T=>by have c0:=(gU.grow E).cell 0;have c1:=(gU.grow E).cell 1;go_simp;exact T) ?_;refine held 9 rfl gd (λw1 E R T=>by have c0:=(gU.grow E).cell 0;have c1:=(gU.grow E).cell 1;go_simp;exact T) ?_;refine dY 6 rfl ?_;refine fV rfl (Gx (x := .tmp 5) (y := .tmp 7) (z := .tmp 10) rfl rfl rfl rfl) ?_;rintro v11 u0 ⟨gl,hb0⟩;replace gl:=gd.trans gl;go_wp2_with fail;refine⟨gl,?_⟩;refine dY 7 rfl ?_;go_wp2_with fail;refine (KW u0 3 3 [k,sq,n] v11 hb0 am am (by intro x Y;simp only[cI,cF,or_false] at Y;omega)).mono ?_;rintro en u1 ⟨v12,rfl,eD,lU⟩;replace eD:=gl.trans eD;go_wp2_with fail;refine⟨eD,?_⟩;refine dY 10 rfl ?_;go_wp2_with fail;refine (uE u1 v12 _ D A n c ds lU Be (In.grow hda eD) ap hs).mono ?_;rintro en w1 ⟨v15,rfl,H,hE⟩;replace H:=eD.trans H;go_wp2_with fail;refine⟨H,?_⟩;refine held 11 rfl H (λw1 E=>aM) ?_;refine eU ?_;go_wp2;go_ret;exact⟨_,rfl,fu.trans H,hE⟩
def gG(s x d t h:Nat)(es:List En)(n:Int)(bs:aT):dW:=λw V=>∃(A:aU)(c:Nat)(q:List El),q.map El.e=es∧q.length<=c∧c<=dG∧dN [fT A q,Cell s 206 (lY t h (Z A q.length c) x),eC x d n bs bs.length] w V
theorem BX(A:aU)(q:List El)(s x d:Nat)(cs:aP)(n:Int)(bs:aT)(k:Nat):eG [fT A q,Cell s 206 cs,eC x d n bs k]:=((eG.nil.cons (eC.framed _ _ _ _ _)).cons (Cell.framed _ _ _)).cons (fT.framed _ _)
theorem gG.framed(s x d t h:Nat)(es:List En)(n:Int)(bs:aT):eu (gG s x d t h es n bs):=λw O V ⟨A,c,q,I,G,L,h4⟩ N=>⟨A,c,q,I,G,L,dN.framed _ (BX _ _ _ _ _ _ _ _ _) w O V h4 N⟩
theorem gG.cells{s d t h:Nat}{es:List En}{bs:aT}{V:aV}(hS:gG s x d t h es n bs w V):∃(A:aU)(c:Nat)(q:List El),q.map El.e=es∧q.length<=c∧c<=dG∧(∃D,jO w D A q)∧eJ w s 206 (lY t h (Z A q.length c) x):=by obtain⟨A,c,q,I,G,L,V1,V2,hE,⟨V3,V4,hB,_⟩,_⟩:=hS;exact⟨A,c,q,I,G,L,⟨V1,hE⟩,hB.2⟩
theorem AE(w:X)(s x d t h:Nat)(es:List En)(n:Int)(bs:aT)(V:aV)(hS:gG s x d t h es n bs w V):dz W 56 #[s] w λe O=>e=b5 (J t)∧w=O:=by obtain⟨A,c,q,_,_,_,_,hB⟩:=hS.cells;unfold lY at hB;have c0:=hB.cell 0;go_in;go_wp2;go_ret;exact⟨rfl,rfl⟩
theorem E3(w:X)(s x d t h:Nat)(es:List En)(n:Int)(bs:aT)(V:aV)(hS:gG s x d t h es n bs w V):dz W 61 #[s] w λe O=>e=b5 (J h)∧w=O:=by obtain⟨A,c,q,_,_,_,_,hB⟩:=hS.cells;unfold lY at hB;have c0:=hB.cell 1;go_in;go_wp2;go_ret;exact⟨rfl,rfl⟩
theorem tp(w:X)(s x d t h:Nat)(es:List En)(n:Int)(bs:aT)(V:aV)(hS:gG s x d t h es n bs w V):dz W 108 #[s] w λe O=>e=b5 (J es.length)∧w=O:=by
 obtain⟨A,c,q,hq,_,_,_,hB⟩:=hS.cells;have hl:es.length=q.length:=by rw[<-hq,bj]
 unfold lY at hB;have c0:=hB.cell 2;rw[hl];clear hl;go_in;go_wp2;go_ret;exact⟨rfl,rfl⟩
theorem qd(w:X)(s x d t h:Nat)(es:List En)(n:Int)(bs:aT)(V:aV)(hS:gG s x d t h es n bs w V)(hn:es.length<=1048576):dz W 62 #[s] w λe O=>∃u,e=b5 u∧Ja es w u O∧(∃A',u=Z A' es.length es.length)∧Grow w O:=by
 obtain⟨A,c,q,hq,_,_,⟨D,hE⟩,hB⟩:=hS.cells;have hl:es.length=q.length:=by rw[<-hq,bj]
 have hC:=mQ w D A c q hE ap;rw[hq,<-hl] at hC;unfold lY at hB;rw[<-hl] at hB;have c0:=hB.cell 2;clear hl;go_in;go_wp2_with fail;refine hC.mono ?_;rintro e w1 ⟨u,rfl,hI,hu,H⟩;go_wp2;go_ret;exact⟨u,rfl,hI,hu,H⟩
end Go.Proofs.YtpeepcmdehhbgaaGreatDoor
