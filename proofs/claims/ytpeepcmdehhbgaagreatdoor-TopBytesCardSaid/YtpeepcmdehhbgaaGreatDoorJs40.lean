/- Wl1, Wl2, Wl3, Wl4, Wl5, Wl6, Wl7, Wl8, Wl9. -/
import Derived.Test.YtpeepcmdehhbgaaGreatDoorJs37
import Derived.Test.YtpeepcmdehhbgaaGreatDoorJs39
set_option linter.all false
set_option maxRecDepth 100000
open Go.Value renaming int->ae,slice->Z,string->aX,bool->aY,agg->aZ,tuple->a_
open Go.Ending renaming returned->b5
open Go.IntKind renaming i64->af,u64->ah
open Go (J az aE aA aB aC aD ay aj am ap aw aL aK aJ aI aH aV aU aT aR aQ aP aO aN)
open Go.Proofs.Tryz renaming prog->W,underlying45->bG,underlying77->bX
open Go.Lib renaming hid->Q
open Nat renaming le_of_ble_eq_true->bf,le_refl->bh,zero_le->bo,min_eq_left->cz,mul_le_mul_right->cK
open List renaming perm_append_comm->bg,length_map->bj,append_assoc->bp,getElem_mem->bF,map_append->bI,flatMap_cons->bJ,drop_eq_getElem_cons->bP,range->bV,nil_append->ch,cons_append->cD,map_congr_left->cO,drop_eq_nil_of_le->cR,mem_map_of_mem->cT,length_range->da,getElem_map->di
open Int renaming toNat_of_nonneg->cP
open Go renaming Value->K,World->X,Calls->dz,Addr->dA,TypeId->dC,Program->dD,Oper->dE,maxLen->dG
open Go.Hop (Bl)
variable{i n:Nat}{w w0 O:X}{V D:aV}{l:List Bl}{args:aP}
section
namespace Go.Hop
open Go.RowKit
theorem Lw.obj{P:dD}{f:FuncId}{ι κ:Type}{C:ι->Ending->Prop}{S:dW}{S':ι->dW}{o:κ->List Bl}{o':κ->ι->List Bl}{ex:ι->List Bl}
 (hS:∀U,S w U->∃k,dN (px (o k)) w U∧Lw P D f args (o k) C (λi=>ex i++o' k i) w) (yP:∀k i w U,dN (px (o' k i)) w U->S' i w U):Lw P D f args [.o S] C (λi=>ex i++[.o (S' i)]) w:=λV hM hV=>by obtain⟨U,_,hU,_,k1,_⟩:=hM;obtain⟨k,N,hL⟩:=hS U hU;refine (hL U N λb hb=>hV b (k1 b hb)).mono λe O ⟨i,hC,Va,hj⟩=>⟨i,hC,?_,hj.imp k1⟩;rw[kE] at Va ⊢;obtain⟨U1,U2,hA,hB,j1,j2,j3⟩:=dN.app _ Va;exact dN.flat _ ⟨U1,U2,hA,⟨U2,λ_=>False,yP k i O U2 hB,trivial,λ_ h=>h,λ_ h=>h.elim,λ_ _ h=>h⟩,λb hb=>(j1 b hb).imp (k1 b) id,λb hb=>(j2 b hb).imp (k1 b) id,j3⟩
end Go.Hop
namespace Go.Proofs.YtpeepcmdehhbgaaGreatDoor
open Go.RowKit Go.Hop V
def tX(r d:Nat)(x:Rp):dW:=λw V=>∃(p:pj)(g:Nat),p.r=r∧p.d=d∧dN (px (dP p g x)) w V
theorem tX.framed(r d:Nat)(x:Rp):eu (tX r d x):=λw O V ⟨p,g,I,G,L⟩ N=>⟨p,g,I,G,dN.framed _ (fP (eL p g x)) w O V L N⟩
def CN(a d:Nat)(x:Ag):dW:=λw V=>∃p:vE,p.a=a∧p.d=d∧dN (px (dR p x)) w V
theorem CN.framed(a d:Nat)(x:Ag):eu (CN a d x):=λw O V ⟨p,I,G,L⟩ N=>⟨p,I,G,dN.framed _ (fP (fB p x)) w O V L N⟩
abbrev PG(r d:Nat):={ z:pj×Nat // z.1.r=r∧z.1.d=d }
abbrev PA(a d:Nat):={ z:vE // z.a=a∧z.d=d }
section
variable{f:FuncId}{r d:Nat}{ι:Type}{C:ι->Ending->Prop}{ex:ι->List Bl}
theorem Pg{x:Rp}{x':ι->Rp}(h:∀p g,p.r=r->Lw W D f args (dP p g x) C (λi=>ex i++dP p g (x' i)) w):Lw W D f args [.o (tX r d x)] C (λi=>ex i++[.o (tX r d (x' i))]) w:=Lw.obj (κ:=PG r d) (o:=λk=>dP k.1.1 k.1.2 x) (o':=λk i=>dP k.1.1 k.1.2 (x' i)) (λ_ ⟨p,g,I,G,L⟩=>⟨⟨(p,g),I,G⟩,L,h p g I⟩) λk _ _ _ hM=>⟨k.1.1,k.1.2,k.2.1,k.2.2,hM⟩
theorem Xr{x:Ag}{x':ι->Ag}(h:∀p,p.a=r->Lw W D f args (dR p x) C (λi=>ex i++dR p (x' i)) w):Lw W D f args [.o (CN r d x)] C (λi=>ex i++[.o (CN r d (x' i))]) w:=Lw.obj (κ:=PA r d) (o:=λk=>dR k.1 x) (o':=λk i=>dR k.1 (x' i)) (λ_ ⟨p,I,G,L⟩=>⟨⟨p,I,G⟩,L,h p I⟩) λk _ _ _ hM=>⟨k.1,k.2.1,k.2.2,hM⟩
end
def Rp.recv(x:Rp)(f:Int)(m:Ms):Rp×Sends:=
 if m.k=1 then x.ask f m.e
 else if ¬ x.hears f then (x,[])
 else if m.k=3 then x.prepare f m.term.toNat
 else if m.k=4 then ji x f.toNat m.term.toNat m.had.toNat m.log
 else if m.k=5 then x.accept f m.term.toNat m.log m.commit.toNat
 else if m.k=6 then mV x f.toNat m.term.toNat m.len.toNat
 else (x,[])
theorem Xs(w:X)(D:aV)(r d:Nat)(x:Rp)(Y:x.Ok)(f:Int)(m:Ms)(A:aU)(c:Nat)(A2:aU)(c2:Nat)(q:List El)(h:m.Gd)(hA:m.k≠1->A=none∧c=0)(qZ:m.k≠4->m.k≠5->A2=none∧c2=0)(hI:Sd.In w D ⟨0,m,A,c,A2,q,c2⟩)(j6:∀b,D b->b<(w:Nat)):Lw W D 19 #[r,J f,aZ (mH m A c A2 c2)] [.o (tX r d x)] (λ(j:K×List Sd)en=>en=b5 j.1∧eS j.2=(x.recv f m).2) (λj=>[.o (dS j.1 j.2)]++[.o (tX r d (x.recv f m).1)]) w:=by
 refine Pg (ex:=λ(j:K×List Sd)=>[.o (dS j.1 j.2)]) (x':=λ_=>(x.recv f m).1) λp g hp=>?_;subst hp;show Lw W D 19 _ (dP p g x) _ (λ(j:K×List Sd) => .o (dS j.1 j.2)::dP p g (x.recv f m).1) w;have ig:q.length=m.log.length:=by rw[<-hI.eq,bj]
 have vv:(∀e∈m.log,e.Ok)->∀x∈q,x.e.Ok:=λh x Y=>h x.e (hI.eq▸cT Y);by_cases hf:x.hears f
 ·cases h with
  | ask e h=>
    obtain⟨rfl,rfl⟩:=qZ (show (1:Int)≠4 by decide) (show (1:Int)≠5 by decide);exact Ep w D p g x Y f e A c hI.e h j6
  | ans tg co n I G L=>
    obtain⟨rfl,rfl⟩:=hA (show (2:Int)≠1 by decide);have e:x.recv f (fx (tg:Int) (co:Int) n)=vF x:=by show (if (2:Int)=1 then _ else if ¬ x.hears f then _ else if (2:Int)=3 then _ else if (2:Int)=4 then _ else if (2:Int)=5 then _ else if (2:Int)=6 then _ else (x,[]))=_;rw[aB am,aB (λh=>h hf),aB am,aB am,aB am,aB am];rfl
    rw[e];have:=OY w D p g x Y f hf tg co n I G L A2 c2 q (qZ (show (2:Int)≠4 by decide) (show (2:Int)≠5 by decide)) hI.q (List.length_eq_zero_iff.1 ig) j6;obtain⟨rfl,rfl⟩:=qZ (show (2:Int)≠4 by decide) (show (2:Int)≠5 by decide);exact this
  | vD t h=>
    obtain⟨rfl,rfl⟩:=hA (show (3:Int)≠1 by decide);have e:x.recv f (jX t)=x.prepare f t:=by show (if (3:Int)=1 then _ else if ¬ x.hears f then _ else if (3:Int)=3 then x.prepare f ((t:Int)).toNat else _)=_;rw[aB am,aB (λh=>h hf),aA rfl];rfl
    rw[e];have:=LA w D p g x Y f hf t h A2 c2 q (qZ (show (3:Int)≠4 by decide) (show (3:Int)≠5 by decide)) hI.q (List.length_eq_zero_iff.1 ig) j6;obtain⟨rfl,rfl⟩:=qZ (show (3:Int)≠4 by decide) (show (3:Int)≠5 by decide);exact this
  | prom t ha l I G L h4=>
    obtain⟨rfl,rfl⟩:=hA (show (4:Int)≠1 by decide);have e:x.recv f (i9 t ha l)=ji x f.toNat t ha l:=by show (if (4:Int)=1 then _ else if ¬ x.hears f then _ else if (4:Int)=3 then _ else if (4:Int)=4 then ji x f.toNat ((t:Int)).toNat ((ha:Int)).toNat l else _)=_;rw[aB am,aB (λh=>h hf),aB am,aA rfl];rfl
    rw[e];have:=LC w D p g x Y f hf t ha I G A2 c2 q hI.q (vv L) (by rw[ig];exact h4) j6;rw[show q.map El.e=l from hI.eq,ig] at this;exact this
  | acc t l cm I G L h4=>
    obtain⟨rfl,rfl⟩:=hA (show (5:Int)≠1 by decide);have e:x.recv f (kR t l cm)=x.accept f t l cm:=by show (if (5:Int)=1 then _ else if ¬ x.hears f then _ else if (5:Int)=3 then _ else if (5:Int)=4 then _ else if (5:Int)=5 then x.accept f ((t:Int)).toNat l ((cm:Int)).toNat else _)=_;rw[aB am,aB (λh=>h hf),aB am,aB am,aA rfl];rfl
    rw[e];have:=OZ w D p g x Y f hf t cm I G A2 c2 q hI.q (vv L) (by rw[ig];exact h4) j6;rw[show q.map El.e=l from hI.eq,ig] at this;exact this
  | Mq t n I G=>
    obtain⟨rfl,rfl⟩:=hA (show (6:Int)≠1 by decide);have e:x.recv f (m8 t n)=mV x f.toNat t n:=by show (if (6:Int)=1 then _ else if ¬ x.hears f then _ else if (6:Int)=3 then _ else if (6:Int)=4 then _ else if (6:Int)=5 then _ else if (6:Int)=6 then mV x f.toNat ((t:Int)).toNat ((n:Int)).toNat else _)=_;rw[aB am,aB (λh=>h hf),aB am,aB am,aB am,aA rfl];rfl
    rw[e];have:=O_ w D p g x Y f hf t n I G A2 c2 q (qZ (show (6:Int)≠4 by decide) (show (6:Int)≠5 by decide)) hI.q (List.length_eq_zero_iff.1 ig) j6;obtain⟨rfl,rfl⟩:=qZ (show (6:Int)≠4 by decide) (show (6:Int)≠5 by decide);exact this
 ·by_cases N:m.k=1
  ·cases h with
   | ask e h=>
     obtain⟨rfl,rfl⟩:=qZ (show (1:Int)≠4 by decide) (show (1:Int)≠5 by decide);exact Ep w D p g x Y f e A c hI.e h j6
   | ans=>exact absurd N (show (2:Int)≠1 by decide)
   | vD=>exact absurd N (show (3:Int)≠1 by decide)
   | prom=>exact absurd N (show (4:Int)≠1 by decide)
   | acc=>exact absurd N (show (5:Int)≠1 by decide)
   | Mq=>exact absurd N (show (6:Int)≠1 by decide)
  ·have e:x.recv f m=vF x:=by unfold Rp.recv;rw[aB N,aA hf];rfl
   rw[e];exact OX w D p g x f hf m A c A2 c2 q h N (hA N) qZ hI.e.1 hI.q hI.eq j6
end Go.Proofs.YtpeepcmdehhbgaaGreatDoor
end
namespace Go.Proofs.YtpeepcmdehhbgaaGreatDoor
open RowKit Hop V
abbrev Lt3:=Nat×Nat×Ms
def jY(l:Lt3):Ne.Lb:=((l.1:Int),(l.2.1:Int),mB l.2.2)
structure Wl where
 (nr na:Nat) (rp:Nat->Rp) (ag:Nat->Ag) (net:List Lt3) (cut:aO)
def Wl.nn(x:Wl):Nat:=x.nr+x.na
def at_{α:Type}(f:Nat->α)(i:Nat)(y:α):Nat->α:=λj=>if j=i then y else f j
theorem nK{α:Type}(f:Nat->α)(i:Nat)(y:α):at_ f i y i=y:=aA rfl
def il(nn node:Nat):List Lt3->Sends->List Lt3
 | net,[]=>net
 | net,(to,m)::l=>il nn node (if kX m=true∧(0<=to∧to<nn)∧net.length<64 then net++[(node,to.toNat,m)] else net) l
def Wl.send(x:Wl)(node:Nat)(l:Sends):Wl:={ x with net:=il x.nn node x.net l }
structure my where
 (w rb ab db g rc ac dc:Nat) (ru au du:aP) (r a d:Nat->Nat)
def ptr(p:Nat):K := (p:K)
def wlC(P:my)(x:Wl):Array K:=#[Z (some ⟨P.rb,0,none⟩) x.nr P.rc,Z (some ⟨P.ab,0,none⟩) x.na P.ac,Z (some ⟨P.db,0,none⟩) x.nn P.dc,ptr P.g]
def oF(P:my)(x:Wl):List Bl:=(bV x.nr).map λi => .o (tX (P.r i) (P.d i) (x.rp i))
def rq(P:my)(x:Wl):List Bl:=(bV x.na).map λi => .o (CN (P.a i) (P.d (x.nr+i)) (x.ag i))
def dL(P:my)(x:Wl):List Bl := .c P.w 159 (wlC P x)::.c P.rb 24 P.ru::.c P.ab 105 P.au::.c P.db 26 P.du::.o (Ne.fc P.g (x.nn:Int) (x.net.map jY) x.cut)::(oF P x++rq P x)
theorem S_(P:my)(x:Wl):pF (oF P x):=pT λb hb=>by obtain⟨i,_,rfl⟩:=List.mem_map.1 hb;exact tX.framed _ _ _
theorem T0(P:my)(x:Wl):pF (rq P x):=pT λb hb=>by obtain⟨i,_,rfl⟩:=List.mem_map.1 hb;exact CN.framed _ _ _
theorem fe(P:my)(x:Wl):pF (dL P x):=⟨trivial,trivial,trivial,trivial,Ne.fc.framed _ _ _ _,lz (S_ P x) (T0 P x)⟩
structure pM(P:my)(x:Wl):Prop where
 n:1<=x.nr∧x.nn<=8
 r:∀i,i<x.nr->P.ru[i]?=some (ptr (P.r i))
 a:∀i,i<x.na->P.au[i]?=some (ptr (P.a i))
 d:∀i,i<x.nn->P.du[i]?=some (ptr (P.d i))
 c:x.nr<=P.rc∧x.na<=P.ac∧x.nn<=P.dc
 m:P.rc<=dG∧P.ac<=dG∧P.dc<=dG
def iw(abq:Nat)(x:Wl):dW:=λw V=>∃P:my,P.w=abq∧pM P x∧dN (px (dL P x)) w V
theorem iw.framed(abq:Nat)(x:Wl):eu (iw abq x):=λw O V ⟨P,I,G,L⟩ N=>⟨P,I,G,dN.framed _ (fP (fe P x)) w O V L N⟩
section
variable{abq:Nat}{x:Wl}{P:my}
theorem iw.opn(h:St V w0 (.o (iw abq x)::l) w):∃P,P.w=abq∧pM P x∧St V w0 (dL P x++l) w:=by obtain⟨⟨P,I,G⟩,L⟩:=St.opn (κ:={ P:my // P.w=abq∧pM P x }) (o:=λP=>dL P.1 x) h λU ⟨P,I,G,L⟩=>⟨⟨P,I,G⟩,L,fe _ _⟩;exact⟨P,I,G,L⟩
theorem iw.cls(hP:P.w=abq)(hQ:pM P x)(h:St V w0 (dL P x++l) w):St V w0 (.o (iw abq x)::l) w:=h.cls (iw.framed _ _) λ_ hM=>⟨P,hP,hQ,hM⟩
theorem Ph(P:my)(x:Wl)(hi:i<x.nr)(l:List Bl):(dL P x++l)[5+i]?=some (.o (tX (P.r i) (P.d i) (x.rp i))):=by rw[show 5+i=i+1+1+1+1+1 by omega];show ((oF P x++rq P x)++l)[i]?=_;rw[bp,List.getElem?_append_left (by simp[oF];exact hi)];simp[oF,hi]
theorem a0K(P:my)(x:Wl)(hi:i<x.na)(l:List Bl):(dL P x++l)[5+(x.nr+i)]?=some (.o (CN (P.a i) (P.d (x.nr+i)) (x.ag i))):=by rw[show 5+(x.nr+i)=(x.nr+i)+1+1+1+1+1 by omega];show ((oF P x++rq P x)++l)[x.nr+i]?=_;rw[bp,List.getElem?_append_right (by simp[oF])];simp only[oF,bj,da,Nat.add_sub_cancel_left];rw[List.getElem?_append_left (by simp[rq];exact hi)];simp[rq,hi]
theorem B1{α:Type}(f:Nat->α)(hi:i<n)(y:α):((bV n).map f).set i y=(bV n).map (at_ f i y):=by
 apply List.ext_getElem?;intro j;rw[List.getElem?_set];by_cases hj:i=j;·subst hj;simp[hi,at_]
 ·rw[aB hj]
  by_cases h:j<n;·simp[h,at_,Ne.symm hj]
  ·simp[h]
theorem B4(P:my)(x:Wl)(hi:i<x.nr)(y:Rp)(l:List Bl):(dL P x++l).set (5+i) (.o (tX (P.r i) (P.d i) y))=dL P { x with rp:=at_ x.rp i y }++l:=by
 rw[show 5+i=i+1+1+1+1+1 by omega];show _::_::_::_::_::((oF P x++rq P x)++l).set i _=_;rw[bp,List.set_append_left _ _ (by simp[oF];exact hi)];have e:(oF P x).set i (.o (tX (P.r i) (P.d i) y))=oF P { x with rp:=at_ x.rp i y }:=by
  unfold oF;rw[B1 _ hi];apply cO;intro j hj;unfold at_;split;·rename_i h;rw[h];simp
  ·rename_i h;simp[h]
 rw[e];unfold dL;simp only[cD,bp];rfl
theorem LR(P:my)(x:Wl)(hi:i<x.na)(y:Ag)(l:List Bl):(dL P x++l).set (5+(x.nr+i)) (.o (CN (P.a i) (P.d (x.nr+i)) y))=dL P { x with ag:=at_ x.ag i y }++l:=by
 rw[show 5+(x.nr+i)=(x.nr+i)+1+1+1+1+1 by omega];show _::_::_::_::_::((oF P x++rq P x)++l).set (x.nr+i) _=_;rw[bp,List.set_append_right _ _ (by simp[oF])];simp only[oF,bj,da,Nat.add_sub_cancel_left];rw[List.set_append_left _ _ (by simp[rq];exact hi)];have e:(rq P x).set i (.o (CN (P.a i) (P.d (x.nr+i)) y))=rq P { x with ag:=at_ x.ag i y }:=by
  unfold rq;rw[B1 _ hi];apply cO;intro j hj;unfold at_;split;·rename_i h;rw[h];simp
  ·rename_i h;simp[h]
 rw[e];unfold dL;simp only[cD,bp];rfl
structure Pj(P:my)(x:Wl)(w:X):Prop where
 w0:w.cell? ⟨P.w,0,none⟩=some (Z (some ⟨P.rb,0,none⟩) x.nr P.rc)
 w1:w.cell? ⟨P.w,1,none⟩=some (Z (some ⟨P.ab,0,none⟩) x.na P.ac)
 w2:w.cell? ⟨P.w,2,none⟩=some (Z (some ⟨P.db,0,none⟩) x.nn P.dc)
 w3:w.cell? ⟨P.w,3,none⟩=some (ptr P.g)
 r:∀i,i<x.nr->w.cell? ⟨P.rb,i,none⟩=some (ptr (P.r i))
 a:∀i,i<x.na->w.cell? ⟨P.ab,i,none⟩=some (ptr (P.a i))
 d:∀i,i<x.nn->w.cell? ⟨P.db,i,none⟩=some (ptr (P.d i))
theorem iM(h:St V w0 (dL P x++l) w)(hQ:pM P x):Pj P x w:=by have f0:=h.facts.1.1;have f1:=h.facts.2.1.1;have f2:=h.facts.2.2.1.1;have f3:=h.facts.2.2.2.1.1;exact⟨f0 0,f0 1,f0 2,f0 3,λi hi=>(f1 i).trans (hQ.r i hi),λi hi=>(f2 i).trans (hQ.a i hi),λi hi=>(f3 i).trans (hQ.d i hi)⟩
end
set_option maxRecDepth 100000
section
variable{P:my}{x:Wl}
theorem qT(hF:Pj P x w)(hQ:pM P x)(hi:i<x.nr):dz W 31 #[.pointer (some ⟨P.w,0,none⟩),J i] w λe O=>e=b5 (ptr (P.r i))∧w=O:=by have c0:=hF.w0;have c1:=hF.r i hi;have d1:decide ((i:Int)<0)=false:=aD ap;have d2:decide (x.nr<=i)=false:=aD ap;have E:=hQ.c;clear hF hQ E;unfold ptr at *;generalize x.nr=n at *;go_in;go_wp2;go_ret;exact⟨rfl,rfl⟩
theorem EE(hF:Pj P x w){i:Int}(hi:i<0∨(x.nr:Int)<=i):dz W 31 #[.pointer (some ⟨P.w,0,none⟩),J i] w λe O=>e=b5 (.pointer none)∧w=O:=by
 have c0:=hF.w0;clear hF;generalize x.nr=n at *;by_cases h0:i<0
 ·have d1:decide (i<0)=true:=aC h0
  clear hi h0;go_in;go_wp2;go_ret;exact⟨rfl,rfl⟩
 ·have d1:decide (i<0)=false:=aD h0
  have d2:decide ((n:Int)<=i)=true:=aC ap;clear hi h0;go_in;go_wp2;go_ret;exact⟨rfl,rfl⟩
theorem nL(hF:Pj P x w)(hQ:pM P x)(hi:i<x.na):dz W 47 #[.pointer (some ⟨P.w,0,none⟩),J i] w λe O=>e=b5 (ptr (P.a i))∧w=O:=by have c0:=hF.w1;have c1:=hF.a i hi;have d1:decide ((i:Int)<0)=false:=aD ap;have d2:decide (x.na<=i)=false:=aD ap;have E:=hQ.c;clear hF hQ E;unfold ptr at *;generalize x.na=n at *;go_in;go_wp2;go_ret;exact⟨rfl,rfl⟩
theorem yt(hF:Pj P x w)(hQ:pM P x)(hi:i<x.nn):dz W 106 #[.pointer (some ⟨P.w,0,none⟩),J i] w λe O=>e=b5 (ptr (P.d i))∧w=O:=by have c0:=hF.w2;have c1:=hF.d i hi;have d1:decide ((i:Int)<0)=false:=aD ap;have d2:decide (x.nn<=i)=false:=aD ap;have E:=hQ.c;clear hF hQ E;unfold ptr at *;generalize x.nn=n at *;go_in;go_wp2;go_ret;exact⟨rfl,rfl⟩
theorem T3(hF:Pj P x w):dz W 37 #[.pointer (some ⟨P.w,0,none⟩)] w λe O=>e=b5 (ptr P.g)∧w=O:=by have c0:=hF.w3;clear hF;unfold ptr at *;go_in;go_wp2;go_ret;exact⟨rfl,rfl⟩
theorem Cg(hF:Pj P x w):dz W 91 #[.pointer (some ⟨P.w,0,none⟩)] w λe O=>e=b5 (J x.nr)∧w=O:=by have c0:=hF.w0;clear hF;go_in;go_wp2;go_ret;exact⟨rfl,rfl⟩
theorem Hk(hF:Pj P x w):dz W 90 #[.pointer (some ⟨P.w,0,none⟩)] w λe O=>e=b5 (J x.na)∧w=O:=by have c0:=hF.w1;clear hF;go_in;go_wp2;go_ret;exact⟨rfl,rfl⟩
theorem qp(hF:Pj P x w)(hQ:pM P x)(hi:i<x.na):dz W 207 #[.pointer (some ⟨P.w,0,none⟩),J ((x.nr+i:Nat):Int)] w λe O=>e=b5 (ptr (P.a i))∧w=O:=by
 have hA:=nL hF hQ hi;have c0:=hF.w0;have hn:=hQ.n;have hnn:x.nn=x.nr+x.na:=rfl;have d1:decide (((x.nr+i:Nat):Int)<0)=false:=aD ap;have hw:IntKind.i64.wrap (((x.nr+i:Nat):Int)-(x.nr:Int))=(i:Int):=by rw[IntKind.wrap_i64];omega
 clear hF hQ hn hnn;unfold ptr at *;generalize x.nr+i=j at *;go_in;go_wp2_with fail;refine hA.mono ?_;rintro e w1 ⟨rfl,rfl⟩;go_wp2;go_ret;exact⟨rfl,rfl⟩
end
theorem _root_.Go.Hop.eJ.Xt{g:Nat}{t:dC}{vs:List K}(h:eJ w g t vs.toArray)(b:Nat)(cs:List K)(E:(vs.drop b).take cs.length=cs):w.rangeAt g b cs:=λj u hu=>by have hj:j<cs.length:=(List.getElem?_eq_some_iff.1 hu).1;rw[<-E,List.getElem?_take,aA hj,List.getElem?_drop] at hu;rw[h.cell];simpa using hu
theorem Jy{α:Type}(cells:α->List K)(size:Nat)(hl:∀a,(cells a).length=size):∀(q:List α)(k:Nat)(N:k<q.length),((q.flatMap cells).drop (k*size)).take size=cells q[k]
 | [],k,N=>absurd N (by simp)
 | a::q,0,_=>by
   rw[Nat.zero_mul,List.drop_zero,bJ,List.take_left' (hl a)];rfl
 | a::q,k+1,N=>by
   rw[bJ,show (k+1)*size=(cells a).length+k*size by rw[hl,Nat.succ_mul];omega,List.drop_append];rw[cR ap,ch,show (cells a).length+k*size-(cells a).length=k*size by omega];exact Jy cells size hl q k (by simpa using N)
theorem EF{u:K}{q:List Sd}(hS:St V w0 l w)(i:Nat)(hi:l[i]?=some (.o (dS u q))){k:Nat}(N:k<q.length):∃(g cap:Nat),u=Z (some ⟨g,0,none⟩) q.length cap∧(q.length<=cap∧cap<=dG)∧w.rangeAt g (k*19) q[k].cells∧∃U:aV,Sd.In w U q[k]∧∀b,U b->b<(w:Nat):=by
 obtain⟨U,hU,fS⟩:=hS.own.see i (iD hi);obtain⟨R,D,I,G,L,h4⟩:=hU;rcases I.2 with ⟨_,h0⟩|⟨g,cap,cur,rfl,_,H,E,hm,_,ht⟩
 ·omega
 ·refine⟨g,cap,rfl,⟨E,hm⟩,?_,D,G _ (bF N),λb hb=>(fS b (h4 b hb)).2⟩
  have hB:eJ w g 218 cur.toList.toArray:=by rw[Array.toArray_toList];exact H
  refine hB.Xt (k*19) _ ?_;rw[show q[k].cells.length=19 from rfl];have h5:=Jy Sd.cells 19 xY q k N;rw[<-ht,List.drop_take,List.take_take,cz (by have:(k+1)*19<=q.length*19:=cK _ N;omega)] at h5;exact h5
theorem Xu{l:aT}{A:aU}(h:Bytes w (w:Nat) A n l):Ne.Mj w (λb=>b<(w:Nat)) A n l:=Reads.jL h (bh _) λ_ h=>h
theorem Pk(nn node:Nat)(net:List Lt3)(to:Int)(m:Ms)(hn:node<nn):Ne.J8 (nn:Int) (net.map jY) ((node:Int),to,mB m)=(if (0<=to∧to<nn)∧net.length<64 then net++[(node,to.toNat,m)] else net).map jY:=by
 have e0:Ne.iy (nn:Int) (node:Int)=true:=Ne.oh ⟨by omega,by omega⟩;unfold Ne.J8 Ne.J7;dsimp only;rw[e0,aB (show ¬ (true=false) by decide),bj];by_cases I:0<=to∧to<(nn:Int)
 ·rw[Ne.oh I,aB (show ¬ (true=false) by decide)]
  by_cases G:64<=net.length;·rw[aA G,aB (show ¬ ((24:Int)=0) by decide),aB ap]
  ·rw[aB G,aA rfl,aA ⟨I,by omega⟩,bI]
   show _=_++[(_,_,_)];rw[cP I.1]
 ·rw[aA (Ne.Da I),aB (show ¬ ((23:Int)=0) by decide),aB (λh=>I h.1)]
theorem pM.net{P:my}{x:Wl}(h:pM P x)(net:List Lt3):pM P { x with net:=net }:=⟨h.n,h.r,h.a,h.d,h.c,h.m⟩
set_option maxRecDepth 100000
set_option maxHeartbeats 1000000
theorem qt(w:X)(D:aV)(P:my)(x:Wl)(hQ:pM P x)(node:Nat)(hn:node<x.nn)(u:K)(q:List Sd)(H:∀s∈q,s.m.Gd)(hq:q.length<=1048576):Lw W D 158 #[.pointer (some ⟨P.w,0,none⟩),J node,u] (dL P x++[.o (dS u q)]) (λ(_:Unit)e=>e=b5 (a_ #[])) (λ_=>dL P (x.send node (eS q))) w:=by
 obtain⟨R,HR⟩:=az (x.send node (eS q));rw[<-HR.out];intro V hM hV;have hS:=St.begin_ hM (λb hb=>(hV b hb).1) (lz (fe P x) ⟨dS.framed _ _,trivial⟩);obtain⟨A0,c0,rfl,_⟩:∃A c,u=Z A q.length c∧True:=by obtain⟨A,c,h,_⟩:=xZ (hS.perm bg);exact⟨A,c,h,trivial⟩
 replace hS:=hS.perm bg;go_in;go_wp2_with fail;go_loopw [12] (λi wr=>∃(k:Nat)(net:List Lt3),k<=q.length∧i=J k∧Hid (R={ x with net:=il x.nn node net (eS (q.drop k)) })∧St V w (.o (dS (Z A0 q.length c0) q)::dL P { x with net:=net }) wr) (λi _=>q.length-(intOf i).toNat);case atStart=>exact⟨0,x.net,bo _,rfl,HR,hS⟩
 case round=>
  obtain⟨k,net,N,rfl,T,ej⟩:=hrel;by_cases fS:k<q.length
  ·have dk:decide (k<q.length)=true:=aC fS
   obtain⟨g,cap,hu,_,X_,U,Mf,jR⟩:=EF ej 0 rfl fS;injection hu with hu1 hu2 hu3;subst hu1 hu3;have tT:=H _ (bF fS);have Z8:q.drop k=q[k]::q.drop (k+1):=bP fS;rw[Z8] at T;replace H:=Q H;clear Z8;obtain⟨s,Hs⟩:∃s,Hid (q[k]=s):=⟨_,Q rfl⟩;rw[Hs.out] at X_ Mf tT T;go_wp2_with (refine pC rfl 218 _ rfl g (k*19) rfl s.cells X_ Tryz.underlying218 aw ?_;refine stay ?_);refine dI ?_;go_wp2_with (refine kf rfl (xV _ _ _ rfl) ?_;intro y w2 lS fk hz2 z6;refine stay ?_);refine dI ?_;have dV:=ej.made fk lS (Nat.le_of_eq hz2);go_wp2_with (refine d_ dV 0 rfl 218 _ _ rfl 0 rfl s.cells rfl (bf rfl) rfl aw s.cells.toArray rfl rfl ?_;intro w3 dX;refine stay ?_);refine dI ?_;obtain⟨g',cap',hu',_,_,U',Pm,a5y⟩:=EF dX 1 rfl fS;rw[Hs.out] at Pm;have hM:=P9 w3 U' s.m s.A s.c s.A2 s.c2 s.q tT Pm.e.1 Pm.q Pm.eq;have hr3:=(dX.blk 0 rfl).range 1 (s.m.cells s.A s.c s.A2 s.c2) rfl;clear hu' Mf Pm jR a5y X_ ej dV lS fk hz2 z6;go_wp2_with (refine pC rfl 45 _ rfl y 1 rfl (s.m.cells s.A s.c s.A2 s.c2) hr3 bG aw ?_);refine hM.mono ?_;rintro e w4 ⟨Bi,nh⟩;have eO:=dX.grow Bi;clear hM hr3 dX;rcases nh with ⟨sv,v,rfl,A5,m5,c5,rfl,gU,a5z,a5A⟩|⟨sv,v,rfl⟩
   ·go_wp2_with fail
    have eW:=eO.grow (Grow.refl _).drew;have gD:∀net O,St V w (.c y 218 s.cells.toArray::.o (dS (Z (some ⟨g,0,none⟩) q.length c0) q)::dL P { x with net:=net }) O->O.cell? ⟨P.w,3,none⟩=some (.pointer (some ⟨P.g,0,none⟩))∧O.cell? ⟨y,0,none⟩=some (J s.to):=λnet O h=>⟨(h.front 2 rfl).facts.1.1 3,h.facts.1.1 0⟩;have eA:=gD net _ eW;refine dJ rfl ?_;refine fC (λO=>O.cell? ⟨P.w,3,none⟩=some (.pointer (some ⟨P.g,0,none⟩))∧O.cell? ⟨y,0,none⟩=some (J s.to)) [] 10 rfl [0,1,2,3,4,5,6,7,8] ?_;iterate 9 (refine eV rfl eA (λw1 ⟨I,G⟩=>aM) ?_)
    refine eZ 9 [] rfl ?_;go_wp2_with fail;refine (eW.Fo 6 rfl (λ_=>Ne.fc.framed _ _ _ _) eW.no (λU' _ _=>Lw.turns (Ne.NJ w4.drew _ P.g (x.nn:Int) (net.map jY) x.cut (node:Int) s.to A5 m5 c5 (mB s.m) (Xu (gU.below (Grow.refl w4).drew)) a5z a5A (by have I:=gU.len;have G:=of_decide_eq_true sv;have L:=Oi (jj s.m) G;have h4:(mB s.m).length=(frame (jj s.m)).length:=rfl;omega)))).mono ?_;rintro e w6 ⟨_,rfl,eN⟩;rw[Pk _ _ _ _ _ hn] at eN;replace eN:St V w (.c y 218 s.cells.toArray::.o (dS (Z (some ⟨g,0,none⟩) q.length c0) q)::dL P { x with net:=if (0<=s.to∧s.to<(x.nn:Int))∧net.length<64 then net++[(node,s.to.toNat,s.m)] else net }) w6:=eN;have fH:=eN.drop;go_wp2_with fail;refine⟨λ_=>gD _ _ eN,?_⟩;refine gj ?_;go_wp2_with fail;exact⟨⟨k+1,_,by omega,by go_num,Q (by rw[T.out];show Wl.mk x.nr x.na x.rp x.ag (il x.nn node net (s.fn::eS (q.drop (k+1)))) x.cut=_;show Wl.mk _ _ _ _ (il x.nn node (if kX s.m=true∧(0<=s.to∧s.to<(x.nn:Int))∧net.length<64 then net++[(node,s.to.toNat,s.m)] else net) _) _=_;simp only[sv,true_and]),fH⟩,by simp[intOf];omega⟩
   ·have fH:=eO.drop
    go_wp2_with fail;refine⟨?_,?_⟩;case refine_1=>
     exact⟨k+1,net,by omega,by go_num,Q (by rw[T.out];show Wl.mk x.nr x.na x.rp x.ag (il x.nn node net (s.fn::eS (q.drop (k+1)))) x.cut=_;show Wl.mk _ _ _ _ (il x.nn node (if kX s.m=true∧(0<=s.to∧s.to<(x.nn:Int))∧net.length<64 then net++[(node,s.to.toNat,s.m)] else net) _) _=_;rw[aB (by rw[sv];simp)]),fH⟩
    case refine_2=>simp[intOf];omega
  ·obtain rfl:k=q.length:=by omega
   have dk:decide (q.length<q.length)=false:=aD fS;rw[List.drop_length] at T;go_wp2;go_end0;obtain⟨r1,r2⟩:=ej.drop.fin;rw[T.out];exact⟨(),rfl,r1,r2⟩
structure Ev where
 (why node code:Int) (id:lp) (n:Nat) (bag:Int)
def Ev.zero:Ev:=⟨0,0,0,(0,0,0),0,0⟩
def kB(e:Ev):Array K:=#[J e.why,J e.node,J e.code,J e.id.1,J e.id.2.1,J e.id.2.2,ae ah e.n,J e.bag]
structure Ac where
 (k a b n:Int) (s:aR)
def j8(a:Ac):Array K:=#[J a.k,J a.a,J a.b,J a.n,aX a.s]
def Wl.jx(x:Wl)(i:Nat)(y:Ag):Wl:={ x with ag:=at_ x.ag i y }
def Wl.qv(x:Wl)(i:Nat)(y:Rp):Wl:={ x with rp:=at_ x.rp i y }
theorem pM.jx{P:my}{x:Wl}(h:pM P x)(i:Nat)(y:Ag):pM P (x.jx i y):=⟨h.n,h.r,h.a,h.d,h.c,h.m⟩
theorem pM.qv{P:my}{x:Wl}(h:pM P x)(i:Nat)(y:Rp):pM P (x.qv i y):=⟨h.n,h.r,h.a,h.d,h.c,h.m⟩
section
variable{P:my}{x:Wl}{f:FuncId}{ι:Type}{C:ι->Ending->Prop}{ex:ι->List Bl}
theorem lr(h:St V w0 (dL P x++l) w)(hi:i<x.na){y:ι->Ag}(hex:∀j,pF (ex j))(E:∀(U:aV)(p:vE),p.a=P.a i->(∀b,U b->b<(w:Nat))->Lw W U f args (dR p (x.ag i)) C (λj=>ex j++dR p (y j)) w):dz W f args w λe O=>∃j,C j e∧St V w0 (ex j++(dL P (x.jx i (y j))++l)) O:=by
 have hat:=a0K P x hi l;have I:=h.front _ hat
 refine (St.py (a:=[.o (CN (P.a i) (P.d (x.nr+i)) (x.ag i))]) (a':=λj=>ex j++[.o (CN (P.a i) (P.d (x.nr+i)) (y j))]) (b:=(dL P x++l).eraseIdx (5+(x.nr+i))) I (λj=>lz (hex j) (show pF [.o (CN (P.a i) (P.d (x.nr+i)) (y j))] from ⟨CN.framed _ _ _,trivial⟩)) I.no (λU hU jR=>Xr (λp hp=>E _ p hp (λb hb=>hb.elim (jR b) False.elim)))).mono ?_;rintro e O ⟨j,hC,hS⟩;refine⟨j,hC,?_⟩;have e2:=LR P x hi (y j) l;rw[show dL P (x.jx i (y j))++l=_ from e2.symm];refine hS.perm ?_;rw[bp];exact List.Perm.append_left _ (iG hat).symm
theorem B5(h:St V w0 (dL P x++l) w)(hi:i<x.nr){y:ι->Rp}(hex:∀j,pF (ex j))(E:∀U:aV,(∀b,U b->b<(w:Nat))->Lw W U f args [.o (tX (P.r i) (P.d i) (x.rp i))] C (λj=>ex j++[.o (tX (P.r i) (P.d i) (y j))]) w):dz W f args w λe O=>∃j,C j e∧St V w0 (ex j++(dL P (x.qv i (y j))++l)) O:=by
 have hat:=Ph P x hi l;have I:=h.front _ hat
 refine (St.py (a:=[.o (tX (P.r i) (P.d i) (x.rp i))]) (a':=λj=>ex j++[.o (tX (P.r i) (P.d i) (y j))]) (b:=(dL P x++l).eraseIdx (5+i)) I (λj=>lz (hex j) (show pF [.o (tX (P.r i) (P.d i) (y j))] from ⟨tX.framed _ _ _,trivial⟩)) I.no (λU hU jR=>E _ (λb hb=>hb.elim (jR b) False.elim))).mono ?_;rintro e O ⟨j,hC,hS⟩;refine⟨j,hC,?_⟩;have e2:=B4 P x hi (y j) l;rw[show dL P (x.qv i (y j))++l=_ from e2.symm];refine hS.perm ?_;rw[bp];exact List.Perm.append_left _ (iG hat).symm
end
set_option maxRecDepth 100000
set_option maxHeartbeats 1000000
theorem EG(w:X)(D:aV)(P:my)(x:Wl)(hQ:pM P x)(i:Nat)(hi:i<x.na)(Y:(x.ag i).Ok)(b:Int)(n:Nat)(s:aR)(hs:s.size<=1000000)(hn:n<=9223372036854775807):Lw W D 159 #[.pointer (some ⟨P.w,0,none⟩),aZ (j8 ⟨9,((x.nr+i:Nat):Int),b,(n:Int),s⟩)] (dL P x) (λ(_:Unit)e=>e=b5 (aZ (kB { Ev.zero with why:=((x.ag i).fX (s,n)).2 }))) (λ_=>dL P (x.jx i ((x.ag i).fX (s,n)).1)) w:=by
 obtain⟨j,Hj⟩:=az (((x.nr+i:Nat):Int));rw[<-Hj.out];intro V hM hV;have fN:=St.begin_ hM (λb hb=>(hV b hb).1) (fe P x);obtain⟨y,wa,HY,HA,ej⟩:=fN.new' (j8 ⟨9,j,b,(n:Int),s⟩) 75;obtain⟨z,wb,HZ,HB,dV⟩:=ej.new' aH 77;have ez:z=y+1:=by rw[HZ.out,HA.out,HY.out];simp
 replace dV:=dV.perm (bg (l₁:=[_,_]) (l₂:=dL P x));have hF:=iM dV hQ;have Bj:=qp hF hQ hi;rw[<-Hj.out] at Bj;have hy:=(dV.perm (bg (l₂:=[_,_]))).facts.2.1.1;have y0:wb.cell? ⟨y,0,none⟩=some (J 9):=hy 0;have y3:wb.cell? ⟨y,3,none⟩=some (J n):=hy 3;have y4:wb.cell? ⟨y,4,none⟩=some (aX s):=hy 4;have dn:decide ((n:Int)<0)=false:=aD ap;have hw:IntKind.u64.wrap (n:Int)=(n:Int):=by rw[wrap_u64];omega
 have hpA:ptr (P.a i)=.pointer (some ⟨P.a i,0,none⟩):=rfl;unfold j8 at HA ⊢;dsimp only at HA ⊢;clear hF hy;go_in;go_wp2_with fail;rw[<-HA.out,<-HB.out,<-HY.out,<-ez];refine Bj.mono ?_;rintro e w1 ⟨rfl,rfl⟩;rw[hpA];clear Bj HA HB HY HZ ez fN ej;go_wp2_with fail;refine (lr (ι:=Unit) (ex:=λ_=>[]) dV hi (λ_=>trivial) (λU p hp jR=>by rw[<-hp];exact Ls wb U p (x.ag i) Y s n hs ap)).mono ?_;rintro e w2 ⟨_,rfl,dX⟩;replace dX:=dX.perm (bg (l₁:=dL P _) (l₂:=[_,_]));go_wp2_with (refine d_ dX 0 rfl 77 _ _ rfl 0 rfl [J ((x.ag i).fX (s,n)).2,(),(),(),(),(),ae ah 0,()] rfl (bf rfl) rfl aw (kB { Ev.zero with why:=((x.ag i).fX (s,n)).2 }) rfl rfl ?_;intro w3 eO;refine stay ?_);refine dI ?_;go_wp2;refine bodyPost_ret (fy rfl _ z rfl (eO.blk 0 rfl) bX aw) rfl ?_;obtain⟨r1,r2⟩:=(eO.drop.drop).fin;exact⟨(),rfl,r1,r2⟩
theorem Hl(w:X)(D:aV)(P:my)(x:Wl)(hQ:pM P x)(i:Nat)(hi:i<x.na)(Y:(x.ag i).Ok)(b n:Int)(s:aR):Lw W D 159 #[.pointer (some ⟨P.w,0,none⟩),aZ (j8 ⟨10,((x.nr+i:Nat):Int),b,n,s⟩)] (dL P x) (λ(_:Unit)e=>e=b5 (aZ (kB { Ev.zero with code:=((x.ag i).cut.2.length:Int) }))) (λ_=>dL P (x.jx i (x.ag i).cut.1)) w:=by
 obtain⟨j,Hj⟩:=az (((x.nr+i:Nat):Int));rw[<-Hj.out];intro V hM hV;have fN:=St.begin_ hM (λb hb=>(hV b hb).1) (fe P x);obtain⟨y,wa,HY,HA,ej⟩:=fN.new' (j8 ⟨10,j,b,n,s⟩) 75;obtain⟨z,wb,HZ,HB,dV⟩:=ej.new' aH 77;have ez:z=y+1:=by rw[HZ.out,HA.out,HY.out];simp
 replace dV:=dV.perm (bg (l₁:=[_,_]) (l₂:=dL P x));have hF:=iM dV hQ;have Bj:=qp hF hQ hi;rw[<-Hj.out] at Bj;have hy:=(dV.perm (bg (l₂:=[_,_]))).facts.2.1.1;have y0:wb.cell? ⟨y,0,none⟩=some (J 10):=hy 0;have hpA:ptr (P.a i)=.pointer (some ⟨P.a i,0,none⟩):=rfl;unfold j8 at HA ⊢;dsimp only at HA ⊢;clear hF hy;go_in;go_wp2_with fail;rw[<-HA.out,<-HB.out,<-HY.out,<-ez];refine Bj.mono ?_;rintro e w1 ⟨rfl,rfl⟩;rw[hpA];clear Bj HA HB HY HZ ez fN ej;go_wp2_with fail;refine (lr (ι:=K) (ex:=λu=>[.o (mW (x.ag i).node u (x.ag i).cut.2)]) (y:=λ_=>(x.ag i).cut.1) dV hi (λ_=>⟨mW.framed _ _ _,trivial⟩) (λU p hp jR=>by rw[<-hp];exact Xb wb U p (x.ag i) Y)).mono ?_;rintro e w2 ⟨u,rfl,dX⟩;obtain⟨Au,cu,rfl,_⟩:=fK.nW dX 0 rfl;replace dX:=dX.drop;replace dX:=dX.perm (bg (l₁:=dL P _) (l₂:=[_,_]));go_wp2_with (refine d_ dX 0 rfl 77 _ _ rfl 0 rfl [(),(),J ((x.ag i).cut.2.length:Int),(),(),(),ae ah 0,()] rfl (bf rfl) rfl aw (kB { Ev.zero with code:=((x.ag i).cut.2.length:Int) }) rfl rfl ?_;intro w3 eO;refine stay ?_);refine dI ?_;go_wp2;refine bodyPost_ret (fy rfl _ z rfl (eO.blk 0 rfl) bX aw) rfl ?_;obtain⟨r1,r2⟩:=(eO.drop.drop).fin;exact⟨(),rfl,r1,r2⟩
theorem Pn(w:X)(ρ:Operand->K)(o:dE)(x:Operand)(ho:o.op=.buildSlice 30 1 #[(0,x)])(s:Sd)(Y:ρ x=aZ s.cells.toArray):(execOp ρ o).run W w=.ok (.value (Z (some ⟨(w:Nat),0,none⟩) 1 1)) (w.alloc (.cells s.cells.toArray 218)):=by obtain⟨dst,op,ty,pos,after,guard⟩:=o;simp only at ho;subst ho;obtain⟨to,⟨mk,⟨ek,ag,sh,sq,ep,ds,se,fr,tg⟩,tag,code,n,term,had,log,commit,len⟩,Am,cm,A2,qq,c2⟩:=s;unfold Sd.cells Ms.cells at *;dsimp only at *;go_simp
set_option maxRecDepth 100000
set_option maxHeartbeats 1000000
theorem LS(w:X)(D:aV)(P:my)(x:Wl)(hQ:pM P x)(i:Nat)(hi:i<x.na)(b n:Int)(s:aR)(hs:s.size<=1000)(hp:abn.fW s=0)(ht:(x.ag i).tag<=4611686018427387904)(pJ:(x.ag i).node<8):Lw W D 159 #[.pointer (some ⟨P.w,0,none⟩),aZ (j8 ⟨13,((x.nr+i:Nat):Int),b,n,s⟩)] (dL P x) (λ(_:Unit)e=>e=b5 (aZ (kB Ev.zero))) (λ_=>dL P ((x.jx i ((x.ag i).look s).1).send (x.nr+i) [((x.ag i).last,gp (kq s (x.ag i).node ((x.ag i).tag+1)))])) w:=by
 obtain⟨j,Hj⟩:=az (((x.nr+i:Nat):Int));rw[<-Hj.out];intro V hM hV;have fN:=St.begin_ hM (λb hb=>(hV b hb).1) (fe P x);obtain⟨y,wa,HY,HA,ej⟩:=fN.new' (j8 ⟨13,j,b,n,s⟩) 75;obtain⟨z,wb,HZ,HB,dV⟩:=ej.new' aH 77;have ez:z=y+1:=by rw[HZ.out,HA.out,HY.out];simp
 replace dV:=dV.perm (bg (l₁:=[_,_]) (l₂:=dL P x));have hF:=iM dV hQ;have Bj:=qp hF hQ hi;rw[<-Hj.out] at Bj;have hy:=(dV.perm (bg (l₂:=[_,_]))).facts.2.1.1;have y0:wb.cell? ⟨y,0,none⟩=some (J 13):=hy 0;have y1:wb.cell? ⟨y,1,none⟩=some (J j):=hy 1;have y4:wb.cell? ⟨y,4,none⟩=some (aX s):=hy 4;have hpA:ptr (P.a i)=.pointer (some ⟨P.a i,0,none⟩):=rfl;unfold j8 at HA ⊢;dsimp only at HA ⊢;clear hF hy;go_in;go_wp2_with fail;rw[<-HA.out,<-HB.out,<-HY.out,<-ez];refine Bj.mono ?_;rintro e w1 ⟨rfl,rfl⟩;rw[hpA];clear Bj HA HB HY HZ ez fN ej;go_wp2_with fail;have Cv:(x.ag i).look s=((x.ag i).next (0,0,0),o4 (x.ag i).last (kq s (x.ag i).node ((x.ag i).tag+1)) none 0,0):=by unfold Ag.look;rw[aB (by rw[hp];decide)]
 obtain⟨R,HR⟩:=az (((x.ag i).look s).1);obtain⟨sd,Hsd⟩:=az (o4 (x.ag i).last (kq s (x.ag i).node ((x.ag i).tag+1)) none 0);have hC:=lr (ι:=Unit) (f:=222) (args:=#[.pointer (some ⟨P.a i,0,none⟩),aX s]) (C:=λ_ e=>e=b5 (a_ #[((x.ag i).look s).2.1.val,J ((x.ag i).look s).2.2])) (y:=λ_=>((x.ag i).look s).1) (ex:=λ_=>[]) dV hi (λ_=>trivial) (λU p hp jR=>by rw[<-hp];exact SI wb U p (x.ag i) s ap ht);rw[<-HR.out] at hC;rw[show ((x.ag i).look s).2.1=sd by rw[Cv,Hsd.out],show ((x.ag i).look s).2.2=0 by rw[Cv]] at hC;refine hC.mono ?_;rintro e w2 ⟨_,rfl,dX⟩;replace dX:St V w (dL P (x.jx i R)++[_,_]) w2:=dX;clear hC Cv dV;have y1:w2.cell? ⟨y,1,none⟩=some (J j):=(dX.perm (bg (l₂:=[_,_]))).facts.2.1.1 1;unfold Sd.val;go_wp2_with (refine kf rfl (xV _ _ _ rfl) ?_;intro g w4 Qn Bi hz4 TV;refine stay ?_);refine dI ?_;have eO:=dX.made Bi Qn (Nat.le_of_eq hz4);go_wp2_with (refine d_ eO 0 rfl 218 _ _ rfl 0 rfl sd.cells rfl (bf rfl) rfl aw sd.cells.toArray rfl rfl ?_;intro w5 eF;refine stay ?_);refine dI ?_;replace y1:w5.cell? ⟨y,1,none⟩=some (J j):=(eF.perm (List.Perm.cons _ (bg (l₂:=[_,_])))).facts.2.2.1.1 1;clear dX eO Qn Bi hz4 TV;go_wp2_with (first|(refine dU rfl 218 _ rfl _ rfl (eF.blk 0 rfl) Tryz.underlying218 aw ?_)|(refine ou rfl (Pn _ _ _ _ rfl sd rfl) ?_;refine stay ?_));refine dI ?_;have a0M:∀O U,Sd.In O U sd:=λO U=>by rw[Hsd.out];exact⟨⟨⟨by simp[o4,kq,fm],λh=>by simp[o4,kq] at h⟩,bh _,bo _,bo _⟩,jO.nil,rfl,bh _,bo _⟩
 have eN:=mU eF sd a0M;replace eN:=(eN.dO 1 rfl);have hx6:(x.jx i R).nn=x.nn:=rfl;obtain⟨w6,H6⟩:=az (w5.alloc (.cells sd.cells.toArray 218));obtain⟨g6,G6⟩:=az ((w5:Nat));rw[<-H6.out,<-G6.out] at eN;replace eN:St V w ((dL P (x.jx i R)++[.o (dS (Z (some ⟨g6,0,none⟩) 1 1) [sd])])++[.c z 77 aH,.c y 75 (j8 ⟨13,j,b,n,s⟩)]) w6:=eN.perm (by rw[bp];exact List.perm_middle.symm)
 have tT:∀q∈[sd],q.m.Gd:=λq hq=>by rw[List.mem_singleton.1 hq,Hsd.out];exact .ask _ ⟨⟨⟨by show (0:Int)<=((x.ag i).node:Int);omega,by show ((x.ag i).node:Int)<8;omega⟩,by show (0:Int)<=(((x.ag i).tag+1:Nat):Int);omega,by show (((x.ag i).tag+1:Nat):Int)<=9223372036854775807;omega⟩,.inr ⟨rfl,rfl,rfl,rfl,rfl,rfl,hp,hs⟩⟩
 have ni:=qt w6 (λ_=>False) P (x.jx i R) (hQ.jx i R) (x.nr+i) (by rw[hx6];show x.nr+i<x.nr+x.na;omega) (Z (some ⟨g6,0,none⟩) 1 1) [sd] tT (by simp);rw[<-Hj.out] at ni;rw[<-H6.out,<-G6.out];clear eF H6 G6 a0M tT y1;go_wp2_with fail;refine (St.call (a:=dL P (x.jx i R)++[.o (dS (Z (some ⟨g6,0,none⟩) 1 1) [sd])]) (a':=λ(_:Unit)=>dL P ((x.jx i R).send (x.nr+i) (eS [sd]))) eN (λ_=>fe _ _) eN.no ni).mono ?_;rintro e w7 ⟨_,rfl,dX⟩;replace dX:=dX.perm (bg (l₁:=dL P _) (l₂:=[_,_]));go_wp2_with (refine d_ dX 0 rfl 77 _ _ rfl 0 rfl [(),(),(),(),(),(),ae ah 0,()] rfl (bf rfl) rfl aw (kB Ev.zero) rfl rfl ?_;intro w3 eO;refine stay ?_);refine dI ?_;go_wp2;refine bodyPost_ret (fy rfl _ z rfl (eO.blk 0 rfl) bX aw) rfl ?_;rw[Hsd.out,HR.out] at eO;obtain⟨r1,r2⟩:=(eO.drop.drop).fin;exact⟨(),rfl,r1,r2⟩
set_option maxRecDepth 100000
set_option maxHeartbeats 1000000
theorem _root_.Go.Proofs.YtpeepcmdehhbgaaGreatDoor.St.inn{a:Bl}{abn M:List Bl}(h:St V w ([a]++(abn++M)) O):St V w ((abn++[a])++M) O:=h.perm (by rw[<-bp];exact List.Perm.append_right _ bg)
theorem _root_.Go.Proofs.YtpeepcmdehhbgaaGreatDoor.St.T4{a:Bl}{abn M:List Bl}(h:St V w ((abn++[a])++M) O):St V w (abn++M) O:=St.drop (h.perm (by rw[bp];exact List.perm_middle))
theorem T5(w:X)(D:aV)(P:my)(x:Wl)(hQ:pM P x)(i:Nat)(hi:i<x.na)(Y:(x.ag i).Ok)(M:Nat)(ht:(x.ag i).Tm M)(hM:M<=576460752303423488)(b:Int)(n:Nat)(s:aR)(hn:1<=n∧n<=1024)(tT:∀q∈((x.ag i).f_ n []).2,q.2.Gd)(rA:((x.ag i).f_ n []).2.length<=1048576):Lw W D 151 #[.pointer (some ⟨P.w,0,none⟩),aZ (j8 ⟨1,((x.nr+i:Nat):Int),b,(n:Int),s⟩)] (dL P x) (λ(_:Unit)e=>e=b5 (aZ (kB { Ev.zero with node:=((x.nr+i:Nat):Int) }))) (λ_=>dL P ((x.jx i ((x.ag i).f_ n []).1).send (x.nr+i) ((x.ag i).f_ n []).2)) w:=by
 obtain⟨R,HR⟩:=az ((x.ag i).f_ n []);rw[<-HR.out] at tT rA ⊢;obtain⟨j,Hj⟩:=az (x.nr+i);have Cw:j<x.nn:=by rw[Hj.out];show x.nr+i<x.nr+x.na;omega
 rw[<-Hj.out];intro V rr hV;have fN:=St.begin_ rr (λb hb=>(hV b hb).1) (fe P x);obtain⟨y,wa,HY,HA,ej⟩:=fN.new' (j8 ⟨1,(j:Int),b,(n:Int),s⟩) 75;obtain⟨z,wb,HZ,HB,dV⟩:=ej.new' aH 77;have ez:z=y+1:=by rw[HZ.out,HA.out,HY.out];simp
 replace dV:=dV.perm (bg (l₁:=[_,_]) (l₂:=dL P x));have hF:=iM dV hQ;have Qz:=yt hF hQ Cw;have vI:=EE hF (i:=(j:Int)) (by right;rw[Hj.out];omega);have hy:=(dV.perm (bg (l₂:=[_,_]))).facts.2.1.1;have y1:wb.cell? ⟨y,1,none⟩=some (J j):=hy 1;have y3:wb.cell? ⟨y,3,none⟩=some (J n):=hy 3;have dn1:decide ((n:Int)<1)=false:=aD ap;have dn2:decide ((1024:Int)<(n:Int))=false:=aD ap;unfold j8 at HA ⊢;unfold ptr at Qz;dsimp only at HA ⊢;clear hF hy;go_in;go_wp2_with fail;rw[<-HA.out,<-HB.out,<-HY.out,<-ez];refine Qz.mono ?_;rintro e w1 ⟨rfl,rfl⟩;clear Qz HA HB HY HZ ez fN ej;go_wp2_with fail;refine vI.mono ?_;rintro e w1 ⟨rfl,rfl⟩;go_wp2_with fail;clear y1 y3 vI;have eW:=dV.grow (Grow.refl _).drew;have gD:∀x' O,St V w (dL P x'++[.c z 77 aH,.c y 75 (j8 ⟨1,(j:Int),b,(n:Int),s⟩)]) O->O.cell? ⟨y,1,none⟩=some (J j)∧O.cell? ⟨y,3,none⟩=some (J n):=λx' O h=>by have G:=(h.perm (bg (l₂:=[_,_]))).facts.2.1.1;exact⟨G 1,G 3⟩
 have eA:=gD _ _ eW;refine dJ rfl ?_;refine fC (λO=>O.cell? ⟨y,1,none⟩=some (J j)∧O.cell? ⟨y,3,none⟩=some (J n)) [] 11 rfl [0,1,2,3,4,5,7,8] ?_;iterate 8 (refine eV rfl eA (λw1 ⟨I,G⟩=>aM) ?_)
 refine eZ 6 [] rfl ?_;have Bj:=qp (iM eW hQ) hQ hi;rw[<-Hj.out] at Bj;unfold ptr at Bj;go_wp2_with fail;refine Bj.mono ?_;rintro e w3 ⟨rfl,rfl⟩;go_wp2_with fail;refine⟨λ_=>eA,?_⟩;refine eZ 9 [] rfl ?_;have hC:=lr (ι:=K×List Sd) (f:=208) (args:=#[.pointer (some ⟨P.a i,0,none⟩),J n]) (C:=λj e=>e=b5 j.1∧eS j.2=R.2) (y:=λ_=>R.1) (ex:=λj=>[.o (dS j.1 j.2)]) eW hi (λ_=>⟨dS.framed _ _,trivial⟩) (λU p hp jR=>by rw[<-hp,HR.out];exact SU _ U p (x.ag i) Y M ht hM n hn.2);go_wp2_with fail;refine hC.mono ?_;rintro e w4 ⟨⟨u,q⟩,⟨rfl,hq⟩,dX⟩;dsimp only at hq dX;replace dX:=St.inn dX;have q_:=gD _ _ (St.T4 dX);go_wp2_with fail;refine⟨λ_=>q_,?_⟩;refine eZ 10 [] rfl ?_;have ni:=qt w4 (λ_=>False) P (x.jx i R.1) (hQ.jx i R.1) j Cw u q (λs hs=>tT (s.to,s.m) (by rw[<-hq];exact cT hs)) (by rw[<-hq] at rA;unfold eS at rA;rwa [bj] at rA);rw[hq] at ni;go_wp2_with fail;refine (St.call (a:=dL P (x.jx i R.1)++[.o (dS u q)]) (a':=λ(_:Unit)=>dL P ((x.jx i R.1).send j R.2)) dX (λ_=>fe _ _) dX.no ni).mono ?_;rintro e w7 ⟨_,rfl,eF⟩;have T6:=gD _ _ eF;replace eF:=eF.perm (bg (l₁:=dL P _) (l₂:=[_,_]));go_wp2_with fail;refine⟨λ_=>T6,?_⟩;refine gj ?_;clear dX q_ dV eW eA;obtain⟨T6,_⟩:=T6;go_wp2_with (refine d_ eF 0 rfl 77 _ _ rfl 0 rfl [(),J j,(),(),(),(),ae ah 0,()] rfl (bf rfl) rfl aw (kB { Ev.zero with node:=(j:Int) }) rfl rfl ?_;intro w8 eN;refine stay ?_);refine dI ?_;go_wp2;refine bodyPost_ret (fy rfl _ z rfl (eN.blk 0 rfl) bX aw) rfl ?_;obtain⟨r1,r2⟩:=(eN.drop.drop).fin;exact⟨(),rfl,r1,r2⟩
set_option maxRecDepth 100000
set_option maxHeartbeats 1000000
def T7(nn j:Nat)(l:Sends):Nat->List Lt3->List Lt3
 | 0,b=>b
 | r+1,b=>il nn j (T7 nn j l r b) l
def Wl.ml(x:Wl)(j:Nat)(l:Sends)(r:Nat):Wl:={ x with net:=T7 x.nn j l r x.net }
theorem Wl.Po(x:Wl)(i:Nat):x.qv i (x.rp i)=x:=by
 unfold Wl.qv;have:at_ x.rp i (x.rp i)=x.rp:=by
  funext k;unfold at_;split;·next h=>rw[h]
  ·rfl
 rw[this]
def Rp.ticks(y:Rp):Sends:=if y.leads=true then y.accepts else []
theorem T8(w:X)(D:aV)(P:my)(x:Wl)(hQ:pM P x)(i:Nat)(hi:i<x.nr)(Y:(x.rp i).Ok)(b:Int)(n:Nat)(s:aR)(hn:1<=n∧n<=1024)(tT:∀q∈(x.rp i).ticks,q.2.Gd)(rA:(x.rp i).ticks.length<=1048576):Lw W D 151 #[.pointer (some ⟨P.w,0,none⟩),aZ (j8 ⟨1,(i:Int),b,(n:Int),s⟩)] (dL P x) (λ(_:Unit)e=>e=b5 (aZ (kB { Ev.zero with node:=(i:Int) }))) (λ_=>dL P (x.ml i (x.rp i).ticks n)) w:=by
 obtain⟨R,HR⟩:=az ((x.rp i).ticks);rw[<-HR.out] at tT rA ⊢;have Cw:i<x.nn:=by show i<x.nr+x.na;omega
 intro V rr hV;have fN:=St.begin_ rr (λb hb=>(hV b hb).1) (fe P x);obtain⟨y,wa,HY,HA,ej⟩:=fN.new' (j8 ⟨1,(i:Int),b,(n:Int),s⟩) 75;obtain⟨z,wb,HZ,HB,dV⟩:=ej.new' aH 77;have ez:z=y+1:=by rw[HZ.out,HA.out,HY.out];simp
 replace dV:=dV.perm (bg (l₁:=[_,_]) (l₂:=dL P x));have hF:=iM dV hQ;have Qz:=yt hF hQ Cw;have vI:=qT hF hQ hi;have hy:=(dV.perm (bg (l₂:=[_,_]))).facts.2.1.1;have y1:wb.cell? ⟨y,1,none⟩=some (J i):=hy 1;have y3:wb.cell? ⟨y,3,none⟩=some (J n):=hy 3;have dn1:decide ((n:Int)<1)=false:=aD ap;have dn2:decide ((1024:Int)<(n:Int))=false:=aD ap;unfold j8 at HA ⊢;unfold ptr at Qz vI;dsimp only at HA ⊢;clear hF hy;go_in;go_wp2_with fail;rw[<-HA.out,<-HB.out,<-HY.out,<-ez];refine Qz.mono ?_;rintro e w1 ⟨rfl,rfl⟩;clear Qz HA HB HY HZ ez fN ej;go_wp2_with fail;refine vI.mono ?_;rintro e w1 ⟨rfl,rfl⟩;go_wp2_with fail;clear y1 y3 vI;have gD:∀x' O,St V w (dL P x'++[.c z 77 aH,.c y 75 (j8 ⟨1,(i:Int),b,(n:Int),s⟩)]) O->O.cell? ⟨y,1,none⟩=some (J i)∧O.cell? ⟨y,3,none⟩=some (J n):=λx' O h=>by have G:=(h.perm (bg (l₂:=[_,_]))).facts.2.1.1;exact⟨G 1,G 3⟩
 go_loopw [31] (λu wr=>∃r:Nat,u=J r∧r<=n∧St V w (dL P (x.ml i R r)++[.c z 77 aH,.c y 75 (j8 ⟨1,(i:Int),b,(n:Int),s⟩)]) wr) (λu _=>n-(intOf u).toNat);case atStart=>exact⟨0,rfl,bo _,dV⟩
 case round=>
  obtain⟨r,rfl,Z5,hS⟩:=hrel;by_cases hr:r<n
  ·have dr:decide (r<n)=true:=aC hr
   have eW:=hS.grow (Grow.refl _).drew;have eA:=gD _ _ eW;go_wp2_with fail;refine dJ rfl ?_;refine fC (λO=>O.cell? ⟨y,1,none⟩=some (J i)∧O.cell? ⟨y,3,none⟩=some (J n)) [] 6 rfl [0,1,2,3] ?_;iterate 4 (refine eV rfl eA (λw1 ⟨I,G⟩=>aM) ?_)
   refine eZ 4 [] rfl ?_;have hC:=B5 (ι:=K×List Sd) (f:=206) (args:=#[.pointer (some ⟨P.r i,0,none⟩)]) (C:=λj e=>e=b5 j.1∧eS j.2=R) (y:=λ_=>x.rp i) (ex:=λj=>[.o (dS j.1 j.2)]) eW hi (λ_=>⟨dS.framed _ _,trivial⟩) (λU _=>Pg λp g hp=>by rw[<-hp,HR.out];exact λV hM hV=>P1 wr.drew p g (x.rp i) Y V hM (λb hb=>⟨(hV b hb).1,id⟩));go_wp2_with fail;refine hC.mono ?_;rintro e w4 ⟨⟨u,q⟩,⟨rfl,hq⟩,dX⟩;dsimp only at hq dX;replace dX:St V w ([.o (dS u q)]++(dL P ((x.ml i R r).qv i ((x.ml i R r).rp i))++_)) w4:=dX;rw[Wl.Po] at dX;replace dX:=St.inn dX;have q_:=gD _ _ (St.T4 dX);go_wp2_with fail;refine⟨λ_=>q_,?_⟩;refine eZ 5 [] rfl ?_;have ni:=qt w4 (λ_=>False) P (x.ml i R r) ((hQ.net _)) i Cw u q (λs hs=>tT (s.to,s.m) (by rw[<-hq];exact cT hs)) (by rw[<-hq] at rA;unfold eS at rA;rwa [bj] at rA);rw[hq] at ni;go_wp2_with fail;refine (St.call (a:=dL P (x.ml i R r)++[.o (dS u q)]) (a':=λ(_:Unit)=>dL P ((x.ml i R r).send i R)) dX (λ_=>fe _ _) dX.no ni).mono ?_;rintro e w7 ⟨_,rfl,eF⟩;have eF:St V w (dL P (x.ml i R (r+1))++_) w7:=eF;have T6:=gD _ _ eF;go_wp2_with fail;refine⟨λ_=>T6,?_⟩;refine gj ?_;clear dX q_ hS eW eA;have Vj:IntKind.i64.wrap ((r:Int)+1)=((r+1:Nat):Int):=by rw[IntKind.wrap_i64];omega
   go_wp2_with fail;refine⟨⟨r+1,rfl,by omega,eF⟩,?_⟩;show n-((r:Int)+1).toNat<n-(r:Int).toNat
   omega
  ·obtain rfl:r=n:=by omega
   obtain⟨kM,_⟩:=gD _ _ hS;replace hS:=hS.perm (bg (l₁:=dL P _) (l₂:=[_,_]));go_wp2_with (refine d_ hS 0 rfl 77 _ _ rfl 0 rfl [(),J i,(),(),(),(),ae ah 0,()] rfl (bf rfl) rfl aw (kB { Ev.zero with node:=(i:Int) }) rfl rfl ?_;intro w8 eN;refine stay ?_);refine dI ?_;go_wp2;refine bodyPost_ret (fy rfl _ z rfl (eN.blk 0 rfl) bX aw) rfl ?_;obtain⟨r1,r2⟩:=(eN.drop.drop).fin;exact⟨(),rfl,r1,r2⟩
set_option maxRecDepth 100000
set_option maxHeartbeats 1000000
theorem uP(P:my)(x:Wl)(l:List Bl):(dL P x++l)[4]?=some (.o (Ne.fc P.g (x.nn:Int) (x.net.map jY) x.cut)):=rfl
theorem Hp(w:X)(D:aV)(P:my)(x:Wl)(i k:Int)(N:k≠0)(hT:∀w,ii W 209 #[.pointer (some ⟨P.g,0,none⟩),J i] (λe=>e=b5 (a_ #[aZ aL,J k])) (Ne.fc P.g (x.nn:Int) (x.net.map jY) x.cut) (Ne.fc P.g (x.nn:Int) (x.net.map jY) x.cut) w):Lw W D 152 #[.pointer (some ⟨P.w,0,none⟩),J i] (dL P x) (λ(_:Unit)e=>e=b5 (aZ (kB { Ev.zero with why:=k }))) (λ_=>dL P x) w:=by intro V rr hV;have fN:=St.begin_ rr (λb hb=>(hV b hb).1) (fe P x);obtain⟨z,wb,HZ,HB,dV⟩:=fN.new' aH 77;replace dV:=dV.perm (bg (l₁:=[_]) (l₂:=dL P x));have Bg:wb.cell? ⟨P.w,3,none⟩=some (ptr P.g):=dV.facts.1.1 3;have hC:=dV.at_ 4 (uP P x _) (λ(_:Unit)=>Ne.fc.framed _ _ _ _) dV.no (Lw.turns (hT wb));have dk:(k != 0)=true:=bne_iff_ne.mpr N;unfold ptr at Bg;rw[HB.out] at Bg;go_in;go_wp2_with fail;rw[<-HB.out,<-HZ.out];refine hC.mono ?_;rintro e w1 ⟨_,rfl,dX⟩;have dX:St V w (dL P x++[_]) w1:=dX;clear hC dV Bg hT;obtain⟨y,wc,HY,HC,eO⟩:=dX.new' aL 172;rw[HC.out,HY.out] at eO;replace eO:=eO.drop.perm (bg (l₁:=dL P x) (l₂:=[_]));go_wp2_with (refine d_ eO 0 rfl 77 _ _ rfl 0 rfl [J k,(),(),(),(),(),ae ah 0,()] rfl (bf rfl) rfl aw (kB { Ev.zero with why:=k }) rfl rfl ?_;intro w8 eN;refine stay ?_);refine dI ?_;go_wp2;refine bodyPost_ret (fy rfl _ z rfl (eN.blk 0 rfl) bX aw) rfl ?_;obtain⟨r1,r2⟩:=(eN.drop).fin;exact⟨(),rfl,r1,r2⟩
def jZ(P:my)(x:Wl)(i:Nat)(m:Ms)(j:Option dA×Nat×Nat):List Bl:=(dL P x).set 4 (.o (Ne.Taken P.g (x.nn:Int) (Ne.minus (x.net.map jY) i) x.cut (mB m) j))
def Wl.del(x:Wl)(i:Nat):Wl:={ x with net:=x.net.eraseIdx i }
theorem EH(l:List Lt3)(i:Nat):Ne.minus (l.map jY) i=(l.eraseIdx i).map jY:=by unfold Ne.minus;rw[List.eraseIdx_eq_take_drop_succ,bI,List.map_take,List.map_drop]
section
variable{P:my}{x:Wl}{f t:Nat}{m:Ms}
theorem Jz(h:St V w0 (dL P x++l) w)(he:x.net[i]?=some (f,t,m))(E:x.cut (f*8+t)=false):dz W 209 #[.pointer (some ⟨P.g,0,none⟩),J i] w λe O=>∃j:Option dA×Nat×Nat,e=b5 (a_ #[aZ #[J f,J t,Z j.1 j.2.1 j.2.2],()])∧St V w0 (jZ P x i m j++l) O:=by
 obtain⟨hi,he⟩:=List.getElem?_eq_some_iff.1 he;have tR:i<(x.net.map jY).length:=by rw[bj];exact hi
 have he':(x.net.map jY)[i]=((f:Int),(t:Int),mB m):=by rw[di,he];rfl
 have hp:x.cut ((x.net.map jY)[i].1.toNat*8+(x.net.map jY)[i].2.1.toNat)=false:=by rw[he'];exact E
 have hC:=h.at_ 4 (uP P x l) (S':=λj=>Ne.Taken P.g (x.nn:Int) (Ne.minus (x.net.map jY) i) x.cut (mB m) j) (C:=λ(j:Option dA×Nat×Nat)e=>e=b5 (a_ #[aZ #[J f,J t,Z j.1 j.2.1 j.2.2],()])) (λj=>Ne.Taken.framed _ _ _ _ _ _) h.no (Lw.one λV hN hV=>by have:=Ne.Dz w P.g (x.nn:Int) (x.net.map jY) x.cut i tR hp V hN (λb hb=>(hV b hb).1);rw[he'] at this;exact this)
 exact hC
theorem B6{j:Option dA×Nat×Nat}(h:St V w0 (jZ P x i m j++l) w):St V w0 (dL P (x.del i)++l) w:=by have I:=h.front 4 rfl;obtain⟨_,G⟩:=St.opn (κ:=Unit) (o:=λ_=>[.o (Ne.fc P.g (x.nn:Int) (Ne.minus (x.net.map jY) i) x.cut)]) I λU hT=>⟨(),⟨U,λ_=>False,hT.1,trivial,λ_ hb=>hb,λ_ hb=>hb.elim,λ_ _ hb=>hb⟩,⟨Ne.fc.framed _ _ _ _,trivial⟩⟩;have L:=G.perm (iG (l:=dL P x++l) (i:=4) (b' := .o (Ne.fc P.g (x.nn:Int) (Ne.minus (x.net.map jY) i) x.cut)) rfl).symm;rw[EH] at L;exact L
end
end Go.Proofs.YtpeepcmdehhbgaaGreatDoor
