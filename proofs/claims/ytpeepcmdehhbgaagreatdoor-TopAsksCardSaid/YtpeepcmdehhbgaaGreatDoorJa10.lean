import Derived.Test.YtpeepcmdehhbgaaGreatDoorJa09
set_option linter.all false
set_option maxRecDepth 100000
open Go.Value renaming int->ae,slice->Z,string->aX,bool->aY,agg->aZ,tuple->a_
open Go.Ending renaming returned->b5
open Go.IntKind renaming i64->af,u64->ah
open Go.Proofs.Tryz renaming prog->W,underlying45->bG,underlying77->bX
open Go.Lib renaming hid->Q
open Nat renaming le_of_ble_eq_true->bf,le_refl->bh,zero_le->bo,min_eq_left->cz,mul_le_mul_right->cK,zero_add->cJ,le_trans->bB,mul_one->cM,le_succ_of_le->dw
open List renaming perm_append_comm->bg,length_map->bj,append_assoc->bp,getElem_mem->bF,map_append->bI,flatMap_cons->bJ,drop_eq_getElem_cons->bP,range->bV,nil_append->ch,cons_append->cD,map_congr_left->cO,drop_eq_nil_of_le->cR,mem_map_of_mem->cT,length_range->da,getElem_map->di,append_nil->bm,mem_cons_of_mem->bR,mem_cons_self->cj,length_append->bd,length_take->bn,length_singleton->bv,length_cons->bD,mem_of_mem_take->bW,mem_of_mem_drop->cX,length_filter_le->c_,length_nil->cx,mem_cons->cI
open Int renaming toNat_of_nonneg->cP,toNat_natCast->cA,natCast_nonneg->de
open Go renaming Value->K,World->X,Calls->dz,Addr->dA,TypeId->dC,Program->dD,Oper->dE,maxLen->dG
open Bool renaming and_eq_true->bU
open Go (J az aE aA aB aC aD ay aj am ap aw aL aK aJ aI aH aV aU aT aR aQ aP aO aN)
section
open Go.Hop (Bl)
variable{i n:Nat}{w w0 O:X}{V D:aV}{l:List Bl}{args:aP}
section
namespace Go.Hop
open Go.RowKit
theorem Lw.obj{P:dD}{f:FuncId}{ι κ:Type}{C:ι->Ending->Prop}{S:dW}{S':ι->dW}{o:κ->List Bl}{o':κ->ι->List Bl}{ex:ι->List Bl}
 (hS:∀U,S w U->∃k,dN (px (o k)) w U∧Lw P D f args (o k) C (λi=>ex i++o' k i) w) (yP:∀k i w U,dN (px (o' k i)) w U->S' i w U):Lw P D f args [.o S] C (λi=>ex i++[.o (S' i)]) w:=λV hM hV=>by obtain⟨U,_,hU,_,k1,_⟩:=hM;obtain⟨k,N,hL⟩:=hS U hU;refine (hL U N λb hb=>hV b (k1 b hb)).mono λe O ⟨i,hC,Va,hj⟩=>⟨i,hC,?_,hj.imp k1⟩;rw[kE] at Va ⊢;obtain⟨U1,U2,hA,hB,j1,j2,j3⟩:=dN.app _ Va;exact dN.flat _ ⟨U1,U2,hA,⟨U2,λ_=>False,yP k i O U2 hB,trivial,λ_ h=>h,λ_ h=>h.elim,λ_ _ h=>h⟩,λb hb=>(j1 b hb).imp (k1 b) id,λb hb=>(j2 b hb).imp (k1 b) id,j3⟩
end Go.Hop
namespace Go.Proofs.YtpeepcmdehhbgaaGreatDoor
open Go.RowKit Go.Hop V
def tX(r d:Nat)(x:Rp):dW:=λw V=>∃(p:pj)(g:Nat),p.r=r∧p.d=d∧dN (px (dP p g x)) w V
theorem tX.framed(r d:Nat)(x:Rp):eu (tX r d x):=λw O V ⟨p,g,I,G,L⟩ N=>⟨p,g,I,G,dN.framed _ (fP (eL p g x)) w O V L N⟩
def CN(a d:Nat)(x:Ag):dW:=λw V=>∃p:vE,p.a=a∧p.d=d∧dN (px (dR p x)) w V
theorem CN.framed(a d:Nat)(x:Ag):eu (CN a d x):=λw O V ⟨p,I,G,L⟩ N=>⟨p,I,G,dN.framed _ (fP (fB p x)) w O V L N⟩
abbrev PG(r d:Nat):={ z:pj×Nat // z.1.r=r∧z.1.d=d }
abbrev PA(a d:Nat):={ z:vE // z.a=a∧z.d=d }
section
variable{f:FuncId}{r d:Nat}{ι:Type}{C:ι->Ending->Prop}{ex:ι->List Bl}
theorem Pg{x:Rp}{x':ι->Rp}(h:∀p g,p.r=r->Lw W D f args (dP p g x) C (λi=>ex i++dP p g (x' i)) w):Lw W D f args [.o (tX r d x)] C (λi=>ex i++[.o (tX r d (x' i))]) w:=Lw.obj (κ:=PG r d) (o:=λk=>dP k.1.1 k.1.2 x) (o':=λk i=>dP k.1.1 k.1.2 (x' i)) (λ_ ⟨p,g,I,G,L⟩=>⟨⟨(p,g),I,G⟩,L,h p g I⟩) λk _ _ _ hM=>⟨k.1.1,k.1.2,k.2.1,k.2.2,hM⟩
theorem Xr{x:Ag}{x':ι->Ag}(h:∀p,p.a=r->Lw W D f args (dR p x) C (λi=>ex i++dR p (x' i)) w):Lw W D f args [.o (CN r d x)] C (λi=>ex i++[.o (CN r d (x' i))]) w:=Lw.obj (κ:=PA r d) (o:=λk=>dR k.1 x) (o':=λk i=>dR k.1 (x' i)) (λ_ ⟨p,I,G,L⟩=>⟨⟨p,I,G⟩,L,h p I⟩) λk _ _ _ hM=>⟨k.1,k.2.1,k.2.2,hM⟩
end
def Rp.recv(x:Rp)(f:Int)(m:Ms):Rp×Sends:=
 if m.k=1 then x.ask f m.e
 else if ¬ x.hears f then (x,[])
 else if m.k=3 then x.prepare f m.term.toNat
 else if m.k=4 then ji x f.toNat m.term.toNat m.had.toNat m.log
 else if m.k=5 then x.accept f m.term.toNat m.log m.commit.toNat
 else if m.k=6 then mV x f.toNat m.term.toNat m.len.toNat
 else (x,[])
theorem Xs(w:X)(D:aV)(r d:Nat)(x:Rp)(Y:x.Ok)(f:Int)(m:Ms)(A:aU)(c:Nat)(A2:aU)(c2:Nat)(q:List El)(h:m.Gd)(hA:m.k≠1->A=none∧c=0)(qZ:m.k≠4->m.k≠5->A2=none∧c2=0)(hI:Sd.In w D ⟨0,m,A,c,A2,q,c2⟩)(j6:∀b,D b->b<(w:Nat)):Lw W D 19 #[r,J f,aZ (mH m A c A2 c2)] [.o (tX r d x)] (λ(j:K×List Sd)en=>en=b5 j.1∧eS j.2=(x.recv f m).2) (λj=>[.o (dS j.1 j.2)]++[.o (tX r d (x.recv f m).1)]) w:=by
 refine Pg (ex:=λ(j:K×List Sd)=>[.o (dS j.1 j.2)]) (x':=λ_=>(x.recv f m).1) λp g hp=>?_;subst hp;show Lw W D 19 _ (dP p g x) _ (λ(j:K×List Sd) => .o (dS j.1 j.2)::dP p g (x.recv f m).1) w;have ig:q.length=m.log.length:=by rw[<-hI.eq,bj]
 have vv:(∀e∈m.log,e.Ok)->∀x∈q,x.e.Ok:=λh x Y=>h x.e (hI.eq▸cT Y);by_cases hf:x.hears f
 ·cases h with
  | ask e h=>
    obtain⟨rfl,rfl⟩:=qZ (show (1:Int)≠4 by decide) (show (1:Int)≠5 by decide);exact Ep w D p g x Y f e A c hI.e h j6
  | ans tg co n I G L=>
    obtain⟨rfl,rfl⟩:=hA (show (2:Int)≠1 by decide);have e:x.recv f (fx (tg:Int) (co:Int) n)=vF x:=by show (if (2:Int)=1 then _ else if ¬ x.hears f then _ else if (2:Int)=3 then _ else if (2:Int)=4 then _ else if (2:Int)=5 then _ else if (2:Int)=6 then _ else (x,[]))=_;rw[aB am,aB (λh=>h hf),aB am,aB am,aB am,aB am];rfl
    rw[e];have:=OY w D p g x Y f hf tg co n I G L A2 c2 q (qZ (show (2:Int)≠4 by decide) (show (2:Int)≠5 by decide)) hI.q (List.length_eq_zero_iff.1 ig) j6;obtain⟨rfl,rfl⟩:=qZ (show (2:Int)≠4 by decide) (show (2:Int)≠5 by decide);exact this
  | vD t h=>
    obtain⟨rfl,rfl⟩:=hA (show (3:Int)≠1 by decide);have e:x.recv f (jX t)=x.prepare f t:=by show (if (3:Int)=1 then _ else if ¬ x.hears f then _ else if (3:Int)=3 then x.prepare f ((t:Int)).toNat else _)=_;rw[aB am,aB (λh=>h hf),aA rfl];rfl
    rw[e];have:=LA w D p g x Y f hf t h A2 c2 q (qZ (show (3:Int)≠4 by decide) (show (3:Int)≠5 by decide)) hI.q (List.length_eq_zero_iff.1 ig) j6;obtain⟨rfl,rfl⟩:=qZ (show (3:Int)≠4 by decide) (show (3:Int)≠5 by decide);exact this
  | prom t ha l I G L h4=>
    obtain⟨rfl,rfl⟩:=hA (show (4:Int)≠1 by decide);have e:x.recv f (i9 t ha l)=ji x f.toNat t ha l:=by show (if (4:Int)=1 then _ else if ¬ x.hears f then _ else if (4:Int)=3 then _ else if (4:Int)=4 then ji x f.toNat ((t:Int)).toNat ((ha:Int)).toNat l else _)=_;rw[aB am,aB (λh=>h hf),aB am,aA rfl];rfl
    rw[e];have:=LC w D p g x Y f hf t ha I G A2 c2 q hI.q (vv L) (by rw[ig];exact h4) j6;rw[show q.map El.e=l from hI.eq,ig] at this;exact this
  | acc t l cm I G L h4=>
    obtain⟨rfl,rfl⟩:=hA (show (5:Int)≠1 by decide);have e:x.recv f (kR t l cm)=x.accept f t l cm:=by show (if (5:Int)=1 then _ else if ¬ x.hears f then _ else if (5:Int)=3 then _ else if (5:Int)=4 then _ else if (5:Int)=5 then x.accept f ((t:Int)).toNat l ((cm:Int)).toNat else _)=_;rw[aB am,aB (λh=>h hf),aB am,aB am,aA rfl];rfl
    rw[e];have:=OZ w D p g x Y f hf t cm I G A2 c2 q hI.q (vv L) (by rw[ig];exact h4) j6;rw[show q.map El.e=l from hI.eq,ig] at this;exact this
  | Mq t n I G=>
    obtain⟨rfl,rfl⟩:=hA (show (6:Int)≠1 by decide);have e:x.recv f (m8 t n)=mV x f.toNat t n:=by show (if (6:Int)=1 then _ else if ¬ x.hears f then _ else if (6:Int)=3 then _ else if (6:Int)=4 then _ else if (6:Int)=5 then _ else if (6:Int)=6 then mV x f.toNat ((t:Int)).toNat ((n:Int)).toNat else _)=_;rw[aB am,aB (λh=>h hf),aB am,aB am,aB am,aA rfl];rfl
    rw[e];have:=O_ w D p g x Y f hf t n I G A2 c2 q (qZ (show (6:Int)≠4 by decide) (show (6:Int)≠5 by decide)) hI.q (List.length_eq_zero_iff.1 ig) j6;obtain⟨rfl,rfl⟩:=qZ (show (6:Int)≠4 by decide) (show (6:Int)≠5 by decide);exact this
 ·by_cases N:m.k=1
  ·cases h with
   | ask e h=>
     obtain⟨rfl,rfl⟩:=qZ (show (1:Int)≠4 by decide) (show (1:Int)≠5 by decide);exact Ep w D p g x Y f e A c hI.e h j6
   | ans=>exact absurd N (show (2:Int)≠1 by decide)
   | vD=>exact absurd N (show (3:Int)≠1 by decide)
   | prom=>exact absurd N (show (4:Int)≠1 by decide)
   | acc=>exact absurd N (show (5:Int)≠1 by decide)
   | Mq=>exact absurd N (show (6:Int)≠1 by decide)
  ·have e:x.recv f m=vF x:=by unfold Rp.recv;rw[aB N,aA hf];rfl
   rw[e];exact OX w D p g x f hf m A c A2 c2 q h N (hA N) qZ hI.e.1 hI.q hI.eq j6
end Go.Proofs.YtpeepcmdehhbgaaGreatDoor
end
namespace Go.Proofs.YtpeepcmdehhbgaaGreatDoor
open RowKit Hop V
abbrev Lt3:=Nat×Nat×Ms
def jY(l:Lt3):Ne.Lb:=((l.1:Int),(l.2.1:Int),mB l.2.2)
structure Wl where
 (nr na:Nat) (rp:Nat->Rp) (ag:Nat->Ag) (net:List Lt3) (cut:aO)
def Wl.nn(x:Wl):Nat:=x.nr+x.na
def at_{α:Type}(f:Nat->α)(i:Nat)(y:α):Nat->α:=λj=>if j=i then y else f j
theorem nK{α:Type}(f:Nat->α)(i:Nat)(y:α):at_ f i y i=y:=aA rfl
def il(nn node:Nat):List Lt3->Sends->List Lt3
 | net,[]=>net
 | net,(to,m)::l=>il nn node (if kX m=true∧(0<=to∧to<nn)∧net.length<64 then net++[(node,to.toNat,m)] else net) l
def Wl.send(x:Wl)(node:Nat)(l:Sends):Wl:={ x with net:=il x.nn node x.net l }
structure my where
 (w rb ab db g rc ac dc:Nat) (ru au du:aP) (r a d:Nat->Nat)
def ptr(p:Nat):K := (p:K)
def wlC(P:my)(x:Wl):Array K:=#[Z (some ⟨P.rb,0,none⟩) x.nr P.rc,Z (some ⟨P.ab,0,none⟩) x.na P.ac,Z (some ⟨P.db,0,none⟩) x.nn P.dc,ptr P.g]
def oF(P:my)(x:Wl):List Bl:=(bV x.nr).map λi => .o (tX (P.r i) (P.d i) (x.rp i))
def rq(P:my)(x:Wl):List Bl:=(bV x.na).map λi => .o (CN (P.a i) (P.d (x.nr+i)) (x.ag i))
def dL(P:my)(x:Wl):List Bl := .c P.w 159 (wlC P x)::.c P.rb 24 P.ru::.c P.ab 105 P.au::.c P.db 26 P.du::.o (Ne.fc P.g (x.nn:Int) (x.net.map jY) x.cut)::(oF P x++rq P x)
theorem S_(P:my)(x:Wl):pF (oF P x):=pT λb hb=>by obtain⟨i,_,rfl⟩:=List.mem_map.1 hb;exact tX.framed _ _ _
theorem T0(P:my)(x:Wl):pF (rq P x):=pT λb hb=>by obtain⟨i,_,rfl⟩:=List.mem_map.1 hb;exact CN.framed _ _ _
theorem fe(P:my)(x:Wl):pF (dL P x):=⟨trivial,trivial,trivial,trivial,Ne.fc.framed _ _ _ _,lz (S_ P x) (T0 P x)⟩
structure pM(P:my)(x:Wl):Prop where
 n:1<=x.nr∧x.nn<=8
 r:∀i,i<x.nr->P.ru[i]?=some (ptr (P.r i))
 a:∀i,i<x.na->P.au[i]?=some (ptr (P.a i))
 d:∀i,i<x.nn->P.du[i]?=some (ptr (P.d i))
 c:x.nr<=P.rc∧x.na<=P.ac∧x.nn<=P.dc
 m:P.rc<=dG∧P.ac<=dG∧P.dc<=dG
def iw(abq:Nat)(x:Wl):dW:=λw V=>∃P:my,P.w=abq∧pM P x∧dN (px (dL P x)) w V
theorem iw.framed(abq:Nat)(x:Wl):eu (iw abq x):=λw O V ⟨P,I,G,L⟩ N=>⟨P,I,G,dN.framed _ (fP (fe P x)) w O V L N⟩
section
variable{abq:Nat}{x:Wl}{P:my}
theorem iw.opn(h:St V w0 (.o (iw abq x)::l) w):∃P,P.w=abq∧pM P x∧St V w0 (dL P x++l) w:=by obtain⟨⟨P,I,G⟩,L⟩:=St.opn (κ:={ P:my // P.w=abq∧pM P x }) (o:=λP=>dL P.1 x) h λU ⟨P,I,G,L⟩=>⟨⟨P,I,G⟩,L,fe _ _⟩;exact⟨P,I,G,L⟩
theorem iw.cls(hP:P.w=abq)(hQ:pM P x)(h:St V w0 (dL P x++l) w):St V w0 (.o (iw abq x)::l) w:=h.cls (iw.framed _ _) λ_ hM=>⟨P,hP,hQ,hM⟩
theorem Ph(P:my)(x:Wl)(hi:i<x.nr)(l:List Bl):(dL P x++l)[5+i]?=some (.o (tX (P.r i) (P.d i) (x.rp i))):=by rw[show 5+i=i+1+1+1+1+1 by omega];show ((oF P x++rq P x)++l)[i]?=_;rw[bp,List.getElem?_append_left (by simp[oF];exact hi)];simp[oF,hi]
theorem a0K(P:my)(x:Wl)(hi:i<x.na)(l:List Bl):(dL P x++l)[5+(x.nr+i)]?=some (.o (CN (P.a i) (P.d (x.nr+i)) (x.ag i))):=by rw[show 5+(x.nr+i)=(x.nr+i)+1+1+1+1+1 by omega];show ((oF P x++rq P x)++l)[x.nr+i]?=_;rw[bp,List.getElem?_append_right (by simp[oF])];simp only[oF,bj,da,Nat.add_sub_cancel_left];rw[List.getElem?_append_left (by simp[rq];exact hi)];simp[rq,hi]
theorem B1{α:Type}(f:Nat->α)(hi:i<n)(y:α):((bV n).map f).set i y=(bV n).map (at_ f i y):=by
 apply List.ext_getElem?;intro j;rw[List.getElem?_set];by_cases hj:i=j;·subst hj;simp[hi,at_]
 ·rw[aB hj]
  by_cases h:j<n;·simp[h,at_,Ne.symm hj]
  ·simp[h]
theorem B4(P:my)(x:Wl)(hi:i<x.nr)(y:Rp)(l:List Bl):(dL P x++l).set (5+i) (.o (tX (P.r i) (P.d i) y))=dL P { x with rp:=at_ x.rp i y }++l:=by
 rw[show 5+i=i+1+1+1+1+1 by omega];show _::_::_::_::_::((oF P x++rq P x)++l).set i _=_;rw[bp,List.set_append_left _ _ (by simp[oF];exact hi)];have e:(oF P x).set i (.o (tX (P.r i) (P.d i) y))=oF P { x with rp:=at_ x.rp i y }:=by
  unfold oF;rw[B1 _ hi];apply cO;intro j hj;unfold at_;split;·rename_i h;rw[h];simp
  ·rename_i h;simp[h]
 rw[e];unfold dL;simp only[cD,bp];rfl
theorem LR(P:my)(x:Wl)(hi:i<x.na)(y:Ag)(l:List Bl):(dL P x++l).set (5+(x.nr+i)) (.o (CN (P.a i) (P.d (x.nr+i)) y))=dL P { x with ag:=at_ x.ag i y }++l:=by
 rw[show 5+(x.nr+i)=(x.nr+i)+1+1+1+1+1 by omega];show _::_::_::_::_::((oF P x++rq P x)++l).set (x.nr+i) _=_;rw[bp,List.set_append_right _ _ (by simp[oF])];simp only[oF,bj,da,Nat.add_sub_cancel_left];rw[List.set_append_left _ _ (by simp[rq];exact hi)];have e:(rq P x).set i (.o (CN (P.a i) (P.d (x.nr+i)) y))=rq P { x with ag:=at_ x.ag i y }:=by
  unfold rq;rw[B1 _ hi];apply cO;intro j hj;unfold at_;split;·rename_i h;rw[h];simp
  ·rename_i h;simp[h]
 rw[e];unfold dL;simp only[cD,bp];rfl
structure Pj(P:my)(x:Wl)(w:X):Prop where
 w0:w.cell? ⟨P.w,0,none⟩=some (Z (some ⟨P.rb,0,none⟩) x.nr P.rc)
 w1:w.cell? ⟨P.w,1,none⟩=some (Z (some ⟨P.ab,0,none⟩) x.na P.ac)
 w2:w.cell? ⟨P.w,2,none⟩=some (Z (some ⟨P.db,0,none⟩) x.nn P.dc)
 w3:w.cell? ⟨P.w,3,none⟩=some (ptr P.g)
 r:∀i,i<x.nr->w.cell? ⟨P.rb,i,none⟩=some (ptr (P.r i))
 a:∀i,i<x.na->w.cell? ⟨P.ab,i,none⟩=some (ptr (P.a i))
 d:∀i,i<x.nn->w.cell? ⟨P.db,i,none⟩=some (ptr (P.d i))
theorem iM(h:St V w0 (dL P x++l) w)(hQ:pM P x):Pj P x w:=by have f0:=h.facts.1.1;have f1:=h.facts.2.1.1;have f2:=h.facts.2.2.1.1;have f3:=h.facts.2.2.2.1.1;exact⟨f0 0,f0 1,f0 2,f0 3,λi hi=>(f1 i).trans (hQ.r i hi),λi hi=>(f2 i).trans (hQ.a i hi),λi hi=>(f3 i).trans (hQ.d i hi)⟩
end
set_option maxRecDepth 100000
section
variable{P:my}{x:Wl}
theorem qT(hF:Pj P x w)(hQ:pM P x)(hi:i<x.nr):dz W 31 #[.pointer (some ⟨P.w,0,none⟩),J i] w λe O=>e=b5 (ptr (P.r i))∧w=O:=by have c0:=hF.w0;have c1:=hF.r i hi;have d1:decide ((i:Int)<0)=false:=aD ap;have d2:decide (x.nr<=i)=false:=aD ap;have E:=hQ.c;clear hF hQ E;unfold ptr at *;generalize x.nr=n at *;go_in;go_wp2;go_ret;exact⟨rfl,rfl⟩
theorem EE(hF:Pj P x w){i:Int}(hi:i<0∨(x.nr:Int)<=i):dz W 31 #[.pointer (some ⟨P.w,0,none⟩),J i] w λe O=>e=b5 (.pointer none)∧w=O:=by
 have c0:=hF.w0;clear hF;generalize x.nr=n at *;by_cases h0:i<0
 ·have d1:decide (i<0)=true:=aC h0
  clear hi h0;go_in;go_wp2;go_ret;exact⟨rfl,rfl⟩
 ·have d1:decide (i<0)=false:=aD h0
  have d2:decide ((n:Int)<=i)=true:=aC ap;clear hi h0;go_in;go_wp2;go_ret;exact⟨rfl,rfl⟩
theorem nL(hF:Pj P x w)(hQ:pM P x)(hi:i<x.na):dz W 47 #[.pointer (some ⟨P.w,0,none⟩),J i] w λe O=>e=b5 (ptr (P.a i))∧w=O:=by have c0:=hF.w1;have c1:=hF.a i hi;have d1:decide ((i:Int)<0)=false:=aD ap;have d2:decide (x.na<=i)=false:=aD ap;have E:=hQ.c;clear hF hQ E;unfold ptr at *;generalize x.na=n at *;go_in;go_wp2;go_ret;exact⟨rfl,rfl⟩
theorem yt(hF:Pj P x w)(hQ:pM P x)(hi:i<x.nn):dz W 106 #[.pointer (some ⟨P.w,0,none⟩),J i] w λe O=>e=b5 (ptr (P.d i))∧w=O:=by have c0:=hF.w2;have c1:=hF.d i hi;have d1:decide ((i:Int)<0)=false:=aD ap;have d2:decide (x.nn<=i)=false:=aD ap;have E:=hQ.c;clear hF hQ E;unfold ptr at *;generalize x.nn=n at *;go_in;go_wp2;go_ret;exact⟨rfl,rfl⟩
theorem T3(hF:Pj P x w):dz W 37 #[.pointer (some ⟨P.w,0,none⟩)] w λe O=>e=b5 (ptr P.g)∧w=O:=by have c0:=hF.w3;clear hF;unfold ptr at *;go_in;go_wp2;go_ret;exact⟨rfl,rfl⟩
theorem qp(hF:Pj P x w)(hQ:pM P x)(hi:i<x.na):dz W 207 #[.pointer (some ⟨P.w,0,none⟩),J ((x.nr+i:Nat):Int)] w λe O=>e=b5 (ptr (P.a i))∧w=O:=by
 have hA:=nL hF hQ hi;have c0:=hF.w0;have hn:=hQ.n;have hnn:x.nn=x.nr+x.na:=rfl;have d1:decide (((x.nr+i:Nat):Int)<0)=false:=aD ap;have hw:IntKind.i64.wrap (((x.nr+i:Nat):Int)-(x.nr:Int))=(i:Int):=by rw[IntKind.wrap_i64];omega
 clear hF hQ hn hnn;unfold ptr at *;generalize x.nr+i=j at *;go_in;go_wp2_with fail;refine hA.mono ?_;rintro e w1 ⟨rfl,rfl⟩;go_wp2;go_ret;exact⟨rfl,rfl⟩
end
theorem _root_.Go.Hop.eJ.Xt{g:Nat}{t:dC}{vs:List K}(h:eJ w g t vs.toArray)(b:Nat)(cs:List K)(E:(vs.drop b).take cs.length=cs):w.rangeAt g b cs:=λj u hu=>by have hj:j<cs.length:=(List.getElem?_eq_some_iff.1 hu).1;rw[<-E,List.getElem?_take,aA hj,List.getElem?_drop] at hu;rw[h.cell];simpa using hu
theorem Jy{α:Type}(cells:α->List K)(size:Nat)(hl:∀a,(cells a).length=size):∀(q:List α)(k:Nat)(N:k<q.length),((q.flatMap cells).drop (k*size)).take size=cells q[k]
 | [],k,N=>absurd N (by simp)
 | a::q,0,_=>by
   rw[Nat.zero_mul,List.drop_zero,bJ,List.take_left' (hl a)];rfl
 | a::q,k+1,N=>by
   rw[bJ,show (k+1)*size=(cells a).length+k*size by rw[hl,Nat.succ_mul];omega,List.drop_append];rw[cR ap,ch,show (cells a).length+k*size-(cells a).length=k*size by omega];exact Jy cells size hl q k (by simpa using N)
theorem EF{u:K}{q:List Sd}(hS:St V w0 l w)(i:Nat)(hi:l[i]?=some (.o (dS u q))){k:Nat}(N:k<q.length):∃(g cap:Nat),u=Z (some ⟨g,0,none⟩) q.length cap∧(q.length<=cap∧cap<=dG)∧w.rangeAt g (k*19) q[k].cells∧∃U:aV,Sd.In w U q[k]∧∀b,U b->b<(w:Nat):=by
 obtain⟨U,hU,fS⟩:=hS.own.see i (iD hi);obtain⟨R,D,I,G,L,h4⟩:=hU;rcases I.2 with ⟨_,h0⟩|⟨g,cap,cur,rfl,_,H,E,hm,_,ht⟩
 ·omega
 ·refine⟨g,cap,rfl,⟨E,hm⟩,?_,D,G _ (bF N),λb hb=>(fS b (h4 b hb)).2⟩
  have hB:eJ w g 218 cur.toList.toArray:=by rw[Array.toArray_toList];exact H
  refine hB.Xt (k*19) _ ?_;rw[show q[k].cells.length=19 from rfl];have h5:=Jy Sd.cells 19 xY q k N;rw[<-ht,List.drop_take,List.take_take,cz (by have:(k+1)*19<=q.length*19:=cK _ N;omega)] at h5;exact h5
theorem Xu{l:aT}{A:aU}(h:Bytes w (w:Nat) A n l):Ne.Mj w (λb=>b<(w:Nat)) A n l:=Reads.jL h (bh _) λ_ h=>h
theorem Pk(nn node:Nat)(net:List Lt3)(to:Int)(m:Ms)(hn:node<nn):Ne.J8 (nn:Int) (net.map jY) ((node:Int),to,mB m)=(if (0<=to∧to<nn)∧net.length<64 then net++[(node,to.toNat,m)] else net).map jY:=by
 have e0:Ne.iy (nn:Int) (node:Int)=true:=Ne.oh ⟨by omega,by omega⟩;unfold Ne.J8 Ne.J7;dsimp only;rw[e0,aB (show ¬ (true=false) by decide),bj];by_cases I:0<=to∧to<(nn:Int)
 ·rw[Ne.oh I,aB (show ¬ (true=false) by decide)]
  by_cases G:64<=net.length;·rw[aA G,aB (show ¬ ((24:Int)=0) by decide),aB ap]
  ·rw[aB G,aA rfl,aA ⟨I,by omega⟩,bI]
   show _=_++[(_,_,_)];rw[cP I.1]
 ·rw[aA (Ne.Da I),aB (show ¬ ((23:Int)=0) by decide),aB (λh=>I h.1)]
theorem pM.net{P:my}{x:Wl}(h:pM P x)(net:List Lt3):pM P { x with net:=net }:=⟨h.n,h.r,h.a,h.d,h.c,h.m⟩
set_option maxRecDepth 100000
set_option maxHeartbeats 1000000
theorem qt(w:X)(D:aV)(P:my)(x:Wl)(hQ:pM P x)(node:Nat)(hn:node<x.nn)(u:K)(q:List Sd)(H:∀s∈q,s.m.Gd)(hq:q.length<=1048576):Lw W D 158 #[.pointer (some ⟨P.w,0,none⟩),J node,u] (dL P x++[.o (dS u q)]) (λ(_:Unit)e=>e=b5 (a_ #[])) (λ_=>dL P (x.send node (eS q))) w:=by
 obtain⟨R,HR⟩:=az (x.send node (eS q));rw[<-HR.out];intro V hM hV;have hS:=St.begin_ hM (λb hb=>(hV b hb).1) (lz (fe P x) ⟨dS.framed _ _,trivial⟩);obtain⟨A0,c0,rfl,_⟩:∃A c,u=Z A q.length c∧True:=by obtain⟨A,c,h,_⟩:=xZ (hS.perm bg);exact⟨A,c,h,trivial⟩
 replace hS:=hS.perm bg;go_in;go_wp2_with fail;go_loopw [12] (λi wr=>∃(k:Nat)(net:List Lt3),k<=q.length∧i=J k∧Hid (R={ x with net:=il x.nn node net (eS (q.drop k)) })∧St V w (.o (dS (Z A0 q.length c0) q)::dL P { x with net:=net }) wr) (λi _=>q.length-(intOf i).toNat);case atStart=>exact⟨0,x.net,bo _,rfl,HR,hS⟩
 case round=>
  obtain⟨k,net,N,rfl,T,ej⟩:=hrel;by_cases fS:k<q.length
  ·have dk:decide (k<q.length)=true:=aC fS
   obtain⟨g,cap,hu,_,X_,U,Mf,jR⟩:=EF ej 0 rfl fS;injection hu with hu1 hu2 hu3;subst hu1 hu3;have tT:=H _ (bF fS);have Z8:q.drop k=q[k]::q.drop (k+1):=bP fS;rw[Z8] at T;replace H:=Q H;clear Z8;obtain⟨s,Hs⟩:∃s,Hid (q[k]=s):=⟨_,Q rfl⟩;rw[Hs.out] at X_ Mf tT T;go_wp2_with (refine pC rfl 218 _ rfl g (k*19) rfl s.cells X_ Tryz.underlying218 aw ?_;refine stay ?_);refine dI ?_;go_wp2_with (refine kf rfl (xV _ _ _ rfl) ?_;intro y w2 lS fk hz2 z6;refine stay ?_);refine dI ?_;have dV:=ej.made fk lS (Nat.le_of_eq hz2);go_wp2_with (refine d_ dV 0 rfl 218 _ _ rfl 0 rfl s.cells rfl (bf rfl) rfl aw s.cells.toArray rfl rfl ?_;intro w3 dX;refine stay ?_);refine dI ?_;obtain⟨g',cap',hu',_,_,U',Pm,a5y⟩:=EF dX 1 rfl fS;rw[Hs.out] at Pm;have hM:=P9 w3 U' s.m s.A s.c s.A2 s.c2 s.q tT Pm.e.1 Pm.q Pm.eq;have hr3:=(dX.blk 0 rfl).range 1 (s.m.cells s.A s.c s.A2 s.c2) rfl;clear hu' Mf Pm jR a5y X_ ej dV lS fk hz2 z6;go_wp2_with (refine pC rfl 45 _ rfl y 1 rfl (s.m.cells s.A s.c s.A2 s.c2) hr3 bG aw ?_);refine hM.mono ?_;rintro e w4 ⟨Bi,nh⟩;have eO:=dX.grow Bi;clear hM hr3 dX;rcases nh with ⟨sv,v,rfl,A5,m5,c5,rfl,gU,a5z,a5A⟩|⟨sv,v,rfl⟩
   ·go_wp2_with fail
    have eW:=eO.grow (Grow.refl _).drew;have gD:∀net O,St V w (.c y 218 s.cells.toArray::.o (dS (Z (some ⟨g,0,none⟩) q.length c0) q)::dL P { x with net:=net }) O->O.cell? ⟨P.w,3,none⟩=some (.pointer (some ⟨P.g,0,none⟩))∧O.cell? ⟨y,0,none⟩=some (J s.to):=λnet O h=>⟨(h.front 2 rfl).facts.1.1 3,h.facts.1.1 0⟩;have eA:=gD net _ eW;refine dJ rfl ?_;refine fC (λO=>O.cell? ⟨P.w,3,none⟩=some (.pointer (some ⟨P.g,0,none⟩))∧O.cell? ⟨y,0,none⟩=some (J s.to)) [] 10 rfl [0,1,2,3,4,5,6,7,8] ?_;iterate 9 (refine eV rfl eA (λw1 ⟨I,G⟩=>aM) ?_)
    refine eZ 9 [] rfl ?_;go_wp2_with fail;refine (eW.Fo 6 rfl (λ_=>Ne.fc.framed _ _ _ _) eW.no (λU' _ _=>Lw.turns (Ne.NJ w4.drew _ P.g (x.nn:Int) (net.map jY) x.cut (node:Int) s.to A5 m5 c5 (mB s.m) (Xu (gU.below (Grow.refl w4).drew)) a5z a5A (by have I:=gU.len;have G:=of_decide_eq_true sv;have L:=Oi (jj s.m) G;have h4:(mB s.m).length=(frame (jj s.m)).length:=rfl;omega)))).mono ?_;rintro e w6 ⟨_,rfl,eN⟩;rw[Pk _ _ _ _ _ hn] at eN;replace eN:St V w (.c y 218 s.cells.toArray::.o (dS (Z (some ⟨g,0,none⟩) q.length c0) q)::dL P { x with net:=if (0<=s.to∧s.to<(x.nn:Int))∧net.length<64 then net++[(node,s.to.toNat,s.m)] else net }) w6:=eN;have fH:=eN.drop;go_wp2_with fail;refine⟨λ_=>gD _ _ eN,?_⟩;refine gj ?_;go_wp2_with fail;exact⟨⟨k+1,_,by omega,by go_num,Q (by rw[T.out];show Wl.mk x.nr x.na x.rp x.ag (il x.nn node net (s.fn::eS (q.drop (k+1)))) x.cut=_;show Wl.mk _ _ _ _ (il x.nn node (if kX s.m=true∧(0<=s.to∧s.to<(x.nn:Int))∧net.length<64 then net++[(node,s.to.toNat,s.m)] else net) _) _=_;simp only[sv,true_and]),fH⟩,by simp[intOf];omega⟩
   ·have fH:=eO.drop
    go_wp2_with fail;refine⟨?_,?_⟩;case refine_1=>
     exact⟨k+1,net,by omega,by go_num,Q (by rw[T.out];show Wl.mk x.nr x.na x.rp x.ag (il x.nn node net (s.fn::eS (q.drop (k+1)))) x.cut=_;show Wl.mk _ _ _ _ (il x.nn node (if kX s.m=true∧(0<=s.to∧s.to<(x.nn:Int))∧net.length<64 then net++[(node,s.to.toNat,s.m)] else net) _) _=_;rw[aB (by rw[sv];simp)]),fH⟩
    case refine_2=>simp[intOf];omega
  ·obtain rfl:k=q.length:=by omega
   have dk:decide (q.length<q.length)=false:=aD fS;rw[List.drop_length] at T;go_wp2;go_end0;obtain⟨r1,r2⟩:=ej.drop.fin;rw[T.out];exact⟨(),rfl,r1,r2⟩
structure Ev where
 (why node code:Int) (id:lp) (n:Nat) (bag:Int)
def Ev.zero:Ev:=⟨0,0,0,(0,0,0),0,0⟩
def kB(e:Ev):Array K:=#[J e.why,J e.node,J e.code,J e.id.1,J e.id.2.1,J e.id.2.2,ae ah e.n,J e.bag]
structure Ac where
 (k a b n:Int) (s:aR)
def j8(a:Ac):Array K:=#[J a.k,J a.a,J a.b,J a.n,aX a.s]
def Wl.jx(x:Wl)(i:Nat)(y:Ag):Wl:={ x with ag:=at_ x.ag i y }
def Wl.qv(x:Wl)(i:Nat)(y:Rp):Wl:={ x with rp:=at_ x.rp i y }
theorem pM.jx{P:my}{x:Wl}(h:pM P x)(i:Nat)(y:Ag):pM P (x.jx i y):=⟨h.n,h.r,h.a,h.d,h.c,h.m⟩
theorem pM.qv{P:my}{x:Wl}(h:pM P x)(i:Nat)(y:Rp):pM P (x.qv i y):=⟨h.n,h.r,h.a,h.d,h.c,h.m⟩
section
variable{P:my}{x:Wl}{f:FuncId}{ι:Type}{C:ι->Ending->Prop}{ex:ι->List Bl}
theorem lr(h:St V w0 (dL P x++l) w)(hi:i<x.na){y:ι->Ag}(hex:∀j,pF (ex j))(E:∀(U:aV)(p:vE),p.a=P.a i->(∀b,U b->b<(w:Nat))->Lw W U f args (dR p (x.ag i)) C (λj=>ex j++dR p (y j)) w):dz W f args w λe O=>∃j,C j e∧St V w0 (ex j++(dL P (x.jx i (y j))++l)) O:=by
 have hat:=a0K P x hi l;have I:=h.front _ hat
 refine (St.py (a:=[.o (CN (P.a i) (P.d (x.nr+i)) (x.ag i))]) (a':=λj=>ex j++[.o (CN (P.a i) (P.d (x.nr+i)) (y j))]) (b:=(dL P x++l).eraseIdx (5+(x.nr+i))) I (λj=>lz (hex j) (show pF [.o (CN (P.a i) (P.d (x.nr+i)) (y j))] from ⟨CN.framed _ _ _,trivial⟩)) I.no (λU hU jR=>Xr (λp hp=>E _ p hp (λb hb=>hb.elim (jR b) False.elim)))).mono ?_;rintro e O ⟨j,hC,hS⟩;refine⟨j,hC,?_⟩;have e2:=LR P x hi (y j) l;rw[show dL P (x.jx i (y j))++l=_ from e2.symm];refine hS.perm ?_;rw[bp];exact List.Perm.append_left _ (iG hat).symm
theorem B5(h:St V w0 (dL P x++l) w)(hi:i<x.nr){y:ι->Rp}(hex:∀j,pF (ex j))(E:∀U:aV,(∀b,U b->b<(w:Nat))->Lw W U f args [.o (tX (P.r i) (P.d i) (x.rp i))] C (λj=>ex j++[.o (tX (P.r i) (P.d i) (y j))]) w):dz W f args w λe O=>∃j,C j e∧St V w0 (ex j++(dL P (x.qv i (y j))++l)) O:=by
 have hat:=Ph P x hi l;have I:=h.front _ hat
 refine (St.py (a:=[.o (tX (P.r i) (P.d i) (x.rp i))]) (a':=λj=>ex j++[.o (tX (P.r i) (P.d i) (y j))]) (b:=(dL P x++l).eraseIdx (5+i)) I (λj=>lz (hex j) (show pF [.o (tX (P.r i) (P.d i) (y j))] from ⟨tX.framed _ _ _,trivial⟩)) I.no (λU hU jR=>E _ (λb hb=>hb.elim (jR b) False.elim))).mono ?_;rintro e O ⟨j,hC,hS⟩;refine⟨j,hC,?_⟩;have e2:=B4 P x hi (y j) l;rw[show dL P (x.qv i (y j))++l=_ from e2.symm];refine hS.perm ?_;rw[bp];exact List.Perm.append_left _ (iG hat).symm
end
set_option maxRecDepth 100000
set_option maxHeartbeats 1000000
theorem EG(w:X)(D:aV)(P:my)(x:Wl)(hQ:pM P x)(i:Nat)(hi:i<x.na)(Y:(x.ag i).Ok)(b:Int)(n:Nat)(s:aR)(hs:s.size<=1000000)(hn:n<=9223372036854775807):Lw W D 159 #[.pointer (some ⟨P.w,0,none⟩),aZ (j8 ⟨9,((x.nr+i:Nat):Int),b,(n:Int),s⟩)] (dL P x) (λ(_:Unit)e=>e=b5 (aZ (kB { Ev.zero with why:=((x.ag i).fX (s,n)).2 }))) (λ_=>dL P (x.jx i ((x.ag i).fX (s,n)).1)) w:=by
 obtain⟨j,Hj⟩:=az (((x.nr+i:Nat):Int));rw[<-Hj.out];intro V hM hV;have fN:=St.begin_ hM (λb hb=>(hV b hb).1) (fe P x);obtain⟨y,wa,HY,HA,ej⟩:=fN.new' (j8 ⟨9,j,b,(n:Int),s⟩) 75;obtain⟨z,wb,HZ,HB,dV⟩:=ej.new' aH 77;have ez:z=y+1:=by rw[HZ.out,HA.out,HY.out];simp
 replace dV:=dV.perm (bg (l₁:=[_,_]) (l₂:=dL P x));have hF:=iM dV hQ;have Bj:=qp hF hQ hi;rw[<-Hj.out] at Bj;have hy:=(dV.perm (bg (l₂:=[_,_]))).facts.2.1.1;have y0:wb.cell? ⟨y,0,none⟩=some (J 9):=hy 0;have y3:wb.cell? ⟨y,3,none⟩=some (J n):=hy 3;have y4:wb.cell? ⟨y,4,none⟩=some (aX s):=hy 4;have dn:decide ((n:Int)<0)=false:=aD ap;have hw:IntKind.u64.wrap (n:Int)=(n:Int):=by rw[wrap_u64];omega
 have hpA:ptr (P.a i)=.pointer (some ⟨P.a i,0,none⟩):=rfl;unfold j8 at HA ⊢;dsimp only at HA ⊢;clear hF hy;go_in;go_wp2_with fail;rw[<-HA.out,<-HB.out,<-HY.out,<-ez];refine Bj.mono ?_;rintro e w1 ⟨rfl,rfl⟩;rw[hpA];clear Bj HA HB HY HZ ez fN ej;go_wp2_with fail;refine (lr (ι:=Unit) (ex:=λ_=>[]) dV hi (λ_=>trivial) (λU p hp jR=>by rw[<-hp];exact Ls wb U p (x.ag i) Y s n hs ap)).mono ?_;rintro e w2 ⟨_,rfl,dX⟩;replace dX:=dX.perm (bg (l₁:=dL P _) (l₂:=[_,_]));go_wp2_with (refine d_ dX 0 rfl 77 _ _ rfl 0 rfl [J ((x.ag i).fX (s,n)).2,(),(),(),(),(),ae ah 0,()] rfl (bf rfl) rfl aw (kB { Ev.zero with why:=((x.ag i).fX (s,n)).2 }) rfl rfl ?_;intro w3 eO;refine stay ?_);refine dI ?_;go_wp2;refine bodyPost_ret (fy rfl _ z rfl (eO.blk 0 rfl) bX aw) rfl ?_;obtain⟨r1,r2⟩:=(eO.drop.drop).fin;exact⟨(),rfl,r1,r2⟩
theorem Hl(w:X)(D:aV)(P:my)(x:Wl)(hQ:pM P x)(i:Nat)(hi:i<x.na)(Y:(x.ag i).Ok)(b n:Int)(s:aR):Lw W D 159 #[.pointer (some ⟨P.w,0,none⟩),aZ (j8 ⟨10,((x.nr+i:Nat):Int),b,n,s⟩)] (dL P x) (λ(_:Unit)e=>e=b5 (aZ (kB { Ev.zero with code:=((x.ag i).cut.2.length:Int) }))) (λ_=>dL P (x.jx i (x.ag i).cut.1)) w:=by
 obtain⟨j,Hj⟩:=az (((x.nr+i:Nat):Int));rw[<-Hj.out];intro V hM hV;have fN:=St.begin_ hM (λb hb=>(hV b hb).1) (fe P x);obtain⟨y,wa,HY,HA,ej⟩:=fN.new' (j8 ⟨10,j,b,n,s⟩) 75;obtain⟨z,wb,HZ,HB,dV⟩:=ej.new' aH 77;have ez:z=y+1:=by rw[HZ.out,HA.out,HY.out];simp
 replace dV:=dV.perm (bg (l₁:=[_,_]) (l₂:=dL P x));have hF:=iM dV hQ;have Bj:=qp hF hQ hi;rw[<-Hj.out] at Bj;have hy:=(dV.perm (bg (l₂:=[_,_]))).facts.2.1.1;have y0:wb.cell? ⟨y,0,none⟩=some (J 10):=hy 0;have hpA:ptr (P.a i)=.pointer (some ⟨P.a i,0,none⟩):=rfl;unfold j8 at HA ⊢;dsimp only at HA ⊢;clear hF hy;go_in;go_wp2_with fail;rw[<-HA.out,<-HB.out,<-HY.out,<-ez];refine Bj.mono ?_;rintro e w1 ⟨rfl,rfl⟩;rw[hpA];clear Bj HA HB HY HZ ez fN ej;go_wp2_with fail;refine (lr (ι:=K) (ex:=λu=>[.o (mW (x.ag i).node u (x.ag i).cut.2)]) (y:=λ_=>(x.ag i).cut.1) dV hi (λ_=>⟨mW.framed _ _ _,trivial⟩) (λU p hp jR=>by rw[<-hp];exact Xb wb U p (x.ag i) Y)).mono ?_;rintro e w2 ⟨u,rfl,dX⟩;obtain⟨Au,cu,rfl,_⟩:=fK.nW dX 0 rfl;replace dX:=dX.drop;replace dX:=dX.perm (bg (l₁:=dL P _) (l₂:=[_,_]));go_wp2_with (refine d_ dX 0 rfl 77 _ _ rfl 0 rfl [(),(),J ((x.ag i).cut.2.length:Int),(),(),(),ae ah 0,()] rfl (bf rfl) rfl aw (kB { Ev.zero with code:=((x.ag i).cut.2.length:Int) }) rfl rfl ?_;intro w3 eO;refine stay ?_);refine dI ?_;go_wp2;refine bodyPost_ret (fy rfl _ z rfl (eO.blk 0 rfl) bX aw) rfl ?_;obtain⟨r1,r2⟩:=(eO.drop.drop).fin;exact⟨(),rfl,r1,r2⟩
theorem Pn(w:X)(ρ:Operand->K)(o:dE)(x:Operand)(ho:o.op=.buildSlice 30 1 #[(0,x)])(s:Sd)(Y:ρ x=aZ s.cells.toArray):(execOp ρ o).run W w=.ok (.value (Z (some ⟨(w:Nat),0,none⟩) 1 1)) (w.alloc (.cells s.cells.toArray 218)):=by obtain⟨dst,op,ty,pos,after,guard⟩:=o;simp only at ho;subst ho;obtain⟨to,⟨mk,⟨ek,ag,sh,sq,ep,ds,se,fr,tg⟩,tag,code,n,term,had,log,commit,len⟩,Am,cm,A2,qq,c2⟩:=s;unfold Sd.cells Ms.cells at *;dsimp only at *;go_simp
set_option maxRecDepth 100000
set_option maxHeartbeats 1000000
theorem LS(w:X)(D:aV)(P:my)(x:Wl)(hQ:pM P x)(i:Nat)(hi:i<x.na)(b n:Int)(s:aR)(hs:s.size<=1000)(hp:abn.fW s=0)(ht:(x.ag i).tag<=4611686018427387904)(pJ:(x.ag i).node<8):Lw W D 159 #[.pointer (some ⟨P.w,0,none⟩),aZ (j8 ⟨13,((x.nr+i:Nat):Int),b,n,s⟩)] (dL P x) (λ(_:Unit)e=>e=b5 (aZ (kB Ev.zero))) (λ_=>dL P ((x.jx i ((x.ag i).look s).1).send (x.nr+i) [((x.ag i).last,gp (kq s (x.ag i).node ((x.ag i).tag+1)))])) w:=by
 obtain⟨j,Hj⟩:=az (((x.nr+i:Nat):Int));rw[<-Hj.out];intro V hM hV;have fN:=St.begin_ hM (λb hb=>(hV b hb).1) (fe P x);obtain⟨y,wa,HY,HA,ej⟩:=fN.new' (j8 ⟨13,j,b,n,s⟩) 75;obtain⟨z,wb,HZ,HB,dV⟩:=ej.new' aH 77;have ez:z=y+1:=by rw[HZ.out,HA.out,HY.out];simp
 replace dV:=dV.perm (bg (l₁:=[_,_]) (l₂:=dL P x));have hF:=iM dV hQ;have Bj:=qp hF hQ hi;rw[<-Hj.out] at Bj;have hy:=(dV.perm (bg (l₂:=[_,_]))).facts.2.1.1;have y0:wb.cell? ⟨y,0,none⟩=some (J 13):=hy 0;have y1:wb.cell? ⟨y,1,none⟩=some (J j):=hy 1;have y4:wb.cell? ⟨y,4,none⟩=some (aX s):=hy 4;have hpA:ptr (P.a i)=.pointer (some ⟨P.a i,0,none⟩):=rfl;unfold j8 at HA ⊢;dsimp only at HA ⊢;clear hF hy;go_in;go_wp2_with fail;rw[<-HA.out,<-HB.out,<-HY.out,<-ez];refine Bj.mono ?_;rintro e w1 ⟨rfl,rfl⟩;rw[hpA];clear Bj HA HB HY HZ ez fN ej;go_wp2_with fail;have Cv:(x.ag i).look s=((x.ag i).next (0,0,0),o4 (x.ag i).last (kq s (x.ag i).node ((x.ag i).tag+1)) none 0,0):=by unfold Ag.look;rw[aB (by rw[hp];decide)]
 obtain⟨R,HR⟩:=az (((x.ag i).look s).1);obtain⟨sd,Hsd⟩:=az (o4 (x.ag i).last (kq s (x.ag i).node ((x.ag i).tag+1)) none 0);have hC:=lr (ι:=Unit) (f:=222) (args:=#[.pointer (some ⟨P.a i,0,none⟩),aX s]) (C:=λ_ e=>e=b5 (a_ #[((x.ag i).look s).2.1.val,J ((x.ag i).look s).2.2])) (y:=λ_=>((x.ag i).look s).1) (ex:=λ_=>[]) dV hi (λ_=>trivial) (λU p hp jR=>by rw[<-hp];exact SI wb U p (x.ag i) s ap ht);rw[<-HR.out] at hC;rw[show ((x.ag i).look s).2.1=sd by rw[Cv,Hsd.out],show ((x.ag i).look s).2.2=0 by rw[Cv]] at hC;refine hC.mono ?_;rintro e w2 ⟨_,rfl,dX⟩;replace dX:St V w (dL P (x.jx i R)++[_,_]) w2:=dX;clear hC Cv dV;have y1:w2.cell? ⟨y,1,none⟩=some (J j):=(dX.perm (bg (l₂:=[_,_]))).facts.2.1.1 1;unfold Sd.val;go_wp2_with (refine kf rfl (xV _ _ _ rfl) ?_;intro g w4 Qn Bi hz4 TV;refine stay ?_);refine dI ?_;have eO:=dX.made Bi Qn (Nat.le_of_eq hz4);go_wp2_with (refine d_ eO 0 rfl 218 _ _ rfl 0 rfl sd.cells rfl (bf rfl) rfl aw sd.cells.toArray rfl rfl ?_;intro w5 eF;refine stay ?_);refine dI ?_;replace y1:w5.cell? ⟨y,1,none⟩=some (J j):=(eF.perm (List.Perm.cons _ (bg (l₂:=[_,_])))).facts.2.2.1.1 1;clear dX eO Qn Bi hz4 TV;go_wp2_with (first|(refine dU rfl 218 _ rfl _ rfl (eF.blk 0 rfl) Tryz.underlying218 aw ?_)|(refine ou rfl (Pn _ _ _ _ rfl sd rfl) ?_;refine stay ?_));refine dI ?_;have a0M:∀O U,Sd.In O U sd:=λO U=>by rw[Hsd.out];exact⟨⟨⟨by simp[o4,kq,fm],λh=>by simp[o4,kq] at h⟩,bh _,bo _,bo _⟩,jO.nil,rfl,bh _,bo _⟩
 have eN:=mU eF sd a0M;replace eN:=(eN.dO 1 rfl);have hx6:(x.jx i R).nn=x.nn:=rfl;obtain⟨w6,H6⟩:=az (w5.alloc (.cells sd.cells.toArray 218));obtain⟨g6,G6⟩:=az ((w5:Nat));rw[<-H6.out,<-G6.out] at eN;replace eN:St V w ((dL P (x.jx i R)++[.o (dS (Z (some ⟨g6,0,none⟩) 1 1) [sd])])++[.c z 77 aH,.c y 75 (j8 ⟨13,j,b,n,s⟩)]) w6:=eN.perm (by rw[bp];exact List.perm_middle.symm)
 have tT:∀q∈[sd],q.m.Gd:=λq hq=>by rw[List.mem_singleton.1 hq,Hsd.out];exact .ask _ ⟨⟨⟨by show (0:Int)<=((x.ag i).node:Int);omega,by show ((x.ag i).node:Int)<8;omega⟩,by show (0:Int)<=(((x.ag i).tag+1:Nat):Int);omega,by show (((x.ag i).tag+1:Nat):Int)<=9223372036854775807;omega⟩,.inr ⟨rfl,rfl,rfl,rfl,rfl,rfl,hp,hs⟩⟩
 have ni:=qt w6 (λ_=>False) P (x.jx i R) (hQ.jx i R) (x.nr+i) (by rw[hx6];show x.nr+i<x.nr+x.na;omega) (Z (some ⟨g6,0,none⟩) 1 1) [sd] tT (by simp);rw[<-Hj.out] at ni;rw[<-H6.out,<-G6.out];clear eF H6 G6 a0M tT y1;go_wp2_with fail;refine (St.call (a:=dL P (x.jx i R)++[.o (dS (Z (some ⟨g6,0,none⟩) 1 1) [sd])]) (a':=λ(_:Unit)=>dL P ((x.jx i R).send (x.nr+i) (eS [sd]))) eN (λ_=>fe _ _) eN.no ni).mono ?_;rintro e w7 ⟨_,rfl,dX⟩;replace dX:=dX.perm (bg (l₁:=dL P _) (l₂:=[_,_]));go_wp2_with (refine d_ dX 0 rfl 77 _ _ rfl 0 rfl [(),(),(),(),(),(),ae ah 0,()] rfl (bf rfl) rfl aw (kB Ev.zero) rfl rfl ?_;intro w3 eO;refine stay ?_);refine dI ?_;go_wp2;refine bodyPost_ret (fy rfl _ z rfl (eO.blk 0 rfl) bX aw) rfl ?_;rw[Hsd.out,HR.out] at eO;obtain⟨r1,r2⟩:=(eO.drop.drop).fin;exact⟨(),rfl,r1,r2⟩
set_option maxRecDepth 100000
set_option maxHeartbeats 1000000
theorem _root_.Go.Proofs.YtpeepcmdehhbgaaGreatDoor.St.inn{a:Bl}{abn M:List Bl}(h:St V w ([a]++(abn++M)) O):St V w ((abn++[a])++M) O:=h.perm (by rw[<-bp];exact List.Perm.append_right _ bg)
theorem _root_.Go.Proofs.YtpeepcmdehhbgaaGreatDoor.St.T4{a:Bl}{abn M:List Bl}(h:St V w ((abn++[a])++M) O):St V w (abn++M) O:=St.drop (h.perm (by rw[bp];exact List.perm_middle))
theorem T5(w:X)(D:aV)(P:my)(x:Wl)(hQ:pM P x)(i:Nat)(hi:i<x.na)(Y:(x.ag i).Ok)(M:Nat)(ht:(x.ag i).Tm M)(hM:M<=576460752303423488)(b:Int)(n:Nat)(s:aR)(hn:1<=n∧n<=1024)(tT:∀q∈((x.ag i).f_ n []).2,q.2.Gd)(rA:((x.ag i).f_ n []).2.length<=1048576):Lw W D 151 #[.pointer (some ⟨P.w,0,none⟩),aZ (j8 ⟨1,((x.nr+i:Nat):Int),b,(n:Int),s⟩)] (dL P x) (λ(_:Unit)e=>e=b5 (aZ (kB { Ev.zero with node:=((x.nr+i:Nat):Int) }))) (λ_=>dL P ((x.jx i ((x.ag i).f_ n []).1).send (x.nr+i) ((x.ag i).f_ n []).2)) w:=by
 obtain⟨R,HR⟩:=az ((x.ag i).f_ n []);rw[<-HR.out] at tT rA ⊢;obtain⟨j,Hj⟩:=az (x.nr+i);have Cw:j<x.nn:=by rw[Hj.out];show x.nr+i<x.nr+x.na;omega
 rw[<-Hj.out];intro V rr hV;have fN:=St.begin_ rr (λb hb=>(hV b hb).1) (fe P x);obtain⟨y,wa,HY,HA,ej⟩:=fN.new' (j8 ⟨1,(j:Int),b,(n:Int),s⟩) 75;obtain⟨z,wb,HZ,HB,dV⟩:=ej.new' aH 77;have ez:z=y+1:=by rw[HZ.out,HA.out,HY.out];simp
 replace dV:=dV.perm (bg (l₁:=[_,_]) (l₂:=dL P x));have hF:=iM dV hQ;have Qz:=yt hF hQ Cw;have vI:=EE hF (i:=(j:Int)) (by right;rw[Hj.out];omega);have hy:=(dV.perm (bg (l₂:=[_,_]))).facts.2.1.1;have y1:wb.cell? ⟨y,1,none⟩=some (J j):=hy 1;have y3:wb.cell? ⟨y,3,none⟩=some (J n):=hy 3;have dn1:decide ((n:Int)<1)=false:=aD ap;have dn2:decide ((1024:Int)<(n:Int))=false:=aD ap;unfold j8 at HA ⊢;unfold ptr at Qz;dsimp only at HA ⊢;clear hF hy;go_in;go_wp2_with fail;rw[<-HA.out,<-HB.out,<-HY.out,<-ez];refine Qz.mono ?_;rintro e w1 ⟨rfl,rfl⟩;clear Qz HA HB HY HZ ez fN ej;go_wp2_with fail;refine vI.mono ?_;rintro e w1 ⟨rfl,rfl⟩;go_wp2_with fail;clear y1 y3 vI;have eW:=dV.grow (Grow.refl _).drew;have gD:∀x' O,St V w (dL P x'++[.c z 77 aH,.c y 75 (j8 ⟨1,(j:Int),b,(n:Int),s⟩)]) O->O.cell? ⟨y,1,none⟩=some (J j)∧O.cell? ⟨y,3,none⟩=some (J n):=λx' O h=>by have G:=(h.perm (bg (l₂:=[_,_]))).facts.2.1.1;exact⟨G 1,G 3⟩
 have eA:=gD _ _ eW;refine dJ rfl ?_;refine fC (λO=>O.cell? ⟨y,1,none⟩=some (J j)∧O.cell? ⟨y,3,none⟩=some (J n)) [] 11 rfl [0,1,2,3,4,5,7,8] ?_;iterate 8 (refine eV rfl eA (λw1 ⟨I,G⟩=>aM) ?_)
 refine eZ 6 [] rfl ?_;have Bj:=qp (iM eW hQ) hQ hi;rw[<-Hj.out] at Bj;unfold ptr at Bj;go_wp2_with fail;refine Bj.mono ?_;rintro e w3 ⟨rfl,rfl⟩;go_wp2_with fail;refine⟨λ_=>eA,?_⟩;refine eZ 9 [] rfl ?_;have hC:=lr (ι:=K×List Sd) (f:=208) (args:=#[.pointer (some ⟨P.a i,0,none⟩),J n]) (C:=λj e=>e=b5 j.1∧eS j.2=R.2) (y:=λ_=>R.1) (ex:=λj=>[.o (dS j.1 j.2)]) eW hi (λ_=>⟨dS.framed _ _,trivial⟩) (λU p hp jR=>by rw[<-hp,HR.out];exact SU _ U p (x.ag i) Y M ht hM n hn.2);go_wp2_with fail;refine hC.mono ?_;rintro e w4 ⟨⟨u,q⟩,⟨rfl,hq⟩,dX⟩;dsimp only at hq dX;replace dX:=St.inn dX;have q_:=gD _ _ (St.T4 dX);go_wp2_with fail;refine⟨λ_=>q_,?_⟩;refine eZ 10 [] rfl ?_;have ni:=qt w4 (λ_=>False) P (x.jx i R.1) (hQ.jx i R.1) j Cw u q (λs hs=>tT (s.to,s.m) (by rw[<-hq];exact cT hs)) (by rw[<-hq] at rA;unfold eS at rA;rwa [bj] at rA);rw[hq] at ni;go_wp2_with fail;refine (St.call (a:=dL P (x.jx i R.1)++[.o (dS u q)]) (a':=λ(_:Unit)=>dL P ((x.jx i R.1).send j R.2)) dX (λ_=>fe _ _) dX.no ni).mono ?_;rintro e w7 ⟨_,rfl,eF⟩;have T6:=gD _ _ eF;replace eF:=eF.perm (bg (l₁:=dL P _) (l₂:=[_,_]));go_wp2_with fail;refine⟨λ_=>T6,?_⟩;refine gj ?_;clear dX q_ dV eW eA;obtain⟨T6,_⟩:=T6;go_wp2_with (refine d_ eF 0 rfl 77 _ _ rfl 0 rfl [(),J j,(),(),(),(),ae ah 0,()] rfl (bf rfl) rfl aw (kB { Ev.zero with node:=(j:Int) }) rfl rfl ?_;intro w8 eN;refine stay ?_);refine dI ?_;go_wp2;refine bodyPost_ret (fy rfl _ z rfl (eN.blk 0 rfl) bX aw) rfl ?_;obtain⟨r1,r2⟩:=(eN.drop.drop).fin;exact⟨(),rfl,r1,r2⟩
set_option maxRecDepth 100000
set_option maxHeartbeats 1000000
set_option maxRecDepth 100000
set_option maxHeartbeats 1000000
theorem uP(P:my)(x:Wl)(l:List Bl):(dL P x++l)[4]?=some (.o (Ne.fc P.g (x.nn:Int) (x.net.map jY) x.cut)):=rfl
theorem Hp(w:X)(D:aV)(P:my)(x:Wl)(i k:Int)(N:k≠0)(hT:∀w,ii W 209 #[.pointer (some ⟨P.g,0,none⟩),J i] (λe=>e=b5 (a_ #[aZ aL,J k])) (Ne.fc P.g (x.nn:Int) (x.net.map jY) x.cut) (Ne.fc P.g (x.nn:Int) (x.net.map jY) x.cut) w):Lw W D 152 #[.pointer (some ⟨P.w,0,none⟩),J i] (dL P x) (λ(_:Unit)e=>e=b5 (aZ (kB { Ev.zero with why:=k }))) (λ_=>dL P x) w:=by intro V rr hV;have fN:=St.begin_ rr (λb hb=>(hV b hb).1) (fe P x);obtain⟨z,wb,HZ,HB,dV⟩:=fN.new' aH 77;replace dV:=dV.perm (bg (l₁:=[_]) (l₂:=dL P x));have Bg:wb.cell? ⟨P.w,3,none⟩=some (ptr P.g):=dV.facts.1.1 3;have hC:=dV.at_ 4 (uP P x _) (λ(_:Unit)=>Ne.fc.framed _ _ _ _) dV.no (Lw.turns (hT wb));have dk:(k != 0)=true:=bne_iff_ne.mpr N;unfold ptr at Bg;rw[HB.out] at Bg;go_in;go_wp2_with fail;rw[<-HB.out,<-HZ.out];refine hC.mono ?_;rintro e w1 ⟨_,rfl,dX⟩;have dX:St V w (dL P x++[_]) w1:=dX;clear hC dV Bg hT;obtain⟨y,wc,HY,HC,eO⟩:=dX.new' aL 172;rw[HC.out,HY.out] at eO;replace eO:=eO.drop.perm (bg (l₁:=dL P x) (l₂:=[_]));go_wp2_with (refine d_ eO 0 rfl 77 _ _ rfl 0 rfl [J k,(),(),(),(),(),ae ah 0,()] rfl (bf rfl) rfl aw (kB { Ev.zero with why:=k }) rfl rfl ?_;intro w8 eN;refine stay ?_);refine dI ?_;go_wp2;refine bodyPost_ret (fy rfl _ z rfl (eN.blk 0 rfl) bX aw) rfl ?_;obtain⟨r1,r2⟩:=(eN.drop).fin;exact⟨(),rfl,r1,r2⟩
def jZ(P:my)(x:Wl)(i:Nat)(m:Ms)(j:Option dA×Nat×Nat):List Bl:=(dL P x).set 4 (.o (Ne.Taken P.g (x.nn:Int) (Ne.minus (x.net.map jY) i) x.cut (mB m) j))
def Wl.del(x:Wl)(i:Nat):Wl:={ x with net:=x.net.eraseIdx i }
theorem EH(l:List Lt3)(i:Nat):Ne.minus (l.map jY) i=(l.eraseIdx i).map jY:=by unfold Ne.minus;rw[List.eraseIdx_eq_take_drop_succ,bI,List.map_take,List.map_drop]
section
variable{P:my}{x:Wl}{f t:Nat}{m:Ms}
theorem Jz(h:St V w0 (dL P x++l) w)(he:x.net[i]?=some (f,t,m))(E:x.cut (f*8+t)=false):dz W 209 #[.pointer (some ⟨P.g,0,none⟩),J i] w λe O=>∃j:Option dA×Nat×Nat,e=b5 (a_ #[aZ #[J f,J t,Z j.1 j.2.1 j.2.2],()])∧St V w0 (jZ P x i m j++l) O:=by
 obtain⟨hi,he⟩:=List.getElem?_eq_some_iff.1 he;have tR:i<(x.net.map jY).length:=by rw[bj];exact hi
 have he':(x.net.map jY)[i]=((f:Int),(t:Int),mB m):=by rw[di,he];rfl
 have hp:x.cut ((x.net.map jY)[i].1.toNat*8+(x.net.map jY)[i].2.1.toNat)=false:=by rw[he'];exact E
 have hC:=h.at_ 4 (uP P x l) (S':=λj=>Ne.Taken P.g (x.nn:Int) (Ne.minus (x.net.map jY) i) x.cut (mB m) j) (C:=λ(j:Option dA×Nat×Nat)e=>e=b5 (a_ #[aZ #[J f,J t,Z j.1 j.2.1 j.2.2],()])) (λj=>Ne.Taken.framed _ _ _ _ _ _) h.no (Lw.one λV hN hV=>by have:=Ne.Dz w P.g (x.nn:Int) (x.net.map jY) x.cut i tR hp V hN (λb hb=>(hV b hb).1);rw[he'] at this;exact this)
 exact hC
theorem B6{j:Option dA×Nat×Nat}(h:St V w0 (jZ P x i m j++l) w):St V w0 (dL P (x.del i)++l) w:=by have I:=h.front 4 rfl;obtain⟨_,G⟩:=St.opn (κ:=Unit) (o:=λ_=>[.o (Ne.fc P.g (x.nn:Int) (Ne.minus (x.net.map jY) i) x.cut)]) I λU hT=>⟨(),⟨U,λ_=>False,hT.1,trivial,λ_ hb=>hb,λ_ hb=>hb.elim,λ_ _ hb=>hb⟩,⟨Ne.fc.framed _ _ _ _,trivial⟩⟩;have L:=G.perm (iG (l:=dL P x++l) (i:=4) (b' := .o (Ne.fc P.g (x.nn:Int) (Ne.minus (x.net.map jY) i) x.cut)) rfl).symm;rw[EH] at L;exact L
end
end Go.Proofs.YtpeepcmdehhbgaaGreatDoor
end
section
variable{w:X}{V:aV}{args:aP}
namespace Go.Proofs.YtpeepcmdehhbgaaGreatDoor
open RowKit Hop V
set_option maxRecDepth 100000
set_option maxHeartbeats 1000000
theorem yu{ρ:Operand->K}{o:dE}{x:Operand}{ty:dC}{g:Nat}{t:dC}{cs:aP}{fs:Array Field}(Y:ρ x=(g:K))(ho:o.op=.load ty x)(hB:eJ w g t cs)(hu:Tryz.prog.underlying ty=some (.struct fs))(hi:(Tryz.prog.info? ty).map (·.size)=some cs.size):(execOp ρ o).run W w=.ok (.value (aZ cs)) w:=by obtain⟨dst,op,ty',pos,after,guard⟩:=o;simp only at ho;subst ho;have h:=run_loadAt_mid (P:=W) w g 0 ty cs.toList _ (λj u hu=>by rw[cJ,hB.cell,<-Array.getElem?_toList];exact hu) hu rfl (by simpa using hi);simp[execOp,Y,h,Result.andThen]
theorem dN.mem{l:List dW}{S:dW}(hM:dN l w V)(hS:S∈l):∃U:aV,S w U∧∀b,U b->V b:=by obtain⟨i,hi,he⟩:=List.getElem_of_mem hS;obtain⟨U,hU,hs⟩:=(dN.pick l i S (by rw[List.getElem?_eq_getElem hi,he]) hM).fst;exact⟨U,hU,hs⟩
theorem Xv(P:my)(x:Wl):(dL P x).length=5+x.nn:=by show ((oF P x++rq P x).length+1+1+1+1+1)=_;simp[oF,rq,Wl.nn];omega
theorem T9{w0:X}{l:List Bl}{P:my}{x:Wl}{t:Nat}{f:Int}{m:Ms}{A:aU}{c:Nat}{A2:aU}{c2:Nat}{q:List El}(h:St V w0 (dL P x++l) w)(ht:t<x.nr)(Y:(x.rp t).Ok)(hm:m.Gd)(hA:m.k≠1->A=none∧c=0)(qZ:m.k≠4->m.k≠5->A2=none∧c2=0)(hl:.o (Jw ⟨0,m,A,c,A2,q,c2⟩)∈l):dz W 19 #[.pointer (some ⟨P.r t,0,none⟩),J f,aZ (mH m A c A2 c2)] w λe O=>∃j:K×List Sd,(e=b5 j.1∧eS j.2=((x.rp t).recv f m).2)∧St V w0 ([.o (dS j.1 j.2)]++(dL P (x.qv t ((x.rp t).recv f m).1)++l)) O:=by
 have hat:=Ph P x ht l;have I:=h.front _ hat
 refine (St.py (ι:=K×List Sd) (a:=[.o (tX (P.r t) (P.d t) (x.rp t))]) (C:=λj e=>e=b5 j.1∧eS j.2=((x.rp t).recv f m).2) (a':=λj=>[.o (dS j.1 j.2)]++[.o (tX (P.r t) (P.d t) ((x.rp t).recv f m).1)]) (b:=(dL P x++l).eraseIdx (5+t)) I (λj=>(show pF [.o (dS j.1 j.2),.o (tX (P.r t) (P.d t) ((x.rp t).recv f m).1)] from ⟨dS.framed _ _,tX.framed _ _ _,trivial⟩)) I.no (λU hU jR=>?_)).mono ?_
 ·obtain⟨U',hI,hs⟩:=dN.mem (S:=Jw ⟨0,m,A,c,A2,q,c2⟩) hU (List.mem_map.2 ⟨_,(by
   rw[List.eraseIdx_append_of_lt_length (by rw[Xv];show 5+t<5+(x.nr+x.na);omega)];exact List.mem_append_right _ hl),rfl⟩)
  exact Xs w _ (P.r t) (P.d t) (x.rp t) Y f m A c A2 c2 q hm hA qZ (po _ _ _ _ hI (λb hb => .inl (hs b hb))) (λb hb=>hb.elim (jR b) False.elim)
 rintro e O ⟨j,hC,hS⟩;refine⟨j,hC,?_⟩;have e2:=B4 P x ht ((x.rp t).recv f m).1 l;rw[show dL P (x.qv t ((x.rp t).recv f m).1)++l=_ from e2.symm];exact hS.perm ((iG hat).symm.cons _)
theorem Hw(w:X)(D:aV)(P:my)(x:Wl)(hQ:pM P x)(i f t:Nat)(m:Ms)(he:x.net[i]?=some (f,t,m))(E:x.cut (f*8+t)=false)(hm:m.Gd)(Vm:kX m=true)(ht:t<x.nr)(Y:(x.rp t).Ok)(tT:∀q∈((x.rp t).recv (f:Int) m).2,q.2.Gd)(rA:((x.rp t).recv (f:Int) m).2.length<=1048576):Lw W D 152 #[.pointer (some ⟨P.w,0,none⟩),J i] (dL P x) (λ(_:Unit)e=>e=b5 (aZ (kB { Ev.zero with node:=(t:Int) }))) (λ_=>dL P (((x.del i).qv t ((x.rp t).recv (f:Int) m).1).send t ((x.rp t).recv (f:Int) m).2)) w:=by
 obtain⟨R,HR⟩:=az ((x.rp t).recv (f:Int) m);rw[<-HR.out] at tT rA ⊢;intro V rr hV;have fN:=St.begin_ rr (λb hb=>(hV b hb).1) (fe P x);obtain⟨z,wb,HZ,HB,dV⟩:=fN.new' aH 77;replace dV:=dV.perm (bg (l₁:=[_]) (l₂:=dL P x));have Bg:wb.cell? ⟨P.w,3,none⟩=some (ptr P.g):=dV.facts.1.1 3;have hC:=Jz dV he E;unfold ptr at Bg;rw[HB.out] at Bg;go_in;go_wp2_with fail;rw[<-HB.out,<-HZ.out];refine hC.mono ?_;rintro e w1 ⟨⟨A,nb,cb⟩,rfl,dX⟩;clear hC dV Bg fN rr;dsimp only;obtain⟨y,wc,HY,HC,eO⟩:=dX.new' #[J f,J t,Z A nb cb] 172;replace eO:=eO.perm (bg (l₁:=[_]) (l₂:=jZ P x i m _++[_]));obtain⟨v,wd,HV,HD,eF⟩:=eO.new' #[(),J t,(),(),(),(),ae ah 0,()] 77;have ez:v=y+1:=by rw[HV.out,HC.out,HY.out];simp
 replace eF:=eF.perm (bg (l₁:=[_]) (l₂:=(jZ P x i m _++[_])++[_]));replace eF:St V w (jZ P x i m (A,nb,cb)++[.c z 77 aH,.c y 172 #[J f,J t,Z A nb cb],.c v 77 #[(),J t,(),(),(),(),ae ah 0,()]]) wd:=eF.perm (by rw[bp,bp];exact List.Perm.refl _);clear dX eO;obtain⟨U7,⟨_,hBi,K4,Fl⟩,hU7⟩:=eF.own.see 4 rfl;have gU:Bytes wd (wd:Nat) A nb (mB m):=In.reads (hBi.mono (V':=λb=>b<(wd:Nat)) λb hb=>(hU7 b hb).2);have Nj:=Jx wd A nb cb (mB m) gU K4 Fl;clear gU hBi hU7;go_wp2_with fail;rw[<-HC.out,<-HD.out,<-HY.out,<-ez];refine Nj.mono ?_;rintro e w5 ⟨hMq,ng⟩;obtain⟨m',A6,c6,A7,c7,q,hM,rfl,Mf,iP,j5⟩:=hMq.resolve_right (λh=>h.1 m (tJ hm Vm));clear hMq;have QK:m=m':=(tJ hm Vm).one hM;subst QK;have eN:=eF.join (Jw.framed ⟨0,m,A6,c6,A7,q,c7⟩) ng (U:=New wd w5) Mf (λb hb=>hb);replace eN:=B6 (eN.perm (List.perm_middle (l₁:=jZ P x i m _)).symm);clear Mf hM eF ng Nj HC HD HY ez;unfold mH;go_wp2_with (refine kf rfl (tn _ _ _ rfl) ?_;intro g w6 Wv tW hz6 hs6;refine stay ?_);refine dI ?_;have fH:=eN.made tW Wv (Nat.le_of_eq hz6);go_wp2_with (refine d_ fH 0 rfl 45 _ _ rfl 0 rfl (m.cells A6 c6 A7 c7) rfl (bf rfl) rfl aw (m.cells A6 c6 A7 c7).toArray rfl rfl ?_;intro w7 fD;refine stay ?_);refine dI ?_;clear fH eN tW Wv hz6 hs6;have gy:St V w (dL P (x.del i)++[.c g 45 (m.cells A6 c6 A7 c7).toArray,.o (Jw ⟨0,m,A6,c6,A7,q,c7⟩),.c z 77 aH,.c y 172 #[J f,J t,Z A nb cb],.c v 77 #[(),J t,(),(),(),(),ae ah 0,()]]) w7:=fD.perm (List.perm_middle (l₁:=dL P (x.del i))).symm;clear fD;have gD:∀x' O,St V w (dL P x'++[.c g 45 (m.cells A6 c6 A7 c7).toArray,.o (Jw ⟨0,m,A6,c6,A7,q,c7⟩),.c z 77 aH,.c y 172 #[J f,J t,Z A nb cb],.c v 77 #[(),J t,(),(),(),(),ae ah 0,()]]) O->O.cell? ⟨y,0,none⟩=some (J f)∧O.cell? ⟨y,1,none⟩=some (J t)∧eJ O g 45 (m.cells A6 c6 A7 c7).toArray:=λx' O h=>by have I:=h.perm (bg (l₂:=[_,_,_,_,_]));have G:=I.facts.2.2.1.1;exact⟨G 0,G 1,I.blk 0 rfl⟩
 have vI:=qT (iM gy (hQ.net _)) (hQ.net _) (i:=t) ht;unfold ptr at vI;obtain⟨Vk,vw,_⟩:=gD _ _ gy;go_wp2_with fail;refine vI.mono ?_;rintro e w8 ⟨rfl,rfl⟩;clear vI Vk vw;go_wp2_with fail;have eW:=gy.grow (Grow.refl _).drew;have eA:=gD _ _ eW;refine dJ rfl ?_;refine fC (λO=>O.cell? ⟨y,0,none⟩=some (J f)∧O.cell? ⟨y,1,none⟩=some (J t)∧eJ O g 45 (m.cells A6 c6 A7 c7).toArray) [] 9 rfl [0,1,2,3,4,5,6] ?_;iterate 6 (refine eV rfl eA (λw1 ⟨h0,I,G⟩=>aM) ?_)
 refine eV (v := aZ (m.cells A6 c6 A7 c7).toArray) rfl eA (λw1 E R T=>by rw[yu rfl rfl E.2.2 bG aw];exact⟨rfl,T⟩) ?_;refine eZ 7 [] rfl ?_;have hC:=T9 (f:=(f:Int)) eW (t:=t) ht Y hm iP j5 (bR _ (cj ..));rw[show (x.del i).rp t=x.rp t from rfl,<-HR.out] at hC;unfold mH at hC;go_wp2_with fail;refine hC.mono ?_;rintro e w4 ⟨⟨u,q9⟩,⟨rfl,hq⟩,dX⟩;dsimp only at hq dX;replace dX:=St.inn dX;have q_:=gD _ _ (St.T4 dX);go_wp2_with fail;refine⟨λ_=>q_,?_⟩;refine eZ 8 [] rfl ?_;have ni:=qt w4 (λ_=>False) P ((x.del i).qv t R.1) ((hQ.net _).qv t R.1) t (by show t<x.nr+x.na;omega) u q9 (λs hs=>tT (s.to,s.m) (by rw[<-hq];exact cT hs)) (by rw[<-hq] at rA;unfold eS at rA;rwa [bj] at rA);rw[hq] at ni;go_wp2_with fail;refine (St.call (a:=dL P ((x.del i).qv t R.1)++[.o (dS u q9)]) (a':=λ(_:Unit)=>dL P (((x.del i).qv t R.1).send t R.2)) dX (λ_=>fe _ _) dX.no ni).mono ?_;rintro e w7 ⟨_,rfl,eF⟩;have T6:=gD _ _ eF;replace eF:=eF.perm (bg (l₁:=dL P _) (l₂:=[_,_,_,_,_]));go_wp2_with fail;refine⟨λ_=>T6,?_⟩;refine gj ?_;clear dX q_ eW eA gD hC ni;go_wp2_with (first|(refine dU rfl 77 _ rfl _ rfl (eF.blk 4 rfl) bX aw ?_)|(refine d_ eF 2 rfl 77 _ _ rfl 0 rfl [(),J t,(),(),(),(),ae ah 0,()] rfl (bf rfl) rfl aw (kB { Ev.zero with node:=(t:Int) }) rfl rfl ?_;intro w8 eN;refine stay ?_));refine dI ?_;go_wp2;refine bodyPost_ret (fy rfl _ z rfl (eN.blk 2 rfl) bX aw) rfl ?_;obtain⟨r1,r2⟩:=(eN.drop.drop.drop.drop.drop).fin;exact⟨(),rfl,r1,r2⟩
set_option maxRecDepth 100000
set_option maxHeartbeats 1000000
theorem yv(w:X)(D:aV)(P:my)(x:Wl)(hQ:pM P x)(i f a tg code n:Nat)(ha:a<x.na)(Fx:x.net[i]?=some (f,x.nr+a,fx (tg:Int) (code:Int) n))(eA:x.cut (f*8+(x.nr+a))=false)(su:(fx (tg:Int) (code:Int) n).Gd)(a0R:kX (fx (tg:Int) (code:Int) n)=true)(abg:Ag)(id:lp)(cd:Nat)
 (hRc:∀(w:X)(U:aV)(p:vE),p.a=P.a a->Lw W U 210 #[.pointer (some ⟨p.a,0,none⟩),J f,aZ (jc (tg:Int) (code:Int) n)] (dR p (x.ag a)) (λ(_:Unit)e=>e=b5 (a_ #[iK id,J cd])) (λ_=>dR p abg) w):Lw W D 152 #[.pointer (some ⟨P.w,0,none⟩),J i] (dL P x) (λ(_:Unit)e=>e=b5 (aZ (kB { Ev.zero with node:=((x.nr+a:Nat):Int),code:=(cd:Int),id:=id,n:=if cd=8 then n else 0 }))) (λ_=>dL P ((x.del i).jx a abg)) w:=by
 obtain⟨t,Ht⟩:=az (x.nr+a);obtain⟨abp,HN⟩:=az (if cd=8 then n else 0);rw[<-HN.out];obtain⟨m,Hm⟩:=az (fx (tg:Int) (code:Int) n);have he:=Fx;have E:=eA;have hm:=su;have Vm:=a0R;rw[<-Ht.out,<-Hm.out] at he;rw[<-Ht.out] at E ⊢;rw[<-Hm.out] at hm Vm;clear Fx eA su a0R;intro V rr hV;have fN:=St.begin_ rr (λb hb=>(hV b hb).1) (fe P x);obtain⟨z,wb,HZ,HB,dV⟩:=fN.new' aH 77;replace dV:=dV.perm (bg (l₁:=[_]) (l₂:=dL P x));have Bg:wb.cell? ⟨P.w,3,none⟩=some (ptr P.g):=dV.facts.1.1 3;have hC:=Jz dV he E;unfold ptr at Bg;rw[HB.out] at Bg;go_in;go_wp2_with fail;rw[<-HB.out,<-HZ.out];refine hC.mono ?_;rintro e w1 ⟨⟨A,nb,cb⟩,rfl,dX⟩;clear hC dV Bg fN rr;dsimp only;obtain⟨y,wc,HY,HC,eO⟩:=dX.new' #[J f,J t,Z A nb cb] 172;replace eO:=eO.perm (bg (l₁:=[_]) (l₂:=jZ P x i m _++[_]));obtain⟨v,wd,HV,HD,eF⟩:=eO.new' #[(),J t,(),(),(),(),ae ah 0,()] 77;have ez:v=y+1:=by rw[HV.out,HC.out,HY.out];simp
 replace eF:=eF.perm (bg (l₁:=[_]) (l₂:=(jZ P x i m _++[_])++[_]));replace eF:St V w (jZ P x i m (A,nb,cb)++[.c z 77 aH,.c y 172 #[J f,J t,Z A nb cb],.c v 77 #[(),J t,(),(),(),(),ae ah 0,()]]) wd:=eF.perm (by rw[bp,bp];exact List.Perm.refl _);clear dX eO;obtain⟨U7,⟨_,hBi,K4,Fl⟩,hU7⟩:=eF.own.see 4 rfl;have gU:Bytes wd (wd:Nat) A nb (mB m):=In.reads (hBi.mono (V':=λb=>b<(wd:Nat)) λb hb=>(hU7 b hb).2);have Nj:=Jx wd A nb cb (mB m) gU K4 Fl;clear gU hBi hU7;go_wp2_with fail;rw[<-HC.out,<-HD.out,<-HY.out,<-ez];refine Nj.mono ?_;rintro e w5 ⟨hMq,ng⟩;obtain⟨m',A6,c6,A7,c7,q,hM,rfl,Mf,iP,j5⟩:=hMq.resolve_right (λh=>h.1 m (tJ hm Vm));clear hMq;have QK:m=m':=(tJ hm Vm).one hM;subst QK;have eN:=eF.join (Jw.framed ⟨0,m,A6,c6,A7,q,c7⟩) ng (U:=New wd w5) Mf (λb hb=>hb);replace eN:=B6 (eN.perm (List.perm_middle (l₁:=jZ P x i m _)).symm);clear Mf hM eF ng Nj HC HD HY ez;unfold mH;go_wp2_with (refine kf rfl (tn _ _ _ rfl) ?_;intro g w6 Wv tW hz6 hs6;refine stay ?_);refine dI ?_;have fH:=eN.made tW Wv (Nat.le_of_eq hz6);go_wp2_with (refine d_ fH 0 rfl 45 _ _ rfl 0 rfl (m.cells A6 c6 A7 c7) rfl (bf rfl) rfl aw (m.cells A6 c6 A7 c7).toArray rfl rfl ?_;intro w7 fD;refine stay ?_);refine dI ?_;clear fH eN tW Wv hz6 hs6;have gy:St V w (dL P (x.del i)++[.c g 45 (m.cells A6 c6 A7 c7).toArray,.o (Jw ⟨0,m,A6,c6,A7,q,c7⟩),.c z 77 aH,.c y 172 #[J f,J t,Z A nb cb],.c v 77 #[(),J t,(),(),(),(),ae ah 0,()]]) w7:=fD.perm (List.perm_middle (l₁:=dL P (x.del i))).symm;clear fD;have gD:∀x' O,St V w (dL P x'++[.c g 45 (m.cells A6 c6 A7 c7).toArray,.o (Jw ⟨0,m,A6,c6,A7,q,c7⟩),.c z 77 aH,.c y 172 #[J f,J t,Z A nb cb],.c v 77 #[(),J t,(),(),(),(),ae ah 0,()]]) O->O.cell? ⟨y,0,none⟩=some (J f)∧O.cell? ⟨y,1,none⟩=some (J t)∧eJ O g 45 (m.cells A6 c6 A7 c7).toArray:=λx' O h=>by have I:=h.perm (bg (l₂:=[_,_,_,_,_]));have G:=I.facts.2.2.1.1;exact⟨G 0,G 1,I.blk 0 rfl⟩
 have vI:=EE (iM gy (hQ.net _)) (i:=(t:Int)) (by right;rw[Ht.out];show ((x.nr:Nat):Int)<=_;omega);obtain⟨Vk,vw,_⟩:=gD _ _ gy;go_wp2_with fail;refine vI.mono ?_;rintro e w8 ⟨rfl,rfl⟩;clear vI Vk vw;go_wp2_with fail;have eW:=gy.grow (Grow.refl _).drew;have eA:=gD _ _ eW;have hce:(m.cells A6 c6 A7 c7).toArray=jc (tg:Int) (code:Int) n:=by obtain⟨rfl,rfl⟩:=iP (by rw[Hm.out];show (2:Int)≠1;decide);obtain⟨rfl,rfl⟩:=j5 (by rw[Hm.out];show (2:Int)≠4;decide) (by rw[Hm.out];show (2:Int)≠5;decide);rw[Hm.out];rfl
 refine dJ rfl ?_;refine fC (λO=>O.cell? ⟨y,0,none⟩=some (J f)∧O.cell? ⟨y,1,none⟩=some (J t)∧eJ O g 45 (m.cells A6 c6 A7 c7).toArray) [] 15 rfl [0,1,2,4,5,6] ?_;iterate 5 (refine eV rfl eA (λw1 ⟨h0,I,G⟩=>aM) ?_)
 refine eV (v := aZ (m.cells A6 c6 A7 c7).toArray) rfl eA (λw1 E R T=>by rw[yu rfl rfl E.2.2 bG aw];exact⟨rfl,T⟩) ?_;refine eZ 3 [] rfl ?_;have Bj:=qp (iM eW (hQ.net _)) (hQ.net _) (i:=a) ha;rw[show (((x.del i).nr+a:Nat):Int)=(t:Int) by rw[Ht.out];rfl] at Bj;unfold ptr at Bj;go_wp2_with fail;refine Bj.mono ?_;rintro e w3 ⟨rfl,rfl⟩;go_wp2_with fail;refine⟨λ_=>eA,?_⟩;refine eZ 7 [8,9,10,11] rfl ?_;have hC:=lr (ι:=Unit) (f:=210) (args:=#[.pointer (some ⟨P.a a,0,none⟩),J f,aZ (jc (tg:Int) (code:Int) n)]) (C:=λ_ e=>e=b5 (a_ #[iK id,J cd])) (y:=λ_=>abg) (ex:=λ_=>[]) eW ha (λ_=>trivial) (λU p hp _=>by rw[<-hp];exact hRc _ U p hp);rw[hce];go_wp2_with fail;refine hC.mono ?_;rintro e w4 ⟨_,rfl,dX⟩;replace dX:St V w (dL P ((x.del i).jx a abg)++[_,_,_,_,_]) w4:=dX;have q_:=gD _ _ dX;rw[hce] at q_ dX;replace dX:=dX.perm (bg (l₁:=dL P _) (l₂:=[_,_,_,_,_]));clear hC hRc Bj eW eA gD gy;go_wp2_with fail;refine⟨λ_=>q_,?_⟩;iterate 4 (refine eV rfl q_ (λw1 ⟨h0,I,G⟩=>aM) ?_)
 refine eZ 12 [13] rfl ?_;go_wp2_with (refine d_ dX 4 rfl 37 _ _ rfl 3 rfl [J id.1,J id.2.1,J id.2.2] rfl (bf rfl) rfl aw #[(),J t,(),J id.1,J id.2.1,J id.2.2,ae ah 0,()] rfl rfl ?_;intro w5 eF;refine stay ?_);refine dI ?_;have C9:w5.cell? ⟨y,0,none⟩=some (J f)∧w5.cell? ⟨y,1,none⟩=some (J t)∧eJ w5 g 45 (jc (tg:Int) (code:Int) n):=by have G:=eF.facts.2.2.1.1;exact⟨G 0,G 1,eF.blk 0 rfl⟩
 clear dX q_;go_wp2_with fail;refine⟨λ_=>C9,?_⟩;refine eV rfl C9 (λw1 ⟨h0,I,G⟩=>aM) ?_;refine eZ 14 [] rfl ?_;go_wp2_with (refine fv eF 4 rfl 3 (.tmp 64) (.tmp 62) rfl 2 rfl (J cd) rfl (bf rfl) rfl aw rfl ?_;intro w6 eN;refine stay ?_);refine dI ?_;have eN:St V w ([.c g 45 (jc (tg:Int) (code:Int) n),.o (Jw ⟨0,m,A6,c6,A7,q,c7⟩),.c z 77 aH,.c y 172 #[J f,J t,Z A nb cb],.c v 77 #[(),J t,J cd,J id.1,J id.2.1,J id.2.2,ae ah 0,()]]++dL P ((x.del i).jx a abg)) w6:=eN;have kU:w6.cell? ⟨y,0,none⟩=some (J f)∧w6.cell? ⟨y,1,none⟩=some (J t)∧eJ w6 g 45 (jc (tg:Int) (code:Int) n):=by have G:=eN.facts.2.2.1.1;exact⟨G 0,G 1,eN.blk 0 rfl⟩
 clear eF C9;go_wp2_with fail;refine⟨λ_=>kU,?_⟩;refine gj ?_;have rK:w6.cell? ⟨v,2,none⟩=some (J cd):=eN.facts.2.2.2.1.1 2;have uN:w6.cell? ⟨g,12,none⟩=some (ae ah n):=eN.facts.1.1 12;clear kU;by_cases h8:cd=8
 ·have d8:((cd:Int) == 8)=true:=beq_iff_eq.mpr ap
  have hN:Hid (abp=n):=Q (by rw[HN.out,aA h8]);clear h8;go_wp2_with (refine fv eN 4 rfl 42 (.tmp 70) (.tmp 69) rfl 6 rfl (ae ah n) rfl (bf rfl) rfl aw rfl ?_;intro w7 fH;refine stay ?_);refine dI ?_;have fH:St V w ([.c g 45 (jc (tg:Int) (code:Int) n),.o (Jw ⟨0,m,A6,c6,A7,q,c7⟩),.c z 77 aH,.c y 172 #[J f,J t,Z A nb cb],.c v 77 #[(),J t,J cd,J id.1,J id.2.1,J id.2.2,ae ah n,()]]++dL P ((x.del i).jx a abg)) w7:=fH;clear eN rK uN;go_wp2_with (first|(refine dU rfl 77 _ rfl _ rfl (fH.blk 4 rfl) bX aw ?_)|(refine d_ fH 2 rfl 77 _ _ rfl 0 rfl [(),J t,J cd,J id.1,J id.2.1,J id.2.2,ae ah n,()] rfl (bf rfl) rfl aw (kB { Ev.zero with node:=(t:Int),code:=(cd:Int),id:=id,n:=n }) rfl rfl ?_;intro w8 fD;refine stay ?_));refine dI ?_;go_wp2;refine bodyPost_ret (fy rfl _ z rfl (fD.blk 2 rfl) bX aw) rfl ?_;obtain⟨r1,r2⟩:=(fD.drop.drop.drop.drop.drop).fin;exact⟨(),by rw[hN.out],r1,r2⟩
 ·have d8:((cd:Int) == 8)=false:=beq_eq_false_iff_ne.mpr ap
  have hN:Hid (abp=0):=Q (by rw[HN.out,aB h8]);clear h8;go_wp2_with (first|(refine dU rfl 77 _ rfl _ rfl (eN.blk 4 rfl) bX aw ?_)|(refine d_ eN 2 rfl 77 _ _ rfl 0 rfl [(),J t,J cd,J id.1,J id.2.1,J id.2.2,ae ah 0,()] rfl (bf rfl) rfl aw (kB { Ev.zero with node:=(t:Int),code:=(cd:Int),id:=id,n:=0 }) rfl rfl ?_;intro w8 fD;refine stay ?_));refine dI ?_;go_wp2;refine bodyPost_ret (fy rfl _ z rfl (fD.blk 2 rfl) bX aw) rfl ?_;obtain⟨r1,r2⟩:=(fD.drop.drop.drop.drop.drop).fin;exact⟨(),by rw[hN.out],r1,r2⟩
set_option maxRecDepth 100000
set_option maxHeartbeats 1000000
theorem EI(w:X)(D:aV)(P:my)(x x':Wl)(a b n:Int)(s:aR)(ev:Ev)(E:∀w D,Lw W D 151 #[.pointer (some ⟨P.w,0,none⟩),aZ (j8 ⟨1,a,b,n,s⟩)] (dL P x) (λ(_:Unit)e=>e=b5 (aZ (kB ev))) (λ_=>dL P x') w):Lw W D 88 #[.pointer (some ⟨P.w,0,none⟩),aZ (j8 ⟨1,a,b,n,s⟩)] (dL P x) (λ(_:Unit)e=>e=b5 (aZ (kB ev))) (λ_=>dL P x') w:=by
 intro V rr hV;have fN:=St.begin_ rr (λb hb=>(hV b hb).1) (fe P x);obtain⟨y,wa,HY,HA,ej⟩:=fN.new' (j8 ⟨1,a,b,n,s⟩) 75;obtain⟨z,wb,HZ,HB,dV⟩:=ej.new' aH 77;have ez:z=y+1:=by rw[HZ.out,HA.out,HY.out];simp
 replace dV:=dV.perm (bg (l₁:=[_,_]) (l₂:=dL P x));have hy:=(dV.perm (bg (l₂:=[_,_]))).facts.2.1.1;have y0:wb.cell? ⟨y,0,none⟩=some (J 1):=hy 0;have hC:=St.call (a:=dL P x) (a':=λ(_:Unit)=>dL P x') dV (λ_=>fe _ _) dV.no (E wb (λ_=>False));unfold j8 at HA hC ⊢;dsimp only at HA hC ⊢;rw[HB.out,HA.out] at y0;rw[HY.out] at y0;clear hy;go_in;go_wp2_with fail;rw[<-HA.out,<-HB.out,<-HY.out,<-ez];go_wp2_with fail;refine hC.mono ?_;rintro e w2 ⟨_,rfl,dX⟩;replace dX:=dX.perm (bg (l₁:=dL P _) (l₂:=[_,_]));clear hC dV y0 HA HB HY HZ ez fN ej;go_wp2_with (refine d_ dX 0 rfl 77 _ _ rfl 0 rfl [J ev.why,J ev.node,J ev.code,J ev.id.1,J ev.id.2.1,J ev.id.2.2,ae ah ev.n,J ev.bag] rfl (bf rfl) rfl aw (kB ev) rfl rfl ?_;intro w3 eO;refine stay ?_);refine dI ?_;go_wp2;refine bodyPost_ret (fy rfl _ z rfl (eO.blk 0 rfl) bX aw) rfl ?_;obtain⟨r1,r2⟩:=(eO.drop.drop).fin;exact⟨(),rfl,r1,r2⟩
theorem nM(w:X)(D:aV)(P:my)(x x':Wl)(a b n:Int)(s:aR)(ev:Ev)(E:∀w D,Lw W D 152 #[.pointer (some ⟨P.w,0,none⟩),J n] (dL P x) (λ(_:Unit)e=>e=b5 (aZ (kB ev))) (λ_=>dL P x') w):Lw W D 88 #[.pointer (some ⟨P.w,0,none⟩),aZ (j8 ⟨2,a,b,n,s⟩)] (dL P x) (λ(_:Unit)e=>e=b5 (aZ (kB ev))) (λ_=>dL P x') w:=by
 intro V rr hV;have fN:=St.begin_ rr (λb hb=>(hV b hb).1) (fe P x);obtain⟨y,wa,HY,HA,ej⟩:=fN.new' (j8 ⟨2,a,b,n,s⟩) 75;obtain⟨z,wb,HZ,HB,dV⟩:=ej.new' aH 77;have ez:z=y+1:=by rw[HZ.out,HA.out,HY.out];simp
 replace dV:=dV.perm (bg (l₁:=[_,_]) (l₂:=dL P x));have hy:=(dV.perm (bg (l₂:=[_,_]))).facts.2.1.1;have y0:wb.cell? ⟨y,0,none⟩=some (J 2):=hy 0;have hC:=St.call (a:=dL P x) (a':=λ(_:Unit)=>dL P x') dV (λ_=>fe _ _) dV.no (E wb (λ_=>False));unfold j8 at HA hC ⊢;dsimp only at HA hC ⊢;rw[HB.out,HA.out] at y0;rw[HY.out] at y0;clear hy;go_in;go_wp2_with fail;rw[<-HA.out,<-HB.out,<-HY.out,<-ez];go_wp2_with fail;refine hC.mono ?_;rintro e w2 ⟨_,rfl,dX⟩;replace dX:=dX.perm (bg (l₁:=dL P _) (l₂:=[_,_]));clear hC dV y0 HA HB HY HZ ez fN ej;go_wp2_with (refine d_ dX 0 rfl 77 _ _ rfl 0 rfl [J ev.why,J ev.node,J ev.code,J ev.id.1,J ev.id.2.1,J ev.id.2.2,ae ah ev.n,J ev.bag] rfl (bf rfl) rfl aw (kB ev) rfl rfl ?_;intro w3 eO;refine stay ?_);refine dI ?_;go_wp2;refine bodyPost_ret (fy rfl _ z rfl (eO.blk 0 rfl) bX aw) rfl ?_;obtain⟨r1,r2⟩:=(eO.drop.drop).fin;exact⟨(),rfl,r1,r2⟩
theorem LU(w:X)(D:aV)(P:my)(x x':Wl)(a b n:Int)(s:aR)(ev:Ev)(E:∀w D,Lw W D 159 #[.pointer (some ⟨P.w,0,none⟩),aZ (j8 ⟨9,a,b,n,s⟩)] (dL P x) (λ(_:Unit)e=>e=b5 (aZ (kB ev))) (λ_=>dL P x') w):Lw W D 88 #[.pointer (some ⟨P.w,0,none⟩),aZ (j8 ⟨9,a,b,n,s⟩)] (dL P x) (λ(_:Unit)e=>e=b5 (aZ (kB ev))) (λ_=>dL P x') w:=by
 intro V rr hV;have fN:=St.begin_ rr (λb hb=>(hV b hb).1) (fe P x);obtain⟨y,wa,HY,HA,ej⟩:=fN.new' (j8 ⟨9,a,b,n,s⟩) 75;obtain⟨z,wb,HZ,HB,dV⟩:=ej.new' aH 77;have ez:z=y+1:=by rw[HZ.out,HA.out,HY.out];simp
 replace dV:=dV.perm (bg (l₁:=[_,_]) (l₂:=dL P x));have hy:=(dV.perm (bg (l₂:=[_,_]))).facts.2.1.1;have y0:wb.cell? ⟨y,0,none⟩=some (J 9):=hy 0;have hC:=St.call (a:=dL P x) (a':=λ(_:Unit)=>dL P x') dV (λ_=>fe _ _) dV.no (E wb (λ_=>False));unfold j8 at HA hC ⊢;dsimp only at HA hC ⊢;rw[HB.out,HA.out] at y0;rw[HY.out] at y0;clear hy;go_in;go_wp2_with fail;rw[<-HA.out,<-HB.out,<-HY.out,<-ez];go_wp2_with fail;refine hC.mono ?_;rintro e w2 ⟨_,rfl,dX⟩;replace dX:=dX.perm (bg (l₁:=dL P _) (l₂:=[_,_]));clear hC dV y0 HA HB HY HZ ez fN ej;go_wp2_with (refine d_ dX 0 rfl 77 _ _ rfl 0 rfl [J ev.why,J ev.node,J ev.code,J ev.id.1,J ev.id.2.1,J ev.id.2.2,ae ah ev.n,J ev.bag] rfl (bf rfl) rfl aw (kB ev) rfl rfl ?_;intro w3 eO;refine stay ?_);refine dI ?_;go_wp2;refine bodyPost_ret (fy rfl _ z rfl (eO.blk 0 rfl) bX aw) rfl ?_;obtain⟨r1,r2⟩:=(eO.drop.drop).fin;exact⟨(),rfl,r1,r2⟩
theorem H_(w:X)(D:aV)(P:my)(x x':Wl)(a b n:Int)(s:aR)(ev:Ev)(E:∀w D,Lw W D 159 #[.pointer (some ⟨P.w,0,none⟩),aZ (j8 ⟨10,a,b,n,s⟩)] (dL P x) (λ(_:Unit)e=>e=b5 (aZ (kB ev))) (λ_=>dL P x') w):Lw W D 88 #[.pointer (some ⟨P.w,0,none⟩),aZ (j8 ⟨10,a,b,n,s⟩)] (dL P x) (λ(_:Unit)e=>e=b5 (aZ (kB ev))) (λ_=>dL P x') w:=by
 intro V rr hV;have fN:=St.begin_ rr (λb hb=>(hV b hb).1) (fe P x);obtain⟨y,wa,HY,HA,ej⟩:=fN.new' (j8 ⟨10,a,b,n,s⟩) 75;obtain⟨z,wb,HZ,HB,dV⟩:=ej.new' aH 77;have ez:z=y+1:=by rw[HZ.out,HA.out,HY.out];simp
 replace dV:=dV.perm (bg (l₁:=[_,_]) (l₂:=dL P x));have hy:=(dV.perm (bg (l₂:=[_,_]))).facts.2.1.1;have y0:wb.cell? ⟨y,0,none⟩=some (J 10):=hy 0;have hC:=St.call (a:=dL P x) (a':=λ(_:Unit)=>dL P x') dV (λ_=>fe _ _) dV.no (E wb (λ_=>False));unfold j8 at HA hC ⊢;dsimp only at HA hC ⊢;rw[HB.out,HA.out] at y0;rw[HY.out] at y0;clear hy;go_in;go_wp2_with fail;rw[<-HA.out,<-HB.out,<-HY.out,<-ez];go_wp2_with fail;refine hC.mono ?_;rintro e w2 ⟨_,rfl,dX⟩;replace dX:=dX.perm (bg (l₁:=dL P _) (l₂:=[_,_]));clear hC dV y0 HA HB HY HZ ez fN ej;go_wp2_with (refine d_ dX 0 rfl 77 _ _ rfl 0 rfl [J ev.why,J ev.node,J ev.code,J ev.id.1,J ev.id.2.1,J ev.id.2.2,ae ah ev.n,J ev.bag] rfl (bf rfl) rfl aw (kB ev) rfl rfl ?_;intro w3 eO;refine stay ?_);refine dI ?_;go_wp2;refine bodyPost_ret (fy rfl _ z rfl (eO.blk 0 rfl) bX aw) rfl ?_;obtain⟨r1,r2⟩:=(eO.drop.drop).fin;exact⟨(),rfl,r1,r2⟩
theorem I0(w:X)(D:aV)(P:my)(x x':Wl)(a b n:Int)(s:aR)(ev:Ev)(E:∀w D,Lw W D 159 #[.pointer (some ⟨P.w,0,none⟩),aZ (j8 ⟨13,a,b,n,s⟩)] (dL P x) (λ(_:Unit)e=>e=b5 (aZ (kB ev))) (λ_=>dL P x') w):Lw W D 88 #[.pointer (some ⟨P.w,0,none⟩),aZ (j8 ⟨13,a,b,n,s⟩)] (dL P x) (λ(_:Unit)e=>e=b5 (aZ (kB ev))) (λ_=>dL P x') w:=by
 intro V rr hV;have fN:=St.begin_ rr (λb hb=>(hV b hb).1) (fe P x);obtain⟨y,wa,HY,HA,ej⟩:=fN.new' (j8 ⟨13,a,b,n,s⟩) 75;obtain⟨z,wb,HZ,HB,dV⟩:=ej.new' aH 77;have ez:z=y+1:=by rw[HZ.out,HA.out,HY.out];simp
 replace dV:=dV.perm (bg (l₁:=[_,_]) (l₂:=dL P x));have hy:=(dV.perm (bg (l₂:=[_,_]))).facts.2.1.1;have y0:wb.cell? ⟨y,0,none⟩=some (J 13):=hy 0;have hC:=St.call (a:=dL P x) (a':=λ(_:Unit)=>dL P x') dV (λ_=>fe _ _) dV.no (E wb (λ_=>False));unfold j8 at HA hC ⊢;dsimp only at HA hC ⊢;rw[HB.out,HA.out] at y0;rw[HY.out] at y0;clear hy;go_in;go_wp2_with fail;rw[<-HA.out,<-HB.out,<-HY.out,<-ez];go_wp2_with fail;refine hC.mono ?_;rintro e w2 ⟨_,rfl,dX⟩;replace dX:=dX.perm (bg (l₁:=dL P _) (l₂:=[_,_]));clear hC dV y0 HA HB HY HZ ez fN ej;go_wp2_with (refine d_ dX 0 rfl 77 _ _ rfl 0 rfl [J ev.why,J ev.node,J ev.code,J ev.id.1,J ev.id.2.1,J ev.id.2.2,ae ah ev.n,J ev.bag] rfl (bf rfl) rfl aw (kB ev) rfl rfl ?_;intro w3 eO;refine stay ?_);refine dI ?_;go_wp2;refine bodyPost_ret (fy rfl _ z rfl (eO.blk 0 rfl) bX aw) rfl ?_;obtain⟨r1,r2⟩:=(eO.drop.drop).fin;exact⟨(),rfl,r1,r2⟩
set_option maxRecDepth 100000
set_option maxHeartbeats 1000000
theorem JA(w:X)(g:Nat)(nodes:Int)(l:List Ne.Lb)(P:aO)(V:aV)(h:Ne.fc g nodes l P w V):dz W 89 #[g] w λe O=>e=b5 (J l.length)∧w=O:=by
 obtain⟨_,v,q,R,D,ig,_,_,_,hB,kN,_⟩:=h;have hl:l.length=q.length:=by rw[<-ig,bj]
 rw[hl];clear hl ig;obtain⟨A0,c0,rfl,_⟩:=kN.jL;have c1:w.cell? ⟨g,1,none⟩=some (Z A0 q.length c0):=hB.cell 1;go_in;go_wp2;go_ret;exact⟨rfl,rfl⟩
theorem Pp(w:X)(D:aV)(P:my)(x:Wl)(Ta:List Lt3)(cut':aO)(a b n r:Int)(s:aR)(hT:∀w,ii W 153 #[.pointer (some ⟨P.g,0,none⟩),J n] (λe=>e=b5 (J r)) (Ne.fc P.g (x.nn:Int) (x.net.map jY) x.cut) (Ne.fc P.g (x.nn:Int) (Ta.map jY) cut') w):Lw W D 88 #[.pointer (some ⟨P.w,0,none⟩),aZ (j8 ⟨3,a,b,n,s⟩)] (dL P x) (λ(_:Unit)e=>e=b5 (aZ (kB { Ev.zero with why:=r }))) (λ_=>dL P { x with net:=Ta,cut:=cut' }) w:=by
 intro V rr hV;have fN:=St.begin_ rr (λb hb=>(hV b hb).1) (fe P x);obtain⟨y,wa,HY,HA,ej⟩:=fN.new' (j8 ⟨3,a,b,n,s⟩) 75;obtain⟨z,wb,HZ,HB,dV⟩:=ej.new' aH 77;have ez:z=y+1:=by rw[HZ.out,HA.out,HY.out];simp
 replace dV:=dV.perm (bg (l₁:=[_,_]) (l₂:=dL P x));have hy:=(dV.perm (bg (l₂:=[_,_]))).facts.2.1.1;have y0:wb.cell? ⟨y,0,none⟩=some (J 3):=hy 0;have gD:∀x' O,St V w (dL P x'++[.c z 77 aH,.c y 75 (j8 ⟨3,a,b,n,s⟩)]) O->O.cell? ⟨P.w,3,none⟩=some (.pointer (some ⟨P.g,0,none⟩))∧O.cell? ⟨y,1,none⟩=some (J a)∧O.cell? ⟨y,2,none⟩=some (J b)∧O.cell? ⟨y,3,none⟩=some (J n):=λx' O h=>by have G:=(h.perm (bg (l₂:=[_,_]))).facts.2.1.1;exact⟨h.facts.1.1 3,G 1,G 2,G 3⟩
 unfold j8 at HA ⊢;dsimp only at HA ⊢;rw[HB.out,HA.out,HY.out] at y0;clear hy;go_in;go_wp2_with fail;rw[<-HA.out,<-HB.out,<-HY.out,<-ez];clear y0 HA HB HY HZ ez fN ej;have eW:=dV.grow (Grow.refl _).drew;have eA:=gD _ _ eW;refine dJ rfl ?_;refine fC (λO=>O.cell? ⟨P.w,3,none⟩=some (.pointer (some ⟨P.g,0,none⟩))∧O.cell? ⟨y,1,none⟩=some (J a)∧O.cell? ⟨y,2,none⟩=some (J b)∧O.cell? ⟨y,3,none⟩=some (J n)) [] 9 rfl [0,1,2,3,4,5] ?_;iterate 6 (refine eV rfl eA (λw1 ⟨h0,I,G,L⟩=>aM) ?_)
 refine eZ 6 [7] rfl ?_;have hC:=eW.at_ 4 (uP P x _) (S':=λ(_:Unit)=>Ne.fc P.g (x.nn:Int) (Ta.map jY) cut') (λ_=>Ne.fc.framed _ _ _ _) eW.no (Lw.turns (hT wb.drew));go_wp2_with fail;refine hC.mono ?_;rintro e w2 ⟨_,rfl,dX⟩;replace dX:St V w (dL P { x with net:=Ta,cut:=cut' }++[_,_]) w2:=dX;have sy:=gD _ _ dX;go_wp2_with fail;refine⟨λ_=>sy,?_⟩;refine eV rfl sy (λw1 ⟨h0,I,G,L⟩=>aM) ?_;refine eZ 8 [] rfl ?_;replace dX:=dX.perm (bg (l₁:=dL P _) (l₂:=[_,_]));go_wp2_with (refine d_ dX 0 rfl 77 _ _ rfl 0 rfl [J r,(),(),(),(),(),ae ah 0,()] rfl (bf rfl) rfl aw (kB { Ev.zero with why:=r }) rfl rfl ?_;intro w5 eF;refine stay ?_);refine dI ?_;go_wp2_with fail;refine⟨⟨eF.facts.2.2.1.1 3,eF.facts.2.1.1 1,eF.facts.2.1.1 2,eF.facts.2.1.1 3⟩,?_⟩;refine gj ?_;go_wp2;refine bodyPost_ret (fy rfl _ z rfl (eF.blk 0 rfl) bX aw) rfl ?_;obtain⟨r1,r2⟩:=(eF.drop.drop).fin;exact⟨(),rfl,r1,r2⟩
set_option maxRecDepth 100000
set_option maxHeartbeats 1000000
theorem Tc{D:aV}{f:FuncId}{r d:Nat}{ι:Type}{C:ι->Ending->Prop}{ex:ι->List Bl}{x:Rp}{x':ι->Rp}{g':ι->Nat}(h:∀p g,p.r=r->Lw W D f args (dP p g x) C (λi=>ex i++dP p (g' i) (x' i)) w):Lw W D f args [.o (tX r d x)] C (λi=>ex i++[.o (tX r d (x' i))]) w:=Lw.obj (κ:=PG r d) (o:=λk=>dP k.1.1 k.1.2 x) (o':=λk i=>dP k.1.1 (g' i) (x' i)) (λ_ ⟨p,g,I,G,L⟩=>⟨⟨(p,g),I,G⟩,L,h p g I⟩) λk i _ _ hM=>⟨k.1.1,g' i,k.2.1,k.2.2,hM⟩
theorem Pq(w:X)(D:aV)(P:my)(x:Wl)(hQ:pM P x)(i:Nat)(hi:i<x.nr)(Y:(x.rp i).Ok)(ht:(x.rp i).s.c.t<=1099511627776)(b n:Int)(s:aR)(tT:∀q∈((x.rp i).lead).2,q.2.Gd)(rA:((x.rp i).lead).2.length<=1048576):Lw W D 88 #[.pointer (some ⟨P.w,0,none⟩),aZ (j8 ⟨8,(i:Int),b,n,s⟩)] (dL P x) (λ(_:Unit)e=>e=b5 (aZ (kB { Ev.zero with node:=(i:Int) }))) (λ_=>dL P ((x.qv i ((x.rp i).lead).1).send i ((x.rp i).lead).2)) w:=by
 obtain⟨R,HR⟩:=az ((x.rp i).lead);rw[<-HR.out] at tT rA ⊢;have Cw:i<x.nn:=by show i<x.nr+x.na;omega
 intro V rr hV;have fN:=St.begin_ rr (λb hb=>(hV b hb).1) (fe P x);obtain⟨y,wa,HY,HA,ej⟩:=fN.new' (j8 ⟨8,(i:Int),b,n,s⟩) 75;obtain⟨z,wb,HZ,HB,dV⟩:=ej.new' aH 77;have ez:z=y+1:=by rw[HZ.out,HA.out,HY.out];simp
 replace dV:=dV.perm (bg (l₁:=[_,_]) (l₂:=dL P x));have hF:=iM dV hQ;have vI:=qT hF hQ hi;have hy:=(dV.perm (bg (l₂:=[_,_]))).facts.2.1.1;have y0:wb.cell? ⟨y,0,none⟩=some (J 8):=hy 0;have y1:wb.cell? ⟨y,1,none⟩=some (J i):=hy 1;rw[HB.out,HA.out,HY.out] at y0 y1;have gD:∀x' O,St V w (dL P x'++[.c z 77 aH,.c y 75 (j8 ⟨8,(i:Int),b,n,s⟩)]) O->O.cell? ⟨y,1,none⟩=some (J i):=λx' O h=>(h.perm (bg (l₂:=[_,_]))).facts.2.1.1 1;unfold j8 at HA y0 y1 ⊢;unfold ptr at vI;dsimp only at HA y0 y1 ⊢;clear hF hy;go_in;go_wp2_with fail;rw[<-HA.out,<-HB.out,<-HY.out,<-ez];refine vI.mono ?_;rintro e w1 ⟨rfl,rfl⟩;clear vI HA HB HY HZ ez fN ej y0 y1;go_wp2_with fail;have eW:=dV.grow (Grow.refl _).drew;have eA:=gD _ _ eW;refine dJ rfl ?_;refine fC (λO=>O.cell? ⟨y,1,none⟩=some (J i)) [] 6 rfl [0,1,2,3] ?_;iterate 4 (refine eV rfl eA (λw1 I=>aM) ?_)
 refine eZ 4 [] rfl ?_;have hC:=B5 (ι:=(K×List Sd)×Nat) (f:=18) (args:=#[.pointer (some ⟨P.r i,0,none⟩)]) (C:=λj e=>e=b5 j.1.1∧eS j.1.2=R.2) (y:=λ_=>R.1) (ex:=λj=>[.o (dS j.1.1 j.1.2)]) eW hi (λ_=>⟨dS.framed _ _,trivial⟩) (λU _=>Tc (g':=λj=>j.2) λp g hp=>by rw[<-hp,HR.out];exact λV hM hV=>OW wb.drew p g (x.rp i) Y ht V hM (λb hb=>⟨(hV b hb).1,id⟩));go_wp2_with fail;refine hC.mono ?_;rintro e w4 ⟨⟨⟨u,q⟩,g⟩,⟨rfl,hq⟩,dX⟩;dsimp only at hq dX;replace dX:=St.inn dX;have q_:=gD _ _ (St.T4 dX);go_wp2_with fail;refine⟨λ_=>q_,?_⟩;refine eZ 5 [] rfl ?_;have ni:=qt w4 (λ_=>False) P (x.qv i R.1) (hQ.qv i R.1) i Cw u q (λs hs=>tT (s.to,s.m) (by rw[<-hq];exact cT hs)) (by rw[<-hq] at rA;unfold eS at rA;rwa [bj] at rA);rw[hq] at ni;go_wp2_with fail;refine (St.call (a:=dL P (x.qv i R.1)++[.o (dS u q)]) (a':=λ(_:Unit)=>dL P ((x.qv i R.1).send i R.2)) dX (λ_=>fe _ _) dX.no ni).mono ?_;rintro e w7 ⟨_,rfl,eF⟩;have T6:=gD _ _ eF;go_wp2_with fail;refine⟨λ_=>T6,?_⟩;refine gj ?_;clear dX q_ dV eW eA;replace eF:=eF.perm (bg (l₁:=dL P _) (l₂:=[_,_]));go_wp2_with (refine d_ eF 0 rfl 77 _ _ rfl 0 rfl [(),J i,(),(),(),(),ae ah 0,()] rfl (bf rfl) rfl aw (kB { Ev.zero with node:=(i:Int) }) rfl rfl ?_;intro w8 eN;refine stay ?_);refine dI ?_;go_wp2;refine bodyPost_ret (fy rfl _ z rfl (eN.blk 0 rfl) bX aw) rfl ?_;obtain⟨r1,r2⟩:=(eN.drop.drop).fin;exact⟨(),rfl,r1,r2⟩
set_option maxRecDepth 100000
set_option maxHeartbeats 1000000
theorem Td{abq:Nat}{x x':Wl}{f:FuncId}{C:Ending->Prop}(hq:∀P,pM P x->pM P x')(h:∀(P:my)(w:X)(D:aV),P.w=abq->pM P x->Lw W D f args (dL P x) (λ(_:Unit)e=>C e) (λ_=>dL P x') w)(w:X)(D:aV):Lw W D f args [.o (iw abq x)] (λ(_:Unit)e=>C e) (λ_=>[.o (iw abq x')]) w:=Lw.obj (κ:={ P:my // P.w=abq∧pM P x }) (ι:=Unit) (C:=λ_ e=>C e) (S:=iw abq x) (S':=λ_=>iw abq x') (ex:=λ_=>[]) (o:=λP=>dL P.1 x) (o':=λP _=>dL P.1 x') (λ_ ⟨P,I,G,L⟩=>⟨⟨P,I,G⟩,L,h P w D I G⟩) λP _ _ _ hM=>⟨P.1,P.2.1,hq _ P.2.2,hM⟩
theorem a0S(w:X)(D:aV)(abq:Nat)(x x':Wl)(A:Ac)(ev:Ev)(E:∀w D,Lw W D 88 #[abq,aZ (j8 A)] ([.o (iw abq x)]) (λ(_:Unit)e=>e=b5 (aZ (kB ev))) (λ_=>[.o (iw abq x')]) w):Lw W D 33 #[abq,aZ (j8 A)] ([.o (iw abq x)]) (λ(_:Unit)e=>e=b5 (aZ (kB { ev with bag:=(x'.net.length:Int) }))) (λ_=>[.o (iw abq x')]) w:=by
 obtain⟨k,a,b,n,s⟩:=A;obtain⟨B,HB0⟩:=az ((x'.net.length:Int):Int);rw[<-HB0.out];intro V rr hV;have fN:=St.begin_ rr (λb hb=>(hV b hb).1) ⟨iw.framed _ _,trivial⟩;obtain⟨y,wa,HY,HA,ej⟩:=fN.new' (j8 ⟨k,a,b,n,s⟩) 75;obtain⟨z,wb,HZ,HB,dV⟩:=ej.new' aH 77;have ez:z=y+1:=by rw[HZ.out,HA.out,HY.out];simp
 have gU:=dV.blk 1 rfl;replace dV:=dV.perm (bg (l₁:=[_,_]) (l₂:=[Bl.o (iw abq x)]));have hC:=St.call (a:=[Bl.o (iw abq x)]) (a':=λ(_:Unit)=>[.o (iw abq x')]) dV (λ_=>⟨iw.framed _ _,trivial⟩) dV.no (E wb (λ_=>False));unfold j8 at HA hC gU ⊢;dsimp only at HA hC gU ⊢;rw[HB.out,HA.out,HY.out] at gU;go_in;go_wp2_with (refine dU rfl 75 _ rfl _ rfl gU Tryz.underlying75 aw ?_);rw[<-HA.out,<-HB.out,<-HY.out,<-ez];refine hC.mono ?_;rintro e w2 ⟨_,rfl,dX⟩;obtain⟨P,rfl,hQ,dX⟩:=iw.opn dX;clear hC dV HA HB HY HZ ez fN ej gU;obtain⟨v,wd,HV,HD,eO⟩:=dX.new' (kB ev) 77;unfold kB at HD ⊢;replace eO:=eO.perm (bg (l₁:=[_]) (l₂:=dL P x'++_));replace eO:St V w (dL P x'++[.c z 77 aH,.c y 75 (j8 ⟨k,a,b,n,s⟩),.c v 77 (kB ev)]) wd:=eO.perm (by rw[bp];exact List.Perm.refl _);have Bg:wd.cell? ⟨P.w,3,none⟩=some (ptr P.g):=eO.facts.1.1 3;obtain⟨U7,hN,_⟩:=eO.own.see 4 rfl;have Me:=JA wd P.g (x'.nn:Int) (x'.net.map jY) x'.cut U7 hN;rw[bj,<-HB0.out] at Me;unfold ptr at Bg;rw[HD.out] at Bg;clear hN;go_wp2_with fail;rw[<-HD.out,<-HV.out];refine Me.mono ?_;rintro e w5 ⟨rfl,rfl⟩;clear Me Bg HD HV dX;replace eO:=eO.perm (bg (l₁:=dL P x') (l₂:=[_,_,_]));go_wp2_with (refine fv eO 2 rfl 3 (.tmp 14) (.tmp 13) rfl 7 rfl (J B) rfl (bf rfl) rfl aw rfl ?_;intro w6 eN;refine stay ?_);refine dI ?_;have eN:St V w ([.c z 77 aH,.c y 75 (j8 ⟨k,a,b,n,s⟩),.c v 77 (kB { ev with bag:=B })]++dL P x') w6:=eN;clear eO;go_wp2_with (first|(refine dU rfl 77 _ rfl _ rfl (eN.blk 2 rfl) bX aw ?_)|(refine d_ eN 0 rfl 77 _ _ rfl 0 rfl [J ev.why,J ev.node,J ev.code,J ev.id.1,J ev.id.2.1,J ev.id.2.2,ae ah ev.n,J B] rfl (bf rfl) rfl aw (kB { ev with bag:=B }) rfl rfl ?_;intro w8 fD;refine stay ?_));refine dI ?_;go_wp2;refine bodyPost_ret (fy rfl _ z rfl (fD.blk 0 rfl) bX aw) rfl ?_;replace fD:St V w (dL P x'++[]) w8:=fD.drop.drop.drop.perm (by rw[bm];exact List.Perm.refl _);obtain⟨r1,r2⟩:=(iw.cls rfl hQ fD).fin;exact⟨(),rfl,r1,r2⟩
set_option maxRecDepth 100000
set_option maxHeartbeats 1000000
def JB(g:Nat)(nodes:Int)(l:List Ne.Lb)(v:K):dW:=λw V=>∃(q:List Ne.Lt)(R D:aV),q.map Ne.Lt.abs=l∧q.length<=64∧(1<=nodes∧nodes<=8)∧(∀a∈l,Ne.Zm nodes a)∧Row w R 172 3 v q.length (q.flatMap Ne.Lt.cells)∧(∀b∈q,Ne.l7 w D b)∧(∀b,R b->V b∧b≠g∧¬ D b)∧(∀b,D b->V b∧b≠g)
theorem JB.framed(g:Nat)(nodes:Int)(l:List Ne.Lb)(v:K):eu (JB g nodes l v):=λw O V h N=>by obtain⟨q,R,D,G,L,hn,hi,h5,h6,h7,h8⟩:=h;exact⟨q,R,D,G,L,hn,hi,h5.keep λb hb _=>N b (h7 b hb).1,λb hb=>(h6 b hb).keep λx Y _=>N x (h8 x Y).1,h7,h8⟩
end Go.Proofs.YtpeepcmdehhbgaaGreatDoor
end
section
open Go.Proofs.YtpeepcmdehhbgaaGreatDoor (Ag)
variable{x:Ag}{k nr i d n t m:Nat}{rl al dl l:aQ}{f:Int}
namespace Go.Proofs.YtpeepcmdehhbgaaGreatDoor
open RowKit Hop V
theorem Ps:(Tryz.prog.info? 24).map (λi=>(i.zero,i.size,i.bytes))=some (some (.pointer none),1,8):=by kernel_rfl
theorem Pt:(Tryz.prog.info? 105).map (λi=>(i.zero,i.size,i.bytes))=some (some (.pointer none),1,8):=by kernel_rfl
theorem Pu:(Tryz.prog.info? 26).map (λi=>(i.zero,i.size,i.bytes))=some (some (.pointer none),1,8):=by kernel_rfl
theorem prN:Elem W 155 24 1 8 (.pointer none):=⟨Tryz.underlying155,info_parts Ps,rfl,by decide,by decide⟩
theorem paN:Elem W 156 105 1 8 (.pointer none):=⟨Tryz.underlying156,info_parts Pt,rfl,by decide,by decide⟩
theorem pdN:Elem W 157 26 1 8 (.pointer none):=⟨Tryz.underlying157,info_parts Pu,rfl,by decide,by decide⟩
theorem a0T(w:X):dz W 16 #[] w λe O=>e=b5 (.pointer (some ⟨(w:Nat),0,none⟩))∧jK (w:Nat) [] 0 O (New w O)∧Grow w O:=V.oS w
def Te(p:Nat):List K:=[ptr p]
def YJ(_:X)(_:aV)(_:Nat):Prop:=True
theorem qU:lE YJ:=λ_ _ _ _ _ _=>trivial
theorem Ch:iz YJ:=λ_ _ _ _ _ _=>trivial
theorem I1:∀p,(Te p).length=1:=λ_=>rfl
theorem I2:∀p,∀u∈Te p,u.oneCell'=true:=λp u hu=>by rw[List.mem_singleton.1 hu];rfl
abbrev tK(e:dC)(u:K)(q:aQ):dW:=h_ e 1 Te YJ u q
def qw(nr:Nat)(rl al dl:aQ)(i:Nat):Bl:=if i<nr then .o (tX (rl.getD i 0) (dl.getD i 0) (Rp.open_ i nr [])) else .o (CN (al.getD (i-nr) 0) (dl.getD i 0) (Ag.new i nr [] 1))
def ie(nr:Nat)(rl al dl:aQ)(k:Nat):List Bl:=(bV k).map (qw nr rl al dl)
def I4(abq g nn nr:Nat)(ur ua ud:K)(rl al dl:aQ)(k:Nat):List Bl := .c abq 159 #[ur,ua,ud,ptr g]::.o (tK 24 ur rl)::.o (tK 105 ua al)::.o (tK 26 ud dl)::.o (Ne.fc g (nn:Int) [] (λ_=>false))::ie nr rl al dl k
theorem a0U{α:Type _}(a b c d e f:α)(abn:List α):([a,b,c,d,e,f]++abn).Perm ([d,a,e,c,f]++(abn++[b])):=by have h:[a,b,c,d,e,f].Perm [d,a,e,c,f,b]:=List.Perm.map (λk=>[a,b,c,d,e,f].getD k a) (by decide:[0,1,2,3,4,5].Perm [3,0,4,2,5,1]);refine (h.append_right abn).trans ?_;show ([d,a,e,c,f]++([b]++abn)).Perm _;exact List.Perm.append_left _ bg
theorem Xw{α:Type _}(a b c d e f:α)(abn:List α):([a,b,c,d,e,f]++abn).Perm ([d,e,a,c,f]++(abn++[b])):=by have h:[a,b,c,d,e,f].Perm [d,e,a,c,f,b]:=List.Perm.map (λk=>[a,b,c,d,e,f].getD k a) (by decide:[0,1,2,3,4,5].Perm [3,4,0,2,5,1]);refine (h.append_right abn).trans ?_;show ([d,e,a,c,f]++([b]++abn)).Perm _;exact List.Perm.append_left _ bg
theorem qx{x:Nat}(h:i<l.length):(l++[x]).getD i 0=l.getD i 0:=by simp[List.getD,List.getElem?_append_left h]
theorem qV{x:Nat}(h:i=l.length):(l++[x]).getD i 0=x:=by subst h;simp[List.getD]
theorem LV{r:Nat}(Fz:k<nr)(QH:rl.length=k)(pK:dl.length=k):ie nr (rl++[r]) al (dl++[d]) (k+1)=ie nr rl al dl k++[.o (tX r d (Rp.open_ k nr []))]:=by
 unfold ie;rw[List.range_succ,bI,List.map_singleton];congr 1
 ·refine cO λi hi=>?_
  have hi:=List.mem_range.1 hi;unfold qw;rw[aA ap,aA ap,qx ap,qx ap]
 ·unfold qw
  rw[aA Fz,qV QH.symm,qV pK.symm]
theorem LW{a:Nat}(Fz:¬ k<nr)(Y6:al.length=k-nr)(pK:dl.length=k):ie nr rl (al++[a]) (dl++[d]) (k+1)=ie nr rl al dl k++[.o (CN a d (Ag.new k nr [] 1))]:=by
 unfold ie;rw[List.range_succ,bI,List.map_singleton];congr 1
 ·refine cO λi hi=>?_
  have hi:=List.mem_range.1 hi;unfold qw;by_cases kT:i<nr;·rw[aA kT,aA kT,qx ap]
  ·rw[aB kT,aB kT,qx ap,qx ap]
 ·unfold qw
  rw[aB Fz,qV Y6.symm,qV pK.symm]
theorem B7:l8 [] (([]:List Wo).map Wo.B) 0:=⟨rfl,rfl,λx Y=>(by simp at Y),λx _ h=>by have:=h.length_le;rw[jB] at this;simp at this⟩
set_option maxRecDepth 100000
set_option maxHeartbeats 1000000
theorem Xx(w:X)(nr na:Nat)(I:1<=nr)(G:1<=na)(h8:nr+na<=8):Lw W (λ_=>False) 81 #[J nr,J na] [] (λ(j:Nat×Nat×(K×K×K)×List Nat×List Nat×List Nat)e=>e=b5 (ptr j.1)∧j.2.2.2.1.length=nr∧j.2.2.2.2.1.length=na∧j.2.2.2.2.2.length=nr+na) (λj=>I4 j.1 j.2.1 (nr+na) nr j.2.2.1.1 j.2.2.1.2.1 j.2.2.1.2.2 j.2.2.2.1 j.2.2.2.2.1 j.2.2.2.2.2 (nr+na)) w:=by
 intro V rr hV;have fN:=St.begin_ rr (λb hb=>(hV b hb).1) trivial;have d1:decide ((nr:Int)<1)=false:=aD ap;have d2:decide ((na:Int)<0)=false:=aD ap;have d3:decide ((8:Int)<(nr:Int))=false:=aD ap;have s1:IntKind.i64.wrap (8-(nr:Int))=((8-nr:Nat):Int):=by rw[IntKind.wrap_i64];omega
 have d4:decide (8-nr<na)=false:=aD ap;obtain⟨nn,LP⟩:=az (nr+na);have s2:IntKind.i64.wrap ((nr:Int)+(na:Int))=(nn:Int):=by rw[LP.out,IntKind.wrap_i64];omega
 have hNe:=Ne.oS w (nn:Int) (by rw[LP.out];omega) (by rw[LP.out];omega);rw[<-LP.out];go_in;go_wp2_with fail;refine hNe.mono ?_;rintro e w1 ⟨rfl,hN,H⟩;clear hNe d1 d2 d3 s1 d4;have ej:=fN.join (Ne.fc.framed _ _ _ _) H (U:=New w w1) hN (λb hb=>hb);obtain⟨g,Hg⟩:=az ((w:Nat));rw[<-Hg.out] at ej ⊢;clear hN H;replace ej:=((ej.join (h_.framed qU _ _) (Grow.refl _) (U:=λ_=>False) (h_.nil (e:=26) (size:=1) (cells:=Te) (good:=YJ) w1 _) (λ_ h=>h.elim)).join (h_.framed qU _ _) (Grow.refl _) (U:=λ_=>False) (h_.nil (e:=105) (size:=1) (cells:=Te) (good:=YJ) w1 _) (λ_ h=>h.elim)).join (h_.framed qU _ _) (Grow.refl _) (U:=λ_=>False) (h_.nil (e:=24) (size:=1) (cells:=Te) (good:=YJ) w1 _) (λ_ h=>h.elim);obtain⟨abq,wa,HW,HA,dV⟩:=ej.new' #[ay,ay,ay,g] 159;replace dV:St V w (I4 abq g nn nr (Z none 0 0) (Z none 0 0) (Z none 0 0) [] [] [] 0) wa:=dV;go_wp2_with fail;rw[<-HA.out,<-HW.out];clear HA HW ej fN Hg;go_loopw [33] (λu wr=>∃(k:Nat)(ur ua ud:K)(rl al dl:aQ),u=J k∧k<=nn∧(rl.length=min k nr∧al.length=k-nr∧dl.length=k)∧St V w (I4 abq g nn nr ur ua ud rl al dl k) wr) (λu _=>nn-(intOf u).toNat);case atStart=>exact⟨0,_,_,_,[],[],[],rfl,bo _,⟨by simp,by simp,rfl⟩,dV⟩
 case round=>
  obtain⟨k,ur,ua,ud,rl,al,dl,rfl,oL,⟨QH,Y6,pK⟩,hS⟩:=hrel;clear dV;by_cases N:k<nn
  ·have dk:decide (k<nn)=true:=aC N
   have hDn:=a0T wr;go_wp2_with fail;refine hDn.mono ?_;rintro e w2 ⟨rfl,hD,H⟩;clear hDn;have ej:=hS.join (jK.framed _ _ _) H (U:=New wr w2) hD (λb hb=>hb);obtain⟨d,Hd⟩:=az ((wr:Nat));rw[<-Hd.out] at ej ⊢;clear hD H Hd hS;have cu:w2.cell? ⟨abq,2,none⟩=some ud:=(ej.front 1 rfl).facts.1.1 2;go_wp2_with (at_builtin;refine stay ?_);refine dI ?_;refine lb pdN qU Ch I1 I2 rfl (.tmp 41) (.tmp 43) rfl rfl (ej.front 4 rfl) (Grow.refl _) (b:=d) trivial (by have:=LP.out;omega) 1 rfl ?_;intro ud' w3 dX;clear ej cu;obtain⟨Ad,Ld,cd,hud⟩:∃A abn c,ud'=Z A abn c:=by obtain⟨U,hU,_⟩:=dX.own.see 0 rfl;obtain⟨A',c',h,_⟩:=h_.sl hU;exact⟨A',_,c',h⟩
   subst hud;go_wp2_with (refine fv dX 2 rfl 157 (.tmp 46) (.tmp 44) rfl 2 rfl (Z Ad Ld cd) rfl (bf rfl) rfl aw rfl ?_;intro w4 eO;refine stay ?_);refine dI ?_;replace eO:St V w (.o (tK 26 (Z Ad Ld cd) (dl++[d]))::.o (jK d [] 0)::.c abq 159 #[ur,ua,Z Ad Ld cd,ptr g]::.o (tK 24 ur rl)::.o (tK 105 ua al)::.o (Ne.fc g (nn:Int) [] (λ_=>false))::ie nr rl al dl k) w4:=eO;by_cases Fz:k<nr
   ·have dkr:decide (k<nr)=true:=aC Fz
    go_wp2_with fail;have eW:=eO.grow (Grow.refl _).drew;have eA:w4.drew.cell? ⟨abq,0,none⟩=some ur:=(eW.front 2 rfl).facts.1.1 0;refine dJ rfl ?_;refine fC (λO=>O.cell? ⟨abq,0,none⟩=some ur) [13] 14 rfl [0,1,2,3,4,5,6,7] ?_;iterate 8 (refine eV rfl eA (λw1 I=>aM) ?_)
    refine eZ 8 [] rfl ?_;have hf:=eW.front 1 rfl;have hC:=St.call (a:=[.o (jK d [] 0)]) (b:=[.o (tK 26 (Z Ad Ld cd) (dl++[d])),.c abq 159 #[ur,ua,Z Ad Ld cd,ptr g],.o (tK 24 ur rl),.o (tK 105 ua al),.o (Ne.fc g (nn:Int) [] (λ_=>false))]++ie nr rl al dl k) (a':=λp:pj=>dP p 0 (Rp.open_ k nr [])) hf (λp=>eL p _ _) hf.no (SS w4.drew (λ_=>False) d 0 k nr [] [] 0 B7 (by simp) ⟨Fz,by omega⟩);go_wp2_with fail;refine hC.mono ?_;rintro e w5 ⟨p,⟨L6,rfl⟩,eF⟩;replace eF:=eF.cls (tX.framed p.r d (Rp.open_ k nr [])) λU hM=>⟨p,0,rfl,L6,hM⟩;replace eF:St V w (.o (tX p.r d (Rp.open_ k nr []))::.o (tK 26 (Z Ad Ld cd) (dl++[d]))::.c abq 159 #[ur,ua,Z Ad Ld cd,ptr g]::.o (tK 24 ur rl)::.o (tK 105 ua al)::.o (Ne.fc g (nn:Int) [] (λ_=>false))::ie nr rl al dl k) w5:=eF;have C9:w5.cell? ⟨abq,0,none⟩=some ur:=(eF.front 2 rfl).facts.1.1 0;obtain⟨r,Hr⟩:=az (p.r);rw[<-Hr.out] at eF ⊢;clear hC hf eW eA eO dX Hr L6;go_wp2_with fail;refine⟨λ_=>C9,?_⟩;refine eZ 9 [] rfl ?_;go_wp2_with fail;have eN:=eF.new' #[r] 24;obtain⟨y9,w9,_,HW9,eN⟩:=eN;have kU:w9.cell? ⟨abq,0,none⟩=some ur:=(eN.front 3 rfl).facts.1.1 0;rw[HW9.out] at kU;refine⟨λ_=>kU,?_⟩;clear eN HW9;refine eZ 10 [] rfl ?_;refine lb prN qU Ch I1 I2 rfl (.tmp 54) (.tmp 59) rfl rfl (eF.front 3 rfl) (Grow.refl _) (b:=r) trivial (by have:=LP.out;omega) 1 rfl ?_;intro ur' w6 eN;clear eF kU C9;obtain⟨Ar,Lr,cr,hur⟩:∃A abn c,ur'=Z A abn c:=by obtain⟨U,hU,_⟩:=eN.own.see 0 rfl;obtain⟨A',c',h,_⟩:=h_.sl hU;exact⟨A',_,c',h⟩
    subst hur;have kU:w6.cell? ⟨abq,0,none⟩=some ur:=(eN.front 3 rfl).facts.1.1 0;go_wp2_with fail;refine⟨λ_=>kU,?_⟩;refine eZ 11 [12] rfl ?_;go_wp2_with fail;refine⟨λ_=>kU,?_⟩;refine eV rfl kU (λw1 I=>aM) ?_;refine eZ 13 [] rfl ?_;go_wp2_with (refine fv eN 3 rfl 155 (.tmp 62) (.tmp 60) rfl 0 rfl (Z Ar Lr cr) rfl (bf rfl) rfl aw rfl ?_;intro w7 fH;refine stay ?_);refine dI ?_;replace fH:St V w (.o (tK 24 (Z Ar Lr cr) (rl++[r]))::.o (tX r d (Rp.open_ k nr []))::.o (tK 26 (Z Ad Ld cd) (dl++[d]))::.c abq 159 #[Z Ar Lr cr,ua,Z Ad Ld cd,ptr g]::.o (tK 105 ua al)::.o (Ne.fc g (nn:Int) [] (λ_=>false))::ie nr rl al dl k) w7:=fH;clear eN kU;go_wp2_with fail;refine⟨λh=>absurd h am,?_⟩;refine gj ?_;have fD:=fH.perm (a0U _ _ _ _ _ _ (ie nr rl al dl k));rw[<-LV Fz ap pK] at fD;clear fH;have hnk:IntKind.i64.wrap ((k:Int)+1)=((k+1:Nat):Int):=by rw[IntKind.wrap_i64];have:=LP.out;omega
    go_wp2_with fail;refine⟨⟨k+1,_,_,_,_,_,_,rfl,by omega,⟨by rw[bd,QH,bv];omega,by omega,by rw[bd,pK];rfl⟩,fD⟩,?_⟩;show nn-((k:Int)+1).toNat<nn-(k:Int).toNat
    omega
   ·have dkr:decide (k<nr)=false:=aD Fz
    go_wp2_with fail;have eW:=eO.grow (Grow.refl _).drew;have eA:w4.drew.cell? ⟨abq,1,none⟩=some ua:=(eW.front 2 rfl).facts.1.1 1;refine dJ rfl ?_;refine fC (λO=>O.cell? ⟨abq,1,none⟩=some ua) [13] 14 rfl [0,1,2,3,4,5,6,7] ?_;iterate 8 (refine eV rfl eA (λw1 I=>aM) ?_)
    refine eZ 8 [] rfl ?_;have hf:=eW.front 1 rfl;have hC:=St.call (a:=[.o (jK d [] 0)]) (b:=[.o (tK 26 (Z Ad Ld cd) (dl++[d])),.c abq 159 #[ur,ua,Z Ad Ld cd,ptr g],.o (tK 24 ur rl),.o (tK 105 ua al),.o (Ne.fc g (nn:Int) [] (λ_=>false))]++ie nr rl al dl k) (a':=λp:vE=>dR p (Ag.new k nr [] 1)) hf (λp=>fB p _) hf.no (WU w4.drew (λ_=>False) d 0 k nr 1 [] [] 0 B7 (by simp) (by have:=LP.out;omega) ⟨I,by omega⟩ rfl am aw);go_wp2_with fail;refine hC.mono ?_;rintro e w5 ⟨p,⟨L6,rfl⟩,eF⟩;replace eF:=eF.cls (CN.framed p.a d (Ag.new k nr [] 1)) λU hM=>⟨p,rfl,L6,hM⟩;replace eF:St V w (.o (CN p.a d (Ag.new k nr [] 1))::.o (tK 26 (Z Ad Ld cd) (dl++[d]))::.c abq 159 #[ur,ua,Z Ad Ld cd,ptr g]::.o (tK 24 ur rl)::.o (tK 105 ua al)::.o (Ne.fc g (nn:Int) [] (λ_=>false))::ie nr rl al dl k) w5:=eF;have C9:w5.cell? ⟨abq,1,none⟩=some ua:=(eF.front 2 rfl).facts.1.1 1;obtain⟨r,Hr⟩:=az (p.a);rw[<-Hr.out] at eF ⊢;clear hC hf eW eA eO dX Hr L6;go_wp2_with fail;refine⟨λ_=>C9,?_⟩;refine eZ 9 [] rfl ?_;go_wp2_with fail;have eN:=eF.new' #[r] 105;obtain⟨y9,w9,_,HW9,eN⟩:=eN;have kU:w9.cell? ⟨abq,1,none⟩=some ua:=(eN.front 3 rfl).facts.1.1 1;rw[HW9.out] at kU;refine⟨λ_=>kU,?_⟩;clear eN HW9;refine eZ 10 [] rfl ?_;refine lb paN qU Ch I1 I2 rfl (.tmp 67) (.tmp 72) rfl rfl (eF.front 4 rfl) (Grow.refl _) (b:=r) trivial (by have:=LP.out;omega) 1 rfl ?_;intro ua' w6 eN;clear eF kU C9;obtain⟨Ar,Lr,cr,hur⟩:∃A abn c,ua'=Z A abn c:=by obtain⟨U,hU,_⟩:=eN.own.see 0 rfl;obtain⟨A',c',h,_⟩:=h_.sl hU;exact⟨A',_,c',h⟩
    subst hur;have kU:w6.cell? ⟨abq,1,none⟩=some ua:=(eN.front 3 rfl).facts.1.1 1;go_wp2_with fail;refine⟨λ_=>kU,?_⟩;refine eZ 11 [12] rfl ?_;go_wp2_with fail;refine⟨λ_=>kU,?_⟩;refine eV rfl kU (λw1 I=>aM) ?_;refine eZ 13 [] rfl ?_;go_wp2_with (refine fv eN 3 rfl 156 (.tmp 75) (.tmp 73) rfl 1 rfl (Z Ar Lr cr) rfl (bf rfl) rfl aw rfl ?_;intro w7 fH;refine stay ?_);refine dI ?_;replace fH:St V w (.o (tK 105 (Z Ar Lr cr) (al++[r]))::.o (CN r d (Ag.new k nr [] 1))::.o (tK 26 (Z Ad Ld cd) (dl++[d]))::.c abq 159 #[ur,Z Ar Lr cr,Z Ad Ld cd,ptr g]::.o (tK 24 ur rl)::.o (Ne.fc g (nn:Int) [] (λ_=>false))::ie nr rl al dl k) w7:=fH;clear eN kU;go_wp2_with fail;refine⟨λh=>absurd h am,?_⟩;refine gj ?_;have fD:=fH.perm (Xw _ _ _ _ _ _ (ie nr rl al dl k));rw[<-LW Fz Y6 pK] at fD;clear fH;have hnk:IntKind.i64.wrap ((k:Int)+1)=((k+1:Nat):Int):=by rw[IntKind.wrap_i64];have:=LP.out;omega
    go_wp2_with fail;refine⟨⟨k+1,_,_,_,_,_,_,rfl,by omega,⟨by omega,by rw[bd,Y6,bv];omega,by rw[bd,pK];rfl⟩,fD⟩,?_⟩;show nn-((k:Int)+1).toNat<nn-(k:Int).toNat
    omega
  ·obtain rfl:k=nn:=by omega
   go_wp2;go_ret;obtain⟨r1,r2⟩:=hS.fin;have:=LP.out;exact⟨(abq,g,(ur,ua,ud),rl,al,dl),⟨rfl,show rl.length=nr by omega,show al.length=na by omega,pK⟩,r1,r2⟩
def Wl.new(nr na:Nat):Wl:=⟨nr,na,λi=>Rp.open_ i nr [],λi=>Ag.new (nr+i) nr [] 1,[],λ_=>false⟩
theorem tL{w:X}{S S':dW}(hS:∀U,S w U->S' w U):∀(l:List dW)(i:Nat),l[i]?=some S->∀{V:aV},dN l w V->dN (l.set i S') w V
 | x::l,0,h,V,⟨V1,V2,a,b,c,d,e⟩=>by
   cases h;exact⟨V1,V2,hS _ a,b,c,d,e⟩
 | x::l,i+1,h,V,⟨V1,V2,a,b,c,d,e⟩=>⟨V1,V2,a,tL hS l i (by simpa using h) b,c,d,e⟩
theorem JC:∀q:aQ,q.flatMap Te=q.map ptr
 | []=>rfl
 | a::l=>by rw[bJ,JC l];rfl
theorem Ci{e:dC}{u:K}{q:aQ}{w:X}{U:aV}(h:tK e u q w U)(hq:q≠[]):∃(g cap:Nat)(cur:aP),u=Z (some ⟨g,0,none⟩) q.length cap∧q.length<=cap∧cap<=dG∧(∀i,i<q.length->cur[i]?=some (ptr (q.getD i 0)))∧∀U',tK e u q w U'->Cell g e cur w U':=by
 have zD:0<q.length:=List.length_pos_iff.2 hq;obtain⟨R,D,⟨hl,hr⟩,_,L,_⟩:=h;rcases hr with ⟨_,h0⟩|⟨g,cap,cur,rfl,H,hh,iS,hm,iZ,j9⟩
 ·omega
 ·refine⟨g,cap,cur,rfl,iS,hm,λi hi=>?_,?_⟩
  ·rw[cM] at j9
   have e1:(cur.toList.take q.length)[i]?=(q.flatMap Te)[i]?:=by rw[j9]
   rw[List.getElem?_take,aA hi] at e1;rw[<-Array.getElem?_toList,e1];have e2:q.flatMap Te=q.map ptr:=JC q;rw[e2,List.getElem?_map];simp[List.getD,List.getElem?_eq_getElem hi]
  ·rintro U' ⟨R',D',⟨_,Mg⟩,_,h3',_⟩
   rcases Mg with ⟨h0,_⟩|⟨g',cap',cur',he,yO,hh',_⟩
   ·cases h0
   ·cases he
    rw[hh] at hh';cases hh';exact⟨(h3' _ yO).1,hh⟩
theorem LX{na:Nat}(P:my)(hr:P.r=λi=>rl.getD i 0)(ha:P.a=λi=>al.getD i 0)(hd:P.d=λi=>dl.getD i 0):ie nr rl al dl (nr+na)=oF P (Wl.new nr na)++rq P (Wl.new nr na):=by
 unfold ie oF rq;rw[List.range_add,bI,List.map_map];congr 1
 ·refine cO λi hi=>?_
  have hi:=List.mem_range.1 hi;unfold qw;rw[aA hi,hr,hd];rfl
 ·refine cO λi hi=>?_
  show qw nr rl al dl (nr+i)=_;unfold qw;rw[aB ap,ha,hd,Nat.add_sub_cancel_left];rfl
theorem Xy(w:X)(nr na:Nat)(I:1<=nr)(G:1<=na)(h8:nr+na<=8):Lw W (λ_=>False) 81 #[J nr,J na] [] (λ(abq:Nat)e=>e=b5 (ptr abq)) (λabq=>[.o (iw abq (Wl.new nr na))]) w:=by intro V hM hV;refine (Xx w nr na I G h8 V hM hV).mono ?_;rintro e O ⟨⟨abq,g,⟨ur,ua,ud⟩,rl,al,dl⟩,⟨rfl,l1,l2,l3⟩,hM,hj⟩;dsimp only at l1 l2 l3 hM;refine⟨abq,rfl,⟨iY V w O,λ_=>False,?_,trivial,λ_ h=>h,λ_ h=>h.elim,λ_ _ h=>h⟩,hj⟩;obtain⟨U1,YF,_⟩:=dN.mem (S:=tK 24 ur rl) hM (bR _ (cj ..));obtain⟨U2,Vx,_⟩:=dN.mem (S:=tK 105 ua al) hM (bR _ (bR _ (cj ..)));obtain⟨U3,hU3,_⟩:=dN.mem (S:=tK 26 ud dl) hM (bR _ (bR _ (bR _ (cj ..))));obtain⟨rb,rc,ru,rfl,r1,r2,r3,r4⟩:=Ci YF (λh=>by rw[h] at l1;simp at l1;omega);obtain⟨ab,ac,au,rfl,a1,a2,a3,a4⟩:=Ci Vx (λh=>by rw[h] at l2;simp at l2;omega);obtain⟨db,dc,du,rfl,d1,d2,d3,d4⟩:=Ci hU3 (λh=>by rw[h] at l3;simp at l3;omega);have hM1:=tL r4 _ 1 rfl hM;have hM2:=tL a4 _ 2 rfl hM1;have hM3:=tL d4 _ 3 rfl hM2;rw[l1] at r1 r3;rw[l2] at a1 a3;rw[l3] at d1 d3;refine⟨⟨abq,rb,ab,db,g,rc,ac,dc,ru,au,du,λi=>rl.getD i 0,λi=>al.getD i 0,λi=>dl.getD i 0⟩,rfl,⟨⟨I,h8⟩,r3,a3,d3,⟨r1,a1,d1⟩,⟨r2,a2,d2⟩⟩,?_⟩;have hp:=LX (nr:=nr) (na:=na) (rl:=rl) (al:=al) (dl:=dl) ⟨abq,rb,ab,db,g,rc,ac,dc,ru,au,du,λi=>rl.getD i 0,λi=>al.getD i 0,λi=>dl.getD i 0⟩ rfl rfl rfl;unfold dL;rw[<-hp];unfold wlC;show dN (px (.c abq 159 #[Z (some ⟨rb,0,none⟩) nr rc,Z (some ⟨ab,0,none⟩) na ac,Z (some ⟨db,0,none⟩) (nr+na) dc,ptr g]::_)) _ _;rw[l1,l2,l3] at hM3;exact hM3
def zr(q:abk.Sm):Prop:=∀s,abk.gt q s<=abk.o6
theorem JD:∀(l:List Dl)(q mo:abk.Sm),abk.i7 q mo l=true->(∀s,abk.gt mo s+abk.gt q s<=abk.o6)->∀s,abk.gt (abk.add mo l) s+abk.gt q s<=abk.o6
 | [],_,_,_,h,s=>h s
 | d::l,q,mo,hr,h,s=>by
   rw[abk.i7,bU,decide_eq_true_eq] at hr;rw[abk.lJ];refine JD l q _ hr.2 (λy=>?_) s;rw[abk.xy];split;·next e=>rw[e];exact hr.1
   ·exact h y
theorem zr.add{q:abk.Sm}{l:List Dl}(h:zr q):zr (abk.nj q l):=by
 unfold abk.nj;split
 ·next e=>
  have I:=JD l q [] (abk.IY e) (λs=>by rw[show abk.gt ([]:abk.Sm) s=0 from rfl,cJ];exact h s);intro s;have G:=I s;rw[abk.G9] at G ⊢;rw[show abk.gt ([]:abk.Sm) s=0 from rfl] at G;omega
 ·exact h
theorem zr.step{x:j4}(h:zr x.q)(e:En):zr (ei x e).2.2.q:=by
 unfold ei;repeat' split
 all_goals first|exact h|exact h.add
theorem LY{x:j4}(h:zr x.q)(e:En):∃c:Nat,(ei x e).1=(c:Int)∧c<=255∧(ei x e).2.1<18446744073709551616:=by
 unfold ei;repeat' split
 ·exact⟨8,rfl,by decide,Nat.lt_succ_of_le (h e.se)⟩
 all_goals first|exact⟨1,rfl,by decide,(show (0:Nat)<18446744073709551616 by decide)⟩|exact⟨2,rfl,by decide,(show (0:Nat)<18446744073709551616 by decide)⟩|exact⟨3,rfl,by decide,(show (0:Nat)<18446744073709551616 by decide)⟩|exact⟨4,rfl,by decide,(show (0:Nat)<18446744073709551616 by decide)⟩|exact⟨5,rfl,by decide,(show (0:Nat)<18446744073709551616 by decide)⟩
def jz(l:Sends):Prop:=∀q∈l,q.2.Gd
theorem jz.nil:jz []:=λ_ h=>by simp at h
theorem jz.app{a b:Sends}(ha:jz a)(hb:jz b):jz (a++b):=λq hq=>(List.mem_append.1 hq).elim (ha q) (hb q)
theorem jz.one{m:Ms}(h:m.Gd):jz [(f,m)]:=λq hq=>by rw[List.mem_singleton.1 hq];exact h
theorem jz.all{node:Nat}{m:Ms}(h:m.Gd):jz (tD node n m):=λq hq=>by obtain⟨j,_,rfl⟩:=List.mem_map.1 hq;exact h
theorem JE{e:En}(h:e.Ok):∃t:Nat,e.tg=(t:Int)∧t<=9223372036854775807:=⟨e.tg.toNat,by have:=h.1.2.1;omega,by have:=h.1.2;omega⟩
theorem Pv(leads:Bool)(own:Nat):∀(l:List En)(k:Nat)(x:j4)(out:List Sd),(∀e∈l,e.Ok)->zr x.q->jz (out.map Sd.fn)->zr (CJ leads own l k x out).1.q∧jz ((CJ leads own l k x out).2.map Sd.fn)
 | [],_,_,_,_,h,ho=>⟨h,ho⟩
 | e::l,k,x,out,he,h,ho=>by
   refine Pv leads own l (k+1) (ei x e).2.2 _ (λe' h'=>he e' (by simp[h'])) (h.step e) ?_;split
   ·rw[bI]
    refine ho.app ?_;obtain⟨c,E,lV,hn⟩:=LY h e;obtain⟨t,ht,Ka⟩:=JE (he e (by simp));rw[E,ht];exact jz.one (.ans t c _ Ka lV hn)
   ·exact ho
structure Rp.Wf(x:Rp):Prop where
 ok:x.Ok
 sm:zr x.m.q
namespace Rp
variable{x:Rp}
theorem Wf.apply(h:x.Wf)(abp:Nat):(x.apply abp).1.Wf∧jz (x.apply abp).2:=by have I:=Pv x.leads x.own ((x.s.c.es.take abp).drop x.commit) x.commit x.m [] (λe he=>h.ok.s.c.es e (bW (cX he))) h.sm jz.nil;exact⟨⟨h.ok.apply abp,I.1⟩,I.2⟩
theorem Wf.accepts(h:x.Wf):jz x.accepts:=jz.all (.acc _ _ _ h.ok.s.c.t h.ok.commit h.ok.s.c.es h.ok.s.c.len)
theorem Wf.vote(h:x.Wf){v:Vt}(hv:v.Ok)(hn:v.nodes=x.nodes):Rp.Wf { x with v:=some v }:=⟨h.ok.vote hv hn,h.sm⟩
theorem Wf.counted(h:x.Wf){v:Vt}(hv:x.v=some v)(i n:Nat):(x.counted v i n).1.Wf∧jz (x.counted v i n).2:=by obtain⟨I,G⟩:=h.ok.v v hv;exact (h.vote (I.told i n) G).apply _
theorem Wf.told(h:x.Wf){v:Vt}(hv:x.v=some v):(x.told v).1.Wf∧jz (x.told v).2:=by obtain⟨I,G⟩:=h.counted hv x.node x.s.c.es.length;exact⟨I,G.app I.accepts⟩
theorem Wf.word(h:x.Wf){s:Vs}(hs:s.Ok)(l:Bool)(o:Nat)(hl:l=true->∃v,x.v=some v):Rp.Wf { x with s:=s,leads:=l,own:=o }:=⟨h.ok.word hs l o hl,h.sm⟩
theorem Wf.down(h:x.Wf):x.down.Wf:=⟨h.ok.down,h.sm⟩
theorem Wf.won(h:x.Wf){v:Vt}(hv:x.v=some v):(x.won v).1.Wf∧jz (x.won v).2:=by
 obtain⟨I,G⟩:=h.ok.v v hv;unfold Rp.won;split;·exact⟨h.down,jz.nil⟩
 ·next s e=>exact (h.word (Vs.kp h.ok.s I.t I.best e) true s.c.es.length (λ_=>⟨v,hv⟩)).told (v:=v) hv
theorem lq{s s':Vs}(h:s.Ok)(ht:t<=9223372036854775807)(he:s.promise t=some s'):s'.Ok∧s'.c.t=t:=by
 unfold Vs.promise at he;split at he
 ·have:=Vs.Ok.keep (y:=⟨t,s.c.h,s.c.es⟩) h ⟨ht,h.c.h,h.c.es,h.c.len⟩ he
  exact⟨this.1,by rw[this.2]⟩
 ·cases he
theorem yw(t node nodes:Nat)(hn:1<=nodes):lM t node nodes<=t+nodes:=by unfold lM;have:=Nat.mod_lt (node+nodes-(t+1) % nodes) (show 0<nodes by omega);omega
theorem Wf.lead(h:x.Wf):(x.lead).1.Wf∧jz (x.lead).2:=by
 have pJ:=h.ok.node;unfold Rp.lead;split;·exact⟨h,jz.nil⟩
 ·next ht=>
  split;·exact⟨h,jz.nil⟩
  ·next s e=>
   have htl:=yw x.s.c.t x.node x.nodes ap;obtain⟨hs,kY⟩:=lq h.ok.s (t:=lM x.s.c.t x.node x.nodes) ap e;have hv:=(Vt.Ok.new hs.c.t (nodes:=x.nodes) ⟨by omega,by omega⟩).promise (i:=x.node) (had:=s.c.h) (l:=s.c.es) ap hs.c.h hs.c.es hs.c.len;have zf:((Vt.new s.c.t x.nodes).promise x.node s.c.h s.c.es).2.nodes=x.nodes:=by
    unfold Vt.promise;repeat' split
    all_goals rfl
   have lw:Rp.Wf { x with s:=s,leads:=false,v:=some ((Vt.new s.c.t x.nodes).promise x.node s.c.h s.c.es).2 }:=⟨⟨hs,h.ok.m,λv' h'=>by cases h';exact⟨hv,zf⟩,h.ok.node,h.ok.commit,λh'=>by cases h'⟩,h.sm⟩;dsimp only;split;·exact lw.won rfl
   ·exact⟨lw,jz.all (.vD _ hs.c.t)⟩
theorem UW{e:En}(h:e.Ok)(hf:0<=f∧f<8):En.Ok { e with fr:=f }:=⟨⟨hf,h.1.2⟩,h.2⟩
theorem Wf.ask(h:x.Wf)(f:Int){e:En}(he:e.Ok):(x.ask f e).1.Wf∧jz (x.ask f e).2:=by
 obtain⟨t,ht,Ka⟩:=JE he;have h7:jz [(f,fx e.tg 7 0)]:=by rw[ht];exact jz.one (.ans t 7 0 Ka am am)
 have h6:jz [(f,fx e.tg 6 0)]:=by rw[ht];exact jz.one (.ans t 6 0 Ka am am)
 unfold Rp.ask;split
 ·next v hl hv=>
  split;·exact⟨h,h7⟩
  ·next hf=>
   split;·exact⟨h,h7⟩
   ·next s e1=>
    have hs:s.Ok:=Vs.kp h.ok.s (h.ok.v v hv).1.t (λz hz=>by
     rcases List.mem_append.1 hz with hz|hz
     ·exact h.ok.s.c.es z hz
     ·rw[List.mem_singleton.1 hz];exact UW he ap) e1
    have G:Rp.Wf { x with s:=s }:=h.word hs x.leads x.own h.ok.lv;exact G.told hv
 ·exact⟨h,h6⟩
theorem Wf.prepare(h:x.Wf)(f:Int){t:Nat}(ht:t<=9223372036854775807):(x.prepare f t).1.Wf∧jz (x.prepare f t).2:=by
 unfold Rp.prepare;split;·exact⟨h,jz.nil⟩
 ·next s e=>
  obtain⟨hs,_⟩:=lq h.ok.s ht e;have G:Rp.Wf { x with s:=s }:=h.word hs x.leads x.own h.ok.lv;exact⟨G.down,jz.one (.prom _ _ _ ht hs.c.h hs.c.es hs.c.len)⟩
theorem Wf.accept(h:x.Wf)(f:Int){t cm:Nat}{l:List En}(ht:t<=9223372036854775807)(hl:∀e∈l,e.Ok):(x.accept f t l cm).1.Wf∧jz (x.accept f t l cm).2:=by
 unfold Rp.accept;split;·exact⟨h,jz.nil⟩
 ·next s e=>
  have hs:=Vs.kp h.ok.s ht hl e;have G:Rp.Wf { x with s:=s }:=h.word hs x.leads x.own h.ok.lv;dsimp only;refine⟨?_,jz.one (.Mq _ _ ht hs.c.len)⟩;split;·exact (G.down.apply _).1
  ·exact (G.apply _).1
theorem Wf.ji(h:x.Wf){F t had:Nat}{l:List En}(hF:F<8)(hh:had<=9223372036854775807)(hl:∀e∈l,e.Ok)(hn:l.length<=128):(ji x F t had l).1.Wf∧jz (ji x F t had l).2:=by
 unfold Go.Proofs.YtpeepcmdehhbgaaGreatDoor.ji;split;·exact⟨h,jz.nil⟩
 ·next v hv=>
  split
  ·obtain⟨I,G⟩:=h.ok.v v hv
   have zf:(v.promise F had l).2.nodes=x.nodes:=by
    rw[<-G];unfold Vt.promise;repeat' split
    all_goals rfl
   have L:=h.vote (I.promise (i:=F) (had:=had) (l:=l) hF hh hl hn) zf;split;·exact L.won rfl
   ·exact⟨L,jz.nil⟩
  ·exact⟨h,jz.nil⟩
theorem Wf.mV(h:x.Wf)(F t n:Nat):(mV x F t n).1.Wf∧jz (mV x F t n).2:=by
 unfold Go.Proofs.YtpeepcmdehhbgaaGreatDoor.mV;split
 ·split
  ·next v hv=>
   split;·exact h.counted hv F n
   ·exact⟨h,jz.nil⟩
  ·exact⟨h,jz.nil⟩
 ·exact⟨h,jz.nil⟩
theorem Wf.recv(h:x.Wf)(f:Int){m:Ms}(hm:m.Gd):(x.recv f m).1.Wf∧jz (x.recv f m).2:=by
 have pJ:=h.ok.node;unfold Rp.recv;cases hm with
 | ask e he=>exact h.ask f he
 | ans tg c n _ _ _=>
   by_cases hf:x.hears f
   ·rw[aB (by show ¬ (2:Int)=1;decide),aB (λh=>h hf),aB (by show ¬ (2:Int)=3;decide),aB (by show ¬ (2:Int)=4;decide),aB (by show ¬ (2:Int)=5;decide),aB (by show ¬ (2:Int)=6;decide)]
    exact⟨h,jz.nil⟩
   ·rw[aB (by show ¬ (2:Int)=1;decide),aA hf]
    exact⟨h,jz.nil⟩
 | vD t ht=>
   by_cases hf:x.hears f
   ·rw[aB (by show ¬ (3:Int)=1;decide),aB (λh=>h hf),aA (show (jX t).k=3 from rfl)]
    exact h.prepare f (t:=((t:Int)).toNat) ht
   ·rw[aB (by show ¬ (3:Int)=1;decide),aA hf]
    exact⟨h,jz.nil⟩
 | prom t hd l ht hh hl hn=>
   by_cases hf:x.hears f
   ·rw[aB (by show ¬ (4:Int)=1;decide),aB (λh=>h hf),aB (by show ¬ (4:Int)=3;decide),aA (show (i9 t hd l).k=4 from rfl)]
    obtain⟨hf1,Ud,_⟩:=hf;exact h.ji ap hh hl hn
   ·rw[aB (by show ¬ (4:Int)=1;decide),aA hf]
    exact⟨h,jz.nil⟩
 | acc t l c ht E hl hn=>
   by_cases hf:x.hears f
   ·rw[aB (by show ¬ (5:Int)=1;decide),aB (λh=>h hf),aB (by show ¬ (5:Int)=3;decide),aB (by show ¬ (5:Int)=4;decide),aA (show (kR t l c).k=5 from rfl)]
    exact h.accept f (t:=((t:Int)).toNat) ht hl
   ·rw[aB (by show ¬ (5:Int)=1;decide),aA hf]
    exact⟨h,jz.nil⟩
 | Mq t n ht hn=>
   by_cases hf:x.hears f
   ·rw[aB (by show ¬ (6:Int)=1;decide),aB (λh=>h hf),aB (by show ¬ (6:Int)=3;decide),aB (by show ¬ (6:Int)=4;decide),aB (by show ¬ (6:Int)=5;decide),aA (show (m8 t n).k=6 from rfl)]
    exact h.mV _ _ _
   ·rw[aB (by show ¬ (6:Int)=1;decide),aA hf]
    exact⟨h,jz.nil⟩
theorem Wf.open_{node nodes:Nat}{ws:List Wo}(hn:node<nodes∧nodes<=8)(hs:(Vs.mk ws).Ok):(Rp.open_ node nodes ws).Wf:=⟨⟨hs,AL.new,λ_ h=>(by cases h),hn,bo _,λh=>by cases h⟩,λ_=>bo _⟩
end Rp
end Go.Proofs.YtpeepcmdehhbgaaGreatDoor
section
namespace Go.Proofs.YtpeepcmdehhbgaaGreatDoor
open Go.RowKit Go.Hop V
namespace Rp
variable{x:Rp}
theorem Wf.EJ(h:x.Wf){v:Vt}(hv:x.v=some v):(x.told v).2.length<=136:=by unfold Rp.told;rw[bd];have I:=nF x h.ok v x.node x.s.c.es.length;have G:=nG _ (h.counted hv x.node x.s.c.es.length).1.ok;omega
theorem Tf(node:Nat)(m:Ms):∀n,(tD node n m).length<=n:=λn=>by unfold tD;rw[bj];refine bB (c_ _ _) ?_;rw[da];exact bh _
theorem Wf.JF(h:x.Wf){v:Vt}(hv:x.v=some v):(x.won v).2.length<=136:=by
 obtain⟨I,G⟩:=h.ok.v v hv;unfold Rp.won;split;·exact bo _
 ·next s e=>exact (h.word (Vs.kp h.ok.s I.t I.best e) true s.c.es.length (λ_=>⟨v,hv⟩)).EJ (v:=v) hv
theorem Wf.Pw(h:x.Wf):(x.lead).2.length<=136:=by
 have pJ:=h.ok.node;unfold Rp.lead;split;·exact bo _
 ·next ht=>
  split;·exact bo _
  ·next s e=>
   have htl:=yw x.s.c.t x.node x.nodes ap;obtain⟨hs,kY⟩:=lq h.ok.s (t:=lM x.s.c.t x.node x.nodes) ap e;have hv:=(Vt.Ok.new hs.c.t (nodes:=x.nodes) ⟨by omega,by omega⟩).promise (i:=x.node) (had:=s.c.h) (l:=s.c.es) ap hs.c.h hs.c.es hs.c.len;have zf:((Vt.new s.c.t x.nodes).promise x.node s.c.h s.c.es).2.nodes=x.nodes:=by
    unfold Vt.promise;repeat' split
    all_goals rfl
   have lw:Rp.Wf { x with s:=s,leads:=false,v:=some ((Vt.new s.c.t x.nodes).promise x.node s.c.h s.c.es).2 }:=⟨⟨hs,h.ok.m,λv' h'=>by cases h';exact⟨hv,zf⟩,h.ok.node,h.ok.commit,λh'=>by cases h'⟩,h.sm⟩;dsimp only;split;·exact lw.JF rfl
   ·have:=Tf x.node (jX s.c.t) x.nodes
    dsimp only;omega
theorem Wf.Tg(h:x.Wf)(f:Int){e:En}(he:e.Ok):(x.ask f e).2.length<=136:=by
 unfold Rp.ask;split
 ·next v hl hv=>
  split;·exact bf rfl
  ·next hf=>
   split;·exact bf rfl
   ·next s e1=>
    have hs:s.Ok:=Vs.kp h.ok.s (h.ok.v v hv).1.t (λz hz=>by
     rcases List.mem_append.1 hz with hz|hz
     ·exact h.ok.s.c.es z hz
     ·rw[List.mem_singleton.1 hz];exact UW he ap) e1
    have G:Rp.Wf { x with s:=s }:=h.word hs x.leads x.own h.ok.lv;exact G.EJ hv
 ·exact bf rfl
theorem EK(f:Int)(t:Nat):(x.prepare f t).2.length<=136:=by
 unfold Rp.prepare;split;·exact bo _
 ·exact bf rfl
theorem I5(f:Int)(t cm:Nat)(l:List En):(x.accept f t l cm).2.length<=136:=by
 unfold Rp.accept;split;·exact bo _
 ·exact bf rfl
theorem Wf.LZ(h:x.Wf){F had:Nat}{l:List En}(hF:F<8)(hh:had<=9223372036854775807)(hl:∀e∈l,e.Ok)(hn:l.length<=128):(Go.Proofs.YtpeepcmdehhbgaaGreatDoor.ji x F t had l).2.length<=136:=by
 unfold Go.Proofs.YtpeepcmdehhbgaaGreatDoor.ji;split;·exact bo _
 ·next v hv=>
  split
  ·obtain⟨I,G⟩:=h.ok.v v hv
   have zf:(v.promise F had l).2.nodes=x.nodes:=by
    rw[<-G];unfold Vt.promise;repeat' split
    all_goals rfl
   have L:=h.vote (I.promise (i:=F) (had:=had) (l:=l) hF hh hl hn) zf;split;·exact L.JF rfl
   ·exact bo _
  ·exact bo _
theorem Wf.Px(h:x.Wf)(F t n:Nat):(Go.Proofs.YtpeepcmdehhbgaaGreatDoor.mV x F t n).2.length<=136:=by
 unfold Go.Proofs.YtpeepcmdehhbgaaGreatDoor.mV;split
 ·split
  ·next v hv=>
   split;·exact bB (nF x h.ok v F n) am
   ·exact bo _
  ·exact bo _
 ·exact bo _
theorem Wf.Py(h:x.Wf)(f:Int){m:Ms}(hm:m.Gd):(x.recv f m).2.length<=136:=by
 have pJ:=h.ok.node;unfold Rp.recv;cases hm with
 | ask e he=>exact h.Tg f he
 | ans tg c n _ _ _=>
   by_cases hf:x.hears f
   ·rw[aB (by show ¬ (2:Int)=1;decide),aB (λh=>h hf),aB (by show ¬ (2:Int)=3;decide),aB (by show ¬ (2:Int)=4;decide),aB (by show ¬ (2:Int)=5;decide),aB (by show ¬ (2:Int)=6;decide)]
    exact bo _
   ·rw[aB (by show ¬ (2:Int)=1;decide),aA hf]
    exact bo _
 | vD t ht=>
   by_cases hf:x.hears f
   ·rw[aB (by show ¬ (3:Int)=1;decide),aB (λh=>h hf),aA (show (jX t).k=3 from rfl)]
    exact EK _ _
   ·rw[aB (by show ¬ (3:Int)=1;decide),aA hf]
    exact bo _
 | prom t hd l ht hh hl hn=>
   by_cases hf:x.hears f
   ·rw[aB (by show ¬ (4:Int)=1;decide),aB (λh=>h hf),aB (by show ¬ (4:Int)=3;decide),aA (show (i9 t hd l).k=4 from rfl)]
    obtain⟨hf1,Ud,_⟩:=hf;exact h.LZ (F:=f.toNat) ap hh hl hn
   ·rw[aB (by show ¬ (4:Int)=1;decide),aA hf]
    exact bo _
 | acc t l c ht E hl hn=>
   by_cases hf:x.hears f
   ·rw[aB (by show ¬ (5:Int)=1;decide),aB (λh=>h hf),aB (by show ¬ (5:Int)=3;decide),aB (by show ¬ (5:Int)=4;decide),aA (show (kR t l c).k=5 from rfl)]
    exact I5 _ _ _ _
   ·rw[aB (by show ¬ (5:Int)=1;decide),aA hf]
    exact bo _
 | Mq t n ht hn=>
   by_cases hf:x.hears f
   ·rw[aB (by show ¬ (6:Int)=1;decide),aB (λh=>h hf),aB (by show ¬ (6:Int)=3;decide),aB (by show ¬ (6:Int)=4;decide),aB (by show ¬ (6:Int)=5;decide),aA (show (m8 t n).k=6 from rfl)]
    exact h.Px _ _ _
   ·rw[aB (by show ¬ (6:Int)=1;decide),aA hf]
    exact bo _
end Rp
end Go.Proofs.YtpeepcmdehhbgaaGreatDoor
end
namespace Go.Proofs.YtpeepcmdehhbgaaGreatDoor
open RowKit Hop V
def EL(b:abo.Ab):Prop:=(1<=b.1∧b.1<=9223372036854775807)∧(1<=b.2.length∧b.2.length<=8)∧∀d∈b.2,DN d
structure Bk.Wf(b:Bk):Prop where
 bt:∀k,∀x∈(b.qu k).l,EL x
 ep:1<=b.ep∧b.ep<=9223372036854775807
namespace Ag
theorem Xz(hn:x.node<8)(he:x.b.Wf)(N:k<4){b:abo.Ab}(hb:EL b)(ht:x.tag<9223372036854775807):(gp (x.tI (x.iX k b.1) b.2)).Gd:=by
 obtain⟨I,G,L⟩:=hb;refine .ask _ ⟨⟨⟨?_,?_⟩,?_,?_⟩,.inl ⟨rfl,rfl,⟨?_,?_⟩,⟨?_,?_⟩,I,he.ep,G,L⟩⟩;·show (0:Int)<=(x.node:Int);omega
 ·show (x.node:Int)<8;omega
 ·show (0:Int)<=((x.tag+1:Nat):Int);omega
 ·show ((x.tag+1:Nat):Int)<=9223372036854775807;omega
 ·show (0:Int)<=(x.node:Int);omega
 ·show (x.node:Int)<8;omega
 ·show (0:Int)<=(k:Int);omega
 ·show (k:Int)<4;omega
structure Kept(x y:Ag)(n:Nat):Prop where
 b:y.b=x.b
 node:y.node=x.node
 tag:y.tag<=x.tag+n
theorem Kept.refl(x:Ag):Kept x x 0:=⟨rfl,rfl,bh _⟩
theorem Kept.trans{x y z:Ag}{n m:Nat}(h:Kept x y n)(h':Kept y z m):Kept x z (n+m):=⟨h'.b.trans h.b,h'.node.trans h.node,by have:=h.tag;have:=h'.tag;omega⟩
theorem Kept.more{y:Ag}(h:Kept x y n)(hm:n<=m):Kept x y m:=⟨h.b,h.node,by have:=h.tag;omega⟩
theorem tM{k:Nat}(N:k<4):∀(l:List abo.Ab)(x:Ag)(out:Sends),(∀b∈l,EL b)->x.node<8->x.b.Wf->x.tag+l.length<=9223372036854775807->jz out->jz (ff k l x out).2∧Kept x (ff k l x out).1 l.length∧(ff k l x out).2.length<=out.length+l.length
 | [],x,out,_,_,_,_,h=>⟨h,Kept.refl x,bh _⟩
 | b::l,x,out,hb,hn,he,ht,h=>by
   rw[bD] at ht;unfold ff;split
   ·have iP:Kept x (x.send (x.iX k b.1) (x.tries (x.iX k b.1))) 1:=⟨rfl,rfl,bh _⟩
    obtain⟨I,G,L⟩:=tM N l (x.send (x.iX k b.1) (x.tries (x.iX k b.1))) _ (λc E=>hb c (by simp[E])) hn he (by show x.tag+1+l.length<=_;omega) (h.app (jz.one (f:=((x.to (x.tries (x.iX k b.1)).1:Nat):Int)) (Xz hn he N (hb b (by simp)) ap)));refine⟨I,(iP.trans G).more (by simp;omega),?_⟩;rw[bd,bv] at L;rw[bD];omega
   ·obtain⟨I,G,L⟩:=tM N l x out (λc E=>hb c (by simp[E])) hn he ap h
    refine⟨I,G.more (by simp),?_⟩;rw[bD];omega
theorem yx:∀(ks:aQ)(x:Ag)(out:Sends),(∀k∈ks,k<4)->x.node<8->x.b.Wf->x.tag+4*ks.length<=9223372036854775807->jz out->jz (fZ ks x out).2∧Kept x (fZ ks x out).1 (4*ks.length)∧(fZ ks x out).2.length<=out.length+4*ks.length
 | [],x,out,_,_,_,_,h=>⟨h,Kept.refl x,bh _⟩
 | k::ks,x,out,N,hn,he,ht,h=>by
   rw[bD] at ht;have hl4:((x.b.qu k).l.take 4).length<=4:=by rw[bn];omega
   obtain⟨I,G,L⟩:=tM (N k (by simp)) ((x.b.qu k).l.take 4) x out (λb hb=>he.bt k b (bW hb)) hn he ap h;have Ka:=G.tag;obtain⟨g1,g2,g3⟩:=yx ks _ _ (λc E=>N c (by simp[E])) (by rw[G.node];exact hn) (by rw[G.b];exact he) ap I;unfold fZ;refine⟨g1,(G.trans g2).more (by rw[bD];omega),?_⟩;rw[bD];omega
theorem yz:∀(n:Nat)(x:Ag)(out:Sends),x.node<8->x.b.Wf->x.tag+16*n<=9223372036854775807->jz out->jz (f_ n x out).2∧Kept x (f_ n x out).1 (16*n)∧(f_ n x out).2.length<=out.length+16*n
 | 0,x,out,_,_,_,h=>⟨h,Kept.refl x,bh _⟩
 | n+1,x,out,hn,he,ht,h=>by
   obtain⟨I,G,L⟩:=yx (bV 4) { x with now:=x.now+1 } out (λk N=>List.mem_range.1 N) hn he (by show x.tag+4*4<=_;omega) h;have N:Kept x (x.lN out).1 16:=⟨G.b,G.node,G.tag⟩;have fj:(x.lN out).2.length<=out.length+16:=L;have Ka:=N.tag;obtain⟨g1,g2,g3⟩:=yz n (x.lN out).1 (x.lN out).2 (by rw[N.node];exact hn) (by rw[N.b];exact he) ap I;unfold f_;exact⟨g1,(N.trans g2).more ap,by omega⟩
end Ag
theorem Tj{d:Dl}(h:jh d):DN d:=by obtain⟨I,G,L⟩:=h;unfold gZ at I;rw[bU,decide_eq_true_eq,decide_eq_true_eq] at I;exact⟨I.2,by omega,I.1,G⟩
theorem M0{l:List abo.Ab}{last s:Int}(h:abo.uB l last s m=0):1<=s∧1<=m∧m<=8:=by
 unfold abo.uB at h;repeat' split at h
 all_goals first|omega|(exact absurd h am)
def Bk.sH(b:Bk):Prop:=∀k,∀x∈(b.qu k).l,EL x
theorem Bk.sH.set{b b':Bk}(h:b.sH){k:Nat}{q:Qu}(e:b'.q=b.q.set k q)(hq:∀x∈q.l,EL x):b'.sH:=λj=>by unfold Bk.qu;rw[e];exact Cb (P:=λq=>∀x∈q.l,EL x) hq (h j)
theorem Bk.sH.add{b:Bk}(h:b.sH)(k:Nat){sq:Int}{ds:List Dl}(hs:sq<=9223372036854775807)(hd:∀d∈ds,jh d):(b.add k sq ds).sH:=by
 unfold Bk.add;split
 ·next e=>
  obtain⟨I,G,L⟩:=M0 e;refine h.set (k:=k) rfl λx Y=>?_;rcases List.mem_append.1 Y with Y|Y
  ·exact h k x Y
  ·rw[List.mem_singleton.1 Y]
   exact⟨⟨I,hs⟩,⟨G,L⟩,λd Iv=>Tj (hd d Iv)⟩
 ·exact h
theorem Bk.sH.done{b:Bk}(h:b.sH)(k:Nat)(sq:Int):(b.done k sq).sH:=h.set (k:=k) rfl λx Y=>h k x (List.mem_of_mem_eraseP Y)
theorem Bk.sH.take{b:Bk}(h:b.sH){r:Rc}(hr:r.Ok):(b.take r).sH:=by
 cases r with
 | ep n=>exact h
 | eP d=>
   unfold Bk.take;dsimp only;split<;>exact h
 | pH k sq ds=>
   obtain⟨_,G,_,h4⟩:=hr;exact h.add k ap h4
 | sh n=>exact h
 | dn k sq=>exact h.done k _
theorem Bk.sH.new:Bk.new.sH:=λk x Y=>by
 have:(Bk.new.qu k).l=[]:=by
  unfold Bk.qu Bk.new;match k with
  | 0=>rfl
  | 1=>rfl
  | 2=>rfl
  | 3=>rfl
  | k+4=>simp[Qu.new]
 rw[this] at Y;simp at Y
theorem Pz:∀(rs:List Rc)(b:Bk),b.sH->(∀r∈rs,r.Ok)->(rs.foldl Bk.take b).sH
 | [],_,h,_=>h
 | r::rs,b,h,hr=>Pz rs (b.take r) (h.take (hr r (by simp))) λx Y=>hr x (by simp[Y])
theorem Bk.sH.of{rs:List Rc}(hr:∀r∈rs,r.Ok):(tG rs).sH:=Pz rs _ Bk.sH.new hr
structure Ag.Wf(x:Ag):Prop where
 ok:x.Ok
 bt:x.b.sH
 ep:1<=x.b.ep∧x.b.ep<=9223372036854775807
namespace Ag
theorem Wf.bk(h:x.Wf):x.b.Wf:=⟨h.bt,h.ep⟩
structure sH(x y:Ag):Prop where
 bt:x.b.sH->y.b.sH
 ep:y.b.ep=x.b.ep
theorem I6(x:Ag)(d:Dl):sH x (x.fX d).1:=by
 unfold Ag.fX;repeat' split
 all_goals exact⟨id,rfl⟩
theorem PD{y:Ag}{ds:List Dl}(hd:∀d∈ds,jh d)(N:(x.b.qu k).k<=9223372036854775807)(h:x.kx k ds=some y):sH x y:=by
 unfold Ag.kx at h;split at h;·cases h
 ·next hn=>
  cases h;refine⟨λhb=>hb.add k ap hd,?_⟩;show (x.b.add k _ ds).ep=x.b.ep;unfold Bk.add;split<;>rfl
theorem Tk(x:Ag)(a k s:Nat):sH x (x.fin a k s):=⟨λhb=>hb.done k _,rfl⟩
end Ag
theorem I7{d:Dl}(h:gZ d=true)(hu:d.2<=18446744073709551615):jh d:=by refine⟨h,?_,by omega⟩;unfold gZ at h;rw[bU,decide_eq_true_eq] at h;exact jt h.1
namespace Ag
theorem Wf.fX(h:x.Wf)(d:Dl)(hu:d.2<=18446744073709551615):(x.fX d).1.Wf:=by
 have hb:=I6 x d;refine⟨?_,hb.bt h.bt,by rw[hb.ep];exact h.ep⟩;unfold Ag.fX;split;·exact h.ok
 ·next I=>
  split;·exact h.ok
  ·next G=>
   have I:iV x.b.eP d=0:=by omega
   have G:x.i6 (.eP d)=0:=by omega
   have hf:(Rc.eP d).Ok:=I7 (wi I).2 hu;have hl:=h.ok.b.take hf;rw[show x.b.take (.eP d)={ x.b with eP:=x.b.eP++[d] } from aA I] at hl;refine⟨h.ok.node,h.ok.eX,h.ok.last,?_,h.ok.sh,h.ok.mr G,λr hr=>?_,h.ok.qk⟩
   ·show Bk.Lm (x.rs++[Rc.eP d]).length _
    rw[bd,bv];exact hl
   ·rcases List.mem_append.1 hr with hr|hr
    ·exact h.ok.rs r hr
    ·rw[List.mem_singleton.1 hr];exact hf
theorem Wf.sync(h:x.Wf):x.sync.Wf:=⟨⟨h.ok.node,h.ok.eX,h.ok.last,h.ok.b,h.ok.sh,h.ok.bs,h.ok.rs,h.ok.qk⟩,h.bt,h.ep⟩
theorem Wf.next(h:x.Wf)(i:lp):(x.next i).Wf:=⟨⟨h.ok.node,h.ok.eX,h.ok.last,h.ok.b,h.ok.sh,h.ok.bs,h.ok.rs,h.ok.qk⟩,h.bt,h.ep⟩
theorem Wf.send(h:x.Wf)(i:lp)(t:Nat×Nat):(x.send i t).Wf:=⟨h.ok.send i t,h.bt,h.ep⟩
theorem Wf.kx(h:x.Wf){k:Nat}(N:k<4){ds:List Dl}(hl:ds.length<=8)(hf:∀d∈ds,jh d){y:Ag}(e:x.kx k ds=some y):y.Wf:=by have hb:=PD hf (h.ok.qk k).2 e;exact⟨(h.ok.kx N hl hf e).1,hb.bt h.bt,by rw[hb.ep];exact h.ep⟩
theorem Wf.kb{k:Nat}(N:k<4):∀(f:Nat){x:Ag}(l:List Dl),x.Wf->(∀d∈l,jh d)->(x.kb k f l).1.Wf
 | 0,_,_,h,_=>h
 | f+1,x,l,h,hl=>by
   unfold Ag.kb;split;·exact h
   ·split
    ·exact h
    ·next y e=>exact Wf.kb N f (l.drop 8) (h.kx N (by rw[bn];omega) (λd hd=>hl d (bW hd)) e) (λd hd=>hl d (cX hd))
theorem Wf.kg(h:x.Wf){k:Nat}(N:k<4):(x.kg k).1.Wf:=Wf.kb N _ _ h (h.ok.shard k).2
theorem Wf.ey:∀(ks:aQ){x:Ag},(∀k∈ks,k<4)->x.Wf->(x.ey ks).1.Wf
 | [],_,_,h=>h
 | k::ks,x,N,h=>by
   unfold Ag.ey;split;·exact Wf.ey ks (λc E=>N c (by simp[E])) (h.kg (N k (by simp)))
   ·exact h.kg (N k (by simp))
theorem Wf.cut(h:x.Wf):x.cut.1.Wf:=by
 have I:=Wf.ey (bV x.b.sh) (x:=x) (λk N=>by have:=List.mem_range.1 N;have:=h.ok.sh;omega) h;unfold Ag.cut;split;·exact I
 ·exact I.sync
theorem Wf.fin(h:x.Wf)(a k s:Nat)(N:k<4)(hs:s<=9223372036854775807):(x.fin a k s).Wf:=by
 have hb:=Tk x a k s;refine⟨?_,hb.bt h.bt,by rw[hb.ep];exact h.ep⟩;have hr:(Rc.dn k s).Ok:=⟨N,hs⟩;have hq:∀j,0<=((x.b.done k (s:Int)).qu j).k∧((x.b.done k (s:Int)).qu j).k<=9223372036854775807:=λj=>Cb (P:=λq=>0<=q.k∧q.k<=9223372036854775807) (h.ok.qk k) (h.ok.qk j);by_cases hz:x.i6 (.dn k s)=0
 ·have e:x.put (.dn k s)={ x with rs:=x.rs++[.dn k s] }:=aA hz
  unfold Ag.fin;rw[e];refine⟨h.ok.node,h.ok.eX,h.ok.last,?_,h.ok.sh,h.ok.mr hz,λr Mg=>?_,hq⟩
  ·show Bk.Lm (x.rs++[Rc.dn k s]).length _
   rw[bd,bv];exact h.ok.b.take hr
  ·rcases List.mem_append.1 Mg with Mg|Mg
   ·exact h.ok.rs r Mg
   ·rw[List.mem_singleton.1 Mg];exact hr
 ·have e:x.put (.dn k s)=x:=aB hz
  unfold Ag.fin;rw[e];exact⟨h.ok.node,h.ok.eX,h.ok.last,⟨h.ok.b.eP,h.ok.b.fine,h.ok.b.cuts⟩,h.ok.sh,h.ok.bs,h.ok.rs,hq⟩
theorem Wf.last(h:x.Wf){l:Nat}(hl:l<x.eX):Ag.Wf { x with last:=l }:=⟨⟨h.ok.node,h.ok.eX,hl,h.ok.b,h.ok.sh,h.ok.bs,h.ok.rs,h.ok.qk⟩,h.bt,h.ep⟩
theorem Wf.maps(h:x.Wf)(a:List (Int×lp))(t:List (lp×(Nat×Nat))):Ag.Wf { x with ask:=a,tr:=t }:=⟨⟨h.ok.node,h.ok.eX,h.ok.last,h.ok.b,h.ok.sh,h.ok.bs,h.ok.rs,h.ok.qk⟩,h.bt,h.ep⟩
theorem Wf.took(h:x.Wf){f tg code:Nat}(hf:f<x.eX)(hid:x.jw tg=(0,0,0)∨∃a k s:Nat,x.jw tg=((a:Int),(k:Int),(s:Int))∧1<=a∧k<4∧s<=9223372036854775807):(x.took f tg code).Wf:=by
 have I:Ag.Wf { x with ask:=gV x.ask (tg:Int) }:=h.maps _ _;have G:Ag.Wf (if code=6 then { x with ask:=gV x.ask (tg:Int) } else { x with ask:=gV x.ask (tg:Int),last:=f }):=by
  split;·exact I
  ·exact I.last hf
 have hr:(if code=6 then ({ x with ask:=gV x.ask (tg:Int) }:Ag) else { x with ask:=gV x.ask (tg:Int),last:=f }).eX=x.eX:=by split<;>rfl
 unfold Ag.took;dsimp only;generalize (if code=6 then ({ x with ask:=gV x.ask (tg:Int) }:Ag) else { x with ask:=gV x.ask (tg:Int),last:=f })=y at G hr;split
 ·split
  ·exact G.last (by rw[hr];exact Nat.mod_lt _ (by have:=h.ok.eX;omega))
  ·exact G
 ·next jT=>
  obtain⟨a,k,s,e,_,N,hs⟩:=hid.resolve_left jT;rw[e];split;·exact G.fin _ _ _ (by show (k:Int).toNat<4;omega) (by show (s:Int).toNat<=_;omega)
  ·split
   ·exact G.maps _ _
   ·exact G
end Ag
end Go.Proofs.YtpeepcmdehhbgaaGreatDoor
section
namespace Go.Proofs.YtpeepcmdehhbgaaGreatDoor
open Go.RowKit Go.Hop V
namespace Ag
theorem Wf.ff{k:Nat}:∀(l:List abo.Ab){x:Ag}(out:Sends),x.Wf->(Ag.ff k l x out).1.Wf
 | [],_,_,h=>h
 | b::l,x,out,h=>by
   unfold Ag.ff;split;·exact Wf.ff l _ (h.send _ _)
   ·exact Wf.ff l _ h
theorem Wf.fZ:∀(ks:aQ){x:Ag}(out:Sends),x.Wf->(Ag.fZ ks x out).1.Wf
 | [],_,_,h=>h
 | k::ks,x,out,h=>by
   unfold Ag.fZ;exact Wf.fZ ks _ (Wf.ff _ _ h)
theorem Wf.Hc{x:Ag}(h:x.Wf)(n:Nat):Ag.Wf { x with now:=n }:=⟨h.ok.Hc n,h.bt,h.ep⟩
theorem Wf.f_:∀(n:Nat){x:Ag}(out:Sends),x.Wf->(Ag.f_ n x out).1.Wf
 | 0,_,_,h=>h
 | n+1,x,out,h=>by
   unfold Ag.f_;exact Wf.f_ n _ (Wf.fZ _ _ (h.Hc _))
end Ag
structure Bk.Rg(b:Bk):Prop where
 sh:1<=b.sh∧b.sh<=4
 qk:∀k,0<=(b.qu k).k∧(b.qu k).k<=9223372036854775807
 ep:0<=b.ep
theorem Bk.Rg.new:Bk.new.Rg:=⟨⟨by decide,by decide⟩,λk=>by
 have:(Bk.new.qu k).k=0:=by
  unfold Bk.qu Bk.new;match k with
  | 0=>rfl
  | 1=>rfl
  | 2=>rfl
  | 3=>rfl
  | k+4=>simp[Qu.new]
 rw[this];omega,by decide⟩
theorem Bk.Rg.take{b:Bk}(h:b.Rg){r:Rc}(hr:r.Ok):(b.take r).Rg:=by
 cases r with
 | ep n=>exact⟨h.sh,h.qk,by show (0:Int)<=(n:Int);omega⟩
 | eP d=>
   unfold Bk.take;dsimp only;split<;>exact⟨h.sh,h.qk,h.ep⟩
 | pH k sq ds=>
   obtain⟨_,G,_,_⟩:=hr;refine⟨by show 1<=(b.add k sq ds).sh∧(b.add k sq ds).sh<=4;rw[uM];exact h.sh,λj=>AW _ _ _ _ ap h.qk j,?_⟩;show 0<=(b.add k sq ds).ep;unfold Bk.add;split<;>exact h.ep
 | sh n=>exact⟨hr,h.qk,h.ep⟩
 | dn k sq=>exact⟨h.sh,λj=>Cb (P:=λq=>0<=q.k∧q.k<=9223372036854775807) (h.qk k) (h.qk j),h.ep⟩
theorem rg_of:∀(rs:List Rc)(b:Bk),b.Rg->(∀r∈rs,r.Ok)->(rs.foldl Bk.take b).Rg
 | [],_,h,_=>h
 | r::rs,b,h,hr=>rg_of rs (b.take r) (h.take (hr r (by simp))) λx Y=>hr x (by simp[Y])
theorem Ag.Wf.new{node eX n:Nat}{rs:List Rc}(pJ:node<8)(hrp:1<=eX∧eX<=8)(hr:∀r∈rs,r.Ok)(hn:1<=n∧n<=1073741824)(hl:(rm (rs++[.ep n])).length<=1048576):(Ag.new node eX rs n).Wf:=by
 have I:=rg_of rs _ Bk.Rg.new hr;have G:=Jr rs Bk.new 0 ⟨bo _,λd hd=>(by simp[Bk.new] at hd),bo _⟩ hr;have L:(tG rs).sH:=Bk.sH.of hr;refine⟨⟨pJ,hrp,by show 0<eX;omega,⟨G.eP,G.fine,?_⟩,I.sh,hl,λr Mg=>?_,I.qk⟩,L,⟨by show (1:Int)<=(n:Int);omega,by show (n:Int)<=_;omega⟩⟩
 ·show (tG rs).cuts.length<=(rs++[Rc.ep n]).length
  rw[bd,bv];have:=G.cuts;unfold tG;omega
 ·rcases List.mem_append.1 Mg with Mg|Mg
  ·exact hr r Mg
  ·rw[List.mem_singleton.1 Mg];exact hn
end Go.Proofs.YtpeepcmdehhbgaaGreatDoor
end
namespace Go.Proofs.YtpeepcmdehhbgaaGreatDoor
open RowKit Hop V
def Vs.Sm(s:Vs):Prop:=∀y∈s.ws,y.B.length<=65536
theorem Vs.Sm.keep{s s':Vs}{y:Wo}(h:s.Sm)(e:s.keep y=some s'):s'.Sm:=by
 unfold Vs.keep at e;split at e
 ·next hr=>
  cases e;intro z hz;rcases List.mem_append.1 hz with hz|hz
  ·exact h z hz
  ·rw[List.mem_singleton.1 hz];exact (oB.1 hr).1
 ·cases e
theorem Vs.Sm.promise{s s':Vs}{t:Nat}(h:s.Sm)(e:s.promise t=some s'):s'.Sm:=by
 unfold Vs.promise at e;split at e;·exact h.keep e
 ·cases e
theorem Vs.Sm.accept{s s':Vs}{t:Nat}{l:List En}(h:s.Sm)(e:s.accept t l=some s'):s'.Sm:=by
 unfold Vs.accept at e;split at e;·cases e
 ·split at e
  ·cases e;exact h
  ·exact h.keep e
namespace Rp
variable{x:Rp}
theorem PE(h:x.s.Sm)(v:Vt):(x.won v).1.s.Sm:=by
 unfold Rp.won;split;·exact h
 ·next s e=>exact h.accept e
theorem Tl(h:x.s.Sm):x.lead.1.s.Sm:=by
 unfold Rp.lead;split;·exact h
 ·split
  ·exact h
  ·next s e=>
   dsimp only;split;·exact PE (x:={ x with s:=s,leads:=false,v:=some ((Vt.new s.c.t x.nodes).promise x.node s.c.h s.c.es).2 }) (h.promise e) _
   ·exact h.promise e
theorem XA(h:x.s.Sm)(f:Int)(e:En):(x.ask f e).1.s.Sm:=by
 unfold Rp.ask;split
 ·split
  ·exact h
  ·split
   ·exact h
   ·next s e1=>exact h.accept e1
 ·exact h
theorem I8(h:x.s.Sm)(f:Int)(t:Nat):(x.prepare f t).1.s.Sm:=by
 unfold Rp.prepare;split;·exact h
 ·next s e=>exact h.promise e
theorem M1(h:x.s.Sm)(f:Int)(t cm:Nat)(l:List En):(x.accept f t l cm).1.s.Sm:=by
 unfold Rp.accept;split;·exact h
 ·next s e=>
  dsimp only;show (if _ then _ else _:Rp).s.Sm;split;·exact h.accept e
  ·exact h.accept e
theorem PF(h:x.s.Sm)(F t had:Nat)(l:List En):(ji x F t had l).1.s.Sm:=by
 unfold Go.Proofs.YtpeepcmdehhbgaaGreatDoor.ji;split;·exact h
 ·next v hv=>
  split
  ·split
   ·exact PE (x:={ x with v:=some (v.promise F had l).2 }) h _
   ·exact h
  ·exact h
theorem Tn(h:x.s.Sm)(F t n:Nat):(mV x F t n).1.s.Sm:=by
 unfold Go.Proofs.YtpeepcmdehhbgaaGreatDoor.mV;split
 ·split
  ·split<;>exact h
  ·exact h
 ·exact h
theorem Tp(h:x.s.Sm)(f:Int)(m:Ms):(x.recv f m).1.s.Sm:=by
 unfold Rp.recv;split;·exact XA h _ _
 ·split
  ·exact h
  ·split
   ·exact I8 h _ _
   ·split
    ·exact PF h _ _ _ _
    ·split
     ·exact M1 h _ _ _ _
     ·split
      ·exact Tn h _ _ _
      ·exact h
end Rp
namespace Ag
def Sm(x:Ag):Prop:=∀r∈x.rs,r.B.length<=65536
theorem M3{r:Rc}(hr:x.i6 r=0):r.B.length<=65536:=(oB.1 (mJ hr).2).1
theorem Sm.more(h:x.Sm){r:Rc}(hr:x.i6 r=0):∀z∈x.rs++[r],z.B.length<=65536:=λz hz=>by
 rcases List.mem_append.1 hz with hz|hz
 ·exact h z hz
 ·rw[List.mem_singleton.1 hz];exact M3 hr
theorem Sm.fX(h:x.Sm)(d:Dl):(x.fX d).1.Sm:=by
 unfold Ag.fX;split;·exact h
 ·split
  ·exact h
  ·next G=>exact h.more (r := .eP d) ap
theorem Sm.kx(h:x.Sm){k:Nat}{ds:List Dl}{y:Ag}(e:x.kx k ds=some y):y.Sm:=by
 unfold Ag.kx at e;split at e;·cases e
 ·next hn=>
  cases e;exact h.more (r:=x.pH k ds) ap
theorem Sm.kb{k:Nat}:∀(f:Nat){x:Ag}(l:List Dl),x.Sm->(x.kb k f l).1.Sm
 | 0,_,_,h=>h
 | f+1,x,l,h=>by
   unfold Ag.kb;split;·exact h
   ·split
    ·exact h
    ·next y e=>exact Sm.kb f _ (h.kx e)
theorem Sm.ey:∀(ks:aQ){x:Ag},x.Sm->(x.ey ks).1.Sm
 | [],_,h=>h
 | k::ks,x,h=>by
   unfold Ag.ey;split;·exact Sm.ey ks (Sm.kb _ _ h)
   ·exact Sm.kb _ _ h
theorem Sm.cut(h:x.Sm):x.cut.1.Sm:=by
 unfold Ag.cut;split;·exact Sm.ey _ h
 ·exact Sm.ey _ h
theorem Sm.fin(h:x.Sm)(a k s:Nat):(x.fin a k s).Sm:=by
 by_cases hz:x.i6 (.dn k s)=0
 ·have e:x.put (.dn k s)={ x with rs:=x.rs++[.dn k s] }:=aA hz
  unfold Ag.fin;rw[e];exact h.more (r := .dn k s) hz
 ·have e:x.put (.dn k s)=x:=aB hz
  unfold Ag.fin;rw[e];exact h
theorem Sm.took(h:x.Sm)(f tg code:Nat):(x.took f tg code).Sm:=by
 have G:(if code=6 then ({ x with ask:=gV x.ask (tg:Int) }:Ag) else { x with ask:=gV x.ask (tg:Int),last:=f }).Sm:=by split<;>exact h
 unfold Ag.took;dsimp only;generalize (if code=6 then ({ x with ask:=gV x.ask (tg:Int) }:Ag) else { x with ask:=gV x.ask (tg:Int),last:=f })=y at G;split;·split<;>exact G
 ·split
  ·exact G.fin _ _ _
  ·split<;>exact G
theorem Sm.ff{k:Nat}:∀(l:List abo.Ab){x:Ag}(out:Sends),x.Sm->(Ag.ff k l x out).1.Sm
 | [],_,_,h=>h
 | b::l,x,out,h=>by
   unfold Ag.ff;split;·exact Sm.ff l (x:=x.send _ _) _ h
   ·exact Sm.ff l _ h
theorem Sm.fZ:∀(ks:aQ){x:Ag}(out:Sends),x.Sm->(Ag.fZ ks x out).1.Sm
 | [],_,_,h=>h
 | k::ks,x,out,h=>by
   unfold Ag.fZ;exact Sm.fZ ks _ (Sm.ff _ _ h)
theorem Sm.f_:∀(n:Nat){x:Ag}(out:Sends),x.Sm->(Ag.f_ n x out).1.Sm
 | 0,_,_,h=>h
 | n+1,x,out,h=>by
   unfold Ag.f_;exact Sm.f_ n _ (Sm.fZ (bV 4) (x:={ x with now:=x.now+1 }) _ h)
end Ag
structure Tq(nn:Nat)(l:Lt3):Prop where
 f:l.1<nn
 t:l.2.1<nn
 gd:l.2.2.Gd
 fit:kX l.2.2=true
structure mm(nn:Nat)(b:List Lt3):Prop where
 all:∀l∈b,Tq nn l
 len:b.length<=64
theorem mm.nil(nn:Nat):mm nn []:=⟨λ_ h=>by simp at h,by simp⟩
theorem mm.sends{nn node:Nat}(hn:node<nn):∀(l:Sends){b:List Lt3},mm nn b->jz l->mm nn (il nn node b l)
 | [],_,h,_=>h
 | (to,m)::l,b,h,H=>by
   unfold il;refine mm.sends hn l ?_ λq hq=>H q (by simp[hq]);split
   ·next E=>
    obtain⟨I,G,L⟩:=E;refine⟨λx Y=>?_,by rw[bd,bv];omega⟩;rcases List.mem_append.1 Y with Y|Y
    ·exact h.all x Y
    ·rw[List.mem_singleton.1 Y]
     exact⟨hn,by show to.toNat<nn;omega,H (to,m) (by simp),I⟩
   ·exact h
theorem mm.del{nn:Nat}{b:List Lt3}(h:mm nn b)(i:Nat):mm nn (b.eraseIdx i):=⟨λl hl=>h.all l ((List.eraseIdx_sublist b i).subset hl),bB (List.length_eraseIdx_le b i) h.len⟩
end Go.Proofs.YtpeepcmdehhbgaaGreatDoor
end
section
open Go.Proofs.YtpeepcmdehhbgaaGreatDoor (Ms Wl)
variable{i n abq abp t M f B node nd a tg code:Nat}{x:Wl}{m:Ms}{s:aR}
namespace Go.Proofs.YtpeepcmdehhbgaaGreatDoor
open RowKit Hop V
def gN(abp B:Nat)(l:Sends):Prop:=∀q∈l,q.2.term<=(B:Int)∧(q.2.k=2∨(0<=q.1∧q.1<(abp:Int)))
section
theorem gN.nil:gN abp B []:=λ_ h=>by simp at h
theorem gN.app{a b:Sends}(ha:gN abp B a)(hb:gN abp B b):gN abp B (a++b):=λq hq=>(List.mem_append.1 hq).elim (ha q) (hb q)
theorem gN.one{f:Int}(h:m.term<=(B:Int))(G:m.k=2∨(0<=f∧f<(abp:Int))):gN abp B [(f,m)]:=λq hq=>by rw[List.mem_singleton.1 hq];exact⟨h,G⟩
theorem gN.all(h:m.term<=(B:Int)):gN abp B (tD node abp m):=λq hq=>by obtain⟨j,hj,rfl⟩:=List.mem_map.1 hq;have:=List.mem_range.1 (List.mem_filter.1 hj).1;exact⟨h,.inr ⟨de _,by show (j:Int)<_;omega⟩⟩
theorem gN.mono{B':Nat}{l:Sends}(h:gN abp B l)(hB:B<=B'):gN abp B' l:=λq hq=>⟨by have:=(h q hq).1;omega,(h q hq).2⟩
theorem JG(leads:Bool)(own:Nat):∀(l:List En)(k:Nat)(x:j4)(out:List Sd),gN abp B (out.map Sd.fn)->gN abp B ((CJ leads own l k x out).2.map Sd.fn)
 | [],_,_,_,ho=>ho
 | e::l,k,x,out,ho=>by
   refine JG leads own l (k+1) (ei x e).2.2 _ ?_;split
   ·rw[bI]
    exact ho.app (gN.one (m:=fx e.tg (ei x e).1 (ei x e).2.1) (de _) (.inl rfl))
   ·exact ho
end
structure Rp.Tb(x:Rp)(n abp B:Nat):Prop where
 node:x.node=n
 nodes:x.nodes=abp
 t:x.s.c.t<=B
 v:∀v,x.v=some v->v.t<=B
namespace Rp
variable{x:Rp}
theorem Tb.mono{B':Nat}(h:x.Tb n abp B)(hB:B<=B'):x.Tb n abp B':=⟨h.node,h.nodes,bB h.t hB,λv hv=>bB (h.v v hv) hB⟩
theorem Tb.apply(h:x.Tb n abp B)(k:Nat):(x.apply k).1.Tb n abp B∧gN abp B (x.apply k).2:=⟨⟨h.node,h.nodes,h.t,h.v⟩,JG _ _ _ _ _ _ gN.nil⟩
theorem Tb.accepts(h:x.Tb n abp B):gN abp B x.accepts:=by unfold Rp.accepts;rw[h.nodes];exact gN.all (by show ((x.s.c.t:Nat):Int)<=_;have:=h.t;omega)
theorem Tb.counted(h:x.Tb n abp B){v:Vt}(hv:v.t<=B)(i k:Nat):(x.counted v i k).1.Tb n abp B∧gN abp B (x.counted v i k).2:=Tb.apply (x:={ x with v:=some (v.told i k) }) ⟨h.node,h.nodes,h.t,λv' h'=>by cases h';exact hv⟩ _
theorem Tb.told(h:x.Tb n abp B){v:Vt}(hv:v.t<=B):(x.told v).1.Tb n abp B∧gN abp B (x.told v).2:=by obtain⟨I,G⟩:=h.counted hv x.node x.s.c.es.length;exact⟨I,G.app I.accepts⟩
theorem PH{s s':Vs}{y:Wo}(e:s.keep y=some s'):s'.c=y:=by
 unfold Vs.keep at e;split at e;·cases e;exact Vs.m7 _ _
 ·cases e
theorem PI{s s':Vs}{l:List En}(e:s.accept t l=some s'):s'.c.t=t∨s'=s:=by
 unfold Vs.accept at e;split at e;·cases e
 ·split at e
  ·cases e;exact .inr rfl
  ·refine .inl ?_
   rw[PH e];unfold Vs.next;split<;>rfl
theorem B8{s s':Vs}(e:s.promise t=some s'):s'.c.t=t:=by
 unfold Vs.promise at e;split at e;·rw[PH e]
 ·cases e
theorem Tb.acc(h:x.Tb n abp B){s:Vs}{l:List En}(ht:t<=B)(e:x.s.accept t l=some s):s.c.t<=B:=by
 rcases PI e with I|I
 ·omega
 ·rw[I];exact h.t
theorem Tb.won(h:x.Tb n abp B){v:Vt}(hv:v.t<=B):(x.won v).1.Tb n abp B∧gN abp B (x.won v).2:=by
 unfold Rp.won;split;·exact⟨⟨h.node,h.nodes,h.t,λ_ h'=>by cases h'⟩,gN.nil⟩
 ·next s e=>exact Tb.told (x:={ x with s:=s,leads:=true,own:=s.c.es.length }) ⟨h.node,h.nodes,h.acc hv e,h.v⟩ hv
theorem PK(v:Vt)(i had:Nat)(l:List En):(v.promise i had l).2.t=v.t:=by
 unfold Vt.promise;repeat' split
 all_goals rfl
theorem Tb.lead(h:x.Tb n abp B)(hN:1<=abp):(x.lead).1.Tb n abp (B+abp)∧gN abp (B+abp) (x.lead).2:=by
 have h8:=h.mono (B':=B+abp) ap;unfold Rp.lead;split;·exact⟨h8,gN.nil⟩
 ·split
  ·exact⟨h8,gN.nil⟩
  ·next s e=>
   have htl:=yw x.s.c.t x.node x.nodes (by rw[h.nodes];exact hN);have kY:s.c.t<=B+abp:=by rw[B8 e];have:=h.t;have:=h.nodes;omega
   have hv:((Vt.new s.c.t x.nodes).promise x.node s.c.h s.c.es).2.t<=B+abp:=by rw[PK];exact kY
   have lw:Rp.Tb { x with s:=s,leads:=false,v:=some ((Vt.new s.c.t x.nodes).promise x.node s.c.h s.c.es).2 } n abp (B+abp):=⟨h.node,h.nodes,kY,λv' h'=>by cases h';exact hv⟩;dsimp only;split;·exact lw.won hv
   ·refine⟨lw,?_⟩
    rw[h.nodes];exact gN.all (by show ((s.c.t:Nat):Int)<=_;omega)
theorem Tb.ask(h:x.Tb n abp B)(f:Int)(e:En):(x.ask f e).1.Tb n abp B∧gN abp B (x.ask f e).2:=by
 unfold Rp.ask;split
 ·next v _ hv=>
  split;·exact⟨h,gN.one (de _) (.inl rfl)⟩
  ·split
   ·exact⟨h,gN.one (de _) (.inl rfl)⟩
   ·next s e1=>
    have hv:=h.v v hv;exact Tb.told (x:={ x with s:=s }) ⟨h.node,h.nodes,h.acc hv e1,h.v⟩ hv
 ·exact⟨h,gN.one (de _) (.inl rfl)⟩
theorem Tb.prepare(h:x.Tb n abp B){f:Int}(hf:0<=f∧f<(abp:Int)){t:Nat}(ht:t<=B):(x.prepare f t).1.Tb n abp B∧gN abp B (x.prepare f t).2:=by
 unfold Rp.prepare;split;·exact⟨h,gN.nil⟩
 ·next s e=>exact⟨⟨h.node,h.nodes,by show s.c.t<=B;rw[B8 e];exact ht,λ_ h'=>by cases h'⟩,gN.one (by show (t:Int)<=_;omega) (.inr hf)⟩
theorem Tb.accept(h:x.Tb n abp B){f:Int}(hf:0<=f∧f<(abp:Int)){t cm:Nat}{l:List En}(ht:t<=B):(x.accept f t l cm).1.Tb n abp B∧gN abp B (x.accept f t l cm).2:=by
 unfold Rp.accept;split;·exact⟨h,gN.nil⟩
 ·next s e=>
  have G:Rp.Tb { x with s:=s } n abp B:=⟨h.node,h.nodes,h.acc ht e,h.v⟩;dsimp only;refine⟨?_,gN.one (by show (t:Int)<=_;omega) (.inr hf)⟩;split;·exact (Tb.apply (x:=({ x with s:=s }:Rp).down) ⟨G.node,G.nodes,G.t,λ_ h'=>by cases h'⟩ _).1
  ·exact (G.apply _).1
theorem Tb.ji(h:x.Tb n abp B)(F t had:Nat)(l:List En):(ji x F t had l).1.Tb n abp B∧gN abp B (ji x F t had l).2:=by
 unfold Go.Proofs.YtpeepcmdehhbgaaGreatDoor.ji;split;·exact⟨h,gN.nil⟩
 ·next v hv=>
  split
  ·have rK:(v.promise F had l).2.t<=B:=by rw[PK];exact h.v v hv
   have L:Rp.Tb { x with v:=some (v.promise F had l).2 } n abp B:=⟨h.node,h.nodes,h.t,λv' h'=>by cases h';exact rK⟩;split;·exact L.won rK
   ·exact⟨L,gN.nil⟩
  ·exact⟨h,gN.nil⟩
theorem Tb.mV(h:x.Tb n abp B)(F t k:Nat):(mV x F t k).1.Tb n abp B∧gN abp B (mV x F t k).2:=by
 unfold Go.Proofs.YtpeepcmdehhbgaaGreatDoor.mV;split
 ·split
  ·next v hv=>
   split;·exact h.counted (h.v v hv) F k
   ·exact⟨h,gN.nil⟩
  ·exact⟨h,gN.nil⟩
 ·exact⟨h,gN.nil⟩
theorem Tb.recv(h:x.Tb n abp B)(f:Int){m:Ms}(hm:m.term<=(B:Int)):(x.recv f m).1.Tb n abp B∧gN abp B (x.recv f m).2:=by
 unfold Rp.recv;split;·exact h.ask f m.e
 ·split
  ·exact⟨h,gN.nil⟩
  ·next hf=>
   have hf:x.hears f:=Classical.byContradiction hf;have Ud:0<=f∧f<(abp:Int):=⟨hf.1,by have:=hf.2.1;rw[h.nodes] at this;exact this⟩;split;·exact h.prepare Ud ap
   ·split
    ·exact h.ji _ _ _ _
    ·split
     ·exact h.accept Ud ap
     ·split
      ·exact h.mV _ _ _
      ·exact⟨h,gN.nil⟩
end Rp
def PL(i:lp):Prop:=i=(0,0,0)∨∃a k s:Nat,i=((a:Int),(k:Int),(s:Int))∧1<=a∧k<4∧s<=9223372036854775807
def tN(abp:Nat)(l:Sends):Prop:=∀q∈l,q.2.term=0∧0<=q.1∧q.1<(abp:Int)
theorem tN.nil:tN abp []:=λ_ h=>by simp at h
theorem tN.more{l:Sends}(h:tN abp l)(hf:f<abp)(hm:m.term=0):tN abp (l++[((f:Int),m)]):=λq hq=>by
 rcases List.mem_append.1 hq with hq|hq
 ·exact h q hq
 ·rw[List.mem_singleton.1 hq];exact⟨hm,de _,by show (f:Int)<_;omega⟩
structure Ag.Ti(x:Ag)(nd abp M:Nat):Prop where
 node:x.node=nd
 eX:x.eX=abp
 tm:x.Tm M
 ask:∀e∈x.ask,PL e.2
 last:x.last<abp
namespace Ag
variable{x y:Ag}
theorem Ti.mono{M':Nat}(h:x.Ti nd abp M)(hm:M<=M'):x.Ti nd abp M':=⟨h.node,h.eX,h.tm.mono hm,h.ask,h.last⟩
structure nN(x y:Ag):Prop where
 node:y.node=x.node
 eX:y.eX=x.eX
 tag:y.tag=x.tag
 now:y.now=x.now
 tr:y.tr=x.tr
 ask:y.ask=x.ask
 last:y.last=x.last
theorem nN.refl(x:Ag):nN x x:=⟨rfl,rfl,rfl,rfl,rfl,rfl,rfl⟩
theorem nN.trans{z:Ag}(h:nN x y)(h':nN y z):nN x z:=⟨h'.node.trans h.node,h'.eX.trans h.eX,h'.tag.trans h.tag,h'.now.trans h.now,h'.tr.trans h.tr,h'.ask.trans h.ask,h'.last.trans h.last⟩
theorem nN.ti(h:nN x y)(Y:x.Ti nd abp M):y.Ti nd abp M:=⟨h.node.trans Y.node,h.eX.trans Y.eX,⟨by rw[h.tag];exact Y.tm.tag,by rw[h.now];exact Y.tm.now,by rw[h.tr];exact Y.tm.tr⟩,by rw[h.ask];exact Y.ask,by rw[h.last];exact Y.last⟩
theorem nN.fX(x:Ag)(d:Dl):nN x (x.fX d).1:=by
 unfold Ag.fX;split;·exact nN.refl _
 ·split
  ·exact nN.refl _
  ·exact⟨rfl,rfl,rfl,rfl,rfl,rfl,rfl⟩
theorem nN.sync(x:Ag):nN x x.sync:=⟨rfl,rfl,rfl,rfl,rfl,rfl,rfl⟩
theorem nN.kx{k:Nat}{ds:List Dl}(h:x.kx k ds=some y):nN x y:=by obtain⟨_,_,_,rfl⟩:=AV h;exact⟨rfl,rfl,rfl,rfl,rfl,rfl,rfl⟩
theorem nN.kb{k:Nat}:∀(f:Nat)(x:Ag)(l:List Dl),nN x (x.kb k f l).1
 | 0,x,_=>nN.refl x
 | f+1,x,l=>by
   unfold Ag.kb;split;·exact nN.refl _
   ·split
    ·exact nN.refl _
    ·next y e=>exact (nN.kx e).trans (nN.kb f y (l.drop 8))
theorem nN.ey:∀(ks:aQ)(x:Ag),nN x (x.ey ks).1
 | [],x=>nN.refl x
 | k::ks,x=>by
   unfold Ag.ey;split;·exact (nN.kb _ x _).trans (nN.ey ks _)
   ·exact nN.kb _ x _
theorem nN.cut(x:Ag):nN x x.cut.1:=by
 unfold Ag.cut;split;·exact nN.ey _ x
 ·exact (nN.ey _ x).trans (nN.sync _)
theorem Ti.next(h:x.Ti nd abp M){i:lp}(hi:PL i):(x.next i).Ti nd abp (M+1):=⟨h.node,h.eX,⟨Nat.succ_le_succ h.tm.tag,dw h.tm.now,(h.tm.mono (Nat.le_succ M)).tr⟩,λe he=>by
 rcases yp he with rfl|he
 ·exact hi
 ·exact h.ask e he,h.last⟩
theorem Ti.send(h:x.Ti nd abp M){i:lp}(hi:PL i):(x.send i (x.tries i)).Ti nd abp (M+1):=⟨h.node,h.eX,h.tm.send i (h.tm.tries i).1,(h.next hi).ask,h.last⟩
theorem Ti.ff{k:Nat}(N:k<4)(pJ:1<=nd):∀(l:List abo.Ab)(x:Ag)(M:Nat)(out:Sends),(∀b∈l,EL b)->x.Ti nd abp M->tN abp out->(Ag.ff k l x out).1.Ti nd abp (M+l.length)∧tN abp (Ag.ff k l x out).2
 | [],_,_,_,_,h,ho=>⟨h,ho⟩
 | b::l,x,M,out,hb,h,ho=>by
   have I:=(hb b (by simp)).1;have hi:PL (x.iX k b.1) := .inr ⟨nd,k,b.1.toNat,by unfold Ag.iX;rw[h.node,cP ap],pJ,N,by omega⟩;unfold Ag.ff;rw[bD];split
   ·have:=Ti.ff N pJ l _ (M+1) (out++[(((x.to (x.tries (x.iX k b.1)).1:Nat):Int),gp (x.tI (x.iX k b.1) b.2))]) (λc E=>hb c (by simp[E])) (h.send hi) (ho.more (by
     unfold Ag.to;rw[h.eX];exact Nat.mod_lt _ (by have:=h.last;omega)) rfl)
    exact⟨this.1.mono ap,this.2⟩
   ·have:=Ti.ff N pJ l x M out (λc E=>hb c (by simp[E])) h ho
    exact⟨this.1.mono ap,this.2⟩
theorem Ti.fZ(pJ:1<=nd):∀(ks:aQ)(x:Ag)(M:Nat)(out:Sends),(∀k∈ks,k<4)->x.b.Wf->x.node<8->x.tag+4*ks.length<=9223372036854775807->jz out->x.Ti nd abp M->tN abp out->(Ag.fZ ks x out).1.Ti nd abp (M+4*ks.length)∧tN abp (Ag.fZ ks x out).2
 | [],_,_,_,_,_,_,_,_,h,ho=>⟨h,ho⟩
 | k::ks,x,M,out,N,hb,hn,ht,H,h,ho=>by
   rw[bD] at ht ⊢;have Bh:∀b∈(x.b.qu k).l.take 4,EL b:=λb vn=>hb.bt k b (bW vn);have hl:((x.b.qu k).l.take 4).length<=4:=by rw[bn];omega
   obtain⟨g1,g2,_⟩:=tM (N k (by simp)) _ x out Bh hn hb ap H;obtain⟨t1,t2⟩:=Ti.ff (abp:=abp) (N k (by simp)) pJ _ x M out Bh h ho;unfold Ag.fZ;have hbw:(Ag.ff k ((x.b.qu k).l.take 4) x out).1.b.Wf:=by rw[g2.b];exact hb
   have:=Ti.fZ pJ ks _ (M+4) _ (λc E=>N c (by simp[E])) hbw (by rw[g2.node];exact hn) (by have:=g2.tag;omega) g1 (t1.mono ap) t2;exact⟨this.1.mono ap,this.2⟩
theorem Ti.f_(pJ:1<=nd):∀(n:Nat)(x:Ag)(M:Nat)(out:Sends),x.b.Wf->x.node<8->x.tag+16*n<=9223372036854775807->jz out->x.Ti nd abp M->tN abp out->(Ag.f_ n x out).1.Ti nd abp (M+17*n)∧tN abp (Ag.f_ n x out).2
 | 0,_,_,_,_,_,_,_,h,ho=>⟨h,ho⟩
 | n+1,x,M,out,hb,hn,ht,H,h,ho=>by
   have I:Ag.Ti { x with now:=x.now+1 } nd abp (M+1):=⟨h.node,h.eX,⟨dw h.tm.tag,Nat.succ_le_succ h.tm.now,(h.tm.mono (Nat.le_succ M)).tr⟩,h.ask,h.last⟩;have hr:∀k∈bV 4,k<4:=λk N=>List.mem_range.1 N;obtain⟨g1,g2,_⟩:=yx (bV 4) { x with now:=x.now+1 } out hr hn hb (by show x.tag+_<=_;rw[da];omega) H;obtain⟨t1,t2⟩:=Ti.fZ pJ (bV 4) { x with now:=x.now+1 } (M+1) out hr hb hn (by show x.tag+_<=_;rw[da];omega) H I ho;rw[da] at g2 t1;have Yo:(Ag.fZ (bV 4) { x with now:=x.now+1 } out).1.tag<=x.tag+4*4:=g2.tag;unfold Ag.f_ Ag.lN;have:=Ti.f_ pJ n (Ag.fZ (bV 4) { x with now:=x.now+1 } out).1 (M+1+4*4) _ (by rw[g2.b];exact hb) (by rw[g2.node];exact hn) ap g1 t1 t2;exact⟨this.1.mono ap,this.2⟩
theorem yA{κ α:Type}[DecidableEq κ]{q:List (κ×α)}{k:κ}{e:κ×α}(h:e∈gV q k):e∈q:=by unfold gV at h;exact (List.mem_filter.1 h).1
theorem PN{κ α:Type}[DecidableEq α]{q:List (κ×α)}{v:α}{e:κ×α}(h:e∈vH q v):e∈q:=(List.mem_filter.1 h).1
theorem Tr(x:Ag)(r:Rc):nN x (x.put r):=by
 unfold Ag.put;split;·exact⟨rfl,rfl,rfl,rfl,rfl,rfl,rfl⟩
 ·exact nN.refl _
theorem Ti.fin(h:x.Ti nd abp M)(a k s:Nat):(x.fin a k s).Ti nd abp M:=by have I:=(Tr x (.dn k s)).ti h;exact⟨I.node,I.eX,⟨I.tm.tag,I.tm.now,λe he=>h.tm.tr e (yA he)⟩,λe he=>h.ask e (PN he),I.last⟩
theorem Ti.of(h:x.Ti nd abp M)(tg:Nat):PL (x.jw tg):=by
 unfold Ag.jw;cases hf:qR x.ask (tg:Int) with
 | none=>exact .inl rfl
 | some t=>
   obtain⟨e,he,rfl⟩:=Ce hf;exact h.ask e he
theorem Ti.took(h:x.Ti nd abp M){f tg code:Nat}(hf:f<abp):(x.took f tg code).Ti nd abp M:=by
 have I:Ag.Ti { x with ask:=gV x.ask (tg:Int) } nd abp M:=⟨h.node,h.eX,⟨h.tm.tag,h.tm.now,h.tm.tr⟩,λe he=>h.ask e (yA he),h.last⟩;have G:Ag.Ti (if code=6 then { x with ask:=gV x.ask (tg:Int) } else { x with ask:=gV x.ask (tg:Int),last:=f }) nd abp M:=by
  split;·exact I
  ·exact⟨I.node,I.eX,⟨I.tm.tag,I.tm.now,I.tm.tr⟩,I.ask,hf⟩
 have hn:(if code=6 then ({ x with ask:=gV x.ask (tg:Int) }:Ag) else { x with ask:=gV x.ask (tg:Int),last:=f }).now=x.now:=by split<;>rfl
 unfold Ag.took;dsimp only;generalize (if code=6 then ({ x with ask:=gV x.ask (tg:Int) }:Ag) else { x with ask:=gV x.ask (tg:Int),last:=f })=y at G hn;split
 ·split
  ·exact⟨G.node,G.eX,⟨G.tm.tag,G.tm.now,G.tm.tr⟩,G.ask,by rw[h.eX];exact Nat.mod_lt _ (by have:=h.last;omega)⟩
  ·exact G
 ·split
  ·exact G.fin _ _ _
  ·split
   ·refine⟨G.node,G.eX,⟨G.tm.tag,G.tm.now,λe he=>?_⟩,G.ask,G.last⟩
    rcases yp he with rfl|he
    ·exact⟨(G.tm.tries _).1,by have:=h.tm.now;show x.now<=_;omega⟩
    ·exact G.tm.tr e he
   ·exact G
theorem Ti.new(nd abp:Nat)(hN:1<=abp)(rs:List Rc)(n:Nat):(Ag.new nd abp rs n).Ti nd abp (n*4294967296):=⟨rfl,rfl,⟨bh _,bo _,λ_ h=>by simp[Ag.new] at h⟩,λ_ h=>by simp[Ag.new] at h,hN⟩
end Ag
def je(abq:Nat)(x:Wl)(a:Ac)(ev:Ev)(x':Wl):Prop:=∀w D,Lw W D 33 #[abq,aZ (j8 a)] [.o (iw abq x)] (λ(_:Unit)e=>e=b5 (aZ (kB { ev with bag:=(x'.net.length:Int) }))) (λ_=>[.o (iw abq x')]) w
theorem je.of{x':Wl}{a:Ac}{ev:Ev}(hq:∀P,pM P x->pM P x')(h:∀(P:my),pM P x->∀w D,Lw W D 88 #[.pointer (some ⟨P.w,0,none⟩),aZ (j8 a)] (dL P x) (λ(_:Unit)e=>e=b5 (aZ (kB ev))) (λ_=>dL P x') w):je abq x a ev x':=λw D=>
 a0S w D abq x x' a ev λw D=>Td hq (λP w D hw hQ=>by subst hw;exact h P hQ w D) w D
theorem I9(hi:i<x.na)(Y:(x.ag i).Wf)(ht:(x.ag i).Tm M)(hM:M<=576460752303423488)(b:Int)(s:aR)(hn:1<=n∧n<=1024):je abq x ⟨1,((x.nr+i:Nat):Int),b,(n:Int),s⟩ { Ev.zero with node:=((x.nr+i:Nat):Int) } ((x.jx i ((x.ag i).f_ n []).1).send (x.nr+i) ((x.ag i).f_ n []).2):=
 je.of (λP h=>⟨h.n,h.r,h.a,h.d,h.c,h.m⟩) λP hQ w D=>by obtain⟨I,_,L⟩:=Ag.yz n (x.ag i) [] Y.ok.node Y.bk (by have:=ht.tag;omega) jz.nil;rw[cx] at L;exact EI w D P x _ _ b _ s _ λw D=>T5 w D P x hQ i hi Y.ok M ht hM b n s hn I ap
theorem zt(he:x.net[i]?=some (f,t,m))(E:x.cut (f*8+t)=false)(hl:Tq x.nn (f,t,m))(ht:t<x.nr)(Y:(x.rp t).Wf)(a b:Int)(s:aR):je abq x ⟨2,a,b,(i:Int),s⟩ { Ev.zero with node:=(t:Int) } (((x.del i).qv t ((x.rp t).recv (f:Int) m).1).send t ((x.rp t).recv (f:Int) m).2):=
 je.of (λP h=>⟨h.n,h.r,h.a,h.d,h.c,h.m⟩) λP hQ w D=>
  nM w D P x _ a b _ s _ λw D=>Hw w D P x hQ i f t m he E hl.gd hl.fit ht Y.ok (Y.recv (f:Int) hl.gd).2 (bB (Y.Py (f:Int) hl.gd) am)
theorem Ts(hi:i<x.nr)(Y:(x.rp i).Wf)(ht:(x.rp i).s.c.t<=1099511627776)(b n:Int)(s:aR):je abq x ⟨8,(i:Int),b,n,s⟩ { Ev.zero with node:=(i:Int) } ((x.qv i ((x.rp i).lead).1).send i ((x.rp i).lead).2):=
 je.of (λP h=>⟨h.n,h.r,h.a,h.d,h.c,h.m⟩) λP hQ w D=>Pq w D P x hQ i hi Y.ok ht b n s Y.lead.2 (bB Y.Pw am)
theorem M4(hi:i<x.na)(Y:(x.ag i).Wf)(b:Int)(hs:s.size<=1000000)(hn:n<=9223372036854775807):je abq x ⟨9,((x.nr+i:Nat):Int),b,(n:Int),s⟩ { Ev.zero with why:=((x.ag i).fX (s,n)).2 } (x.jx i ((x.ag i).fX (s,n)).1):=
 je.of (λP h=>⟨h.n,h.r,h.a,h.d,h.c,h.m⟩) λP hQ w D=>LU w D P x _ _ b _ s _ λw D=>EG w D P x hQ i hi Y.ok b n s hs hn
theorem PO(hi:i<x.na)(Y:(x.ag i).Wf)(b n:Int)(s:aR):je abq x ⟨10,((x.nr+i:Nat):Int),b,n,s⟩ { Ev.zero with code:=((x.ag i).cut.2.length:Int) } (x.jx i (x.ag i).cut.1):=
 je.of (λP h=>⟨h.n,h.r,h.a,h.d,h.c,h.m⟩) λP hQ w D=>H_ w D P x _ _ b _ s _ λw D=>Hl w D P x hQ i hi Y.ok b n s
theorem Tt(hi:i<x.na)(Y:(x.ag i).Wf)(b n:Int)(hp:abn.fW s=0)(ht:(x.ag i).tag<=4611686018427387904):je abq x ⟨13,((x.nr+i:Nat):Int),b,n,s⟩ Ev.zero ((x.jx i ((x.ag i).look s).1).send (x.nr+i) [((x.ag i).last,gp (kq s (x.ag i).node ((x.ag i).tag+1)))]):=
 je.of (λ_ h=>⟨h.n,h.r,h.a,h.d,h.c,h.m⟩) λP hQ w D=>I0 w D P x _ _ b _ s _ λw D=>LS w D P x hQ i hi b n s (jt hp) hp ht Y.ok.node
theorem zu{k n:Int}(N:k≠0)(hT:∀(P:my)w,ii W 209 #[.pointer (some ⟨P.g,0,none⟩),J n] (λe=>e=b5 (a_ #[aZ aL,J k])) (Ne.fc P.g (x.nn:Int) (x.net.map jY) x.cut) (Ne.fc P.g (x.nn:Int) (x.net.map jY) x.cut) w)(a b:Int)(s:aR):je abq x ⟨2,a,b,n,s⟩ { Ev.zero with why:=k } x:=
 je.of (λ_ h=>h) λP _ w D=>nM w D P x _ a b _ s _ λw D=>Hp w D P x n k N (hT P)
theorem Tv(hi:i<x.net.length)(a b:Int)(s:aR):je abq x ⟨3,a,b,(i:Int),s⟩ { Ev.zero with why:=0 } (x.del i):=
 je.of (λ_ h=>⟨h.n,h.r,h.a,h.d,h.c,h.m⟩) λP _ w D=>Pp w D P x (x.net.eraseIdx i) x.cut a b i 0 s λw=>by rw[<-EH];exact Ne.NI w P.g (x.nn:Int) (x.net.map jY) x.cut i (by rw[bj];exact hi)
theorem M5(ha:a<x.na)(he:x.net[i]?=some (f,x.nr+a,fx (tg:Int) (code:Int) n))(E:x.cut (f*8+(x.nr+a))=false)(hl:Tq x.nn (f,x.nr+a,fx (tg:Int) (code:Int) n))(I:tg<=9223372036854775807)(G:code<=255)(Y:(x.ag a).Wf)(hf:f<(x.ag a).eX)(kT:(qR (x.ag a).ask (tg:Int)).isSome=true)(hid:(x.ag a).jw tg=(0,0,0)∨∃a' k s:Nat,(x.ag a).jw tg=((a':Int),(k:Int),(s:Int))∧1<=a'∧k<4∧s<=9223372036854775807)(A B:Int)(s:aR):je abq x ⟨2,A,B,(i:Int),s⟩ { Ev.zero with node:=((x.nr+a:Nat):Int),code:=(code:Int),id:=(x.ag a).jw tg,n:=if code=8 then n else 0 } ((x.del i).jx a ((x.ag a).took f tg code)):=
 je.of (λ_ h=>⟨h.n,h.r,h.a,h.d,h.c,h.m⟩) λP hQ w D=>nM w D P x _ A B _ s _ λw D=>yv w D P x hQ i f a tg code n ha he E hl.gd hl.fit _ _ code λw U p _=>by have:=He w U p (x.ag a) Y.ok (f:Int) tg code n I G ⟨by omega,by omega⟩ kT hid;rw[cA] at this;exact this
theorem Cj(ha:a<x.na)(he:x.net[i]?=some (f,x.nr+a,fx (tg:Int) (code:Int) n))(E:x.cut (f*8+(x.nr+a))=false)(hl:Tq x.nn (f,x.nr+a,fx (tg:Int) (code:Int) n))(I:tg<=9223372036854775807)(G:code<=255)(hf:f<(x.ag a).eX)(kT:qR (x.ag a).ask (tg:Int)=none)(A B:Int)(s:aR):je abq x ⟨2,A,B,(i:Int),s⟩ { Ev.zero with node:=((x.nr+a:Nat):Int),code:=((0:Nat):Int),id:=(0,0,0),n:=if (0:Nat)=8 then n else 0 } ((x.del i).jx a (x.ag a)):=
 je.of (λ_ h=>⟨h.n,h.r,h.a,h.d,h.c,h.m⟩) λP hQ w D=>nM w D P x _ A B _ s _ λw D=>yv w D P x hQ i f a tg code n ha he E hl.gd hl.fit _ _ 0 λw U p _=>
  EA w U p (x.ag a) (f:Int) tg code n I G ⟨by omega,by omega⟩ kT
def oG(nr B:Nat)(b:List Lt3):Prop:=∀l∈b,l.2.2.term<=(B:Int)∧(nr<=l.2.1->l.2.2.k=2∧l.1<nr)
section
variable{nr nn:Nat}
theorem oG.mono{B':Nat}{b:List Lt3}(h:oG nr B b)(hB:B<=B'):oG nr B' b:=λl hl=>⟨by have:=(h l hl).1;omega,(h l hl).2⟩
theorem oG.rp(hn:node<nr):∀(l:Sends){b:List Lt3},oG nr B b->gN nr B l->oG nr B (il nn node b l)
 | [],_,h,_=>h
 | (to,m)::l,b,h,H=>by
   unfold il;refine oG.rp hn l ?_ λq hq=>H q (by simp[hq]);split
   ·intro x Y
    rcases List.mem_append.1 Y with Y|Y
    ·exact h x Y
    ·rw[List.mem_singleton.1 Y]
     have I:=H (to,m) (by simp);refine⟨I.1,λG=>⟨I.2.resolve_right λL=>?_,hn⟩⟩;have G:nr<=to.toNat:=G;have L:0<=to∧to<(nr:Int):=L;omega
   ·exact h
theorem oG.ag:∀(l:Sends){b:List Lt3},oG nr B b->tN nr l->oG nr B (il nn node b l)
 | [],_,h,_=>h
 | (to,m)::l,b,h,H=>by
   unfold il;refine oG.ag l ?_ λq hq=>H q (by simp[hq]);split
   ·intro x Y
    rcases List.mem_append.1 Y with Y|Y
    ·exact h x Y
    ·rw[List.mem_singleton.1 Y]
     have I:=H (to,m) (by simp);refine⟨by have h5:m.term=0:=I.1;show m.term<=_;omega,λG=>?_⟩;have G:nr<=to.toNat:=G;have L:0<=to∧to<(nr:Int):=I.2;omega
   ·exact h
theorem oG.del{b:List Lt3}(h:oG nr B b)(i:Nat):oG nr B (b.eraseIdx i):=λl hl=>h l ((List.eraseIdx_sublist b i).subset hl)
end
structure Rp.Go(x:Rp)(n abp B:Nat):Prop where
 wf:x.Wf
 sm:x.s.Sm
 tb:x.Tb n abp B
structure Ag.Go(x:Ag)(nd abp M:Nat):Prop where
 wf:x.Wf
 sm:x.Sm
 ti:x.Ti nd abp M
structure Wl.Good(x:Wl)(M:Nat):Prop where
 n:1<=x.nr∧x.nn<=8
 rp:∀i,i<x.nr->(x.rp i).Go i x.nr (8*M)
 ag:∀i,i<x.na->(x.ag i).Go (x.nr+i) x.nr (8589934592*M)
 net:mm x.nn x.net
 nb:oG x.nr (8*M) x.net
namespace Wl
theorem Good.mono{M':Nat}(h:x.Good M)(hm:M<=M'):x.Good M':=⟨h.n,λi hi=>⟨(h.rp i hi).wf,(h.rp i hi).sm,(h.rp i hi).tb.mono ap⟩,λi hi=>⟨(h.ag i hi).wf,(h.ag i hi).sm,(h.ag i hi).ti.mono ap⟩,h.net,h.nb.mono ap⟩
theorem Good.qv(h:x.Good M){i:Nat}{y:Rp}(hy:y.Go i x.nr (8*M)):(x.qv i y).Good M:=⟨h.n,λj hj=>by
 show (at_ x.rp i y j).Go j x.nr _;unfold at_;split;·next e=>rw[e];exact hy
 ·exact h.rp j hj,h.ag,h.net,h.nb⟩
theorem Good.jx(h:x.Good M){i:Nat}{y:Ag}(hy:y.Go (x.nr+i) x.nr (8589934592*M)):(x.jx i y).Good M:=⟨h.n,h.rp,λj hj=>by
 show (at_ x.ag i y j).Go (x.nr+j) x.nr _;unfold at_;split;·next e=>rw[e];exact hy
 ·exact h.ag j hj,h.net,h.nb⟩
theorem Good.del(h:x.Good M)(i:Nat):(x.del i).Good M:=⟨h.n,h.rp,h.ag,h.net.del i,h.nb.del i⟩
theorem Good.UX(h:x.Good M)(hi:i<x.nr){l:Sends}(H:jz l)(ho:gN x.nr (8*M) l):(x.send i l).Good M:=⟨h.n,h.rp,h.ag,h.net.sends (by unfold Wl.nn;omega) l H,h.nb.rp hi l ho⟩
theorem Good.UY(h:x.Good M)(hi:i<x.na){l:Sends}(H:jz l)(ho:tN x.nr l):(x.send (x.nr+i) l).Good M:=⟨h.n,h.rp,h.ag,h.net.sends (by unfold Wl.nn;omega) l H,h.nb.ag l ho⟩
end Wl
theorem XB(h:m.Gd)(N:m.k=2):∃tg co n:Nat,m=fx (tg:Int) (co:Int) n∧tg<=9223372036854775807∧co<=255:=by
 cases h with
 | ans tg c n I G _=>exact⟨tg,c,n,rfl,I,G⟩
 | ask=>exact absurd N (show ¬ (1:Int)=2 by decide)
 | vD=>exact absurd N (show ¬ (3:Int)=2 by decide)
 | prom=>exact absurd N (show ¬ (4:Int)=2 by decide)
 | acc=>exact absurd N (show ¬ (5:Int)=2 by decide)
 | Mq=>exact absurd N (show ¬ (6:Int)=2 by decide)
def Wl.kK(x:Wl)(i:Nat):Ev×Wl:=
 match x.net[i]? with
 | none=>({ Ev.zero with why:=23 },x)
 | some l=>
   if x.cut (l.1*8+l.2.1)=true then ({ Ev.zero with why:=26 },x) else
   if l.2.1<x.nr then ({ Ev.zero with node:=(l.2.1:Int) },((x.del i).qv l.2.1 ((x.rp l.2.1).recv (l.1:Int) l.2.2).1).send l.2.1 ((x.rp l.2.1).recv (l.1:Int) l.2.2).2) else
   if (qR (x.ag (l.2.1-x.nr)).ask l.2.2.tag).isSome=true then
    ({ Ev.zero with node:=(l.2.1:Int),code:=l.2.2.code,id:=(x.ag (l.2.1-x.nr)).jw l.2.2.tag.toNat,n:=if l.2.2.code=8 then l.2.2.n else 0 },
     (x.del i).jx (l.2.1-x.nr) ((x.ag (l.2.1-x.nr)).took l.1 l.2.2.tag.toNat l.2.2.code.toNat))
   else ({ Ev.zero with node:=(l.2.1:Int) },(x.del i).jx (l.2.1-x.nr) (x.ag (l.2.1-x.nr)))
theorem Da{i:Int}(h:i<0∨(n:Int)<=i):Ne.iy (n:Int) i=false:=by unfold Ne.iy;simp;omega
theorem XC(h:x.Good M)(hi:i<x.net.length)(a b:Int)(s:aR):je abq x ⟨2,a,b,(i:Int),s⟩ (x.kK i).1 (x.kK i).2:=by
 obtain⟨l,hl⟩:∃l,x.net[i]?=some l:=⟨_,List.getElem?_eq_getElem hi⟩;have fS:=h.net.all l (List.mem_of_getElem? hl);have Fe:=h.nb l (List.mem_of_getElem? hl);obtain⟨f,t,m⟩:=l;unfold Wl.kK;rw[hl];dsimp only at fS Fe ⊢;by_cases E:x.cut (f*8+t)=true
 ·rw[aA E]
  refine zu (k:=26) am (λP w=>?_) a b s;have hi2:i<(x.net.map jY).length:=by rw[bj];exact hi
  have e:(x.net.map jY)[i]=jY (f,t,m):=by
   have L:(x.net.map jY)[i]?=some (jY (f,t,m)):=by rw[List.getElem?_map,hl];rfl
   rw[List.getElem?_eq_getElem hi2] at L;exact Option.some.inj L
  exact Ne.Dy w P.g (x.nn:Int) (x.net.map jY) x.cut i hi2 (by rw[e];exact E)
 ·rw[aB E]
  have E:x.cut (f*8+t)=false:=by simpa using E
  by_cases ht:t<x.nr
  ·rw[aA ht]
   exact zt hl E fS ht (h.rp t ht).wf a b s
  ·rw[aB ht]
   have Ka:t<x.nn:=fS.t;obtain⟨A,rfl⟩:∃A,t=x.nr+A:=⟨t-x.nr,by omega⟩;have hA:A<x.na:=by unfold Wl.nn at Ka;omega
   rw[Nat.add_sub_cancel_left];obtain⟨N,hf⟩:=Fe.2 (by show x.nr<=x.nr+A;omega);have Qt:=h.ag A hA;obtain⟨tg,co,n,rfl,I,G⟩:=XB fS.gd N;have e1:(fx (tg:Int) (co:Int) n).tag=(tg:Int):=rfl;have e2:(fx (tg:Int) (co:Int) n).code=(co:Int):=rfl;have e3:(fx (tg:Int) (co:Int) n).n=n:=rfl;rw[e1,e2,e3,cA,cA];have qX:f<(x.ag A).eX:=by rw[Qt.ti.eX];exact hf
   by_cases kT:(qR (x.ag A).ask (tg:Int)).isSome=true
   ·rw[aA kT]
    have:=M5 (abq:=abq) (x:=x) (n:=n) hA hl E fS I G Qt.wf qX kT (Qt.ti.of tg) a b s;have h8:(if co=8 then n else 0)=if (co:Int)=8 then n else 0:=by
     by_cases h8:co=8;·rw[aA h8,aA ap]
     ·rw[aB h8,aB ap]
    rw[h8] at this;exact this
   ·rw[aB kT]
    have kT:qR (x.ag A).ask (tg:Int)=none:=by simpa using kT
    exact Cj (abq:=abq) (x:=x) (n:=n) hA hl E fS I G qX kT a b s
theorem Wl.Good.kK{x:Wl}{M:Nat}(h:x.Good M)(i:Nat):(x.kK i).2.Good M:=by
 unfold Wl.kK;cases hl:x.net[i]? with
 | none=>exact h
 | some l=>
   have fS:=h.net.all l (List.mem_of_getElem? hl);have Fe:=h.nb l (List.mem_of_getElem? hl);obtain⟨f,t,m⟩:=l;dsimp only at fS Fe ⊢;split;·exact h
   ·split
    ·next ht=>
     have hr:=h.rp t ht;obtain⟨w1,w2⟩:=hr.wf.recv (f:Int) fS.gd;obtain⟨t1,t2⟩:=hr.tb.recv (f:Int) Fe.1;exact ((h.del i).qv (i:=t) ⟨w1,Rp.Tp hr.sm _ _,t1⟩).UX ht w2 t2
    ·next ht=>
     have Ka:t<x.nn:=fS.t;obtain⟨A,rfl⟩:∃A,t=x.nr+A:=⟨t-x.nr,by omega⟩;have hA:A<x.na:=by unfold Wl.nn at Ka;omega
     rw[Nat.add_sub_cancel_left];obtain⟨N,hf⟩:=Fe.2 (by show x.nr<=x.nr+A;omega);have Qt:=h.ag A hA;split;·exact (h.del i).jx ⟨Qt.wf.took (by rw[Qt.ti.eX];exact hf) (Qt.ti.of _),Qt.sm.took _ _ _,Qt.ti.took hf⟩
     ·exact (h.del i).jx Qt
end Go.Proofs.YtpeepcmdehhbgaaGreatDoor
section
namespace Go.Proofs.YtpeepcmdehhbgaaGreatDoor
open Go.RowKit Go.Hop V
namespace Wl
def gH(x:Wl)(i:Nat):Wl:=(x.qv i ((x.rp i).lead).1).send i ((x.rp i).lead).2
def jy(x:Wl)(i n:Nat):Wl:=(x.jx i ((x.ag i).f_ n []).1).send (x.nr+i) ((x.ag i).f_ n []).2
def fU(x:Wl)(i:Nat):Wl:=x.jx i (x.ag i).cut.1
def gI(x:Wl)(i:Nat)(d:Dl):Wl:=x.jx i ((x.ag i).fX d).1
def nO(x:Wl)(i:Nat)(s:aR):Wl:=(x.jx i ((x.ag i).look s).1).send (x.nr+i) [((x.ag i).last,gp (kq s (x.ag i).node ((x.ag i).tag+1)))]
theorem Good.gH(h:x.Good M){i:Nat}(hi:i<x.nr):(x.gH i).Good (M+1):=by
 have hr:=h.rp i hi;have hn:=h.n;have Ya:x.nr<=8:=by have:=hn.2;unfold Wl.nn at this;omega
 obtain⟨w1,w2⟩:=hr.wf.lead;obtain⟨t1,t2⟩:=hr.tb.lead hn.1;have I:=h.mono (Nat.le_succ M);exact (I.qv (i:=i) (y:=(x.rp i).lead.1) ⟨w1,Rp.Tl hr.sm,t1.mono ap⟩).UX hi w2 (t2.mono ap)
theorem Good.jy(h:x.Good M)(hM:M<=1048576){i:Nat}(hi:i<x.na){n:Nat}(hn:n<=1024):(x.jy i n).Good (M+1):=by
 have ha:=h.ag i hi;have I:=h.mono (Nat.le_succ M);have pJ:x.nr+i<8:=by have:=h.n.2;unfold Wl.nn at this;omega
 have a5B:1<=x.nr+i:=by have:=h.n.1;omega
 have KS:=ha.ti.tm.tag;obtain⟨g1,g2,_⟩:=Ag.yz n (x.ag i) [] (by rw[ha.ti.node];exact pJ) ha.wf.bk ap jz.nil;obtain⟨t1,t2⟩:=Ag.Ti.f_ a5B n (x.ag i) _ [] ha.wf.bk (by rw[ha.ti.node];exact pJ) ap jz.nil ha.ti tN.nil;exact (I.jx (i:=i) (y:=((x.ag i).f_ n []).1) ⟨ha.wf.f_ n [],Ag.Sm.f_ n [] ha.sm,t1.mono ap⟩).UY hi g1 t2
theorem Good.fU(h:x.Good M){i:Nat}(hi:i<x.na):(x.fU i).Good M:=by have ha:=h.ag i hi;exact h.jx ⟨ha.wf.cut,ha.sm.cut,(Ag.nN.cut _).ti ha.ti⟩
theorem Good.gI(h:x.Good M){i:Nat}(hi:i<x.na){d:Dl}(hd:d.2<=18446744073709551615):(x.gI i d).Good M:=by have ha:=h.ag i hi;exact h.jx ⟨ha.wf.fX d hd,ha.sm.fX d,(Ag.nN.fX _ d).ti ha.ti⟩
theorem Tw(hp:abn.fW s=0)(pJ:nd<8)(ht:t<=9223372036854775807):(gp (kq s nd t)).Gd:=Ms.Gd.ask (kq s nd t) ⟨⟨⟨de _,by show (nd:Int)<8;omega⟩,de _,by show (t:Int)<=_;omega⟩,.inr ⟨rfl,rfl,rfl,rfl,rfl,rfl,hp,jt hp⟩⟩
theorem Good.nO(h:x.Good M)(hM:M<=1048576){i:Nat}(hi:i<x.na){s:aR}(hp:abn.fW s=0):(x.nO i s).Good (M+1):=by
 have ha:=h.ag i hi;have I:=h.mono (Nat.le_succ M);have KS:=ha.ti.tm.tag;have pJ:x.nr+i<8:=by have:=h.n.2;unfold Wl.nn at this;omega
 have e:((x.ag i).look s).1=(x.ag i).next (0,0,0):=by unfold Ag.look;rw[aB ap]
 unfold Wl.nO;rw[e];refine (I.jx (i:=i) (y:=(x.ag i).next (0,0,0)) ⟨ha.wf.next _,ha.sm,(ha.ti.next (.inl rfl)).mono ap⟩).UY hi (jz.one (Tw hp (by rw[ha.ti.node];exact pJ) ap)) ?_;intro q hq;rw[List.mem_singleton.1 hq];exact⟨rfl,de _,by have:=ha.ti.last;show ((x.ag i).last:Int)<(x.nr:Int);omega⟩
theorem Good.PP(h:x.Good M)(hM:M<=1048576)(hi:i<x.nr)(b n:Int)(s:aR):je abq x ⟨8,(i:Int),b,n,s⟩ { Ev.zero with node:=(i:Int) } (x.gH i):=Ts hi (h.rp i hi).wf (by have:=(h.rp i hi).tb.t;omega) b n s
theorem Good.JH(h:x.Good M)(hM:M<=1048576)(hi:i<x.na)(b:Int)(s:aR)(hn:1<=n∧n<=1024):je abq x ⟨1,((x.nr+i:Nat):Int),b,(n:Int),s⟩ { Ev.zero with node:=((x.nr+i:Nat):Int) } (x.jy i n):=I9 hi (h.ag i hi).wf (h.ag i hi).ti.tm ap b s hn
theorem Good.Ck(h:x.Good M)(hi:i<x.na)(b n:Int)(s:aR):je abq x ⟨10,((x.nr+i:Nat):Int),b,n,s⟩ { Ev.zero with code:=((x.ag i).cut.2.length:Int) } (x.fU i):=PO hi (h.ag i hi).wf b n s
theorem Good.EM(h:x.Good M)(hi:i<x.na)(b:Int)(hs:s.size<=1000000)(hn:n<=9223372036854775807):je abq x ⟨9,((x.nr+i:Nat):Int),b,(n:Int),s⟩ { Ev.zero with why:=((x.ag i).fX (s,n)).2 } (x.gI i (s,n)):=M4 hi (h.ag i hi).wf b hs hn
theorem Good.XD(h:x.Good M)(hM:M<=1048576)(hi:i<x.na)(b n:Int)(hp:abn.fW s=0):je abq x ⟨13,((x.nr+i:Nat):Int),b,n,s⟩ Ev.zero (x.nO i s):=Tt hi (h.ag i hi).wf b n hp (by have:=(h.ag i hi).ti.tm.tag;omega)
end Wl
end Go.Proofs.YtpeepcmdehhbgaaGreatDoor
end
end
namespace Go.Proofs.YtpeepcmdehhbgaaGreatDoor
open RowKit Hop V
def mY(x:I3):List I3->List I3
 | []=>[x]
 | y::l=>if x=y then y::l else if CI x y=true then x::y::l else y::mY x l
def PQ(l:List I3):List I3:=l.foldr mY []
def zv(l:List I3):Prop:=l.Pairwise λa b=>CI a b=true
theorem Cl(x:I3):CI x x=false:=by rw[xR];omega
theorem uQ{x y z:I3}(h:CI x y=true)(h':CI y z=true):CI x z=true:=by rw[tq] at *;omega
theorem JI{x y:I3}(h:x≠y)(h':CI x y=false):CI y x=true:=by rw[xR] at h';rw[tq];have:¬ (x.1=y.1∧x.2.1=y.2.1∧x.2.2=y.2.2):=λ⟨a,b,c⟩=>h (Prod.ext a (Prod.ext b c));omega
theorem tO(x z:I3):∀l:List I3,z∈mY x l↔z=x∨z∈l
 | []=>by simp[mY]
 | y::l=>by
   unfold mY;split;·next h=>subst h;simp
   ·split
    ·simp
    ·rw[cI,tO x z l,cI]
     constructor
     ·rintro (h|h|h)
      ·exact .inr (.inl h)
      ·exact .inl h
      ·exact .inr (.inr h)
     ·rintro (h|h|h)
      ·exact .inr (.inl h)
      ·exact .inl h
      ·exact .inr (.inr h)
theorem qy(x:I3):∀{l:List I3},zv l->zv (mY x l)
 | [],_=>List.pairwise_singleton _ _
 | y::l,h=>by
   obtain⟨I,G⟩:=List.pairwise_cons.1 h;unfold mY;split;·exact h
   ·next jT=>
    split
    ·next fS=>exact List.pairwise_cons.2 ⟨λz hz=>by
      rcases List.mem_cons.1 hz with rfl|hz
      ·exact fS
      ·exact uQ fS (I z hz),h⟩
    ·next fS=>
     refine List.pairwise_cons.2 ⟨λz hz=>?_,qy x G⟩;rcases (tO x z l).1 hz with rfl|hz
     ·exact JI jT (by simpa using fS)
     ·exact I z hz
theorem Cm:∀l:List I3,zv (PQ l)
 | []=>List.Pairwise.nil
 | x::l=>qy x (Cm l)
theorem Cn(z:I3):∀l:List I3,z∈PQ l↔z∈l
 | []=>by simp[PQ]
 | x::l=>by
   show z∈mY x (PQ l)↔_;rw[tO,Cn z l,cI]
theorem vW:∀{a b:List I3},zv a->zv b->(∀z,z∈a↔z∈b)->a=b
 | [],[],_,_,_=>rfl
 | [],y::b,_,_,h=>absurd ((h y).2 (by simp)) (by simp)
 | x::a,[],_,_,h=>absurd ((h x).1 (by simp)) (by simp)
 | x::a,y::b,ha,hb,h=>by
   obtain⟨a1,a2⟩:=List.pairwise_cons.1 ha;obtain⟨b1,b2⟩:=List.pairwise_cons.1 hb;have e:x=y:=by
    rcases List.mem_cons.1 ((h x).1 (by simp)) with e|e
    ·exact e
    ·rcases List.mem_cons.1 ((h y).2 (by simp)) with e2|e2
     ·exact e2.symm
     ·have:=uQ (a1 y e2) (b1 x e)
      rw[Cl] at this;cases this
   subst e;rw[vW a2 b2 λz=>?_];constructor
   ·intro hz
    rcases List.mem_cons.1 ((h z).1 (by simp[hz])) with e|e
    ·subst e
     have:=a1 z hz;rw[Cl] at this;cases this
    ·exact e
   ·intro hz
    rcases List.mem_cons.1 ((h z).2 (by simp[hz])) with e|e
    ·subst e
     have:=b1 z hz;rw[Cl] at this;cases this
    ·exact e
theorem PR(z:I3):∀(l:List I3)(p:I3),z∈l->z=p∨z∈dd p l
 | [],_,h=>by simp at h
 | x::l,p,h=>by
   unfold dd;rcases List.mem_cons.1 h with rfl|h
   ·split
    ·next e=>exact .inl e
    ·exact .inr (by simp)
   ·rcases PR z l x h with rfl|h
    ·split
     ·next e=>exact .inl e
     ·exact .inr (by simp)
    ·split
     ·exact .inr h
     ·exact .inr (by simp[h])
theorem Ib:∀(l:List I3)(p z:I3),z∈dd p l->z∈l
 | [],_,_,h=>h
 | x::l,p,z,h=>by
   unfold dd at h;split at h;·exact bR _ (Ib l x z h)
   ·rcases List.mem_cons.1 h with rfl|h
    ·simp
    ·exact bR _ (Ib l x z h)
theorem Tz(l:List I3)(z:I3):z∈Wt l↔z∈l:=by
 cases l with
 | nil=>rfl
 | cons x l=>
   show z∈x::dd x l↔_;constructor
   ·intro h
    rcases List.mem_cons.1 h with rfl|h
    ·simp
    ·exact bR _ (Ib l x z h)
   ·intro h
    rcases List.mem_cons.1 h with rfl|h
    ·simp
    ·rcases PR z l x h with rfl|h
     ·simp
     ·simp[h]
theorem PS:∀(l:List I3)(p:I3),(p::l).Pairwise (λa b=>CI b a=false)->zv (p::dd p l)
 | [],p,_=>List.pairwise_singleton _ _
 | x::l,p,h=>by
   obtain⟨I,G⟩:=List.pairwise_cons.1 h;have ih:=PS l x G;obtain⟨i1,i2⟩:=List.pairwise_cons.1 ih;unfold dd;split;·next e=>subst e;exact ih
   ·next e=>
    have Y:CI p x=true:=JI e (I x (by simp));exact List.pairwise_cons.2 ⟨λz hz=>by
     rcases List.mem_cons.1 hz with rfl|hz
     ·exact Y
     ·exact uQ Y (i1 z hz),ih⟩
theorem TA{l:List I3}(h:l.Pairwise λa b=>CI b a=false):zv (Wt l):=by
 cases l with
 | nil=>exact List.Pairwise.nil
 | cons x l=>exact PS l x h
theorem XE{l m:List I3}(hp:l.Perm m)(h:l.Pairwise λa b=>CI b a=false):Wt l=PQ m:=vW (TA h) (Cm m) λz=>by rw[Tz,Cn,hp.mem_iff]
theorem JJ{l:List I3}(h:zv l)(x:I3):PQ (l++[x])=mY x l:=vW (Cm _) (qy x h) λz=>by rw[Cn,tO,List.mem_append,List.mem_singleton,Or.comm]
theorem yB(x:I3):∀l:List I3,(mY x l).length<=l.length+1
 | []=>bh _
 | y::l=>by
   have:=yB x l;unfold mY;split;·simp
   ·split
    ·simp
    ·simp only[bD];omega
structure iN where
 (ak rf:List I3) (rd:aQ)
def iN.new:iN:=⟨[],[],[]⟩
structure iN.Ok(s:iN):Prop where
 ak:zv s.ak
 rf:zv s.rf
 rd:∀n∈s.rd,n<18446744073709551616
def iN.add(s:iN)(k:Int)(e:Ev):iN:=if k≠2∨e.why≠0 then s else if e.code=1∨e.code=2 then { s with ak:=mY e.id s.ak } else if e.code=3 then { s with rf:=mY e.id s.rf } else if e.code=8 then { s with rd:=s.rd++[e.n] } else s
theorem iN.Ok.new:iN.new.Ok:=⟨List.Pairwise.nil,List.Pairwise.nil,λ_ h=>by simp[iN.new] at h⟩
theorem iN.Ok.add{s:iN}(h:s.Ok)(k:Int){e:Ev}(he:e.n<18446744073709551616):(s.add k e).Ok:=by
 unfold iN.add;repeat' split
 ·exact h
 ·exact⟨qy _ h.ak,h.rf,h.rd⟩
 ·exact⟨h.ak,qy _ h.rf,h.rd⟩
 ·exact⟨h.ak,h.rf,λn hn=>by
   rcases List.mem_append.1 hn with hn|hn
   ·exact h.rd n hn
   ·rw[List.mem_singleton.1 hn];exact he⟩
 ·exact h
def iN.len(s:iN):Nat:=s.ak.length+s.rf.length+s.rd.length
theorem iN.nA(s:iN)(k:Int)(e:Ev):(s.add k e).len<=s.len+1:=by
 have I:=yB e.id s.ak;have G:=yB e.id s.rf;unfold iN.add iN.len;repeat' split
 all_goals try simp only[bd,bv]
 all_goals omega
end Go.Proofs.YtpeepcmdehhbgaaGreatDoor
