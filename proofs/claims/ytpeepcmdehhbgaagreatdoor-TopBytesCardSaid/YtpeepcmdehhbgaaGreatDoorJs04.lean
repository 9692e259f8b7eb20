/- Str, Smap. -/
import Derived.Test.YtpeepcmdehhbgaaGreatDoorJs01
import Derived.Lib.AppendStr
import Derived.Maps.OwnSet
import Derived.Maps.RangeWalk
import Derived.StringKeys
set_option linter.all false
set_option maxRecDepth 100000
open Go.Value renaming int->ae,slice->Z,string->aX,bool->aY,agg->aZ,tuple->a_
open Go.Ending renaming returned->b5
open Go.IntKind renaming i64->af,u64->ah
open Go (J az aE aA aB aC aD ay aj am ap aw aL aK aJ aI aH aV aU aT aR aQ aP aO aN)
open List renaming length_append->bd,append_nil->bm,length_take->bn,eq_nil_of_length_eq_zero->bu,length_drop->bO,map_cons->bQ,size_toArray->cy,map_nil->cQ,map_toArray->cV
open Nat renaming le_refl->bh,eq_zero_or_pos->b_,mul_one->cM
open Go.Region renaming wanted->bN
open Array renaming length_toList->bZ
open Go.Builtin renaming append_->cn
open Go renaming Value->K,World->X,TypeId->dC,Program->dD,Oper->dE,Act->dF,maxLen->dG
variable{V:aV}{r cnt:Nat}{left:ByteArray->Bool}{P:dD}{t e:dC}
namespace Go.Hop
open RowKit Lib
def Bw(s:aR):strCells s=kz s.data.toList:=by unfold strCells kz;rfl
section
variable{u:dC}
def rR(abl:Elem P t e 1 1 (.int .u8 0))(hu:P.underlying u=some .string)(w:X)(ty:Nat)(v:K)(n:Nat)(xs:List K)(im:Own w V e 1 v n xs)(s:aR)
 (fw:n+s.size<=140737488355328):∃v' O,(cn #[t,u] ty #[v,aX s]).run P w=.ok v' O∧Own O (iY V w O) e 1 v' (n+s.size) (xs++kz s.data.toList)∧dM V w O:=by
 obtain⟨i,hi,hz,hs,hb⟩:=abl.info;have zC:Src P i.size u (aX s) s.size (kz s.data.toList) w:=by rw[hs];exact Src.ofString w hu s
 have QF:xs.length=n:=by have:=im.1;omega
 have YQ:(kz s.data.toList).length=s.size:=by have:=zC.newsLen;rw[hs] at this;omega
 have grow:∀(ao:aU)(cap:Nat),v=Z ao n cap->cap<n+s.size->(Builtin.firstCells i.size n (Z ao n cap)).run P w.drew=.ok xs.toArray w.drew->
  ∃v' O,(cn #[t,u] ty #[v,aX s]).run P w=.ok v' O∧Own O (iY V w O) e 1 v' (n+s.size) (xs++kz s.data.toList)∧dM V w O:=by
  rintro ao cap rfl H hold;have Mu:n+s.size<=dG:=by simp only[dG];omega
  have eR:=run_append_grow_src (P:=P) w t u ty e i (.int .u8 0) abl.und hi hz ao n cap xs hold (aX s) s.size (kz s.data.toList) zC H ap (growslice_fits H (by rw[hb];omega));have QG:=grownCap_ge w (n+s.size) cap e;have iO:grownCap w (n+s.size) cap e<=dG:=grownCap_le_maxLen w (n+s.size) cap e Mu;refine⟨_,_,eR,⟨by rw[bd];omega,.inr ⟨(w:Nat),_,_,rfl,.inr ⟨bh _,by simp⟩,heap_alloc_new w.drew _,QG,iO,.inl ?_,?_⟩⟩,⟨rfl,rfl,rfl,by simp,λk N _=>heap_alloc_old w.drew _ N⟩⟩
  ·have hz1:(Value.int IntKind.u8 0).cells.size=1:=rfl
   simp only[Array.size_append,cy,size_zeroCells,hz1,bd,QF,YQ];omega
  ·have hl:(xs++kz s.data.toList).length=(n+s.size)*1:=by rw[bd];omega
   rw[Array.toList_append,List.toList_toArray,<-hl];exact List.take_left
 by_cases hm:s.size=0
 ·have hn:kz s.data.toList=[]:=bu ap
  rw[hn,hm] at zC;obtain⟨A,c,rfl,_,iS,_⟩:=im.reads;refine⟨_,w,run_append_nothing (P:=P) w t u ty e i abl.und hi A n c iS (aX s) zC,?_,dM.dK (Grow.refl w)⟩;rw[hn,hm,bm];exact im.mono λb hb => .inl hb
 ·rcases im.2 with ⟨hv,h0⟩|⟨g,cap,cur,hv,hV,H,iS,iO,iZ,j9⟩
  ·subst h0
   obtain rfl:xs=[]:=bu QF;exact grow none 0 hv ap (run_firstCells_none (P:=P) w.drew i.size 0 0 0)
  ·by_cases rH:n+s.size<=cap
   ·have jQ:cur.size=cap:=by
     rcases iZ with h|⟨h,_⟩
     ·omega
     ·omega
    have hr:=run_append_room_string (P:=P) w t u ty e i abl.und hu hi hs g n cap cur H s rH ap
    subst hv
    refine⟨_,_,hr,⟨by rw[bd];omega,.inr ⟨g,cap,_,rfl,.inl hV,setRow_heap w g cur _ e _ H,rH,iO,.inl ?_,?_⟩⟩,⟨rfl,rfl,rfl,by simp,λk _ N=>setRow_other w g k _ (λe=>N (by rw[e];exact hV))⟩⟩
    ·simp only[cy,bd,bn,bO,bZ,strCells_length]
     omega
    ·have ht':cur.toList.take n=xs:=by simpa using j9
     have hl:(xs++strCells s).length=(n+s.size)*1:=by rw[bd,QF,strCells_length,cM]
     rw[List.toList_toArray,ht',<-hl,Bw]
     exact List.take_left
   ·refine grow (some (g,0)) cap hv ap ?_
    obtain⟨A',c',hv',rx,_,_⟩:=im.reads;refine run_firstCells_some (P:=P) w.drew i.size n (g,0) n cap xs (by rw[hs];exact im.1) λj u' hu'=>?_;have y_:0<n:=by
     rcases b_ n with h0|h0
     ·rw[bu (show xs.length=0 by omega)] at hu';simp at hu'
     ·exact h0
    obtain⟨Ze,e',_,XX⟩:=rx.2 y_;rw[hv] at hv';injection hv' with hv';rw[<-hv'] at e';injection e' with e';rw[e'];exact XX j u' hu'
def xb(abl:Elem P t e 1 1 (.int .u8 0))(hu:P.underlying u=some .string)(w:X){ops:Array dE}{rest:List dE}{o:dE}{a:dF}{abo:Exit->dF->X->Prop}(hw:bN o (yielded ops a.tmps)=true)(s x:Operand)
 (ho:o.op=.call { callee := .builtin .append,args:=#[s,x],argTypes:=#[t,u] })
 (v:K) (n:Nat) (xs:List K) (hs:a.eval s=v) (im:Own w V e 1 v n xs)
 (str:aR) (Y:a.eval x=aX str) (fw:n+str.size<=140737488355328)
 (h:∀v' O,Own O (iY V w O) e 1 v' (n+str.size) (xs++kz str.data.toList)->dM V w O->wpList P ops abo rest (a.put o.dst v') O):wpList P ops abo (o::rest) a w:=by obtain⟨v',O,eR,G,L⟩:=rR abl hu w o.type v n xs im str fw;unfold wpList;rw[aA hw];refine .inl ?_;unfold Oper.wp execOp;simp only[ho,resolve,invoke,builtin,Sem.run_bind,Sem.run_pure,Result.andThen_ok,cV,bQ,cQ,hs,Y,eR];exact h v' O G L
end
end Go.Hop
namespace Go.Hop
open RowKit Maps WideMaps
structure pV(P:dD)(t k e:dC)(qe:IntKind):Prop where
 und:P.underlying t=some (.map k e)
 key:P.underlying k=some .string
 elem:P.underlying e=some (.int qe)
 zero:∀w,(zeroValue e).run P w=.ok (.int qe 0) w
abbrev Kl(l:aR):Lit := .string l.data.toList
def FU{a b:aR}(h:Kl a=Kl b):a=b:=by injection h with h;exact ByteArray.ext (Array.toList_inj.1 h)
def Holds(qe:IntKind)(D:DataW Unit)(f:ByteArray->Option Int):Prop:=∀l:aR,l.size<=dG->has D (Kl l)=(f l).isSome∧D.atKey (Kl l) (.lit (.int qe 0))=.lit (.int qe ((f l).getD 0))
def SMap(P:dD)(k e:dC)(qe:IntKind)(w:X)(b n:Nat)(f:ByteArray->Option Int):Prop:=∃D:DataW Unit,w.ownsMap P k (plainElem P e) b n D∧Maps.size D=n∧Holds qe D f
section
variable{k:dC}{qe:IntKind}{w O:X}{b n:Nat}{f:ByteArray->Option Int}
def SMap.made(w:X):SMap P k e qe (w.alloc (.map #[] 0)) (w:Nat) 0 (λ_=>none):=⟨.map [],World.ownsMap_made w P k _,rfl,λ_ _=>⟨rfl,rfl⟩⟩
theorem SMap.lt(h:SMap P k e qe w b n f):b<(w:Nat):=by obtain⟨D,h,_⟩:=h;exact h.lt
def SMap.keep(h:SMap P k e qe w b n f)(N:O.heap[b]?=w.heap[b]?):SMap P k e qe O b n f:=by obtain⟨D,⟨es,clock,hb,r⟩,hf⟩:=h;exact⟨D,⟨es,clock,N.trans hb,r⟩,hf⟩
def SMap.grow(h:SMap P k e qe w b n f)(H:Grow w O):SMap P k e qe O b n f:=h.keep (H.block b h.lt)
def SMap.just(h:SMap P k e qe w b n f)(hj:dM V w O)(hv:¬ V b):SMap P k e qe O b n f:=h.keep (hj.block b h.lt hv)
def SMap.imp{f':ByteArray->Option Int}(h:SMap P k e qe w b n f)(hf:∀x:aR,x.size<=dG->f' x=f x):SMap P k e qe w b n f':=by obtain⟨D,I,G,L⟩:=h;exact⟨D,I,G,λx Y=>by rw[hf x Y];exact L x Y⟩
def D7{D:DataW Unit}{R:K->Option (DataW Unit×List MemPlace)}(h:w.ownsMap P k R b n D):w.ownsMap P k R b (Maps.size D) D:=by obtain⟨es,clock,hb,F,hs,rfl⟩:=h;exact⟨es,clock,hb,F,by simp[Maps.size,length_sorted],rfl⟩
def FV(abm:pV P t k e qe){l:aR}(hl:l.size<=dG):keyOf P k (aX l)=some (Kl l):=keyOf_string_mk abm.key hl
def SMap.look(abm:pV P t k e qe)(h:SMap P k e qe w b n f)(l:aR)(hl:l.size<=dG):(Instr.lookup t (.map (some b)) (aX l) true).run P w=.ok (a_ #[.int qe ((f l).getD 0),aY (f l).isSome]) w:=by
 obtain⟨D,ho,_,hf⟩:=h;have hw0:(Lit.int qe 0).wf=true:=by cases qe<;>decide
 obtain⟨v,ps,eR,T⟩:=ho.look_ok (string_keyed abm.key) abm.und (abm.zero w) (plainElem_int abm.elem hw0) (FV abm hl);rw[(hf l hl).1,(hf l hl).2] at *;obtain⟨a,rfl,hz,_⟩:=plainElem_int_inv abm.elem T;injection hz with hz;injection hz with hz;injection hz with _ hz;rw[eR,<-hz]
def SMap.II(abm:pV P t k e qe)(h:SMap P k e qe w b n f)(l:aR)(hl:l.size<=dG):(Instr.lookup t (.map (some b)) (aX l) false).run P w=.ok (.int qe ((f l).getD 0)) w:=by
 obtain⟨D,ho,_,hf⟩:=h;obtain⟨c,eR,hat,_⟩:=ho.lookup_int (string_keyed abm.key) abm.und abm.elem (abm.zero w) (FV abm hl);rw[(hf l hl).2] at hat
 injection hat with hz;injection hz with _ hz;rw[eR,hz]
def SMap.put(abm:pV P t k e qe)(h:SMap P k e qe w b n f)(l:aR)(v:Int)(hl:l.size<=dG)(hv:(Lit.int qe v).wf=true)(hn:n<dG):∃O,(Instr.mapUpdate t (.map (some b)) (aX l) (.int qe v)).run P w=.ok () O∧SMap P k e qe O b (if (f l).isSome then n else n+1) (λy=>if y=l then some v else f y)∧dM (λc=>c=b) w O:=by
 obtain⟨D,ho,hs,hf⟩:=h;obtain⟨O,eR,G,L⟩:=ho.update (string_keyed abm.key) abm.und hn (FV abm hl) (plainElem_int abm.elem hv);have iZ:=size_put (ho.tidy (string_keyed abm.key)) (k:=Kl l) (.lit (.int qe v));rw[(hf l hl).1,hs] at iZ;have G:=D7 G;rw[iZ] at G;refine⟨O,eR,⟨_,G,iZ,λy hy=>?_⟩,⟨L.os,L.tape,L.output,L.size,λi hi hb=>L.block i hi (λe=>hb (by injection e))⟩⟩;dsimp only;by_cases hyx:y=l
 ·subst hyx
  rw[aA rfl];exact⟨has_put_same ho.isMap (by exact trivial) _,atKey_put_same ho.isMap (by exact trivial) _ _⟩
 ·rw[aB hyx,has_put_other (λe=>hyx (FU e)),atKey_put_other (λe=>hyx (FU e))]
  exact hf y hy
theorem SMap.len(h:SMap P k e qe w b n f)(abm:pV P t k e qe)(ty:dC):(Builtin.len_ #[t] ty #[.map (some b)]).run P w=.ok (J n) w:=by obtain⟨D,ho,hs,_⟩:=h;rw[ho.len abm.und ty,hs]
def jb(P:dD)(k e:dC)(qe:IntKind)(w:X)(b r n:Nat)(f:ByteArray->Option Int)(left:ByteArray->Bool)(cnt:Nat):Prop:=∃(D:DataW Unit)(lf:Lit->Bool),w.ranges P k (plainElem P e) b r n D lf cnt∧Maps.size D=n∧Holds qe D f∧∀l:aR,lf (Kl l)=left l
def jb.keep(h:jb P k e qe w b r n f left cnt){row:Option Nat}(H:w.grownBy O row)(hb:some b≠row)(hr:some r≠row):jb P k e qe O b r n f left cnt:=by obtain⟨D,lf,I,G⟩:=h;exact⟨D,lf,I.kept H hb hr,G⟩
theorem jb.lt{r cnt:Nat}{left:ByteArray->Bool}(h:jb P k e qe w b r n f left cnt):r<(w:Nat):=by obtain⟨D,lf,I,_⟩:=h;exact I.lt
theorem jb.left_eq{r cnt:Nat}{left:ByteArray->Bool}(h:jb P k e qe w b r n f left cnt):w.rangeLeft b r=cnt:=by obtain⟨D,lf,I,_⟩:=h;exact I.left_eq
def jb.just(h:jb P k e qe w b r n f left cnt)(hj:dM V w O)(hb:¬ V b)(hr:¬ V r):jb P k e qe O b r n f left cnt:=by obtain⟨D,lf,I,G,L,h4⟩:=h;have uV:=I.owns.lt;have QH:=I.lt;refine⟨D,lf,?_,G,L,h4⟩;have eb:=hj.block b uV hb;have er:=hj.block r QH hr;obtain⟨es,clock,since,seen,c0,g1,g2,g3,g4,g5,g6⟩:=I;exact⟨es,clock,since,seen,c0,eb.trans g1,g2,g3,g4,er.trans g5,g6⟩
def jb.grow(h:jb P k e qe w b r n f left cnt)(H:Grow w O):jb P k e qe O b r n f left cnt:=h.just (V:=λ_=>False) (dM.dK H) (λh=>h) (λh=>h)
theorem SMap.range(abm:pV P t k e qe)(h:SMap P k e qe w b n f):∃O,(Instr.range t (.map (some b))).run P w=.ok ((((w:Nat),0):K)) O∧(∃left,jb P k e qe O b (w:Nat) n f left n∧∀l:aR,l.size<=dG->left l=(f l).isSome)∧Grow w O∧(O:Nat)=(w:Nat)+1:=by obtain⟨D,ho,hs,hf⟩:=h;obtain⟨O,eR,hr,H,iZ⟩:=ho.range (string_keyed abm.key) abm.und;rw[hs] at hr;exact⟨O,eR,⟨λl=>has D (Kl l),⟨D,_,hr,hs,hf,λ_=>rfl⟩,λl hl=>(hf l hl).1⟩,⟨H.os,H.tape,H.output,H.size,λi hi=>H.block i hi (by simp)⟩,iZ⟩
theorem jb.next(abm:pV P t k e qe){r cnt:Nat}{left:ByteArray->Bool}(h:jb P k e qe w b r n f left cnt)(ty:dC):(cnt=0∧(∀l,left l=false)∧(Instr.next ((r:K)) false ty).run P w=.ok (a_ #[aY false]) w)∨
 ∃(l:aR)(v:Int)(O:X)(cnt':Nat),l.size<=dG∧left l=true∧f l=some v∧(Lit.int qe v).wf=true∧(Instr.next ((r:K)) false ty).run P w=.ok (.tuple #[.bool true,Value.string l,.int qe v]) O∧
   jb P k e qe O b r n f (λz=>left z&&decide (z≠l)) cnt'∧cnt'<cnt∧dM (λc=>c=r) w O∧(Instr.entry ((r:K))).run P O=.ok (a_ #[Value.string l,.int qe v]) O:=by
 obtain⟨D,lf,I,G,L,h4⟩:=h
 rcases I.next (string_keyed abm.key) ty with ⟨h0,hl,eR⟩|⟨key,v,kl,y,O,cnt',a5V,Cv,hv,hat,eR,X_,fS,gP,iZ,hen⟩
 ·exact .inl ⟨h0,λl=>by rw[<-h4];exact hl _,eR⟩
 ·obtain⟨s,rfl,rfl,sA⟩:=string_of_keyOf abm.key a5V
  obtain⟨c,rfl,hz,hw⟩:=plainElem_int_inv abm.elem hv
  have hb:=(L _ sA).1
  rw[has_true_of_atKey hat] at hb
  have F5:=(L _ sA).2
  rw[hat] at F5
  obtain⟨v0,hv0⟩:=Option.isSome_iff_exists.1 hb.symm
  rw[hv0,hz] at F5
  injection F5 with F5
  injection F5 with _ F5
  simp only[Option.getD_some] at F5
  refine .inr ⟨s,c,O,cnt',sA,by rw[<-h4];exact Cv,by rw[hv0,F5],hw,eR,⟨D,_,X_,G,L,λz=>?_⟩,fS,⟨gP.os,gP.tape,gP.output,gP.size,λi hi hn=>gP.block i hi (λe=>hn (by injection e))⟩,hen⟩
  show (lf (Kl z)&&!(Kl z).sameKey (Kl s))=(left z&&decide (z≠s))
  rw[h4]
  congr 1
  by_cases hz:z=s
  ·subst hz
   rw[WideAt.sameKey_self (by exact trivial)]
   simp
  ·have:(Kl z).sameKey (Kl s)=false:=sameKey_ne (λe=>hz (FU e))
   rw[this]
   simp[hz]
end
end Go.Hop
