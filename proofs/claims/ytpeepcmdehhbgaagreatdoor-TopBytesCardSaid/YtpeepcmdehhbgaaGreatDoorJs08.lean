/- Gmap, Acc, Accb, Tab. -/
import Derived.Test.YtpeepcmdehhbgaaGreatDoorJs03
import Derived.Maps.Own
import Derived.Maps.OwnSet
import Derived.Laws.StructEq
set_option linter.all false
set_option maxRecDepth 100000
open Go.Value renaming int->ae,slice->Z,string->aX,bool->aY,agg->aZ,tuple->a_
open Go.Ending renaming returned->b5
open Go.IntKind renaming i64->af,u64->ah
open Go (J az aE aA aB aC aD ay aj am ap aw aL aK aJ aI aH aV aU aT aR aQ aP aO aN)
open List renaming length_append->bd,append_nil->bm,length_take->bn,map_append->bI,flatMap_cons->bJ,flatMap_append->bL,length_drop->bO,map_cons->bQ,nil_append->ch,flatMap_nil->cE,drop_of_length_le->cH,mem_cons->cI,map_nil->cQ,map_toArray->cV,mem_of_mem_eraseIdx->cY,take_append_drop->dt
open Nat renaming le_refl->bh,lt_of_lt_of_le->bw,le_trans->bB,zero_add->cJ
open Go.Region renaming wanted->bN
open Go.Builtin renaming append_->cn
open Option renaming map_some->df
open Go renaming Value->K,World->X,TypeId->dC,Program->dD,Oper->dE,Act->dF,maxLen->dG
variable{P:dD}{z v:K}{w O w1 w0:X}{t bytes j:Nat}{kt:dC}{V U:aV}
namespace Go.Hop
open RowKit
structure oo{κ:Type}[DecidableEq κ](P:dD)(kt:dC)(ke:κ->K):Prop where
 check:∀(w:X)(b:Bool)(k:κ),(Instr.checkKey b 10000 kt (ke k)).run P w=.ok () w
 find:∀(w:X)(k:κ)(es:List MapEntry)(i:Nat)(q:List κ),es.map (·.key)=q.map ke->∃r,(Instr.findKey kt (ke k) es).run P w=.ok r w∧((k ∉ q∧r=none)∨∃(j:Nat)(e:MapEntry),es[j]?=some e∧q[j]?=some k∧r=some (j,e.val))
 same:∀k,Instr.sameBits 10000 (ke k) (ke k)=true
def sP(es:Array MapEntry)(c:Nat):Prop:=(es.toList.map (·.born)).Nodup∧∀e∈es.toList,e.born<c
def sP.nil:sP #[] 0:=⟨by simp,by simp⟩
theorem sP.push{es:Array MapEntry}{c:Nat}(h:sP es c)(k v:K):sP (es.push { key:=k,val:=v,born:=c }) (c+1):=by
 refine⟨?_,λe he=>?_⟩
 ·rw[Array.toList_push,bI,List.nodup_append]
  refine⟨h.1,by simp,λa ha b hb=>?_⟩;simp only[bQ,cQ,List.mem_singleton] at hb;obtain⟨e,he,rfl⟩:=List.mem_map.1 ha;have:=h.2 e he;omega
 ·rw[Array.toList_push] at he
  rcases List.mem_append.1 he with he|he
  ·have:=h.2 e he;omega
  ·rw[List.mem_singleton] at he
   rw[he];exact Nat.lt_succ_self c
theorem sP.modify{es:Array MapEntry}{c:Nat}(h:sP es c)(j:Nat)(k v:K):sP (es.modify j λe=>{ e with key:=k,val:=v }) c:=by
 have e1:(es.modify j λe=>{ e with key:=k,val:=v }).toList.map (·.born)=es.toList.map (·.born):=by
  apply List.ext_getElem?;intro i;simp only[List.getElem?_map,Array.getElem?_toList,Array.getElem?_modify];by_cases wJ:j=i
  ·rw[aA wJ]
   cases es[i]?<;>rfl
  ·rw[aB wJ]
 refine⟨by rw[e1];exact h.1,λe he=>?_⟩;have I:e.born∈(es.modify j λe=>{ e with key:=k,val:=v }).toList.map (·.born):=List.mem_map.2 ⟨e,he,rfl⟩;rw[e1] at I;obtain⟨e',he',G⟩:=List.mem_map.1 I;rw[<-G];exact h.2 e' he'
def sP.erase{es:Array MapEntry}{c:Nat}(h:sP es c)(hj:j<es.size):sP (es.eraseIdx j hj) c:=by
 refine⟨?_,λe he=>?_⟩
 ·rw[Array.toList_eraseIdx]
  exact h.1.sublist ((List.eraseIdx_sublist _ j).map _)
 ·rw[Array.toList_eraseIdx] at he
  exact h.2 e (cY he)
def eI{κ:Type}(ke:κ->K)(b:Nat)(q:List (κ×K)):dW:=λw V=>
 V b∧(q.map Prod.fst).Nodup∧∃(es:Array MapEntry)(clock:Nat),w.heap[b]?=some (.map es clock)∧es.toList.map (λe=>(e.key,e.val))=(q.map λp=>(ke p.1,p.2))∧sP es clock
section
variable{κ:Type}[DecidableEq κ]{t et:dC}{ke:κ->K}{b:Nat}{q:List (κ×K)}{V':aV}
def uk(q:List (κ×K))(k:κ):Option K:=(q.find? λp=>decide (p.1=k)).map (·.2)
def l9(q:List (κ×K))(k:κ)(v:K):List (κ×K):=if k∈q.map Prod.fst then q.map (λp=>if p.1=k then (k,v) else p) else q++[(k,v)]
def lD(q:List (κ×K))(k:κ):List (κ×K):=q.filter λp=>decide (p.1≠k)
def eI.framed(b:Nat)(q:List (κ×K)):eu (eI ke b q):=λw O V ⟨I,G,es,c,L,h4⟩ N=>⟨I,G,es,c,(N b I).trans L,h4⟩
def eI.wide(h:eI ke b q w V)(hV:∀b,V b->V' b):eI ke b q w V':=⟨hV b h.1,h.2⟩
def eI.made(w:X):eI (κ:=κ) ke (w:Nat) [] (w.alloc (.map #[] 0)) (λb=>b=(w:Nat)):=⟨rfl,by simp,#[],0,heap_alloc_new w _,rfl,sP.nil⟩
theorem mE{α:Type}:∀{l:List α},l.Nodup->∀{i j:Nat}{a:α},l[i]?=some a->l[j]?=some a->i=j
 | [],_,i,j,a,hi,_=>by simp at hi
 | x::l,hn,0,0,a,_,_=>rfl
 | x::l,hn,0,j+1,a,hi,hj=>by
   simp at hi;subst hi;exact absurd (List.mem_of_getElem? (by simpa using hj)) (List.nodup_cons.1 hn).1
 | x::l,hn,i+1,0,a,hi,hj=>by
   simp at hj;subst hj;exact absurd (List.mem_of_getElem? (by simpa using hi)) (List.nodup_cons.1 hn).1
 | x::l,hn,i+1,j+1,a,hi,hj=>congrArg (·+1) (mE (List.nodup_cons.1 hn).2 (i:=i) (j:=j) (a:=a) (by simpa using hi) (by simpa using hj))
theorem mF{α β:Type}(f:α->β):∀(l:List α)(i:Nat),(l.eraseIdx i).map f=(l.map f).eraseIdx i
 | [],_=>rfl
 | _::_,0=>rfl
 | x::l,i+1=>by simp[mF f l i]
theorem G3{k:κ}{v:K}:∀{q:List (κ×K)}{j:Nat},(q.map Prod.fst).Nodup->q[j]?=some (k,v)->uk q k=some v
 | [],j,_,h=>by simp at h
 | p::q,0,_,h=>by simp at h;subst h;simp[uk]
 | p::q,j+1,hn,h=>by
   simp only[bQ,List.nodup_cons] at hn;have hq:q[j]?=some (k,v):=by simpa using h
   have jT:p.1≠k:=λe=>hn.1 (by rw[e];exact List.mem_map.2 ⟨_,List.mem_of_getElem? hq,rfl⟩);have ih:=G3 hn.2 hq;unfold uk at ih ⊢;rw[List.find?_cons_of_neg (by simpa using jT)];exact ih
theorem xn{k:κ}:∀{q:List (κ×K)},k ∉ q.map Prod.fst->uk q k=none
 | [],_=>rfl
 | p::q,h=>by
   simp only[bQ,cI,not_or] at h;have ih:=xn h.2;unfold uk at ih ⊢;rw[List.find?_cons_of_neg (by simpa using λe=>h.1 e.symm)];exact ih
def oY{es:List MapEntry}(h:es.map (λe=>(e.key,e.val))=q.map λp=>(ke p.1,p.2)):es.map (·.key)=(q.map Prod.fst).map ke:=by have:=congrArg (List.map Prod.fst) h;simpa [List.map_map,Function.comp_def] using this
theorem sQ{es:List MapEntry}(h:es.map (λe=>(e.key,e.val))=q.map λp=>(ke p.1,p.2)){e:MapEntry}{k:κ}(he:es[j]?=some e)(N:(q.map Prod.fst)[j]?=some k):q[j]?=some (k,e.val):=by
 have I:=congrArg (λl=>l[j]?) h;simp only[List.getElem?_map,he,df] at I;rw[List.getElem?_map] at N;cases hq:q[j]? with
 | none=>rw[hq] at N;cases N
 | some p=>
   rw[hq] at N I;injection N with N;injection I with I;injection I with _ G;rw[G,<-N]
def eI.look(abk:oo P kt ke)(ht:P.underlying t=some (.map kt et))(hz:(zeroValue et).run P w=.ok z w)(h:eI ke b q w V)(k:κ)(c:Bool):(Instr.lookup t (.map (some b)) (ke k) c).run P w=.ok (if c then a_ #[(uk q k).getD z,aY (uk q k).isSome] else (uk q k).getD z) w:=by
 obtain⟨_,hn,es,cl,hb,he,_⟩:=h;obtain⟨r,hr,nh⟩:=abk.find w k es.toList 0 (q.map Prod.fst) (oY he);have H:(getObj b).run P w=.ok (.map es cl) w:=MapKept.run_getObj_map hb;rcases nh with ⟨I,rfl⟩|⟨j,e,I,G,rfl⟩
 ·rw[xn I]
  cases c<;>simp[Instr.lookup,run_underlying ht,H,abk.check w _ k,hr,hz,Result.andThen]
 ·rw[G3 hn (sQ he I G)]
  cases c<;>simp[Instr.lookup,run_underlying ht,H,abk.check w _ k,hr,Result.andThen]
def heap_set(w:X)(b:Nat)(o:Obj)(hb:b<(w:Nat)):({ w with heap:=w.heap.setIfInBounds b o }:X).heap[b]?=some o:=by simp[Array.getElem?_setIfInBounds,hb]
def pW(w:X)(b:Nat)(o:Obj):dM (λc=>c=b) w { w with heap:=w.heap.setIfInBounds b o }:=⟨rfl,rfl,rfl,by simp,λi _ jT=>by simp only[Array.getElem?_setIfInBounds];rw[aB (λe=>jT e.symm)]⟩
def eI.put(abk:oo P kt ke)(ht:P.underlying t=some (.map kt et))(h:eI ke b q w V)(k:κ)(v:K):∃O,(Instr.mapUpdate t (.map (some b)) (ke k) v).run P w=.ok () O∧eI ke b (l9 q k v) O V∧dM (λc=>c=b) w O:=by
 obtain⟨hv,hn,es,cl,hb,he,z7⟩:=h;obtain⟨r,hr,nh⟩:=abk.find w k es.toList 0 (q.map Prod.fst) (oY he);have fS:b<(w:Nat):=(Array.getElem?_eq_some_iff.1 hb).1;have H:(getObj b).run P w=.ok (.map es cl) w:=MapKept.run_getObj_map hb;rcases nh with ⟨I,rfl⟩|⟨j,e,I,G,rfl⟩
 ·refine⟨_,?_,⟨hv,?_,_,_,heap_set w b (.map (es.push { key:=ke k,val:=v,born:=cl }) (cl+1)) fS,?_,z7.push _ _⟩,pW w b _⟩
  ·simp[Instr.mapUpdate,run_underlying ht,H,abk.check w _ k,hr,Result.andThen,MapKept.run_setObj_map _ hb]
  ·unfold l9
   rw[aB I,bI,List.nodup_append];refine⟨hn,by simp,?_⟩;intro a ha c E;simp at E;subst E;exact λe=>I (by rw[<-e];exact ha)
  ·unfold l9
   rw[aB I,Array.toList_push,bI,he,bI];rfl
 ·have m9:k∈q.map Prod.fst:=List.mem_of_getElem? G
  have hq:=sQ he I G;have hek:e.key=ke k:=by have L:=congrArg (λl=>l[j]?) he;simp only[List.getElem?_map,I,hq,df] at L;injection L with L;injection L with L
  have CP:es[j]?=some e:=by simpa using I
  refine⟨_,?_,⟨hv,?_,_,_,heap_set w b (.map (es.modify j λe=>{ e with key:=ke k,val:=v }) cl) fS,?_,z7.modify j _ _⟩,pW w b _⟩;·simp[Instr.mapUpdate,run_underlying ht,H,abk.check w _ k,hr,Result.andThen,MapKept.run_setObj_map _ hb,Instr.keyThatStays,CP,hek,abk.same k]
  ·unfold l9
   rw[aA m9,List.map_map];have:(Prod.fst ∘ λp:κ×K=>if p.1=k then (k,v) else p)=Prod.fst:=by
    funext p;simp only[Function.comp];split;·rename_i hp;exact hp.symm
    ·rfl
   rw[this];exact hn
  ·unfold l9
   rw[aA m9];apply List.ext_getElem?;intro i;have L:=congrArg (λl=>l[i]?) he;simp only[List.getElem?_map,Array.getElem?_toList,Array.getElem?_modify] at L ⊢;by_cases wJ:j=i
   ·subst wJ
    rw[aA rfl,CP,hq];simp
   ·rw[aB wJ]
    cases Qh:q[i]? with
    | none=>rw[Qh] at L;simpa using L
    | some p=>
      have jT:p.1≠k:=λe=>wJ (by
       have e1:(q.map Prod.fst)[i]?=some k:=by rw[List.getElem?_map,Qh,<-e];rfl
       exact mE hn G e1)
      rw[Qh] at L;simp only[df,aB jT];simpa using L
def Nk{k:κ}(v:K)(h:k ∉ q.map Prod.fst):l9 q k v=q++[(k,v)]:=aB h
def eI.just(h:eI ke b q w V)(hj:dM U w O)(hU:¬ U b):eI ke b q O V:=by obtain⟨I,G,es,c,L,h4⟩:=h;exact⟨I,G,es,c,(hj.block b (Array.getElem?_eq_some_iff.1 L).1 hU).trans L,h4⟩
def eI.del(abk:oo P kt ke)(ht:P.underlying t=some (.map kt et))(h:eI ke b q w V)(k:κ)(ty:dC):∃O,(Builtin.delete_ #[t,kt] ty #[.map (some b),ke k]).run P w=.ok (a_ #[]) O∧eI ke b (lD q k) O V∧dM (λc=>c=b) w O:=by
 obtain⟨hv,hn,es,cl,hb,he,z7⟩:=h;obtain⟨r,hr,nh⟩:=abk.find w k es.toList 0 (q.map Prod.fst) (oY he);have fS:b<(w:Nat):=(Array.getElem?_eq_some_iff.1 hb).1;have H:(getObj b).run P w=.ok (.map es cl) w:=MapKept.run_getObj_map hb;rcases nh with ⟨I,rfl⟩|⟨j,e,I,G,rfl⟩
 ·have hq:lD q k=q:=by
   unfold lD;rw[List.filter_eq_self];intro p hp;simp only[ne_eq,decide_not,Bool.not_eq_eq_eq_not,Bool.not_true,decide_eq_false_iff_not];exact λe=>I (by rw[<-e];exact List.mem_map.2 ⟨p,hp,rfl⟩)
  rw[hq]
  refine⟨_,?_,⟨hv,hn,_,_,heap_set w b (.map es cl) fS,he,z7⟩,pW w b _⟩
  simp[Builtin.delete_,run_underlying ht,H,abk.check w _ k,hr,Result.andThen,MapKept.run_setObj_map _ hb]
 ·have hq:=sQ he I G
  have TW:=(List.getElem?_eq_some_iff.1 hq).1;have zQ:j<es.size:=by simpa using (List.getElem?_eq_some_iff.1 I).1
  have TX:lD q k=q.eraseIdx j:=by
   unfold lD;have Y1:q=q.take j++(k,e.val)::q.drop (j+1):=by have h6:=List.getElem_cons_drop TW;rw[show q[j]=(k,e.val) from (List.getElem?_eq_some_iff.1 hq).2] at h6;rw[h6,dt]
   have jT:∀i p,q[i]?=some p->i≠j->p.1≠k:=λi p hp wJ e6=>by
    have e1:(q.map Prod.fst)[i]?=some k:=by rw[List.getElem?_map,hp,<-e6];rfl
    exact wJ (mE hn G e1).symm
   rw[List.eraseIdx_eq_take_drop_succ];conv=>lhs;rw[Y1]
   rw[List.filter_append,List.filter_cons_of_neg (by simp)];congr 1
   ·rw[List.filter_eq_self]
    intro p hp;obtain⟨i,hi,rfl⟩:=List.getElem_of_mem hp;have tR:=hi;rw[bn] at tR;rw[List.getElem_take];simpa using jT i _ (List.getElem?_eq_getElem ap) ap
   ·rw[List.filter_eq_self]
    intro p hp;obtain⟨i,hi,rfl⟩:=List.getElem_of_mem hp;have tR:=hi;rw[bO] at tR;rw[List.getElem_drop];simpa using jT (j+1+i) _ (List.getElem?_eq_getElem ap) ap
  refine⟨_,?_,⟨hv,?_,_,_,heap_set w b (.map (es.eraseIdxIfInBounds j) cl) fS,?_,by rw[Array.eraseIdxIfInBounds,dif_pos zQ];exact z7.erase zQ⟩,pW w b _⟩;·simp[Builtin.delete_,run_underlying ht,H,abk.check w _ k,hr,Result.andThen,MapKept.run_setObj_map _ hb]
  ·rw[TX]
   exact hn.sublist ((List.eraseIdx_sublist q j).map Prod.fst)
  ·rw[TX,Array.eraseIdxIfInBounds,dif_pos zQ]
   simp only[Array.toList_eraseIdx];rw[mF,mF,he]
end
section
def zR{qk:IntKind}(N:P.underlying kt=some (.int qk)):oo (κ:=Int) P kt (λx => .int qk x) where
 check w b k:=by
  have main:∀n,(Instr.checkKey b (n+1) kt (.int qk k)).run P w=.ok () w:=λn=>by simp[Instr.checkKey,run_underlying N]
  exact main 9999
 find w k es i q h:=by
  have main:∀(es:List MapEntry)(q:aN)(i:Nat),es.map (·.key)=q.map (λx=>Value.int qk x)->(k ∉ q∧Instr.findNow (.int qk) (.int qk k) es i=some none)∨∃(j:Nat)(e:MapEntry),es[j]?=some e∧q[j]?=some k∧Instr.findNow (.int qk) (.int qk k) es i=some (some (i+j,e.val)):=by
   intro es;induction es with
   | nil=>
     intro q i h;cases q with
     | nil=>exact .inl ⟨by simp,rfl⟩
     | cons=>simp at h
   | cons e es ih=>
     intro q i h;cases q with
     | nil=>simp at h
     | cons x q=>
       simp only[bQ,List.cons.injEq] at h;obtain⟨I,G⟩:=h;by_cases Y:k=x
       ·subst Y
        exact .inr ⟨0,e,rfl,rfl,by simp[Instr.findNow,I,Instr.sameNow]⟩
       ·have hf:Instr.findNow (.int qk) (.int qk k) (e::es) i=Instr.findNow (.int qk) (.int qk k) es (i+1):=by
         have hkx:(k == x)=false:=by simpa using Y
         simp[Instr.findNow,I,Instr.sameNow,hkx]
        rcases ih q (i+1) G with ⟨L,h4⟩|⟨j,e',L,h4,h5⟩
        ·exact .inl ⟨by simp[Y,L],by rw[hf,h4]⟩
        ·exact .inr ⟨j+1,e',by simpa using L,by simpa using h4,by rw[hf,h5];simp;omega⟩
  rcases main es q 0 h with ⟨I,G⟩|⟨j,e,I,G,L⟩
  ·exact⟨none,by simp[Instr.findKey,run_underlying N,G],.inl ⟨I,rfl⟩⟩
  ·exact⟨some (j,e.val),by simp[Instr.findKey,run_underlying N,L],.inr ⟨j,e,I,G,rfl⟩⟩
 same k:=by simp[Instr.sameBits]
def sR{κ:Type}[DecidableEq κ]{ke:κ->K}{fs:Array Field}(N:P.underlying kt=some (.struct fs))(E:∀(w:X)(b:Bool)(k:κ),(Instr.checkKey b 10000 kt (ke k)).run P w=.ok () w)
 (he:∀(w:X)(a b:κ),(Op.equal kt (ke a) (ke b)).run P w=.ok (decide (a=b)) w) (hs:∀k,Instr.sameBits 10000 (ke k) (ke k)=true):oo P kt ke where
 check:=E
 same:=hs
 find w k es i q h:=by
  have main:∀(es:List MapEntry)(q:List κ)(i:Nat),es.map (·.key)=q.map ke->∃r,(Instr.findAsking kt (ke k) es i).run P w=.ok r w∧((k ∉ q∧r=none)∨∃(j:Nat)(e:MapEntry),es[j]?=some e∧q[j]?=some k∧r=some (i+j,e.val)):=by
   intro es;induction es with
   | nil=>
     intro q i h;cases q with
     | nil=>exact⟨none,by simp[Instr.findAsking],.inl ⟨by simp,rfl⟩⟩
     | cons=>simp at h
   | cons e es ih=>
     intro q i h;cases q with
     | nil=>simp at h
     | cons x q=>
       simp only[bQ,List.cons.injEq] at h;obtain⟨I,G⟩:=h;by_cases Y:k=x
       ·subst Y
        exact⟨some (i,e.val),by simp[Instr.findAsking,I,he],.inr ⟨0,e,rfl,rfl,rfl⟩⟩
       ·obtain⟨r,hr,nh⟩:=ih q (i+1) G
        refine⟨r,by simp[Instr.findAsking,I,he,Y,hr],?_⟩;rcases nh with ⟨L,h4⟩|⟨j,e',L,h4,h5⟩
        ·exact .inl ⟨by simp[Y,L],h4⟩
        ·exact .inr ⟨j+1,e',by simpa using L,by simpa using h4,by rw[h5];simp;omega⟩
  obtain⟨r,hr,nh⟩:=main es q 0 h;refine⟨r,?_,by simpa using nh⟩;cases es with
  | nil=>simpa [Instr.findKey,run_underlying N,Instr.findNow,Instr.findAsking] using hr
  | cons e es=>simp[Instr.findKey,run_underlying N,Instr.findNow,Instr.sameNow,hr]
end
section
variable{α:Type}(e size:Nat)(cells:α->List K)(good:X->(Nat->Prop)->α->Prop)
def iz:Prop:=∀(w:X)(D D':aV)(a:α),good w D a->(∀b,D b->D' b)->good w D' a
def Acc(w0:X)(v:K)(q:List α)(w:X):Prop:=∃R D:aV,Own w R e size v q.length (q.flatMap cells)∧(∀b∈q,good w D b)∧(∀b,R b->New w0 w b∧¬ D b)∧(∀b,D b->New w0 w b)∧Grow w0 w
variable{e size cells good}{q:List α}
theorem Acc.nil(w0:X):Acc e size cells good w0 (Z none 0 0) [] w0:=⟨λ_=>False,λ_=>False,Own.nil,by simp,λ_ h=>h.elim,λ_ h=>h.elim,Grow.refl _⟩
def Acc.base(h:Acc e size cells good w0 v q w):Grow w0 w:=by obtain⟨_,_,_,_,_,_,h⟩:=h;exact h
def Acc.grow(hG:jr good)(h:Acc e size cells good w0 v q w)(H:Grow w O):Acc e size cells good w0 v q O:=by obtain⟨R,D,I,G,L,h4,h5⟩:=h;have hs:=H.size;exact⟨R,D,I.grows H,λb hb=>hG _ _ _ _ _ (G b hb) (dM.dK (V:=λ_=>False) H) (λ_ _ h=>h),λb hb=>⟨⟨(L b hb).1.1,bw (L b hb).1.2 hs⟩,(L b hb).2⟩,λb hb=>⟨(h4 b hb).1,bw (h4 b hb).2 hs⟩,h5.trans H⟩
def Acc.slice(h:Acc e size cells good w0 v q w):∃A c,v=Z A q.length c:=by obtain⟨R,D,I,_⟩:=h;obtain⟨A,c,I,_⟩:=I.reads;exact⟨A,c,I⟩
def Acc.done(hM:iz good)(h:Acc e size cells good w0 v q w):∃A c,v=Z A q.length c∧In w (New w0 w) size A q.length (q.flatMap cells)∧(∀b∈q,good w (New w0 w) b)∧q.length<=c∧c<=dG∧Grow w0 w:=by obtain⟨R,D,I,G,L,h4,h5⟩:=h;obtain⟨A,c,rfl,h6,h7,h8⟩:=I.jL;exact⟨A,c,rfl,h6.mono λb hb=>(L b hb).1,λb hb=>hM _ _ _ _ (G b hb) h4,h7,h8,h5⟩
def Rq(abl:Elem P t e size bytes z)(hG:jr good)(hM:iz good)(hl:∀a,(cells a).length=size)(m_:∀a,∀u∈cells a,u.oneCell'=true)
 (h:Acc e size cells good w0 v q w) (H:Grow w w1) {b:α} (hb:good w1 (New w w1) b) (fw:(q.length+1)*bytes<=140737488355328) (ty:dC) (c:Nat):∃v' O,(cn #[t,t] ty #[v,Z (some ⟨(w1:Nat),0,none⟩) 1 c]).run P (w1.alloc (.cells (cells b).toArray e))=.ok v' O∧Acc e size cells good w0 v' (q++[b]) O:=by
 obtain⟨R,D,I,G,L,h4,h5⟩:=h;have fk:Grow w1 (w1.alloc (.cells (cells b).toArray e)):=(Below.refl _ w1).alloc (bh _) _;have fu:=H.trans fk;have rx:Reads (w1.alloc (.cells (cells b).toArray e)) ((w1:Nat)+1) size (some ⟨(w1:Nat),0,none⟩) 1 (cells b):=by have:=fF w1 (cells b).toArray e (0,0) (n:=1) (size:=size) (by simp[hl]) _ rfl;simpa using this
 obtain⟨v',O,eR,hO,hj⟩:=jq abl _ ty v q.length (q.flatMap cells) (I.grows fu) _ _ 1 c (cells b) rx (m_ b) fw;have s1:=H.size;have s2:(w1.alloc (.cells (cells b).toArray e)).heap.size=(w1:Nat)+1:=fp _ _;have s3:=hj.size;have s0:=h5.size;rw[s2] at s3;have l6:∀x,R x->x<(w:Nat):=λx Y=>(L x Y).1.2;refine⟨v',O,eR,iY R (w1.alloc (.cells (cells b).toArray e)) O,λx=>D x∨New w w1 x,?_,λa ha=>?_,λx Y=>?_,λx Y=>?_,?_⟩
 ·rw[bL,bJ,cE,bm,bd]
  exact hO
 ·rcases List.mem_append.1 ha with ha|ha
  ·exact hM _ D _ _ (hG _ _ _ R _ (hG _ _ _ _ _ (G a ha) (dM.dK (V:=λ_=>False) fu) (λ_ _ h=>h)) hj λx Y hr=>(L x hr).2 Y) λ_ => .inl
  ·rw[List.mem_singleton.1 ha]
   exact hM _ (New w w1) _ _ (hG _ _ _ R _ (hG _ _ _ _ _ hb (dM.dK (V:=λ_=>False) fk) (λ_ _ h=>h)) hj λx Y hr=>by have:=Y.1;have:=l6 x hr;omega) λ_ => .inr
 ·rcases Y with Y|⟨rI,lw⟩
  ·refine⟨⟨(L x Y).1.1,by have:=l6 x Y;omega⟩,λhd=>?_⟩
   rcases hd with hd|hd
   ·exact (L x Y).2 hd
   ·have:=hd.1;have:=l6 x Y;omega
  ·rw[s2] at rI
   refine⟨⟨by omega,lw⟩,λhd=>?_⟩;rcases hd with hd|hd
   ·have:=(h4 x hd).2;omega
   ·have:=hd.2;omega
 ·rcases Y with Y|Y
  ·exact⟨(h4 x Y).1,by have:=(h4 x Y).2;omega⟩
  ·exact⟨by have:=Y.1;omega,by have:=Y.2;omega⟩
 ·exact Below.trans (h5.trans fu) (hj.below (B:=(w0:Nat)) (λx Y=>(L x Y).1.1) ap)
def G4(abl:Elem P t e size bytes z)(hG:jr good)(hM:iz good)(hl:∀a,(cells a).length=size)(m_:∀a,∀u∈cells a,u.oneCell'=true)
 {ops:Array dE} {rest:List dE} {o:dE} {a:dF} {abo:Exit->dF->X->Prop} (hw:bN o (yielded ops a.tmps)=true) (s x:Operand)
 (ho:o.op=.call { callee := .builtin .append,args:=#[s,x],argTypes:=#[t,t] })
 (h:Acc e size cells good w0 v q w) (H:Grow w w1) (b:α) (hb:good w1 (New w w1) b) (fw:(q.length+1)*bytes<=140737488355328)
 (hs:a.eval s=v) {c:Nat} (Y:a.eval x=Z (some ⟨(w1:Nat),0,none⟩) 1 c)
 (k:∀v' O,Acc e size cells good w0 v' (q++[b]) O->wpList P ops abo rest (a.put o.dst v') O):wpList P ops abo (o::rest) a (w1.alloc (.cells (cells b).toArray e)):=by obtain⟨v',O,eR,hA⟩:=Rq abl hG hM hl m_ h H hb fw o.type c;unfold wpList;rw[aA hw];refine .inl ?_;unfold Oper.wp execOp;simp only[ho,resolve,invoke,builtin,Sem.run_bind,Sem.run_pure,Result.andThen_ok,cV,bQ,cQ,hs,Y,eR];exact k v' O hA
end
def eJ.all{g:Nat}{t:dC}{cs:aP}(h:eJ w g t cs)(vs:List K)(hl:vs.length=cs.size):eJ (w.setCells g 0 vs) g t vs.toArray:=by
 obtain⟨cur,I,G,L⟩:=iC g t (0,0) vs 0 w cs h ap;have h4:cur=vs.toArray:=by apply Array.ext';rw[L,List.take_zero,ch,cJ,cH (by simp;omega),bm]
 rw[h4] at I;exact I
def oq{α:Type}:jr (λ(_:X)(_:aV)(_:α)=>True):=λ_ _ _ _ _ _ _ _=>trivial
def ul{α:Type}:iz (λ(_:X)(_:aV)(_:α)=>True):=λ_ _ _ _ _ _=>trivial
section
variable{α:Type}(e size:Nat)(cells:α->List K)(good:X->(Nat->Prop)->α->Prop)
def ot(B:Nat)(v:K)(q:List α)(w:X):Prop:=∃R D:aV,Own w R e size v q.length (q.flatMap cells)∧(∀b∈q,good w D b)∧(∀b,R b->(B<=b∧b<(w:Nat))∧¬ D b)∧(∀b,D b->B<=b∧b<(w:Nat))∧B<=(w:Nat)
variable{e size cells good}{B:Nat}{q:List α}
theorem ot.nil(h:B<=(w:Nat)):ot e size cells good B (Z none 0 0) [] w:=⟨λ_=>False,λ_=>False,Own.nil,by simp,λ_ h=>h.elim,λ_ h=>h.elim,h⟩
def ot.just(hG:jr good)(h:ot e size cells good B v q w)(hj:dM U w O)(hU:∀b,U b->b<B∨(w:Nat)<=b):ot e size cells good B v q O:=by
 obtain⟨R,D,I,G,L,h4,h5⟩:=h;have hs:=hj.size;refine⟨R,D,I.keep λb hb=>hj.block b (L b hb).1.2 λhu=>?_,λb hb=>hG _ _ _ _ _ (G b hb) hj λx Y hu=>?_,λb hb=>⟨⟨(L b hb).1.1,bw (L b hb).1.2 hs⟩,(L b hb).2⟩,λb hb=>⟨(h4 b hb).1,bw (h4 b hb).2 hs⟩,bB h5 hs⟩;·have:=(L b hb).1;have:=hU b hu;omega
 ·have:=h4 x Y;have:=hU x hu;omega
def ot.grow(hG:jr good)(h:ot e size cells good B v q w)(H:Grow w O):ot e size cells good B v q O:=h.just hG (U:=λ_=>False) (dM.dK H) λ_ h=>h.elim
def ot.slice(h:ot e size cells good B v q w):∃A c,v=Z A q.length c:=by obtain⟨R,D,I,_⟩:=h;obtain⟨A,c,I,_⟩:=I.reads;exact⟨A,c,I⟩
def ot.done(hM:iz good)(h:ot e size cells good B v q w):∃A c,v=Z A q.length c∧In w (λb=>B<=b∧b<(w:Nat)) size A q.length (q.flatMap cells)∧(∀b∈q,good w (λb=>B<=b∧b<(w:Nat)) b)∧q.length<=c∧c<=dG:=by obtain⟨R,D,I,G,L,h4,h5⟩:=h;obtain⟨A,c,rfl,h6,h7,h8⟩:=I.jL;exact⟨A,c,rfl,h6.mono λb hb=>(L b hb).1,λb hb=>hM _ _ _ _ (G b hb) h4,h7,h8⟩
def Nl(abl:Elem P t e size bytes z)(hG:jr good)(hM:iz good)(hl:∀a,(cells a).length=size)(m_:∀a,∀u∈cells a,u.oneCell'=true)
 (h:ot e size cells good B v q w1) {b:α} {F:aV} (hb:good w1 F b) (hF:∀x,F x->B<=x∧x<(w1:Nat)) (hdis:∀R D:aV,Own w1 R e size v q.length (q.flatMap cells)->True) (qX:∀x,F x->∀A c g,v=Z (some ⟨g,A,none⟩) q.length c->x≠g) (fw:(q.length+1)*bytes<=140737488355328) (ty:dC) (c:Nat):∃v' O,(cn #[t,t] ty #[v,Z (some ⟨(w1:Nat),0,none⟩) 1 c]).run P (w1.alloc (.cells (cells b).toArray e))=.ok v' O∧ot e size cells good B v' (q++[b]) O∧dM (λx=>B<=x) w1 O:=by
 obtain⟨R0,D,I,G,L,h4,h5⟩:=h;obtain⟨R,I,hR0,hRF⟩:∃R:aV,Own w1 R e size v q.length (q.flatMap cells)∧(∀x,R x->R0 x)∧∀x,R x->¬ F x:=by
  obtain⟨ha,lA|⟨g,cap,cur,hv,hV,r⟩⟩:=I;·exact⟨λ_=>False,⟨ha,.inl lA⟩,λ_ h=>h.elim,λ_ h=>h.elim⟩
  ·exact⟨λx=>x=g,⟨ha,.inr ⟨g,cap,cur,hv,rfl,r⟩⟩,λx Y=>Y▸hV,λx Y hf=>qX x hf 0 cap g hv Y⟩
 have L:∀x,R x->(B<=x∧x<(w1:Nat))∧¬ D x:=λx Y=>L x (hR0 x Y);have fk:Grow w1 (w1.alloc (.cells (cells b).toArray e)):=(Below.refl _ w1).alloc (bh _) _;have rx:Reads (w1.alloc (.cells (cells b).toArray e)) ((w1:Nat)+1) size (some ⟨(w1:Nat),0,none⟩) 1 (cells b):=by have:=fF w1 (cells b).toArray e (0,0) (n:=1) (size:=size) (by simp[hl]) _ rfl;simpa using this
 obtain⟨v',O,eR,hO,hj⟩:=jq abl _ ty v q.length (q.flatMap cells) (I.grows fk) _ _ 1 c (cells b) rx (m_ b) fw;have s2:(w1.alloc (.cells (cells b).toArray e)).heap.size=(w1:Nat)+1:=fp _ _;have s3:=hj.size;rw[s2] at s3;have l6:∀x,R x->x<(w1:Nat):=λx Y=>(L x Y).1.2;refine⟨v',O,eR,⟨iY R (w1.alloc (.cells (cells b).toArray e)) O,λx=>D x∨F x,?_,λa ha=>?_,λx Y=>?_,λx Y=>?_,by omega⟩,(dM.dK fk).trans (hj.imp λx Y=>(L x Y).1.1)⟩
 ·rw[bL,bJ,cE,bm,bd]
  exact hO
 ·rcases List.mem_append.1 ha with ha|ha
  ·exact hM _ D _ _ (hG _ _ _ R _ (hG _ _ _ _ _ (G a ha) (dM.dK (V:=λ_=>False) fk) (λ_ _ h=>h)) hj λx Y hr=>(L x hr).2 Y) λ_ => .inl
  ·rw[List.mem_singleton.1 ha]
   exact hM _ F _ _ (hG _ _ _ R _ (hG _ _ _ _ _ hb (dM.dK (V:=λ_=>False) fk) (λ_ _ h=>h)) hj λx Y hr=>hRF x hr Y) λ_ => .inr
 ·rcases Y with Y|⟨rI,lw⟩
  ·refine⟨⟨(L x Y).1.1,by have:=l6 x Y;omega⟩,λhd=>?_⟩
   rcases hd with hd|hd
   ·exact (L x Y).2 hd
   ·exact hRF x Y hd
  ·rw[s2] at rI
   refine⟨⟨by omega,lw⟩,λhd=>?_⟩;rcases hd with hd|hd
   ·have:=(h4 x hd).2;omega
   ·have:=(hF x hd).2;omega
 ·rcases Y with Y|Y
  ·exact⟨(h4 x Y).1,by have:=(h4 x Y).2;omega⟩
  ·exact⟨(hF x Y).1,by have:=(hF x Y).2;omega⟩
def u_(abl:Elem P t e size bytes z)(hl:∀a,(cells a).length=size)(m_:∀a,∀u∈cells a,u.oneCell'=true)
 {ops:Array dE} {rest:List dE} {o:dE} {a:dF} {abo:Exit->dF->X->Prop} (hw:bN o (yielded ops a.tmps)=true) (s x:Operand)
 (ho:o.op=.call { callee := .builtin .append,args:=#[s,x],argTypes:=#[t,t] })
 (h:ot e size cells (λ_ _ _=>True) B v q w1) (b:α) (fw:(q.length+1)*bytes<=140737488355328)
 (hs:a.eval s=v) {c:Nat} (Y:a.eval x=Z (some ⟨(w1:Nat),0,none⟩) 1 c)
 (k:∀v' O,ot e size cells (λ_ _ _=>True) B v' (q++[b]) O->dM (λx=>B<=x) w1 O->wpList P ops abo rest (a.put o.dst v') O):wpList P ops abo (o::rest) a (w1.alloc (.cells (cells b).toArray e)):=by obtain⟨v',O,eR,hA,hj⟩:=Nl abl oq ul hl m_ h (b:=b) (F:=λ_=>False) trivial (λ_ h=>h.elim) (λ_ _ _=>trivial) (λ_ h=>h.elim) fw o.type c;unfold wpList;rw[aA hw];refine .inl ?_;unfold Oper.wp execOp;simp only[ho,resolve,invoke,builtin,Sem.run_bind,Sem.run_pure,Result.andThen_ok,cV,bQ,cQ,hs,Y,eR];exact k v' O hA hj
end
section
variable{α:Type}(e size:Nat)(cells:α->List K)(good:X->(Nat->Prop)->α->Prop)
def lE:Prop:=∀(w O:X)(D:aV)(a:α),good w D a->(∀b,D b->O.heap[b]?=w.heap[b]?)->good O D a
def h_(u:K)(q:List α):dW:=λw V=>∃R D:aV,Own w R e size u q.length (q.flatMap cells)∧(∀b∈q,good w D b)∧(∀b,R b->V b∧¬ D b)∧(∀b,D b->V b)
variable{e size cells good}
def h_.framed(hG:lE good)(u:K)(q:List α):eu (h_ e size cells good u q):=λw O V ⟨R,D,I,G,L,h4⟩ N=>
 ⟨R,D,I.keep λb hb=>N b (L b hb).1,λb hb=>hG _ _ _ _ (G b hb) λx Y=>N x (h4 x Y),L,h4⟩
def h_.wide(u:K)(q:List α):C_ (h_ e size cells good u q):=λ_ _ _ hs ⟨R,D,I,G,L,h4⟩=>⟨R,D,I,G,λb hb=>⟨hs b (L b hb).1,(L b hb).2⟩,λb hb=>hs b (h4 b hb)⟩
theorem h_.nil(w:X)(V:aV):h_ e size cells good (Z none 0 0) [] w V:=⟨λ_=>False,λ_=>False,Own.nil,by simp,λ_ h=>h.elim,λ_ h=>h.elim⟩
def h_.sl{u:K}{q:List α}{w:X}{V:aV}(h:h_ e size cells good u q w V):∃A c,u=Z A q.length c∧q.length<=c∧c<=dG:=by obtain⟨R,D,I,_⟩:=h;obtain⟨A,c,G,_,L⟩:=I.reads;exact⟨A,c,G,L⟩
theorem h_.jL(hM:iz good){u:K}{q:List α}{w:X}{V:aV}(h:h_ e size cells good u q w V):∃A c,u=Z A q.length c∧In w V size A q.length (q.flatMap cells)∧(∀b∈q,good w V b)∧q.length<=c∧c<=dG:=by obtain⟨R,D,I,G,L,h4⟩:=h;obtain⟨A,c,rfl,h6,h7,h8⟩:=I.jL;exact⟨A,c,rfl,h6.mono λb hb=>(L b hb).1,λb hb=>hM _ _ _ _ (G b hb) h4,h7,h8⟩
variable{l:List Bl}{u:K}{q:List α}
theorem St.sl(h:St V w0 (.o (h_ e size cells good u q)::l) w):∃A c,u=Z A q.length c∧q.length<=c∧c<=dG:=by obtain⟨U,hU,_⟩:=h.own.see 0 rfl;exact h_.sl (show h_ e size cells good u q w U from hU)
def St.app(abl:Elem P t e size bytes z)(hG:lE good)(hM:iz good)(hl:∀a,(cells a).length=size)(m_:∀a,∀u∈cells a,u.oneCell'=true)
 (h:St V w0 (.o (h_ e size cells good u q)::l) w) (H:Grow w w1) {b:α} (hb:good w1 (New w w1) b) (fw:(q.length+1)*bytes<=140737488355328) (ty:dC) (c:Nat):∃v' O,(cn #[t,t] ty #[u,Z (some ⟨(w1:Nat),0,none⟩) 1 c]).run P (w1.alloc (.cells (cells b).toArray e))=.ok v' O∧St V w0 (.o (h_ e size cells good v' (q++[b]))::l) O:=by
 obtain⟨⟨h0,V1,⟨U1,U2,⟨R,D,I,G,L,h4⟩,hB,k1,k2,k3⟩,hV⟩,hj,ho,fS⟩:=h;have fk:Grow w1 (w1.alloc (.cells (cells b).toArray e)):=fb _ _;have fu:=H.trans fk;have rx:Reads (w1.alloc (.cells (cells b).toArray e)) ((w1:Nat)+1) size (some ⟨(w1:Nat),0,none⟩) 1 (cells b):=by have:=fF w1 (cells b).toArray e (0,0) (n:=1) (size:=size) (by simp[hl]) _ rfl;simpa using this
 have l6:∀x,R x->x<(w:Nat):=λx Y=>(hV x (k1 x (L x Y).1)).2;have a1w:∀x,D x->x<(w:Nat):=λx Y=>(hV x (k1 x (h4 x Y))).2;obtain⟨v',O,eR,hO,lR⟩:=jq abl _ ty u q.length (q.flatMap cells) (I.keep λx Y=>fu.block x (l6 x Y)) _ _ 1 c (cells b) rx (m_ b) fw;have s1:=H.size;have s2:(w1.alloc (.cells (cells b).toArray e)).heap.size=(w1:Nat)+1:=fp _ _;have s3:=lR.size;rw[s2] at s3;have hold:∀x,x<(w:Nat)->¬ R x->O.heap[x]?=w.heap[x]?:=λx Y hr=>(lR.block x ap hr).trans (fu.block x Y);refine⟨v',O,eR,⟨⟨λx Y=>h0 x ap,λx=>V1 x∨New w O x,⟨λx=>U1 x∨New w O x,U2,⟨iY R (w1.alloc (.cells (cells b).toArray e)) O,λx=>D x∨New w w1 x,?_,λa ha=>?_,λx Y=>?_,λx Y=>?_⟩,?_,λx Y=>Y.imp (k1 x) id,λx Y => .inl (k2 x Y),λx Y G=>?_⟩,λx Y=>?_⟩,?_,⟨h_.framed hG _ _,ho.2⟩,fS⟩⟩
 ·rw[bL,bJ,cE,bm,bd]
  exact hO
 ·rcases List.mem_append.1 ha with ha|ha
  ·exact hM _ D _ _ (hG w O D a (G a ha) λx Y=>hold x (a1w x Y) λhr=>(L x hr).2 Y) λ_ => .inl
  ·rw[List.mem_singleton.1 ha]
   exact hM _ (New w w1) _ _ (hG w1 O _ b hb λx Y=>(lR.block x (by have:=Y.2;omega) λhr=>by have:=l6 x hr;have:=Y.1;omega).trans (fk.block x Y.2)) λ_ => .inr
 ·rcases Y with Y|⟨rI,lw⟩
  ·exact⟨.inl (L x Y).1,λhd=>hd.elim (L x Y).2 λhd=>by have:=l6 x Y;have:=hd.1;omega⟩
  ·rw[s2] at rI
   exact⟨.inr ⟨by omega,lw⟩,λhd=>hd.elim (λhd=>by have:=a1w x hd;omega) λhd=>by have:=hd.2;omega⟩
 ·rcases Y with Y|Y
  ·exact .inl (h4 x Y)
  ·exact .inr ⟨Y.1,by have:=Y.2;omega⟩
 ·exact dN.framed _ (fP ho.2) w O U2 hB λx Y=>hold x (hV x (k2 x Y)).2 λhr=>k3 x (L x hr).1 Y
 ·rcases Y with Y|Y
  ·exact k3 x Y G
  ·have:=(hV x (k2 x G)).2;have:=Y.1;omega
 ·rcases Y with Y|Y
  ·exact⟨(hV x Y).1,by have:=(hV x Y).2;omega⟩
  ·exact⟨h0 x Y.1,Y.2⟩
 ·exact (hj.trans (dM.dK fu)).trans (lR.imp λx Y=>(hV x (k1 x (L x Y).1)).1)
def lb(abl:Elem P t e size bytes z)(hG:lE good)(hM:iz good)(hl:∀a,(cells a).length=size)(m_:∀a,∀u∈cells a,u.oneCell'=true){ops:Array dE}{rest:List dE}{o:dE}{a:dF}{abo:Exit->dF->X->Prop}(hw:bN o (yielded ops a.tmps)=true)(s x:Operand)
 (ho:o.op=.call { callee := .builtin .append,args:=#[s,x],argTypes:=#[t,t] }) (hs:a.eval s=u) (h:St V w0 (.o (h_ e size cells good u q)::l) w) (H:Grow w w1) {b:α} (hb:good w1 (New w w1) b) (fw:(q.length+1)*bytes<=140737488355328) (c:Nat)
 (Y:a.eval x=Z (some ⟨(w1:Nat),0,none⟩) 1 c)
 (N:∀v' O,St V w0 (.o (h_ e size cells good v' (q++[b]))::l) O->wpList P ops abo rest (a.put o.dst v') O):wpList P ops abo (o::rest) a (w1.alloc (.cells (cells b).toArray e)):=by obtain⟨v',O,eR,G⟩:=h.app abl hG hM hl m_ H hb fw o.type c;unfold wpList;rw[aA hw];refine .inl ?_;unfold Oper.wp execOp;simp only[ho,resolve,invoke,builtin,Sem.run_bind,Sem.run_pure,Result.andThen_ok,cV,bQ,cQ,hs,Y,eR];exact N v' O G
end
end Go.Hop
