/- Mt, Big, Put, Wk, Rw, Catr, Hldk, Hlt, Rng, Newx, Rgm. -/
import Derived.Test.YtpeepcmdehhbgaaGreatDoorJs05
import Derived.Test.YtpeepcmdehhbgaaGreatDoorJs08
import Derived.Laws.Rows
import Derived.Deep.MidRow
import Derived.Maps.RangeRun
set_option linter.all false
set_option maxRecDepth 100000
open Go.Value renaming int->ae,slice->Z,string->aX,bool->aY,agg->aZ,tuple->a_
open Go.Ending renaming returned->b5
open Go.IntKind renaming i64->af,u64->ah
open Go (J az aE aA aB aC aD ay aj am ap aw aL aK aJ aI aH aV aU aT aR aQ aP aO aN)
open List renaming length_append->bd,length_map->bj,length_cons->bD,getElem_mem->bF,flatMap_append->bL,map_cons->bQ,map_nil->cQ,map_toArray->cV,mem_of_mem_eraseIdx->cY,length_filter_le->c_,length_set->dh
open Nat renaming le_refl->bh,zero_add->cJ
open Go.Region renaming wanted->bN,ready->cC
open Bool renaming and_eq_true->bU
open Array renaming length_toList->bZ
open Go.Builtin renaming append_->cn
open Option renaming map_some->df
open Go renaming Value->K,World->X,TypeId->dC,Program->dD,Oper->dE,Act->dF,maxLen->dG
open Go.Hop (Bl)
variable{w w0 O:X}{t kt et ty:dC}{P:dD}{cs:aP}{ops:Array dE}{abo:Go.Exit->dF->X->Prop}{o:dE}{a:dF}{rest:List dE}{V:aV}{l:List Bl}{g i b n bytes e B c r:Nat}{z v u:K}{S:X->Prop}{Bs ks bs:aQ}{abn:Array Bool}{a':dF}
namespace Go.Hop
open RowKit
section
variable{κ:Type}[DecidableEq κ]{ke:κ->K}{q q':List (κ×K)}
def St.IV(abk:oo P kt ke)(ht:P.underlying t=some (.map kt et))(hz:(zeroValue et).run P w=.ok z w)(h:St V w0 l w)(i:Nat)(hi:l[i]?=some (.o (eI ke b q)))(k:κ)(c:Bool):(Instr.lookup t (.map (some b)) (ke k) c).run P w=.ok (if c then a_ #[(uk q k).getD z,aY (uk q k).isSome] else (uk q k).getD z) w:=by obtain⟨U,hU,_⟩:=h.own.see i (iD hi);exact eI.look abk ht hz (show eI ke b q w U from hU) k c
def St.Un(h:St V w0 l w)(i:Nat)(hi:l[i]?=some (.o (eI ke b q))){U:aV}(hG:eI ke b q' O U)(hj:dM (λc=>c=b) w O):St V w0 (l.set i (.o (eI ke b q'))) O:=by
 have I:=St.step (a:=[.o (eI ke b q)]) (a2:=[.o (eI ke b q')]) (b:=l.eraseIdx i) (h.front i hi) ⟨eI.framed _ _,trivial⟩ λU1 hM fS=>by obtain⟨U2,_,H,_,k1,_⟩:=hM;have hb:U1 b:=k1 b H.1;exact⟨⟨λc=>c=b,λ_=>False,⟨rfl,hG.2⟩,trivial,λc E => .inl (by rw[show c=b from E];exact hb),λ_ h=>h.elim,λ_ _ h=>h⟩,hj.imp λc E=>by rw[show c=b from E];exact hb⟩
 exact I.perm (iG hi).symm
def St.VR(abk:oo P kt ke)(ht:P.underlying t=some (.map kt et))(h:St V w0 l w)(i:Nat)(hi:l[i]?=some (.o (eI ke b q)))(k:κ)(v:K):∃O,(Instr.mapUpdate t (.map (some b)) (ke k) v).run P w=.ok () O∧St V w0 (l.set i (.o (eI ke b (l9 q k v)))) O:=by obtain⟨U,hU,_⟩:=h.own.see i (iD hi);obtain⟨O,I,G,L⟩:=eI.put abk ht (show eI ke b q w U from hU) k v;exact⟨O,I,h.Un i hi G L⟩
def St.Zu(abk:oo P kt ke)(ht:P.underlying t=some (.map kt et))(h:St V w0 l w)(i:Nat)(hi:l[i]?=some (.o (eI ke b q)))(k:κ):∃O,(∀ty,(Builtin.delete_ #[t,kt] ty #[.map (some b),ke k]).run P w=.ok (a_ #[]) O)∧St V w0 (l.set i (.o (eI ke b (lD q k)))) O:=by obtain⟨U,hU,_⟩:=h.own.see i (iD hi);obtain⟨O,I,G,L⟩:=eI.del abk ht (show eI ke b q w U from hU) k 0;exact⟨O,λty=>I,h.Un i hi G L⟩
end
section
def dU(hw:bN o (yielded ops a.tmps)=true)(ty:dC)(x:Operand)(ho:o.op=.load ty x)(g:Nat)(Y:a.eval x=(g:K))(hB:eJ w g t cs){fs:Array Field}(hu:P.underlying ty=some (.struct fs))(hi:(P.info? ty).map (·.size)=some cs.size)
 (h:wpList P ops abo rest (a.put o.dst (aZ cs)) w):wpList P ops abo (o::rest) a w:=by unfold wpList;rw[aA hw];exact .inl (wp_load_row ty x ho g Y t cs (0,0) _ hB hu rfl hi h)
def un(hw:bN o (yielded ops a.tmps)=true)(ty:dC)(x y:Operand)(ho:o.op=.store ty x y)(g:Nat)(Y:a.eval x=(g:K))(vs:List K)(hy:a.eval y=aZ vs.toArray)(hB:eJ w g t cs)(hl:vs.length=cs.size)(I:vs.toArray.all (·.oneCell')=true)(hi:(P.info? ty).map (·.size)=some vs.toArray.size)
 (h:wpList P ops abo rest (a.put o.dst undef) (w.setCells g 0 vs)):wpList P ops abo (o::rest) a w:=by
 unfold wpList;rw[aA hw];refine .inl (wp_store_mid ty x y ho g 0 vs.toArray Y hy ?_ hi I (by simpa using h));intro j hj;have lR:j<cs.size:=by simp at hj;omega
 refine⟨?_,?_⟩;·rw[hB.cell,Array.getElem?_eq_getElem ap];rfl
 ·exact hB.frozen _
def sS(hw:bN o (yielded ops a.tmps)=true)(ty:dC)(x y:Operand)(ho:o.op=.store ty x y)(g b:Nat)(Y:a.eval x=.pointer (some ⟨g,b,none⟩))(vs:List K)(hy:a.eval y=aZ vs.toArray)(hB:eJ w g t cs)(hl:b+vs.length<=cs.size)(I:vs.toArray.all (·.oneCell')=true)(hi:(P.info? ty).map (·.size)=some vs.toArray.size)
 (h:wpList P ops abo rest (a.put o.dst undef) (w.setCells g b vs)):wpList P ops abo (o::rest) a w:=by
 unfold wpList;rw[aA hw];refine .inl (wp_store_mid ty x y ho g b vs.toArray Y hy ?_ hi I (by simpa using h));intro j hj;have lR:b+j<cs.size:=by simp at hj;omega
 refine⟨?_,?_⟩;·rw[hB.cell,Array.getElem?_eq_getElem lR];rfl
 ·exact hB.frozen _
def eJ.part(h:eJ w g t cs)(b:Nat)(vs:List K)(hl:b+vs.length<=cs.size):eJ (w.setCells g b vs) g t (cs.toList.take b++vs++cs.toList.drop (b+vs.length)).toArray:=by
 obtain⟨cur,I,G,L⟩:=iC g t (0,0) vs b w cs h hl;have h4:cur=(cs.toList.take b++vs++cs.toList.drop (b+vs.length)).toArray:=by apply Array.ext';rw[L]
 rw[h4] at I;exact I
def uo(g b:Nat)(vs:List K)(w:X):dM (λx=>x=g) w (w.setCells g b vs):=dM.jA (gM g vs b w) rfl
def Dn(hw:bN o (yielded ops a.tmps)=true)(ty:dC)(x y:Operand)(ho:o.op=.store ty x y)(g:Nat)(Y:a.eval x=(g:K))(vs:List K)(hy:a.eval y=aZ vs.toArray)(hB:eJ w g t cs)(hl:vs.length=cs.size)(I:vs.all (λv=>v.oneCell')=true)(hi:(P.info? ty).map (·.size)=some vs.toArray.size)
 (h:∀O,eJ O g t vs.toArray->dM (λb=>b=g) w O->(O:Nat)=(w:Nat)->wpList P ops abo rest (a.put o.dst undef) O):wpList P ops abo (o::rest) a w:=
 un hw ty x y ho g Y vs hy hB hl (by simpa using I) hi (h _ (hB.all vs hl) (dM.jA (gM g vs 0 w) rfl) (setCells_size g vs 0 w))
def pX(hw:bN o (yielded ops a.tmps)=true)(ty:dC)(x y:Operand)(ho:o.op=.store ty x y)(g b:Nat)(Y:a.eval x=.pointer (some ⟨g,b,none⟩))(vs:List K)(hy:a.eval y=aZ vs.toArray)(hB:eJ w g t cs)(hl:b+vs.length<=cs.size)(I:vs.all (λv=>v.oneCell')=true)(hi:(P.info? ty).map (·.size)=some vs.toArray.size){cs':aP}(E:cs'=(cs.toList.take b++vs++cs.toList.drop (b+vs.length)).toArray)
 (h:∀O,eJ O g t cs'->dM (λb=>b=g) w O->(O:Nat)=(w:Nat)->wpList P ops abo rest (a.put o.dst undef) O):wpList P ops abo (o::rest) a w:=
 sS hw ty x y ho g b Y vs hy hB hl (by simpa using I) hi (h _ (E▸hB.part b vs hl) (uo g b vs w) (setCells_size g vs b w))
def ou(hw:bN o (yielded ops a.tmps)=true)(eR:(execOp a.eval o).run P w=.ok (.value v) O)(h:wpList P ops abo rest (a.put o.dst v) O):wpList P ops abo (o::rest) a w:=by unfold wpList;rw[aA hw];refine .inl ?_;unfold Oper.wp;simp only[eR];exact h
def kf(hw:bN o (yielded ops a.tmps)=true)(eR:(execOp a.eval o).run P w=.ok (.value ((((w:Nat),0):K))) (w.alloc (.cells cs t)))
 (h:∀g O,eJ O g t cs->Grow w O->(w:Nat)=g->(O:Nat)=g+1->wpList P ops abo rest (a.put o.dst (((g:Nat):K))) O):wpList P ops abo (o::rest) a w:=
 ou hw eR (h _ _ (eJ.made w t cs) ((Below.refl _ w).alloc (bh _) _) rfl (by simp))
def fy{fn:Func}{p:Tmp}(h:fn.results=#[.cell p ty])(tmps:aP)(g:Nat)(hp:tmps.getD p undef=(g:K))(hB:eJ w g t cs){fs:Array Field}(hu:P.underlying ty=some (.struct fs))(hi:(P.info? ty).map (·.size)=some cs.size):(results fn tmps).run P w=.ok (aZ cs) w:=results_cell_row h tmps w g t cs (0,0) _ hp hB hu rfl hi
def dZ{fn:Func}{p q:Tmp}(h:fn.results=#[.cell p ty,.tmp q])(tmps:aP)(g:Nat)(hp:tmps.getD p undef=(g:K))(hB:eJ w g t cs){fs:Array Field}(hu:P.underlying ty=some (.struct fs))(hi:(P.info? ty).map (·.size)=some cs.size):(results fn tmps).run P w=.ok (a_ #[aZ cs,tmps.getD q undef]) w:=by
 have V9:tmps[p]?.getD undef=(g:K):=by simpa using hp
 simp[results,h,V9,asAddr,run_loadVar_row w g t ty cs (0,0) _ hB hu rfl hi]
def eJ.fill(h:eJ w g t cs)(vs:List K)(hl:vs.length=cs.size):eJ (w.setCells g 0 vs) g t vs.toArray:=h.all vs hl
def uq(b:Nat)(vs:List K)(w:X):dM (λx=>x=b) w (w.setCells b 0 vs):=dM.jA (gM b vs 0 w) rfl
end
section
theorem sT(w:X)(b k:Nat)(ty:dC)(v:K)(E:(w.cell? ⟨b,k,none⟩).isSome=true)(hf:w.frozen? ⟨b,k,none⟩=false)(hi:(P.info? ty).map (·.size)=some 1)(I:v.oneCell'=true):(storeVar ty ⟨b,k,none⟩ v).run P w=.ok () (w.setCell ⟨b,k,none⟩ v):=by
 have jQ:v.cells=#[v]:=by cases v<;>first|rfl|cases I
 have:=run_storeCells_cells (P:=P) b k [v] 0 w (λj hj=>by simp at hj;subst hj;simpa using E) (λj hj=>by simp at hj;subst hj;simpa using hf) (λx Y=>by simp at Y;subst Y;exact I);cases hq:P.info? ty with
 | none=>simp[hq] at hi
 | some i=>
   have hs:1=i.size:=by simp[hq] at hi;omega
   simp only[Nat.add_zero] at this;simp[storeVar,sizeOf,typeInfo,hq,jQ,<-hs] at this ⊢;simpa [World.setCells] using this
def Dp(hw:bN o (yielded ops a.tmps)=true)(ty:dC)(x y:Operand)(ho:o.op=.store ty x y)(g b:Nat)(Y:a.eval x=.pointer (some ⟨g,b,none⟩))(v:K)(hy:a.eval y=v)(hB:eJ w g t cs)(hl:b<cs.size)(I:v.oneCell'=true)(hi:(P.info? ty).map (·.size)=some 1)
 (h:∀O,Hid (O=w.setCell ⟨g,b,none⟩ v)->wpList P ops abo rest (a.put o.dst undef) O):wpList P ops abo (o::rest) a w:=by unfold wpList;rw[aA hw];refine .inl ?_;unfold Oper.wp execOp;simp only[ho,Y,hy,Instr.storeAt,Instr.sureAddr,Sem.run_bind,Sem.run_pure,Result.andThen_ok,sT w g b ty v (by rw[hB.cell,Array.getElem?_eq_getElem hl];rfl) (hB.frozen _) hi I];exact h _ rfl
end
section
def St.grown(h:St (λ_=>False) w0 l w):Grow w0 w:=h.just.below (λ_ N=>N.elim False.elim id) (bh _)
def fv(hS:St V w0 l w)(i:Nat)(hi:l[i]?=some (.c g t cs))(ty:dC)(x y:Operand)(ho:o.op=.store ty x y)(b:Nat)(Y:a.eval x=.pointer (some ⟨g,b,none⟩))(v:K)(hy:a.eval y=v)(hl:b<cs.size)(I:v.oneCell'=true)(hi1:(P.info? ty).map (·.size)=some 1)(hw:bN o (yielded ops a.tmps)=true)
 (h:∀O,St V w0 (l.set i (.c g t (cs.setIfInBounds b v))) O->wpList P ops abo rest (a.put o.dst undef) O):wpList P ops abo (o::rest) a w:=
 Dp hw ty x y ho g b Y v hy (hS.blk i hi) hl I hi1 λO e=>by rw[e.out];exact h _ (hS.put i hi b v)
def d_(hS:St V w0 l w)(i:Nat)(hi:l[i]?=some (.c g t cs))(ty:dC)(x y:Operand)(ho:o.op=.store ty x y)(b:Nat)(Y:a.eval x=.pointer (some ⟨g,b,none⟩))(vs:List K)(hy:a.eval y=aZ vs.toArray)(hl:b+vs.length<=cs.size)(I:vs.all (λv=>v.oneCell')=true)(hi1:(P.info? ty).map (·.size)=some vs.toArray.size)(cs':aP)(E:cs'=(cs.toList.take b++vs++cs.toList.drop (b+vs.length)).toArray)(hw:bN o (yielded ops a.tmps)=true)
 (h:∀O,St V w0 (l.set i (.c g t cs')) O->wpList P ops abo rest (a.put o.dst undef) O):wpList P ops abo (o::rest) a w:=
 pX hw ty x y ho g b Y vs hy (hS.blk i hi) hl I hi1 E λO hB hj _=>h O (hS.turned i hi hj hB)
def kG(hS:St V w0 l w)(i:Nat)(hi:l[i]?=some (.c g t cs))(ty:dC)(x:Operand)(ho:o.op=.load ty x)(Y:a.eval x=(g:K)){fs:Array Field}(hu:P.underlying ty=some (.struct fs))(hi1:(P.info? ty).map (·.size)=some cs.size)(hw:bN o (yielded ops a.tmps)=true)
 (h:wpList P ops abo rest (a.put o.dst (aZ cs)) w):wpList P ops abo (o::rest) a w:=dU hw ty x ho g Y (hS.blk i hi) hu hi1 h
end
section
variable{size:Nat}{xs:List K}
def fK(e size:Nat)(u:K)(n:Nat)(xs:List K):dW:=λw V=>Row w V e size u n xs
def fK.framed(e size:Nat)(u:K)(n:Nat)(xs:List K):eu (fK e size u n xs):=λ_ _ _ h N=>Row.keep h λb hb _=>N b hb
def fK.nW(h:St V w0 l w)(i:Nat)(hi:l[i]?=some (.o (fK e size u n xs))):∃A c,u=Z A n c∧n<=c∧c<=dG:=by obtain⟨U,hU,_⟩:=h.own.see i (iD hi);obtain⟨A,c,I,_,G⟩:=Row.jL hU;exact⟨A,c,I,G⟩
def fK.sl(h:St V w0 (.o (fK e size u n xs)::l) w):∃A c,u=Z A n c∧n<=c∧c<=dG:=by obtain⟨U,hU,_⟩:=h.own.see 0 rfl;obtain⟨A,c,I,_,G⟩:=Row.jL hU;exact⟨A,c,I,G⟩
def St.a3T{t:Nat}(abl:Elem P t e size bytes z)(h:St V w0 (.o (fK e size u n xs)::l) w){A:aU}{m:Nat}{news:List K}(hr:Reads w B size A m news)(I:∀u∈news,u.oneCell'=true)(fw:(n+m)*bytes<=140737488355328)(ty:dC)(c:Nat):∃v' O,(cn #[t,t] ty #[u,Z A m c]).run P w=.ok v' O∧St V w0 (.o (fK e size v' (n+m) (xs++news))::l) O:=by
 obtain⟨⟨h0,V1,⟨U1,U2,T,hB,k1,k2,k3⟩,hV⟩,hj,ho,fS⟩:=h;obtain⟨v',O,eR,hO,lR⟩:=mL abl w ty u n xs T B A m c news hr I fw;have s3:=lR.size;refine⟨v',O,eR,⟨⟨λx Y=>h0 x ap,iY V1 w O,⟨iY U1 w O,U2,hO,?_,λx Y=>Y.imp (k1 x) id,λx Y => .inl (k2 x Y),λx Y G=>?_⟩,λx Y=>?_⟩,hj.trans (lR.imp λx Y=>(hV x (k1 x Y)).1),⟨fK.framed _ _ _ _ _,ho.2⟩,fS⟩⟩;·exact dN.framed _ (fP ho.2) w O U2 hB λx Y=>lR.block x (hV x (k2 x Y)).2 λhr=>k3 x hr Y
 ·rcases Y with Y|Y
  ·exact k3 x Y G
  ·have:=(hV x (k2 x G)).2;have:=Y.1;omega
 ·rcases Y with Y|Y
  ·exact⟨(hV x Y).1,by have:=(hV x Y).2;omega⟩
  ·exact⟨h0 x Y.1,Y.2⟩
def g_{t:Nat}(abl:Elem P t e size bytes z)(hw:bN o (yielded ops a.tmps)=true)(s x:Operand)
 (ho:o.op=.call { callee := .builtin .append,args:=#[s,x],argTypes:=#[t,t] }) (hs:a.eval s=u) (h:St V w0 (.o (fK e size u n xs)::l) w) {B:Nat} {A:aU} {m c:Nat} {news:List K} (Y:a.eval x=Z A m c) (hr:Reads w B size A m news) (I:∀u∈news,u.oneCell'=true) (fw:(n+m)*bytes<=140737488355328)
 (N:∀v' O,St V w0 (.o (fK e size v' (n+m) (xs++news))::l) O->wpList P ops abo rest (a.put o.dst v') O):wpList P ops abo (o::rest) a w:=by obtain⟨v',O,eR,G⟩:=h.a3T abl hr I fw o.type c;unfold wpList;rw[aA hw];refine .inl ?_;unfold Oper.wp execOp;simp only[ho,resolve,invoke,builtin,Sem.run_bind,Sem.run_pure,Result.andThen_ok,cV,bQ,cQ,hs,Y,eR];exact N v' O G
def fK.shape(h:St V w0 (.o (fK e size u n xs)::l) w)(hn:0<n):∃g c,u=Z (some ⟨g,0,none⟩) n c∧n<=c∧c<=dG:=by
 obtain⟨U,hU,_⟩:=h.own.see 0 rfl;obtain⟨_,h0|⟨g,c,cur,he,_,_,I,G,_⟩⟩:=(show Row w U e size u n xs from hU);·omega
 ·exact⟨g,c,he,I,G⟩
def fK.at_(h:St V w0 (.o (fK e size (Z (some (g,0)) n c) n xs)::l) w):(∀j,j<n*size->w.cell? ⟨g,j,none⟩=xs[j]?)∧∀j,w.frozen? ⟨g,j,none⟩=false:=by
 obtain⟨U,hU,_⟩:=h.own.see 0 rfl;obtain⟨hl,h0|⟨g',cap,cur,he,hV,H,kM,iO,jQ,j9⟩⟩:=(show Row w U e size (Z (some (g,0)) n c) n xs from hU);·injection h0.1 with I;cases I
 injection he with I _ L;injection I with I;injection I with I;subst I L;have hB:eJ w g e cur:=H;exact⟨λj hj=>by rw[hB.cell,<-j9,List.getElem?_take,aA hj,Array.getElem?_toList],λj=>hB.frozen j⟩
theorem Row.put{g c:Nat}{w:X}{V:aV}(h:Row w V e size (Z (some (g,0)) n c) n xs)(j:Nat)(v:K):Row (w.setCell ⟨g,j,none⟩ v) V e size (Z (some (g,0)) n c) n (xs.set j v):=by
 obtain⟨hl,h0|⟨g',cap,cur,he,hV,H,kM,iO,jQ,j9⟩⟩:=h;·injection h0.1 with I;cases I
 injection he with I _ L;injection I with I;injection I with I;subst I L;have hB:eJ w g e cur:=H;exact⟨by rw[dh];exact hl,.inr ⟨g,c,_,rfl,hV,hB.put j v,kM,iO,by rw[Array.size_setIfInBounds];exact jQ,by rw[<-j9,Array.toList_setIfInBounds,List.take_set]⟩⟩
def St.a3U(h:St V w0 (.o (fK e size (Z (some (g,0)) n c) n xs)::l) w)(j:Nat)(v:K):St V w0 (.o (fK e size (Z (some (g,0)) n c) n (xs.set j v))::l) (w.setCell ⟨g,j,none⟩ v):=by
 obtain⟨⟨h0,V1,⟨U1,U2,T,hB,k1,k2,k3⟩,hV⟩,hj,ho,fS⟩:=h;have H:U1 g:=by
  obtain⟨hl,h0|⟨g',cap,cur,he,hV,H,_⟩⟩:=(show Row w U1 e size (Z (some (g,0)) n c) n xs from T);·injection h0.1 with I;cases I
  injection he with I _ L;injection I with I;injection I with I;subst I;exact hV
 have lR:=kD w g j v;refine⟨⟨λx Y=>h0 x (by rwa [gg] at Y),V1,⟨U1,U2,Row.put T j v,dN.framed _ (fP ho.2) w _ U2 hB λx Y=>lR.block x (hV x (k2 x Y)).2 λe=>k3 x (by rw[show x=g from e];exact H) Y,k1,k2,k3⟩,λx Y=>by rw[gg];exact hV x Y⟩,hj.trans (lR.imp λx Y=>by rw[show x=g from Y];exact (hV g (k1 g H)).1),⟨fK.framed _ _ _ _ _,ho.2⟩,fS⟩
end
section
variable{α:Type}{size:Nat}{cells:α->List K}{good:X->(Nat->Prop)->α->Prop}
variable{t:Nat}{w1:X}{u2:K}{q q2:List α}
def Nt(m_:∀a,∀u∈cells a,u.oneCell'=true)(q:List α):∀u∈q.flatMap cells,u.oneCell'=true:=λu hu=>by obtain⟨a,_,ha⟩:=List.mem_flatMap.1 hu;exact m_ a u ha
def St.cat(abl:Elem P t e size bytes z)(hG:lE good)(hM:iz good)(m_:∀a,∀u∈cells a,u.oneCell'=true)
 (h:St V w0 (.o (h_ e size cells good u q)::.o (h_ e size cells good u2 q2)::l) w) (fw:(q.length+q2.length)*bytes<=140737488355328) (ty:dC):∃v' O,(cn #[t,t] ty #[u,u2]).run P w=.ok v' O∧St V w0 (.o (h_ e size cells good v' (q++q2))::l) O:=by
 obtain⟨⟨h0,V1,⟨U1,U2,⟨R,D,I,G,L,h4⟩,⟨U3,U4,⟨R2,D2,g1,g2,g3,g4⟩,hB,m1,m2,m3⟩,k1,k2,k3⟩,hV⟩,hj,ho,fS⟩:=h;obtain⟨A,c,rfl,rx,_,_⟩:=g1.reads;obtain⟨v',O,eR,hO,lR⟩:=jq abl w ty u q.length (q.flatMap cells) I (w:Nat) A q2.length c (q2.flatMap cells) rx (Nt m_ q2) fw;have s3:=lR.size;have hold:∀x,x<(w:Nat)->¬ R x->O.heap[x]?=w.heap[x]?:=λx Y hr=>lR.block x Y hr;have lt1:∀x,U1 x->x<(w:Nat):=λx Y=>(hV x (k1 x Y)).2;have lt2:∀x,U2 x->x<(w:Nat):=λx Y=>(hV x (k2 x Y)).2;refine⟨v',O,eR,⟨⟨λx Y=>h0 x ap,λx=>V1 x∨New w O x,⟨λx=>U1 x∨U3 x∨New w O x,U4,⟨iY R w O,λx=>D x∨D2 x,?_,λa ha=>?_,λx Y=>?_,λx Y=>?_⟩,?_,λx Y=>?_,λx Y => .inl (k2 x (m2 x Y)),λx Y h5=>?_⟩,λx Y=>?_⟩,?_,⟨h_.framed hG _ _,ho.2.2⟩,fS⟩⟩
 ·rw[bL,bd]
  exact hO
 ·rcases List.mem_append.1 ha with ha|ha
  ·exact hM _ D _ _ (hG w O D a (G a ha) λx Y=>hold x (lt1 x (h4 x Y)) λhr=>(L x hr).2 Y) λ_ => .inl
  ·exact hM _ D2 _ _ (hG w O D2 a (g2 a ha) λx Y=>hold x (lt2 x (m1 x (g4 x Y))) λhr=>k3 x (L x hr).1 (m1 x (g4 x Y))) λ_ => .inr
 ·rcases Y with Y|⟨rI,lw⟩
  ·exact⟨.inl (L x Y).1,λhd=>hd.elim (L x Y).2 λhd=>k3 x (L x Y).1 (m1 x (g4 x hd))⟩
  ·exact⟨.inr (.inr ⟨rI,lw⟩),λhd=>hd.elim (λhd=>by have:=lt1 x (h4 x hd);omega) λhd=>by have:=lt2 x (m1 x (g4 x hd));omega⟩
 ·rcases Y with Y|Y
  ·exact .inl (h4 x Y)
  ·exact .inr (.inl (g4 x Y))
 ·exact dN.framed _ (fP ho.2.2) w O U4 hB λx Y=>hold x (lt2 x (m2 x Y)) λhr=>k3 x (L x hr).1 (m2 x Y)
 ·rcases Y with Y|Y|Y
  ·exact .inl (k1 x Y)
  ·exact .inl (k2 x (m1 x Y))
  ·exact .inr Y
 ·rcases Y with Y|Y|Y
  ·exact k3 x Y (m2 x h5)
  ·exact m3 x Y h5
  ·have:=lt2 x (m2 x h5);have:=Y.1;omega
 ·rcases Y with Y|Y
  ·exact⟨(hV x Y).1,by have:=(hV x Y).2;omega⟩
  ·exact⟨h0 x Y.1,Y.2⟩
 ·exact hj.trans (lR.imp λx Y=>(hV x (k1 x (L x Y).1)).1)
def xr(abl:Elem P t e size bytes z)(hG:lE good)(hM:iz good)(m_:∀a,∀u∈cells a,u.oneCell'=true)(hw:bN o (yielded ops a.tmps)=true)(s x:Operand)
 (ho:o.op=.call { callee := .builtin .append,args:=#[s,x],argTypes:=#[t,t] }) (hs:a.eval s=u) (Y:a.eval x=u2) (h:St V w0 (.o (h_ e size cells good u q)::.o (h_ e size cells good u2 q2)::l) w) (fw:(q.length+q2.length)*bytes<=140737488355328)
 (N:∀v' O,St V w0 (.o (h_ e size cells good v' (q++q2))::l) O->wpList P ops abo rest (a.put o.dst v') O):wpList P ops abo (o::rest) a w:=by obtain⟨v',O,eR,G⟩:=h.cat abl hG hM m_ fw o.type;unfold wpList;rw[aA hw];refine .inl ?_;unfold Oper.wp execOp;simp only[ho,resolve,invoke,builtin,Sem.run_bind,Sem.run_pure,Result.andThen_ok,cV,bQ,cQ,hs,Y,eR];exact N v' O G
end
section
variable{md:Region.Mode}
def ut(P:dD)(md:Region.Mode)(ops:Array dE)(abo:Exit->dF->X->Prop)(S:X->Prop)(Bs:aQ):Nat->Array Bool->dF->X->Prop
 | 0,listed,a,w=>cC md ops listed=[]∧abo .normal a w
 | fuel+1,listed,a,w=>
   (cC md ops listed=[]->abo .normal a w)∧
   ∀i∈cC md ops listed,wpOp P ops abo i (λa' O=>(Bs.contains i=false->S O)∧ut P md ops abo S Bs fuel (listed.setIfInBounds i true) a' O) a w
theorem xu:∀(fuel:Nat)(listed:Array Bool)(a:dF)(w:X),ut P md ops abo S Bs fuel listed a w->wpAny P md ops abo fuel listed a w
 | 0,_,_,_,h=>h
 | fuel+1,_,_,_,h=>⟨h.1,λi hi=>wpOp_mono (λa' O h'=>xu fuel _ a' O h'.2) (h.2 i hi)⟩
def waitsFor(md:Region.Mode)(ops:Array dE)(i B:Nat):Bool:=match ops[B]? with
 | none=>true
 | some o=>o.after.any λe=>Region.binds md e&&(e.on == i)
def waitsFor_spec(h:waitsFor md ops i B=true)(ho:ops[B]?=some o):∃e∈o.after,Region.binds md e=true∧e.on=i:=by unfold waitsFor at h;rw[ho] at h;simp only[Array.any_eq_true,bU,beq_iff_eq] at h;obtain⟨k,N,I,G⟩:=h;exact⟨_,Array.getElem_mem N,I,G⟩
theorem sU{oi:dE}(hi:ops[i]?=some oi)(a1A:∀(j:Nat)(o:dE)cs b,ops[j]?=some o->o.op ≠ .select cs b)
 (hQ:∀c a w,abo (.panic c) (a.put oi.dst v) w->abo (.panic c) a w) (hB:Bs.all (waitsFor md ops i)=true):∀(fuel:Nat)(listed:Array Bool)(a:dF)(w:X),
   (∀j oj,ops[j]?=some oj->j≠i->listed.getD j true=false->(∀e∈oj.after,Region.binds md e=true->e.on≠i)->oi.apart ops oj=true)->
   i∈cC md ops listed->YieldsIf P ops S oi v a->S w->
   ut P md ops abo S Bs fuel (listed.setIfInBounds i true) (a.put oi.dst v) w->ut P md ops abo S Bs (fuel+1) listed a w:=by
 intro fuel
 induction fuel with
 | zero=>
   intro listed a w _ hr hy hS abj
   refine⟨λh=>(by rw[h] at hr;cases hr),λj hj=>?_⟩
   by_cases F3:j=i
   ·subst F3;exact hy.wpOp hi hS ⟨λ_=>hS,abj⟩
   ·have:=ready_mono hj F3
    rw[abj.1] at this
    cases this
 | succ fuel ih=>
   intro listed a w Vd hr hy hS abj
   refine⟨λh=>(by rw[h] at hr;cases hr),λj hj=>?_⟩
   by_cases F3:j=i
   ·subst F3;exact hy.wpOp hi hS ⟨λ_=>hS,abj⟩
   ·have I:=abj.2 j (ready_mono hj F3)
    obtain⟨a1B,oj,hoj,o5⟩:=mem_ready.1 hj
    have a1C:∀e∈oj.after,Region.binds md e=true->e.on≠i:=λe he hb heq=>by
     have I:=o5 e he hb;have h0:=(mem_ready.1 hr).1;rw[heq] at I;rcases Nat.lt_or_ge i listed.size with h'|h'
     ·simp[h'] at h0 I;rw[h0] at I;cases I
     ·simp[Array.getElem?_eq_none h'] at I
    have hjB:Bs.contains j=false:=by
     cases E:Bs.contains j with
     | false=>rfl
     | true=>
       obtain⟨e,he,h5,h6⟩:=waitsFor_spec (List.all_eq_true.1 hB j (by simpa using E)) hoj;exact absurd h6 (a1C e he h5)
    have G:=wpOp_putIf hoj (Vd j oj hoj F3 a1B a1C) (λcs b=>a1A i oi cs b hi) (λcs b=>a1A j oj cs b hoj) hQ hy I
    have Y4:∀k ok,ops[k]?=some ok->k≠i->(listed.setIfInBounds j true).getD k true=false->
     (∀e∈ok.after,Region.binds md e=true->e.on≠i)->oi.apart ops ok=true:=λk ok N YY hun kh=>by
     refine Vd k ok N YY ?_ kh;by_cases Vb:j=k;·subst Vb;exact a1B
     ·rw[getD_set_ne true Vb] at hun;exact hun
    refine wpOp_mono (λa' O L=>⟨L.2.1,ih (listed.setIfInBounds j true) a' O Y4 (ready_mono hr (Ne.symm F3)) L.1 (L.2.1 hjB) ?_⟩) G
    rw[Array.setIfInBounds_comm _ _ F3]
    exact L.2.2
end
def lF(ks:aQ)(P:dD)(ops:Array dE)(abo:Exit->dF->X->Prop)(S:X->Prop)(Bs:aQ)(n:Nat)(abn:Array Bool)(a:dF)(w:X):Prop:=ut P .any ops abo S Bs n abn a w
section
def fC{k:Nat}(S:X->Prop)(Bs:aQ)(n:Nat)(hn:ops.size-k=n)(ks:aQ)(h:lF ks P ops abo S Bs n (tZ ops.size k) a w):Yq P ops abo k a w:=by unfold Yq;rw[hn];exact xu _ _ _ _ h
def vX(ks:aQ)(h:lF ks P ops abo S Bs n abn a w):lF [] P ops abo S Bs n abn a w:=h
def eV{o:Oper}{v:Value}(hi:ops[i]?=some o)(F8:S w)(hy:∀w,S w->∀(R:Value->Act->Prop),R v a'->ze R a o w ((execOp a.eval o).run P w))(h:lF ks P ops abo S Bs n (abn.setIfInBounds i true) a' w)
 (hs:Region.noSelect ops=true:=by kernel_rfl) (hf:Region.free .any ops abn i=true:=by kernel_rfl) (hr:(Region.ready .any ops abn).contains i=true:=by kernel_rfl)
 (hQ:∀c a w,abo (.panic c) (a.put o.dst v) w->abo (.panic c) a w:=by exact λ_ _ _ h=>h) (hw:Region.wanted o (yielded ops a.tmps)=true:=by kernel_rfl) (hB:Bs.all (waitsFor .any ops i)=true:=by kernel_rfl):lF (i::ks) P ops abo S Bs (n+1) abn a w:=by
 have key:∀w1,S w1->(execOp a.eval o).run P w1=.ok (.value v) w1∧a.put o.dst v=a':=λw1 ej=>by
  have I:=hy w1 ej (λu b=>u=v∧b=a') ⟨rfl,rfl⟩;cases hr:(execOp a.eval o).run P w1 with
  | ok n O=>
    rw[hr] at I;cases n with
    | value u=>
      obtain⟨rfl,rfl,G⟩:=I;exact⟨rfl,G⟩
    | _=>exact I.elim
  | halt _ _=>rw[hr] at I;exact I.elim
 exact sU hi (Region.noSelect_spec hs) hQ hB n abn a w (Region.free_spec hi hf) (by simpa using hr) (.inl ⟨hw,λw1 I=>(key w1 I).1⟩) F8 (by rw[(key w F8).2];exact h)
def Ru{o:Oper}(hi:ops[i]?=some o)(F8:S w)(h:lF ks P ops abo S Bs n (abn.setIfInBounds i true) a' w)
 (hs:Region.noSelect ops=true:=by kernel_rfl) (hf:Region.free .any ops abn i=true:=by kernel_rfl) (hr:(Region.ready .any ops abn).contains i=true:=by kernel_rfl)
 (hQ:∀c a w,abo (.panic c) (a.put o.dst undef) w->abo (.panic c) a w:=by exact λ_ _ _ h=>h) (hw:Region.wanted o (yielded ops a.tmps)=false:=by kernel_rfl) (hn:∀R:Act->Prop,R a'->R (a.put o.dst undef):=by intro R T;go_simp;exact T) (hB:Bs.all (waitsFor .any ops i)=true:=by kernel_rfl):lF (i::ks) P ops abo S Bs (n+1) abn a w:=
 sU hi (Region.noSelect_spec hs) hQ hB n abn a w (Region.free_spec hi hf) (by simpa using hr) (.inr ⟨hw,rfl⟩) F8 (hn (λb=>ut P .any ops abo S Bs n (abn.setIfInBounds i true) b w) h)
def eZ(i:Nat){o:Oper}(ks:aQ)(hi:ops[i]?=some o)(h:wpList P ops (Exit.then (λa' O=>(Bs.contains i=false->S O)∧lF ks P ops abo S Bs n (abn.setIfInBounds i true) a' O) abo) [o] a w)
 (hr:Region.ready .any ops abn=[i]:=by kernel_rfl):lF [] P ops abo S Bs (n+1) abn a w:=by
 refine⟨λh0=>(by rw[hr] at h0;cases h0),λi' tR=>?_⟩;rw[hr] at tR;rw[List.mem_singleton.1 tR];unfold wpList at h;unfold wpOp;rw[hi];simp only;split
 ·rename_i hw
  rw[aA hw] at h;refine h.imp (λL=>?_) (λL=>⟨L.1,?_⟩)
  ·unfold Oper.wp at L ⊢
   generalize (execOp a.eval o).run P w=r at *;cases r with
   | ok n O=>
     cases n<;>simp only[Oper.upon] at L ⊢<;>first
      | exact L
      | exact Calls.mono L (λe w'' he=>by
       cases e with
       | returned u=>exact he
       | panicked c=>exact he
       | outgrown=>obtain⟨a1,w1,h5⟩:=he;exact⟨a1,w1,h5⟩)
   | halt x O=>cases x<;>simp only[Oper.upon] at L ⊢<;>exact L
  ·obtain⟨a1,w1,h5⟩:=L.2;exact⟨a1,w1,h5⟩
 ·rename_i hw
  rw[aB hw] at h;exact h
theorem gj(h:abo .normal a w)(hr:Region.ready .any ops abn=[]:=by kernel_rfl):lF [] P ops abo S Bs n abn a w:=by
 cases n with
 | zero=>exact⟨hr,h⟩
 | succ n=>exact⟨λ_=>h,λi hi=>by rw[hr] at hi;cases hi⟩
def xv(ops:Array dE)(Bs:aQ):Array Bool->List Nat->Bool
 | abn,[]=>(cC .any ops abn).isEmpty
 | abn,j::js=>(cC .any ops abn == [j])&&Bs.contains j&&xv ops Bs (abn.setIfInBounds j true) js
theorem sV:∀(js:aQ)(os:List dE){n:Nat}{abn:Array Bool}{a:dF}{w:X},js.map (λj=>ops[j]?)=os.map some->n=js.length->xv ops Bs abn js=true->wpList P ops abo os a w->lF [] P ops abo S Bs n abn a w
 | [],os,n,abn,a,w,ho,hn,hl,h=>by
   obtain rfl:os=[]:=by cases os with|nil=>rfl|cons=>simp at ho
   exact gj h (by simpa [xv] using hl)
 | j::js,os,n,abn,a,w,ho,hn,hl,h=>by
   cases os with
   | nil=>simp at ho
   | cons o os=>
     simp only[bQ,List.cons.injEq] at ho;simp only[xv,bU,beq_iff_eq] at hl;obtain rfl:n=js.length+1:=by simpa using hn
     refine eZ j [] ho.1 ?_ hl.1.1;unfold wpList at h ⊢;split
     ·rename_i hw
      rw[aA hw] at h;refine h.imp (λL=>?_) (λL=>⟨L.1,?_⟩)
      ·unfold Oper.wp at L ⊢
       generalize (execOp a.eval o).run P w=r at *;cases r with
       | ok n O=>
         cases n<;>simp only[Oper.upon] at L ⊢<;>first
          | exact⟨λhb=>absurd hl.1.2 (by rw[hb];simp),sV js os ho.2 rfl hl.2 L⟩
          | exact Calls.mono L (λe w'' he=>by
           cases e with
           | returned u=>exact⟨λhb=>absurd hl.1.2 (by rw[hb];simp),sV js os ho.2 rfl hl.2 he⟩
           | panicked c=>exact he
           | outgrown=>obtain⟨a1,w1,h5⟩:=he;exact⟨a1,w1,h5⟩)
          | exact Rows.mono L λu w'' he=>⟨λhb=>absurd hl.1.2 (by rw[hb];simp),sV js os ho.2 rfl hl.2 he⟩
          | exact L
       | halt x O=>cases x<;>simp only[Oper.upon] at L ⊢<;>exact L
      ·obtain⟨a1,w1,h5⟩:=L.2;exact⟨a1,w1,h5⟩
     ·rename_i hw
      rw[aB hw] at h;exact⟨λhb=>absurd hl.1.2 (by rw[hb];simp),sV js os ho.2 rfl hl.2 h⟩
def fY(k:Nat)(hn:n=ops.size-k)(hl:xv ops Bs abn (List.range' k (ops.size-k))=true)(h:wpList P ops abo (ops.toList.drop k) a w):lF [] P ops abo S Bs n abn a w:=by
 refine sV _ (ops.toList.drop k) (List.ext_getElem? λi=>?_) (by rw[hn,List.length_range']) hl h;rw[List.getElem?_map,List.getElem?_map,List.getElem?_drop];by_cases hi:i<ops.size-k
 ·rw[List.getElem?_range' hi]
  simp only[df,Nat.one_mul,Array.getElem?_toList];rw[Array.getElem?_eq_getElem ap];rfl
 ·rw[List.getElem?_eq_none (by rw[List.length_range'];omega),List.getElem?_eq_none (by rw[bZ];omega)];rfl
end
attribute [irreducible] lF
section
variable{j:Nat}
def Uo{abk:dF->X->Prop}(hi:ops[i]?=some o)(h:wpList P ops (Exit.then abk abo) [o] a w):wpOp P ops abo i abk a w:=by
 unfold wpList at h;unfold wpOp;rw[hi];simp only;split
 ·rename_i hw
  rw[aA hw] at h;refine h.imp (λL=>?_) (λL=>⟨L.1,?_⟩)
  ·unfold Oper.wp at L ⊢
   generalize (execOp a.eval o).run P w=r at *;cases r with
   | ok n O=>
     cases n<;>simp only[Oper.upon] at L ⊢<;>first
      | exact L
      | exact Calls.mono L (λe w'' he=>by
       cases e with
       | returned u=>exact he
       | panicked c=>exact he
       | outgrown=>obtain⟨a1,w1,h5⟩:=he;exact⟨a1,w1,h5⟩)
   | halt x O=>cases x<;>simp only[Oper.upon] at L ⊢<;>exact L
  ·obtain⟨a1,w1,h5⟩:=L.2;exact⟨a1,w1,h5⟩
 ·rename_i hw
  rw[aB hw] at h;exact h
def Rv(i j:Nat){o1 o2:Oper}(k1 k2:aQ)(hi:ops[i]?=some o1)(hj:ops[j]?=some o2)
 (I:wpList P ops (Exit.then (λa' O=>(Bs.contains i=false->S O)∧lF k1 P ops abo S Bs n (abn.setIfInBounds i true) a' O) abo) [o1] a w)
 (G:wpList P ops (Exit.then (λa' O=>(Bs.contains j=false->S O)∧lF k2 P ops abo S Bs n (abn.setIfInBounds j true) a' O) abo) [o2] a w)
 (hr:Region.ready .any ops abn=[i,j]:=by kernel_rfl):lF [] P ops abo S Bs (n+1) abn a w:=by
 delta lF at I G ⊢;refine⟨λh0=>(by rw[hr] at h0;cases h0),λi' tR=>?_⟩;rw[hr] at tR;rcases List.mem_cons.1 tR with rfl|tR
 ·exact Uo hi I
 ·rw[List.mem_singleton.1 tR]
  exact Uo hj G
end
section
variable{κ:Type}{P:Program}{t kt et:TypeId}{ke:κ->Value}{w O:World}{V':aV}
end
def uu(e:dC)(v:K)(l:aQ):dW:=λw V=>Row w V e 1 v l.length (l.map λp=>Value.pointer (some ⟨p,0,none⟩))
def uu.framed(e:dC)(v:K)(l:aQ):eu (uu e v l):=λ_ _ _ h N=>Row.keep h λb hb _=>N b hb
theorem uu.nil(e:dC)(w:X)(V:aV):uu e (Z none 0 0) [] w V:=Row.nil
def Row.range{w:X}{V:aV}{e:dC}{size n:Nat}{v:K}{xs:List K}(h:Row w V e size v n xs)(hn:0<n):∃g cap,v=Z (some ⟨g,0,none⟩) n cap∧V g∧g<(w:Nat)∧n<=cap∧cap<=dG∧w.rangeAt g 0 xs:=by
 obtain⟨A,c,e2,hI,E,hm⟩:=h.jL;rcases h.2 with ⟨_,I⟩|⟨g,cap,cur,I,hV,H,_⟩
 ·omega
 ·rw[I] at e2
  injection e2 with e3 e4 e5;subst e3 e5;obtain⟨ad,ea,_,hb,ia⟩:=hI.2 hn;injection ea with ea;subst ea;refine⟨g,cap,I,hV,hb,E,hm,λj u hu=>?_⟩;rw[<-Addr.add_mid];exact ia j u hu
theorem uu.at{e:dC}{v:K}{l:aQ}{w:X}{V:aV}(h:uu e v l w V)(hl:0<l.length):∃g cap,v=Z (some ⟨g,0,none⟩) l.length cap∧l.length<=cap∧cap<=dG∧g<(w:Nat)∧∀(O:X),Grow w O->∀k(N:k<l.length),O.cell? ⟨g,k,none⟩=some (.pointer (some ⟨l[k],0,none⟩)):=by obtain⟨g,cap,e1,_,H,E,hm,hr⟩:=Row.range h hl;refine⟨g,cap,e1,E,hm,H,λO hw k N=>?_⟩;have:=hr k (.pointer (some ⟨l[k],0,none⟩)) (by simp[N]);rw[cJ] at this;exact (hw.cell (p:=⟨g,k,none⟩) H).trans this
section
variable{Pr:dD}{f:FuncId}{args:aP}{S:dW}{l:List dW}{P:aV}
end
section
def pC(hw:bN o (yielded ops a.tmps)=true)(ty:dC)(x:Operand)(ho:o.op=.load ty x)(g b:Nat)(Y:a.eval x=.pointer (some ⟨g,b,none⟩))(cs:List K)(hr:w.rangeAt g b cs){fs:Array Field}(hu:P.underlying ty=some (.struct fs))(hi:(P.info? ty).map (·.size)=some cs.length)
 (h:wpList P ops abo rest (a.put o.dst (aZ cs.toArray)) w):wpList P ops abo (o::rest) a w:=by unfold wpList;rw[aA hw];exact .inl (wp_load_mid ty x ho g b Y cs _ hr hu rfl hi h)
end
def eJ.range{w:X}{g:Nat}{t:dC}{vs:List K}(h:eJ w g t vs.toArray)(b:Nat)(cs:List K)(E:vs.drop b=cs):w.rangeAt g b cs:=λj u hu=>by subst E;rw[h.cell];simpa using hu
end Go.Hop
section
namespace Go.Hop
open Go.RowKit
open Go.ChangeMaps (setBlock)
section
variable{κ:Type}[DecidableEq κ]{ke:κ->K}{q q' todo:List (κ×K)}
def lG(ke:κ->K)(b r:Nat)(q todo:List (κ×K)):dW:=λw V=>
 (V b∧V r∧b≠r)∧(q.map Prod.fst).Nodup∧∃(es:Array MapEntry)(clock since c0:Nat)(seen:Array Nat),w.heap[b]?=some (.map es clock)∧es.toList.map (λe=>(e.key,e.val))=(q.map λp=>(ke p.1,p.2))∧sP es clock∧
  w.heap[r]?=some (.mapIter (some b) since seen c0)∧(∀x∈es.toList,x.born<since)∧(since<=c0∧since<=clock)∧todo=(q.zip (es.toList.map (·.born))).filterMap λx=>if seen.contains x.2 then none else some x.1
def lG.framed(b r:Nat)(q todo:List (κ×K)):eu (lG ke b r q todo):=λw O V ⟨⟨I,G,h0⟩,L,es,c,s,c0,seen,h4,h5,h6,h7,h8⟩ N=>⟨⟨I,G,h0⟩,L,es,c,s,c0,seen,(N b I).trans h4,h5,h6,(N r G).trans h7,h8⟩
theorem IW:∀(q:List (κ×K))(bs:aQ),q.length=bs.length->(q.zip bs).filterMap (λx=>if (#[]:Array Nat).contains x.2 then none else some x.1)=q
 | [],[],_=>rfl
 | p::q,b::bs,h=>by
   have:=IW q bs (by simpa using h);simp at this ⊢;exact this
theorem St.range(ht:P.underlying t=some (.map kt et))(h:St V w0 l w)(i:Nat)(hi:l[i]?=some (.o (eI ke b q))):∃O,(Instr.range t (.map (some b))).run P w=.ok ((((w:Nat),0):K)) O∧St V w0 (l.set i (.o (lG ke b (w:Nat) q q))) O:=by
 obtain⟨U,hU,_⟩:=h.own.see i (iD hi);obtain⟨hv,hn,es,c,hb,hp,z7⟩:=(show eI ke b q w U from hU);have fS:b<(w:Nat):=(Array.getElem?_eq_some_iff.1 hb).1;have H:(getObj b).run P w=.ok (.map es c) w:=MapKept.run_getObj_map hb;refine⟨w.alloc (.mapIter (some b) c #[] c),by simp[Instr.range,run_underlying ht,H,Result.andThen],?_⟩;have gP:Grow w (w.alloc (.mapIter (some b) c #[] c)):=(Below.refl _ w).alloc (bh _) _;have I:=St.step (a:=[.o (eI ke b q)]) (a2:=[.o (lG ke b (w:Nat) q q)]) (b:=l.eraseIdx i) (h.front i hi) ⟨lG.framed _ _ _ _,trivial⟩ λU1 hM TY=>by obtain⟨U2,_,eD,_,k1,_⟩:=hM;refine⟨⟨iY U1 w (w.alloc (.mapIter (some b) c #[] c)),λ_=>False,?_,trivial,λ_ h=>h,λ_ h=>h.elim,λ_ _ h=>h⟩,dM.dK gP⟩;refine⟨⟨.inl (k1 b eD.1),.inr ⟨bh _,by simp⟩,by omega⟩,hn,es,c,c,c,#[],(gP.block b fS).trans hb,hp,z7,heap_alloc_new w _,z7.2,⟨bh _,bh _⟩,?_⟩;have:=congrArg List.length hp;simp only[bj] at this;exact (IW q _ (by rw[bj];exact this.symm)).symm
 exact I.perm (iG hi).symm
def rE(w:X)(r:Nat)(o:Obj):dM (λc=>c=r) w (setBlock w r o):=pW w r o
theorem xw{α β:Type}{f g:α->Option β}:∀{l:List α},(∀x∈l,f x=g x)->l.filterMap f=l.filterMap g
 | [],_=>rfl
 | x::l,h=>by
   rw[List.filterMap_cons,List.filterMap_cons,h x (by simp),xw λy hy=>h y (by simp[hy])]
theorem rF{α:Type}:∀{l:List α}{i:Nat}{x:α},l[i]?=some x->l.set i x=l
 | [],_,_,h=>by simp at h
 | y::l,0,x,h=>by simp at h;rw[h];rfl
 | y::l,i+1,x,h=>congrArg (y::·) (rF (by simpa using h))
theorem rV{α β:Type}[DecidableEq β](f:α->β):∀{l:List α}{j:Nat}{x:α},(l.map f).Nodup->l[j]?=some x->(l.filter λy=>decide (f y≠f x))=l.eraseIdx j
 | [],_,_,_,h=>by simp at h
 | y::l,0,x,hn,h=>by
   simp at h;subst h;rw[List.filter_cons_of_neg (by simp),List.eraseIdx_zero,List.tail_cons,List.filter_eq_self];intro z hz;simp only[bQ,List.nodup_cons] at hn;simpa using λe=>hn.1 (List.mem_map.2 ⟨z,hz,e⟩)
 | y::l,j+1,x,hn,h=>by
   simp only[bQ,List.nodup_cons] at hn;have h':l[j]?=some x:=by simpa using h
   have jT:f y≠f x:=λe=>hn.1 (by rw[e];exact List.mem_map.2 ⟨x,List.mem_of_getElem? h',rfl⟩);rw[List.filter_cons_of_pos (by simpa using jT),rV f hn.2 h'];rfl
theorem zV{α β:Type}:∀(l:List α)(m:List β)(j:Nat),(l.zip m).eraseIdx j=(l.eraseIdx j).zip (m.eraseIdx j)
 | [],m,j=>by simp
 | x::l,[],j=>by cases j<;>simp
 | x::l,y::m,0=>rfl
 | x::l,y::m,j+1=>by
   show (x,y)::(l.zip m).eraseIdx j=_;rw[zV l m j];rfl
def Nu{q:List (κ×K)}(hq:(q.map Prod.fst).Nodup)(hb:bs.Nodup){x y:(κ×K)×Nat}(Y:x∈q.zip bs)(hy:y∈q.zip bs):x.1.1=y.1.1↔x.2=y.2:=by
 obtain⟨i,hi⟩:=List.getElem?_of_mem Y;obtain⟨j,hj⟩:=List.getElem?_of_mem hy;rw[List.getElem?_zip_eq_some] at hi hj;constructor
 ·intro e
  have I:(q.map Prod.fst)[i]?=some x.1.1:=by rw[List.getElem?_map,hi.1];rfl
  have G:(q.map Prod.fst)[j]?=some x.1.1:=by rw[List.getElem?_map,hj.1,e];rfl
  obtain rfl:=mE hq I G;have:=hi.2.symm.trans hj.2;injection this
 ·intro e
  obtain rfl:=mE hb hi.2 (by rw[hj.2,e]);have:=hi.1.symm.trans hj.1;injection this with this;rw[this]
def Nv{q:List (κ×K)}{seen:Array Nat}{p:κ×K}{z:Nat}(hq:(q.map Prod.fst).Nodup)(hb:bs.Nodup)(hz:(p,z)∈q.zip bs):lD ((q.zip bs).filterMap λx=>if seen.contains x.2 then none else some x.1) p.1=(q.zip bs).filterMap λx=>if (seen.push z).contains x.2 then none else some x.1:=by
 unfold lD;rw[List.filter_filterMap];refine xw λx Y=>?_;have I:=Nu hq hb Y hz;rw[contains_push];cases hs:seen.contains x.2
 ·by_cases hxz:x.2=z
  ·have G:=I.2 hxz
   simp[hxz,G]
  ·have G:¬ x.1.1=p.1:=λe=>hxz (I.1 e)
   simp[hxz,G]
 ·simp
def St.Zv(h:St V w0 l w)(i:Nat)(hi:l[i]?=some (.o (lG ke b r q todo)))(ty:dC):(todo=[]∧(Instr.next ((r:K)) false ty).run P w=.ok (a_ #[aY false]) w)∨
 ∃k v O,(k,v)∈todo∧(k,v)∈q∧(Instr.next ((r:K)) false ty).run P w=.ok (a_ #[aY true,ke k,v]) O∧(Instr.entry ((r:K))).run P O=.ok (a_ #[ke k,v]) O∧St V w0 (l.set i (.o (lG ke b r q (lD todo k)))) O:=by
 obtain⟨U,hU,_⟩:=h.own.see i (iD hi);obtain⟨⟨hv,hvr,jT⟩,hn,es,c,s,c0,seen,hb,hp,z7,hr,hold,⟨Y5,Rx⟩,K1⟩:=(show lG ke b r q todo w U from hU);have fj:q.length=es.toList.length:=by have:=congrArg List.length hp;simpa using this.symm
 have QH:r<(w:Nat):=(Array.getElem?_eq_some_iff.1 hr).1;rcases run_next_at (P:=P) w ty r b s c0 seen es c hr hb hold Y5 with ⟨h0,eR⟩|⟨e,he,w1,Y6,eR⟩
 ·refine .inl ⟨?_,eR⟩
  rw[K1,List.filterMap_eq_nil_iff];intro x Y;have hxb:x.2∈es.toList.map (·.born):=(List.of_mem_zip Y).2;obtain⟨e,he,I⟩:=List.mem_map.1 hxb;have G:=all_seen es seen h0 e he;rw[<-I,aA (by simpa using G)]
 ·right
  obtain⟨K0,he2⟩:=mem_left he;obtain⟨j,hj,zQ⟩:=List.getElem_of_mem K0;have TW:j<q.length:=by omega
  have Up:es.toList[j].key=ke q[j].1∧es.toList[j].val=q[j].2:=by have L:=congrArg (λl=>l[j]?) hp;simp only[List.getElem?_map,List.getElem?_eq_getElem hj,List.getElem?_eq_getElem TW,df] at L;injection L with L;injection L with L h4;exact⟨L,h4⟩
  rw[zQ] at Up;have wv:w1.heap=w.heap:=by rcases Y6 with rfl|rfl<;>rfl
  have hzj:(q[j],e.born)∈q.zip (es.toList.map (·.born)):=by refine List.mem_of_getElem? (i:=j) ?_;rw[List.getElem?_zip_eq_some];exact⟨List.getElem?_eq_getElem TW,by rw[List.getElem?_map,List.getElem?_eq_getElem hj,zQ];rfl⟩
  have m9:q[j]∈todo:=by rw[K1];exact List.mem_filterMap.2 ⟨_,hzj,by rw[aB (by simpa using he2)]⟩
  have hS:St V w0 l w1:=by
   rcases Y6 with I|I
   ·rw[I];exact h
   ·rw[I];exact h.grow (Grow.refl _).drew
  have Qc:(setBlock w1 r (.mapIter (some b) s (seen.push e.born) c)).heap[r]?=some (.mapIter (some b) s (seen.push e.born) c):=heap_set w1 r _ (by rw[wv];exact QH);have hsb:(setBlock w1 r (.mapIter (some b) s (seen.push e.born) c)).heap[b]?=some (.map es c):=by show (w1.heap.setIfInBounds r _)[b]?=_;rw[Array.getElem?_setIfInBounds,aB (λe=>jT e.symm),wv];exact hb
  refine⟨q[j].1,q[j].2,setBlock w1 r (.mapIter (some b) s (seen.push e.born) c),m9,bF TW,by rw[eR,Up.1,Up.2],?_,?_⟩
  ·have:=run_entry_at (P:=P) _ r b s seen es c e Qc hsb K0 z7.1
   rw[Up.1,Up.2] at this;exact this
  ·have I:=St.step (a:=[.o (lG ke b r q todo)]) (a2:=[.o (lG ke b r q (lD todo q[j].1))]) (b:=l.eraseIdx i) (w:=w1) (O:=setBlock w1 r (.mapIter (some b) s (seen.push e.born) c)) (hS.front i hi) ⟨lG.framed _ _ _ _,trivial⟩ λU1 hM TY=>by
    obtain⟨U2,_,eD,_,k1,_⟩:=hM;have hjr:dM U1 w1 (setBlock w1 r (.mapIter (some b) s (seen.push e.born) c)):=(rE w1 r _).imp λx Y=>by rw[show x=r from Y];exact k1 r eD.1.2.1
    refine⟨⟨U1,λ_=>False,?_,trivial,λ_ h => .inl h,λ_ h=>h.elim,λ_ _ h=>h⟩,hjr⟩;refine⟨⟨k1 b eD.1.1,k1 r eD.1.2.1,jT⟩,hn,es,c,s,c,seen.push e.born,hsb,hp,z7,Qc,hold,⟨Rx,Rx⟩,?_⟩;rw[K1];exact Nv hn z7.1 hzj
   exact I.perm (iG hi).symm
def St.a3V(abk:oo P kt ke)(ht:P.underlying t=some (.map kt et))(h:St V w0 l w)(i:Nat)(hi:l[i]?=some (.o (lG ke b r q todo)))(k:κ):∃O,(∀ty,(Builtin.delete_ #[t,kt] ty #[.map (some b),ke k]).run P w=.ok (a_ #[]) O)∧St V w0 (l.set i (.o (lG ke b r (lD q k) (lD todo k)))) O:=by
 obtain⟨U,hU,_⟩:=h.own.see i (iD hi);obtain⟨⟨hv,hvr,jT⟩,hn,es,c,s,c0,seen,hb,hp,z7,hr,hold,⟨Y5,Rx⟩,K1⟩:=(show lG ke b r q todo w U from hU);have fj:q.length=es.toList.length:=by have:=congrArg List.length hp;simpa using this.symm
 have fS:b<(w:Nat):=(Array.getElem?_eq_some_iff.1 hb).1;obtain⟨x,Y,nh⟩:=abk.find w k es.toList 0 (q.map Prod.fst) (oY hp);have H:(getObj b).run P w=.ok (.map es c) w:=MapKept.run_getObj_map hb;rcases nh with ⟨I,rfl⟩|⟨j,e,I,G,rfl⟩
 ·have hq:lD q k=q:=by
   unfold lD;rw[List.filter_eq_self];intro p hp;simp only[ne_eq,decide_not,Bool.not_eq_eq_eq_not,Bool.not_true,decide_eq_false_iff_not];exact λe=>I (by rw[<-e];exact List.mem_map.2 ⟨p,hp,rfl⟩)
  have CQ:lD todo k=todo:=by
   unfold lD;rw[List.filter_eq_self];intro p hp;simp only[ne_eq,decide_not,Bool.not_eq_eq_eq_not,Bool.not_true,decide_eq_false_iff_not];rw[K1] at hp;obtain⟨y,hy,vr⟩:=List.mem_filterMap.1 hp;have hyq:=(List.of_mem_zip hy).1;have:y.1=p:=by
    split at vr;·cases vr
    ·injection vr
   exact λe=>I (by rw[<-e,<-this];exact List.mem_map.2 ⟨_,hyq,rfl⟩)
  rw[hq,CQ]
  have hw:setBlock w b (.map es c)=w:=by
   have:w.heap.setIfInBounds b (.map es c)=w.heap:=by
    apply Array.ext_getElem?;intro i;rw[Array.getElem?_setIfInBounds];split;·rename_i e;subst e;first|exact hb.symm|(rw[aA fS];exact hb.symm)
    ·rfl
   show ({ w with heap:=_ }:X)=w;rw[this]
  refine⟨w,λty=>?_,h.perm (by rw[rF hi])⟩
  have h6:(setObj b (.map es c)).run P w=.ok () (setBlock w b (.map es c)):=MapKept.run_setObj_map _ hb
  rw[hw] at h6
  simp[Builtin.delete_,run_underlying ht,H,abk.check w _ k,Y,Result.andThen,h6]
 ·have zQ:j<es.size:=by simpa using (List.getElem?_eq_some_iff.1 I).1
  have hq:q[j]?=some (k,e.val):=sQ hp I G;have Uq:lD q k=q.eraseIdx j:=rV Prod.fst hn hq;have hbj:(es.toList.map (·.born))[j]?=some e.born:=by rw[List.getElem?_map,I];rfl
  have hzj:(q.zip (es.toList.map (·.born)))[j]?=some ((k,e.val),e.born):=by rw[List.getElem?_zip_eq_some];exact⟨hq,hbj⟩
  have hzn:((q.zip (es.toList.map (·.born))).map λx=>x.1.1).Nodup:=by
   have e1:(q.zip (es.toList.map (·.born))).map (λx=>x.1.1)=q.map Prod.fst:=by rw[show (λx:(κ×K)×Nat=>x.1.1)=Prod.fst ∘ Prod.fst from rfl,<-List.map_map,List.map_fst_zip (by rw[bj];omega)]
   rw[e1];exact hn
  have Ve:lD todo k=((lD q k).zip ((es.eraseIdx j zQ).toList.map (·.born))).filterMap λx=>if seen.contains x.2 then none else some x.1:=by rw[Uq,Array.toList_eraseIdx,mF,<-zV,<-rV (λx:(κ×K)×Nat=>x.1.1) hzn hzj,K1];unfold lD;rw[List.filter_filterMap,List.filterMap_filter];refine xw λx _=>?_;cases seen.contains x.2<;>by_cases Y:x.1.1=k<;>simp[Y]
  have hsb:(setBlock w b (.map (es.eraseIdx j zQ) c)).heap[b]?=some (.map (es.eraseIdx j zQ) c):=heap_set w b _ fS;have Fw:(setBlock w b (.map (es.eraseIdx j zQ) c)).heap[r]?=some (.mapIter (some b) s seen c0):=by show (w.heap.setIfInBounds b _)[r]?=_;rw[Array.getElem?_setIfInBounds,aB jT];exact hr
  refine⟨setBlock w b (.map (es.eraseIdx j zQ) c),λty=>?_,?_⟩
  ·have h6:(setObj b (.map (es.eraseIdx j zQ) c)).run P w=.ok () (setBlock w b (.map (es.eraseIdx j zQ) c)):=MapKept.run_setObj_map _ hb
   have h7:es.eraseIdxIfInBounds j=es.eraseIdx j zQ:=by rw[Array.eraseIdxIfInBounds,dif_pos zQ]
   simp[Builtin.delete_,run_underlying ht,H,abk.check w _ k,Y,Result.andThen,h6,h7]
  ·have I:=St.step (a:=[.o (lG ke b r q todo)]) (a2:=[.o (lG ke b r (lD q k) (lD todo k))]) (b:=l.eraseIdx i) (w:=w) (O:=setBlock w b (.map (es.eraseIdx j zQ) c)) (h.front i hi) ⟨lG.framed _ _ _ _,trivial⟩ λU1 hM TY=>by
    obtain⟨U2,_,eD,_,k1,_⟩:=hM;have hjr:dM U1 w (setBlock w b (.map (es.eraseIdx j zQ) c)):=(rE w b _).imp λx Y=>by rw[show x=b from Y];exact k1 b eD.1.1
    refine⟨⟨U1,λ_=>False,?_,trivial,λ_ h => .inl h,λ_ h=>h.elim,λ_ _ h=>h⟩,hjr⟩;refine⟨⟨k1 b eD.1.1,k1 r eD.1.2.1,jT⟩,?_,es.eraseIdx j zQ,c,s,c0,seen,hsb,?_,z7.erase zQ,Fw,λx Y=>?_,⟨Y5,Rx⟩,Ve⟩;·rw[Uq];exact hn.sublist ((List.eraseIdx_sublist q j).map Prod.fst)
    ·rw[Uq,Array.toList_eraseIdx,mF,mF,hp]
    ·rw[Array.toList_eraseIdx] at Y
     exact hold x (cY Y)
   exact I.perm (iG hi).symm
def BI(b r:Nat)(w:X):Nat:=match w.heap[b]?,w.heap[r]? with
 | some (.map es _),some (.mapIter _ _ seen _)=>((es.toList.map (·.born)).filter λz => !seen.contains z).length
 | _,_=>0
theorem Dq(seen:Array Nat):∀(q:List (κ×K))(bs:aQ),q.length=bs.length->((q.zip bs).filterMap λx=>if seen.contains x.2 then none else some x.1).length=(bs.filter λz => !seen.contains z).length
 | [],[],_=>rfl
 | p::q,z::bs,h=>by
   have ih:=Dq seen q bs (by simpa using h);rw[List.zip_cons_cons,List.filterMap_cons,List.filter_cons];cases E:seen.contains z
   ·simp only[Bool.false_eq_true,if_false,Bool.not_false,if_true,bD]
    rw[ih]
   ·simp only[if_true,Bool.not_true,Bool.false_eq_true,if_false]
    exact ih
def St.Nw(h:St V w0 l w)(i:Nat)(hi:l[i]?=some (.o (lG ke b r q todo))):BI b r w=todo.length:=by
 obtain⟨U,hU,_⟩:=h.own.see i (iD hi);obtain⟨_,hn,es,c,s,c0,seen,hb,hp,z7,hr,hold,_,K1⟩:=(show lG ke b r q todo w U from hU);have fj:q.length=es.toList.length:=by have:=congrArg List.length hp;simpa using this.symm
 unfold BI;rw[hb,hr,K1];exact (Dq seen q _ (by rw[bj];exact fj)).symm
def St.Nx(h:St V w0 l w)(i:Nat)(hi:l[i]?=some (.o (lG ke b r q todo))):(q.map Prod.fst).Nodup:=by obtain⟨U,hU,_⟩:=h.own.see i (iD hi);exact (show lG ke b r q todo w U from hU).2.1
def zW{α β:Type}{l:List (α×β)}(hn:(l.map Prod.fst).Nodup){x y:α×β}(Y:x∈l)(hy:y∈l)(e:x.1=y.1):x=y:=by obtain⟨i,hi⟩:=List.getElem?_of_mem Y;obtain⟨j,hj⟩:=List.getElem?_of_mem hy;obtain rfl:=mE hn (i:=i) (j:=j) (a:=x.1) (by rw[List.getElem?_map,hi];rfl) (by rw[List.getElem?_map,hj,e];rfl);rw[hi] at hj;injection hj
def Kx{q:List (κ×K)}{k:κ}(h:(k,v)∈q):(lD q k).length<q.length:=by unfold lD;refine Nat.lt_of_le_of_ne (c_ _ _) λe=>?_;have:=List.length_filter_eq_length_iff.1 e _ h;simp at this
def St.rend(h:St V w0 l w)(i:Nat)(hi:l[i]?=some (.o (lG ke b r q todo))):St V w0 (l.set i (.o (eI ke b q))) w:=by
 have I:=St.cls (a:=[.o (lG ke b r q todo)]) (h.front i hi) (eI.framed b q) λU hM=>by obtain⟨U',I,G⟩:=nV hM 0 rfl;obtain⟨⟨hv,_⟩,hn,es,c,_,_,_,hb,hp,z7,_⟩:=(show lG ke b r q todo w U' from I);exact⟨G b hv,hn,es,c,hb,hp,z7⟩
 exact I.perm (iG hi).symm
end
section
def lH(hw:bN o (yielded ops a.tmps)=true)(it:Operand)(ho:o.op=.next it false)(hit:a.eval it=(r:K))(eR:(Instr.next ((r:K)) false o.type).run P w=.ok v O)(h:wpList P ops abo rest (a.put o.dst v) O):wpList P ops abo (o::rest) a w:=ou hw (by simp[execOp,ho,hit,eR,Result.andThen]) h
end
end Go.Hop
end
