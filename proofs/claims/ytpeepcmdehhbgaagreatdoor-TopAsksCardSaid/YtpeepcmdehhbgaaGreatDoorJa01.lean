import Derived.Test.YtpeepcmdehhbgaaGreatDoorJa00
import Derived.Deep.QuietTactic
import Derived.BigQuiet
import Derived.StillTailTactics
import Derived.Deep.Upon
import Derived.Laws.IdiomStrings
import Derived.Laws.BytesArg
import Derived.Lib.SliceRun
import Derived.ProofKit
import Derived.OpenShut
import Derived.JoinedCond
import Derived.Lib.SlBytesConst
import Derived.Lib.AppendStr
import Derived.Maps.OwnSet
import Derived.Maps.RangeWalk
import Derived.StringKeys
import Derived.OrdersHeld
import Derived.Sort.Walk0
import Derived.Deep.LoopGhost
set_option linter.all false
set_option maxRecDepth 100000
set_option maxHeartbeats 2000000
open Go.Value renaming int->ae,slice->Z,string->aX,bool->aY,agg->aZ,tuple->a_
open Go.Ending renaming returned->b5
open Go.IntKind renaming i64->af,u64->ah
open Go.Proofs.Tryz renaming prog->W,underlying9->cW,underlying23->d9,underlying5->dm
open Go.Lib renaming hid->Q
open List renaming length_append->bd,append_nil->bm,length_take->bn,append_assoc->bp,eq_nil_of_length_eq_zero->bu,length_cons->bD,take_of_length_le->bH,flatMap_cons->bJ,length_drop->bO,map_cons->bQ,nil_append->ch,length_nil->cx,size_toArray->cy,cons_append->cD,take_succ_cons->cG,drop_of_length_le->cH,prefix_append->cL,map_nil->cQ,map_toArray->cV,take_append_drop->dt,length_map->bj,getElem_mem->bF,mem_of_mem_take->bW,getElem_map->di,length_singleton->bv,map_append->bI,flatMap_append->bL,flatMap_nil->cE,not_mem_nil->cF,mem_cons->cI,mem_of_mem_eraseIdx->cY,take_succ_eq_append_getElem->br,range->bV,map_congr_left->cO
open Nat renaming le_refl->bh,zero_le->bo,lt_of_lt_of_le->bw,le_trans->bB,eq_zero_or_pos->b_,min_eq_left->cz,zero_add->cJ,mul_le_mul_right->cK,mul_one->cM
open Go.Builtin renaming zeroCells->bM,append_->cn
open Go.Region renaming wanted->bN,ready->cC,noSelect->cZ
open Bool renaming and_eq_true->bU,false_ne_true->cB
open Array renaming length_toList->bZ
open Go renaming Value->K,World->X,Calls->dz,Addr->dA,TypeId->dC,Program->dD,Oper->dE,Act->dF,maxLen->dG
open Option renaming map_some->df
open Int renaming toNat_natCast->cA
open Go (J az aE aA aB aC aD ay aj am ap aw aL aK aJ aI aH aV aU aT aR aQ aP aO aN)
section
variable{l r:aT}{n k i bytes m c B k':Nat}{w O w0:X}{P Pr:dD}{V V' U:aV}{e t:dC}{o:dE}{v z:K}{ops:Array dE}{A:aU}{a:dF}{xs news:List K}{rest:List dE}{abo:Go.Exit->dF->X->Prop}{R:K->dF->Prop}{args:aP}
namespace Go.Hop
open RowKit
section
variable{a':dF}{C:X->Prop}{abk:dF->Prop}{f:FuncId}{vs:aP}
def QV(R:K->dF->Prop)(a:dF)(o:dE)(w:X):Result Next->Prop
 | .ok (.value v) O=>O=w∧R v (a.put o.dst v)
 | _=>False
def Zd(R:FuncId->Array K->Prop)(w:X):Result Next->Prop
 | .ok (.enter f vs) O=>O=w∧R f vs
 | _=>False
def a3F:QV R a o w (.ok (.value v) O)=(O=w∧R v (a.put o.dst v)):=rfl
def a3G{R:FuncId->Array K->Prop}:Zd R w (.ok (.enter f vs) O)=(O=w∧R f vs):=rfl
attribute [go_sem] a3F a3G
def QW{c:Prop}[Decidable c]{r s:Result Next}(E:c)(h:QV R a o w r):QV R a o w (if c then r else s):=by rw[aA E];exact h
def Kg(hy:∀w,C w->∀R:K->dF->Prop,R v a'->QV R a o w ((execOp a.eval o).run P w))(N:∃w,C w)(h:abk a'):o.quiet P a C abk:=by
 have key:∀w,C w->(execOp a.eval o).run P w=.ok (.value v) w∧a.put o.dst v=a':=λw hC=>by
  have I:=hy w hC (λu b=>u=v∧b=a') ⟨rfl,rfl⟩;cases hr:(execOp a.eval o).run P w with
  | ok n O=>
    rw[hr] at I;cases n with
    | value u=>
      obtain⟨rfl,rfl,G⟩:=I;exact⟨rfl,G⟩
    | _=>exact I.elim
  | halt _ _=>rw[hr] at I;exact I.elim
 refine⟨v,λw hC=>?_,?_⟩
 ·unfold Oper.quietAt
  rw[(key w hC).1];exact⟨rfl,rfl⟩
 ·obtain⟨w,hC⟩:=N
  rw[(key w hC).2];exact h
theorem FH(hy:∀w,C w->∀R:FuncId->Array K->Prop,R f vs->Zd R w ((execOp a.eval o).run P w))(E:∀w,C w->dz P f vs w λe O=>e=b5 v∧C O)(h:abk (a.put o.dst v)):o.quiet P a C abk:=by
 refine⟨v,λw hC=>?_,h⟩;have I:=hy w hC (λg us=>g=f∧us=vs) ⟨rfl,rfl⟩;unfold Oper.quietAt;cases hr:(execOp a.eval o).run P w with
 | ok n O=>
   rw[hr] at I;cases n with
   | enter g us=>
     obtain⟨rfl,rfl,rfl⟩:=I;exact⟨rfl,E _ hC⟩
   | _=>exact I.elim
 | halt _ _=>rw[hr] at I;exact I.elim
def qc(h:∀w1,Grow w0 w1->dz P f vs w1 λe O=>e=b5 v∧Grow w1 O):∀w1,Grow w0 w1->dz P f vs w1 λe O=>e=b5 v∧Grow w0 O:=λw1 H=>(h w1 H).mono λ_ _ ⟨he,G⟩=>⟨he,H.trans G⟩
def qs(h:∀w1,dz P f vs w1 λe O=>e=b5 v∧w1=O):∀w1,Grow w0 w1->dz P f vs w1 λe O=>e=b5 v∧Grow w0 O:=λw1 H=>(h w1).mono λ_ _ ⟨he,G⟩=>⟨he,G▸H⟩
structure Ui(p:Prop):Prop where
 out:p
def fh{id:Nat}{abo:Exit->Act->World->Prop}{l:List Oper}{R:Prop}(h:R)
 (hs:Ui R->wpQuiet P l.toArray (Grow w) (λa'=>∀O,Grow w O->abo .normal a' O) l a:=by
  intro T;repeat (first|go_big_quiet_skip|(go_big_quiet_want;first|(refine Kg (λw1 H R T=>by go_simp;first|exact T|(refine QW ap ?_;go_simp;exact T)) ⟨_,Grow.refl _⟩ ?_;go_big_quiet_on)|(refine FH (λw1 H R T=>by go_simp;exact T) (by first|exact qc (by with_reducible assumption)|exact qs (by with_reducible assumption)) ?_;go_simp;go_big_quiet_on)))
  exact wpQuiet_nil T.out)
 (hm:P.follows .mixedOrders=true:=by rfl) (hB:Region.lexB .any l.toArray=true:=by kernel_rfl):(Code.region id l.toArray true).wp P abo a w:=
 wp_region_quiet (C:=Grow w) hm hB (Grow.refl _).drew (by simpa using hs ⟨h⟩)
def sc(h:∀w1,dz P f vs w1 λe O=>e=b5 v∧w1=O):dz P f vs w λe O=>e=b5 v∧O=w:=(h w).mono λ_ _ ⟨he,G⟩=>⟨he,G.symm⟩
def sg(h:∀w1,Grow w0 w1->dz P f vs w1 λe O=>e=b5 v∧w1=O)(H:Grow w0 w):dz P f vs w λe O=>e=b5 v∧O=w:=(h w H).mono λ_ _ ⟨he,G⟩=>⟨he,G.symm⟩
def jo{id:Nat}{abo:Exit->Act->World->Prop}{l:List Oper}{R:World->Prop}(n:Nat)(h:∀w1,Grow w w1->R w1)
 (hs:∀w1,Grow w w1->Ui (R w1)->wpStill P l.toArray w1 (λa'=>wpList P l.toArray abo (l.drop n) a' w1) (l.take n) a:=by
  intro w1 H T;simp only[List.take_succ_cons,List.take_zero,List.drop_succ_cons,List.drop_zero];repeat (refine wpStill_step (λabk hK=>?_);go_simp;first|(refine hK _ ?_;clear hK abk)|(refine⟨_,(by first|exact sg (by with_reducible assumption) H|exact sc (by with_reducible assumption)),hK _ ?_⟩;clear hK abk))
  exact wpStill_nil T.out)
 (hm:P.follows .mixedOrders=true:=by rfl) (hB:Region.lexTailB .any l.toArray n=true:=by kernel_rfl):(Code.region id l.toArray true).wp P abo a w:=
 wp_region_still_tail n hm hB (hs w.drew (Grow.refl w).drew ⟨h _ (Grow.refl w).drew⟩)
end
def Own(w:X)(V:aV)(e:dC)(size:Nat)(v:K)(n:Nat)(xs:List K):Prop:=
 xs.length=n*size∧((v=Z none 0 0∧n=0)∨
  ∃g cap cur,v=Z (some ⟨g,0,none⟩) n cap∧V g∧w.heap[g]?=some (.cells cur e (0,0))∧n<=cap∧cap<=dG∧(cur.size=cap*size∨(cap=n∧n*size<=cur.size))∧cur.toList.take (n*size)=xs)
def iY(V:aV)(w O:X)(b:Nat):Prop:=V b∨((w:Nat)<=b∧b<(O:Nat))
section
variable{size:Nat}
def Own.nil:Own w V e size (Z none 0 0) 0 []:=⟨by simp,.inl ⟨rfl,rfl⟩⟩
def Own.mono(h:Own w V e size v n xs)(hV:∀b,V b->V' b):Own w V' e size v n xs:=by
 refine⟨h.1,?_⟩;rcases h.2 with G|⟨g,cap,cur,I,G,L⟩
 ·exact .inl G
 ·exact .inr ⟨g,cap,cur,I,hV g G,L⟩
def Own.keep(h:Own w V e size v n xs)(N:∀b,V b->O.heap[b]?=w.heap[b]?):Own O V e size v n xs:=by
 refine⟨h.1,?_⟩;rcases h.2 with G|⟨g,cap,cur,I,G,L,h4⟩
 ·exact .inl G
 ·exact .inr ⟨g,cap,cur,I,G,(N g G).trans L,h4⟩
def Own.wO{base:Nat}(h:w.ownsRow base e size v n xs)(hV:∀g,v.ownBlock=some g->V g):Own w V e size v n xs:=by
 refine⟨h.1,?_⟩;rcases h.2 with G|⟨g,cap,cur,I,_,L,h4,h5,h6,h7⟩
 ·exact .inl G
 ·exact .inr ⟨g,cap,cur,I,hV g (by rw[I];rfl),L,h4,h5,.inl h6,h7⟩
def Own.reads(h:Own w V e size v n xs):∃A c,v=Z A n c∧Reads w (w:Nat) size A n xs∧n<=c∧c<=dG:=by
 rcases h.2 with ⟨rfl,rfl⟩|⟨g,cap,cur,rfl,_,H,hn,hm,iZ,j9⟩
 ·exact⟨none,0,rfl,⟨h.1,λhh=>absurd hh ap⟩,bh _,bo _⟩
 ·refine⟨_,cap,rfl,⟨h.1,λ_=>⟨_,rfl,(Array.getElem?_eq_some_iff.1 H).1,λj u hu=>?_⟩⟩,hn,hm⟩
  have qC:((g,0):dA).add j=⟨g,j,none⟩:=by unfold Addr.add;split<;>simp_all
  rw[qC,cell_of_row _ _ _ _ _ _ H];rw[<-j9,List.getElem?_take] at hu;split at hu;·simpa using hu
  ·cases hu
def Own.cut(h:Own w V e size (Z A n c) n xs)(N:k<=n):Own w V e size (Z A k k) k (xs.take (k*size)):=by
 have hks:k*size<=n*size:=cK _ N;refine⟨by rw[bn,h.1];exact cz hks,?_⟩;rcases h.2 with ⟨I,rfl⟩|⟨g,cap,cur,I,hV,H,hn,hm,iZ,j9⟩
 ·injection I with I G L
  subst I;obtain rfl:k=0:=by omega
  exact .inl ⟨rfl,rfl⟩
 ·injection I with I G L
  subst I;subst L;refine .inr ⟨g,k,cur,rfl,hV,H,bh _,by omega,.inr ⟨rfl,?_⟩,?_⟩
  ·have:=cK size hn
   rcases iZ with iZ|⟨_,iZ⟩<;>omega
  ·rw[<-j9,List.take_take,cz hks]
def Own.put(h:Own w V e size v n xs){g:Nat}(H:¬ V g)(i:Nat)(u:K):Own (w.setCell ⟨g,i,none⟩ u) V e size v n xs:=h.keep λb hb=>Below.heap_setCell w ⟨g,i,none⟩ u b (λe=>H (by rw[<-show b=g from e];exact hb))
def Own.grow(h:Own w V e size v n xs)(hV:∀b,V b->b<(w:Nat))(H:Grow w O):Own O V e size v n xs:=h.keep λb hb=>H.block b (hV b hb)
def gg(w:X)(p:dA)(u:K):(w.setCell p u).heap.size=(w:Nat):=by simp[World.setCell]
theorem dM.put{a b:X}(h:dM V a b){g:Nat}(H:V g)(i:Nat)(u:K):dM V a (b.setCell ⟨g,i,none⟩ u):=h.trans (dM.jA ((fI.refl g b).put i u) H)
end
section
variable{size:Nat}
theorem Reads.src(abl:Elem P t e size bytes z)(hr:Reads w B size A m news)(hm:m=0):Src P size t (Z A m c) 0 [] w:=by
 subst hm;cases A with
 | none=>exact Src.ofNil w abl.und c
 | some ad=>exact Src.ofSlice w abl.und ad 0 c [] (by simp) (by simp) (by simp)
def jq(abl:Elem P t e size bytes z)(w:X)(ty:Nat)(v:K)(n:Nat)(xs:List K)(im:Own w V e size v n xs)
 (B:Nat) (A:aU) (m c:Nat) (news:List K) (hr:Reads w B size A m news) (I:∀u∈news,u.oneCell'=true)
 (fw:(n+m)*bytes<=140737488355328):∃v' O,(cn #[t,t] ty #[v,Z A m c]).run P w=.ok v' O∧Own O (iY V w O) e size v' (n+m) (xs++news)∧dM V w O:=by
 have whole:w.ownsRow 0 e size v n xs->(∀g,v.ownBlock=some g->V g)->∃v' O,(cn #[t,t] ty #[v,Z A m c]).run P w=.ok v' O∧Own O (iY V w O) e size v' (n+m) (xs++news)∧dM V w O:=λho hV=>by
  obtain⟨v',O,eR,G,L,h4⟩:=oa abl w 0 ty v n xs ho B A m c news hr I fw (bo _);refine⟨v',O,eR,.wO G λg H=>?_,⟨L.os,L.tape,L.output,L.size,λk N hv=>L.block k N (λe=>hv (hV k e.symm))⟩⟩;rcases h4 with h4|h4
  ·exact .inl (hV g (by rw[<-h4,H]))
  ·rw[H] at h4;injection h4 with h4
   have:=G.lt g H;exact .inr ⟨by omega,this.2⟩
 rcases im.2 with ⟨rfl,rfl⟩|⟨g,cap,cur,rfl,hV,H,hn,hm,iZ,j9⟩
 ·exact whole ⟨im.1,.inl ⟨rfl,rfl⟩⟩ (λg H=>by cases H)
 ·rcases iZ with iZ|⟨rfl,iZ⟩
  ·exact whole ⟨im.1,.inr ⟨g,cap,cur,rfl,bo _,H,hn,hm,iZ,j9⟩⟩ (λg' yO=>by injection yO with yO;rw[<-yO];exact hV)
  ·obtain⟨i,hi,hz,hs,hb⟩:=abl.info
   by_cases su:m=0
   ·have zC:=hr.src (c:=c) abl su
    subst su;obtain rfl:news=[]:=bu (by simpa using hr.1);have:=run_append_nothing (P:=P) w t t ty e i abl.und hi (some (g,0)) cap cap (bh _) (Z A 0 c) (by rw[hs];exact zC);refine⟨_,w,this,?_,dM.dK (Grow.refl w)⟩;rw[bm];exact im.mono λb hb => .inl hb
   ·obtain⟨ad,rfl,_,E⟩:=hr.2 ap
    obtain⟨A',c',hv,rx,_,_⟩:=im.reads;have Mu:cap+m<=dG:=by have:=Nat.le_mul_of_pos_right (cap+m) abl.bpos;simp only[dG];omega
    have holds:∀j u,xs[j]?=some u->w.cell? (((g,0):dA).add j)=some u:=by
     intro j u hu;have fS:0<cap:=by
      rcases b_ cap with h0|h0
      ·have:xs.length=0:=by rw[im.1,h0];simp
       rw[bu this] at hu;simp at hu
      ·exact h0
     obtain⟨Ze,e',_,XX⟩:=rx.2 fS;injection hv with hv;rw[<-hv] at e';injection e' with e';rw[e'];exact XX j u hu
    obtain⟨v',O,eR,r1,r2⟩:=run_append_arg_grows (P:=P) w t ty e i z size bytes abl.und hi hz hs hb abl.zs abl.pos (g,0) cap cap xs im.1 holds ad m c news hr.1 E ap Mu fw;refine⟨v',O,eR,.wO r1 λg' yO=>?_,⟨r2.os,r2.tape,r2.output,r2.size,λk N _=>r2.block k N (by simp)⟩⟩;have I:=r1.lt g' yO;rcases r1.2 with ⟨hv',_⟩|⟨g2,_,_,hv',vn,_⟩
    ·rw[hv'] at yO;cases yO
    ·rw[hv'] at yO;injection yO with yO
     subst yO;exact .inr ⟨vn,I.2⟩
def fO(abl:Elem P t e size bytes z)(w:X)(hw:bN o (yielded ops a.tmps)=true)(s x:Operand)
 (ho:o.op=.call { callee := .builtin .append,args:=#[s,x],argTypes:=#[t,t] })
 (v:K) (n:Nat) (xs:List K) (hs:a.eval s=v) (im:Own w V e size v n xs)
 (B:Nat) (A:aU) (m c:Nat) (news:List K) (Y:a.eval x=Z A m c) (hr:Reads w B size A m news) (I:∀u∈news,u.oneCell'=true)
 (fw:(n+m)*bytes<=140737488355328)
 (h:∀v' O,Own O (iY V w O) e size v' (n+m) (xs++news)->dM V w O->wpList P ops abo rest (a.put o.dst v') O):wpList P ops abo (o::rest) a w:=by obtain⟨v',O,eR,G,L⟩:=jq abl w o.type v n xs im B A m c news hr I fw;unfold wpList;rw[aA hw];refine .inl ?_;unfold Oper.wp execOp;simp only[ho,resolve,invoke,builtin,Sem.run_bind,Sem.run_pure,Result.andThen_ok,cV,bQ,cQ,hs,Y,eR];exact h v' O G L
end
theorem pP(src dst e:dC)(hs:P.underlying src=some (.slice e))(he:P.underlying e=some (.int .u8))(hd:P.underlying dst=some .string)
 (w:X) {B:Nat} {A:aU} {n c:Nat} {l:aT} (h:Bytes w B A n l):(convert src dst (Z A n c)).run P w=.ok (aX ⟨l.toArray⟩) w:=by
 have hl:=h.len;cases A with
 | none=>
   have hn:n=0:=by
    rcases b_ n with h0|h0
    ·exact h0
    ·obtain⟨_,e',_⟩:=h.2 h0;cases e'
   subst hn;obtain rfl:l=[]:=bu hl;exact run_convert_bytes_nil w src e hs he 0 c dst hd
 | some ad=>
   subst hl;refine run_convert_bytes_back w src dst e ad c l hs he hd λj hj=>?_;obtain⟨Ze,_,e',E⟩:=h.at_ hj;injection e' with e';rw[e'];exact E
def CU(src dst e:dC)(hs:P.underlying src=some (.slice e))(he:P.underlying e=some (.int .u8))(hd:P.underlying dst=some .string)
 (w:X) {u:K} {l:aT} (h:eM l u w):(convert src dst u).run P w=.ok (aX ⟨l.toArray⟩) w:=by obtain⟨A,n,c,rfl,h,_⟩:=h;exact pP src dst e hs he hd w h
def Own.isBytes{e:Nat}(h:Own w V e 1 v n (kz l)):eM l v w:=by obtain⟨A,c,rfl,T,I,G⟩:=h.reads;exact⟨A,n,c,rfl,T,I,G⟩
abbrev dW:=X->(Nat->Prop)->Prop
def eu(S:dW):Prop:=∀w O V,S w V->(∀b,V b->O.heap[b]?=w.heap[b]?)->S O V
def Mv(P:aV)(S R:dW)(w:X):Prop:=(∀b,(w:Nat)<=b->P b)∧∃V U:aV,S w V∧R w U∧(∀b,V b->¬ U b)∧(∀b,V b->P b∧b<(w:Nat))∧(∀b,U b->P b∧b<(w:Nat))
def Solo(P:aV)(S:dW)(w:X):Prop:=(∀b,(w:Nat)<=b->P b)∧∃V:aV,S w V∧(∀b,V b->P b∧b<(w:Nat))
def ii(Pr:dD)(f:FuncId)(args:aP)(C:Ending->Prop)(S S':dW)(w:X):Prop:=∀V:aV,S w V->(∀b,V b->b<(w:Nat))->dz Pr f args w λe O=>C e∧S' O (iY V w O)∧dM V w O
section
variable{P P':aV}{S S' R R':dW}
def Bo(hV:∀b,V b->P b∧b<(w:Nat))(hP:∀b,(w:Nat)<=b->P b)(hs:(w:Nat)<=(O:Nat)):∀b,iY V w O b->P b∧b<(O:Nat):=λb hb=>by
 rcases hb with h|⟨I,G⟩
 ·have:=hV b h;exact⟨this.1,by omega⟩
 ·exact⟨hP b I,G⟩
def Mv.swap(h:Mv P S R w):Mv P R S w:=by obtain⟨h0,V,U,I,G,L,h4,h5⟩:=h;exact⟨h0,U,V,G,I,λb hb hv=>L b hv hb,h5,h4⟩
def Mv.left{f:FuncId}{C:Ending->Prop}(h:Mv P S R w)(T:eu R)(E:ii Pr f args C S S' w):dz Pr f args w λe O=>C e∧dM P w O∧Mv P S' R O:=by
 obtain⟨h0,V,U,I,G,L,h4,h5⟩:=h;refine (E V I (λb hb=>(h4 b hb).2)).mono λe O ⟨he,hs,hj⟩=>⟨he,hj.imp λk N=>(h4 k N).1,λb hb=>h0 b (bB hj.size hb),iY V w O,U,hs,T w O U G (λb hb=>hj.block b (h5 b hb).2 (λhv=>L b hv hb)),λb hb hu=>?_,Bo h4 h0 hj.size,λb hb=>⟨(h5 b hb).1,bw (h5 b hb).2 hj.size⟩⟩;rcases hb with hb|⟨hb,_⟩
 ·exact L b hb hu
 ·have:=(h5 b hu).2;omega
def Mv.grow(h:Mv P S R w)(hS:eu S)(T:eu R)(H:Grow w O):Mv P S R O:=by obtain⟨h0,V,U,I,G,L,h4,h5⟩:=h;exact⟨λb hb=>h0 b (bB H.size hb),V,U,hS w O V I (λb hb=>H.block b (h4 b hb).2),T w O U G (λb hb=>H.block b (h5 b hb).2),L,λb hb=>⟨(h4 b hb).1,bw (h4 b hb).2 H.size⟩,λb hb=>⟨(h5 b hb).1,bw (h5 b hb).2 H.size⟩⟩
def Mv.wide(h:Mv P S R w)(hP:∀b,P b->P' b):Mv P' S R w:=by obtain⟨h0,V,U,I,G,L,h4,h5⟩:=h;exact⟨λb hb=>hP b (h0 b hb),V,U,I,G,L,λb hb=>⟨hP b (h4 b hb).1,(h4 b hb).2⟩,λb hb=>⟨hP b (h5 b hb).1,(h5 b hb).2⟩⟩
def Solo.call{f:FuncId}{C:Ending->Prop}(h:Solo P S w)(E:ii Pr f args C S S' w):dz Pr f args w λe O=>C e∧dM P w O∧Solo P S' O:=by obtain⟨h0,V,I,h4⟩:=h;exact (E V I (λb hb=>(h4 b hb).2)).mono λe O ⟨he,hs,hj⟩=>⟨he,hj.imp λk N=>(h4 k N).1,λb hb=>h0 b (bB hj.size hb),iY V w O,hs,Bo h4 h0 hj.size⟩
def Solo.grow(h:Solo P S w)(hS:eu S)(H:Grow w O):Solo P S O:=by obtain⟨h0,V,I,h4⟩:=h;exact⟨λb hb=>h0 b (bB H.size hb),V,hS w O V I (λb hb=>H.block b (h4 b hb).2),λb hb=>⟨(h4 b hb).1,bw (h4 b hb).2 H.size⟩⟩
end
theorem flat_get{α β:Type}(f:α->List β)(m:Nat)(hf:∀a,(f a).length=m):∀(l:List α)(k j:Nat)(N:k<l.length),j<m->(l.flatMap f)[k*m+j]?=(f l[k])[j]?
 | [],k,_,N,_=>by simp at N
 | a::l,0,j,_,hj=>by
   rw[bJ,Nat.zero_mul,cJ,List.getElem?_append_left (by rw[hf];exact hj)];rfl
 | a::l,k+1,j,N,hj=>by
   rw[bJ,List.getElem?_append_right (by rw[hf,Nat.add_mul];omega),hf,show (k+1)*m+j-m=k*m+j by rw[Nat.add_mul];omega];rw[flat_get f m hf l k j (by simpa using N) hj];rfl
theorem ix{α β:Type}(f:α->List β)(m:Nat)(hf:∀a,(f a).length=m):∀(l:List α),(l.flatMap f).length=l.length*m
 | []=>by simp
 | a::l=>by rw[bJ,bd,hf,ix f m hf l,bD,Nat.add_mul];omega
section
variable{size:Nat}
def vy(abl:Elem P t e size bytes z)(w:X)(ty:Nat)(v:K)(n:Nat)(xs:List K)(im:Own w V e size v n xs)
 (B:Nat) (A:aU) (m c:Nat) (news:List K) (hr:Reads w B size A m news) (I:∀u∈news,u.oneCell'=true)
 (fw:(n+m)*bytes<=140737488355328):∃v' O,(cn #[t,t] ty #[v,Z A m c]).run P w=.ok v' O∧Own O (iY V w O) e size v' (n+m) (xs++news)∧dM V w O∧Own O V e size v n xs:=by
 obtain⟨i,hi,hz,hs,hb⟩:=abl.info;have Mu:n+m<=dG:=by have:=Nat.le_mul_of_pos_right (n+m) abl.bpos;simp only[dG];omega
 by_cases su:m=0
 ·have zC:=hr.src (c:=c) abl su
  subst su;obtain rfl:news=[]:=bu (by simpa using hr.1);obtain⟨A',c',rfl,_,iS,_⟩:=im.reads;have:=run_append_nothing (P:=P) w t t ty e i abl.und hi A' n c' iS (Z A 0 c) (by rw[hs];exact zC);refine⟨_,w,this,?_,dM.dK (Grow.refl w),im⟩;rw[bm];exact im.mono λb hb => .inl hb
 ·obtain⟨ad,rfl,_,E⟩:=hr.2 ap
  have fin:∀v' O,O.ownsRow (w:Nat) e size v' (n+m) (xs++news)->w.grownBy O none->Own O (iY V w O) e size v' (n+m) (xs++news)∧dM V w O∧Own O V e size v n xs:=λv' O r1 r2=>by
   refine⟨.wO r1 λg' yO=>?_,⟨r2.os,r2.tape,r2.output,r2.size,λk N _=>r2.block k N (by simp)⟩,?_⟩
   ·have I:=r1.lt g' yO
    rcases r1.2 with ⟨hv',_⟩|⟨g2,_,_,hv',vn,_⟩
    ·rw[hv'] at yO;cases yO
    ·rw[hv'] at yO;injection yO with yO
     subst yO;exact .inr ⟨vn,I.2⟩
   ·refine⟨im.1,?_⟩
    rcases im.2 with G|⟨g,cap,cur,I,G,L,h4⟩
    ·exact .inl G
    ·exact .inr ⟨g,cap,cur,I,G,(r2.block g (Array.getElem?_eq_some_iff.1 L).1 (by simp)).trans L,h4⟩
  rcases im.2 with ⟨rfl,rfl⟩|⟨g,cap,cur,rfl,hV,H,iS,iO,iZ,j9⟩
  ·obtain rfl:xs=[]:=bu (by simpa using im.1)
   obtain⟨v',O,eR,r1,r2,_⟩:=run_append_own_at (P:=P) w (w:Nat) t ty e i z size bytes abl.und hi hz hs hb abl.zs abl.pos (Z none 0 0) 0 [] (World.ownsRow_nil w _ e size) ad m c news hr.1 E I Mu fw (bh _);exact⟨v',O,eR,fin v' O r1 r2⟩
  ·by_cases rH:n+m<=cap
   ·have jQ:cur.size=cap*size:=by
     rcases iZ with h|⟨h,_⟩
     ·exact h
     ·omega
    have sv:n*i.size+news.length<=cur.size:=by rw[hs,hr.1,jQ,<-Nat.add_mul];exact cK _ rH
    have XY:=run_append_room (P:=P) w t ty e i abl.und hi g n cap cur H ad m c news (by rw[hs];exact hr.1) E I rH sv
    rw[hs] at XY sv
    have fj:(xs++news).length=(n+m)*size:=by rw[bd,im.1,hr.1,Nat.add_mul]
    have Qc:=setRow_heap w g cur (cur.toList.take (n*size)++news++cur.toList.drop (n*size+news.length)).toArray e (0,0) H
    have TP:(cur.toList.take (n*size)++news++cur.toList.drop (n*size+news.length)).toArray.size=cap*size:=by simp only[cy,bd,bn,bO,bZ];omega
    refine⟨_,_,XY,⟨fj,.inr ⟨g,cap,_,rfl,.inl hV,Qc,rH,iO,.inl TP,?_⟩⟩,⟨rfl,rfl,rfl,by simp,λk _ N=>setRow_other w g k _ (λe=>N (by rw[e];exact hV))⟩,⟨im.1,.inr ⟨g,cap,_,rfl,hV,Qc,iS,iO,.inl TP,?_⟩⟩⟩
    ·rw[List.toList_toArray,j9,<-fj]
     exact List.take_left
    ·rw[List.toList_toArray,j9,bp,<-im.1]
     exact List.take_left
   ·obtain⟨A',c',hv,rx,_,_⟩:=im.reads
    have holds:∀j u,xs[j]?=some u->w.cell? (((g,0):dA).add j)=some u:=by
     intro j u hu;have fS:0<n:=by
      rcases b_ n with h0|h0
      ·have:xs.length=0:=by rw[im.1,h0];simp
       rw[bu this] at hu;simp at hu
      ·exact h0
     obtain⟨Ze,e',_,XX⟩:=rx.2 fS;injection hv with hv;rw[<-hv] at e';injection e' with e';rw[e'];exact XX j u hu
    obtain⟨v',O,eR,r1,r2⟩:=run_append_arg_grows (P:=P) w t ty e i z size bytes abl.und hi hz hs hb abl.zs abl.pos (g,0) n cap xs im.1 holds ad m c news hr.1 E ap Mu fw;exact⟨v',O,eR,fin v' O r1 r2⟩
end
section
variable{A:Nat->List Nat}{abk:Nat->Kind}{S:jm}{abm:dF->X->Prop}{l:List dE}{j:Nat}{a0:dF}{abn:List (Tmp×K)}{F:List (Nat×K×Fact)}
end
def Own.grows{e size:Nat}(h:Own w V e size v n xs)(H:Grow w O):Own O V e size v n xs:=by
 refine⟨h.1,?_⟩;rcases h.2 with G|⟨g,cap,cur,I,G,L,h4⟩
 ·exact .inl G
 ·exact .inr ⟨g,cap,cur,I,G,(H.block g (Array.getElem?_eq_some_iff.1 L).1).trans L,h4⟩
def Once(φ:K->X->Prop):Fact:=λk u w=>match k with
 | 0=>False
 | _=>φ u w
def wP(w:X)(cs:aP)(e n:Nat)(l:aT)(h:cs.size=n*1)(E:cs.toList=kz l)(hn:n<=dG):eM l (Z (some ⟨(w:Nat),0,none⟩) n n) (w.alloc (.cells cs e)):=⟨_,n,n,rfl,by have:=fF w cs e (0,0) h _ rfl;rw[E] at this;exact Reads.more this (by simp),bh _,hn⟩
end Go.Hop
namespace Go.Proofs.YtpeepcmdehhbgaaGreatDoor.V
open RowKit Hop
def enc(n:Nat):List UInt8:=if n<128 then [UInt8.ofNat n] else UInt8.ofNat (n % 128+128)::enc (n / 128)
termination_by n
decreasing_by omega
def val:List UInt8->Nat
 | []=>0
 | c::l=>c.toNat % 128+128*val l
def Canon:List UInt8->Prop
 | []=>False
 | [c]=>c.toNat<128
 | c::d::l=>128<=c.toNat∧(d::l)≠[0]∧Canon (d::l)
def nT(h:n<256):(UInt8.ofNat n).toNat=n:=by rw[UInt8.toNat_ofNat'];omega
def j7(h:n<128):enc n=[UInt8.ofNat n]:=by rw[enc];rw[aA h]
def lB(h:128<=n):enc n=UInt8.ofNat (n % 128+128)::enc (n / 128):=by rw[enc];rw[aB ap]
def Vu(n:Nat):enc n≠[]:=by
 by_cases h:n<128;·rw[j7 h];simp
 ·rw[lB ap];simp
theorem vS(n:Nat):val (enc n)=n:=by
 induction n using Nat.strongRecOn with
 | _ n ih=>
   by_cases h:n<128
   ·rw[j7 h]
    simp only[val];rw[nT ap];omega
   ·rw[lB ap]
    simp only[val];rw[ih (n / 128) ap,nT ap];omega
def MI(h:enc n=[0]):n=0:=by have:=vS n;rw[h] at this;rw[<-this];rfl
theorem l4(n:Nat):Canon (enc n):=by
 induction n using Nat.strongRecOn with
 | _ n ih=>
   by_cases h:n<128
   ·rw[j7 h]
    show (UInt8.ofNat n).toNat<128;rw[nT ap];exact h
   ·rw[lB ap]
    have I:=ih (n / 128) ap;have G:enc (n / 128)≠[0]:=λe=>by have:=MI e;omega
    revert I G;cases enc (n / 128) with
    | nil=>intro I;exact absurd I (by simp[Canon])
    | cons d l=>
      intro I G;exact⟨by rw[nT ap];omega,G,I⟩
theorem zJ:∀(p:aT),Canon p->enc (val p)=p
 | [],h=>h.elim
 | [c],h=>by
   have h:c.toNat<128:=h;simp only[val];rw[show c.toNat % 128+128*0=c.toNat by omega,j7 h];simp
 | c::d::l,h=>by
   obtain⟨I,G,L⟩:=h;have ih:=zJ (d::l) L;have E:c.toNat<256:=c.toNat_lt;have hv:1<=val (d::l):=by
    rcases b_ (val (d::l)) with h0|h0
    ·rw[h0,j7 ap] at ih
     exact absurd ih.symm G
    ·exact h0
   show enc (c.toNat % 128+128*val (d::l))=_;generalize val (d::l)=v at ih hv;rw[lB ap,show (c.toNat % 128+128*v) / 128=v by omega,ih];congr 1;rw[show (c.toNat % 128+128*v) % 128+128=c.toNat by omega];simp
theorem sE:∀(p q l:aT),Canon p->Canon q->p <+: l->q <+: l->p=q
 | [],_,_,h,_,_,_=>h.elim
 | _,[],_,_,h,_,_=>h.elim
 | c::p,d::q,l,hp,hq,I,G=>by
   obtain⟨r,rfl⟩:=I;rw[cD] at G;obtain⟨rfl,L⟩:=List.cons_prefix_cons.1 G;have I:p <+: p++r:=⟨r,rfl⟩;cases p with
   | nil=>
     cases q with
     | nil=>rfl
     | cons e q=>exact absurd hq.1 (by have:d.toNat<128:=hp;omega)
   | cons e p=>
     cases q with
     | nil=>exact absurd hp.1 (by have:d.toNat<128:=hq;omega)
     | cons f q=>rw[sE (e::p) (f::q) (e::p++r) hp.2.2 hq.2.2 I L]
def k8(I:enc m <+: l)(G:enc n <+: l):m=n:=by have:=sE _ _ l (l4 m) (l4 n) I G;rw[<-vS m,this,vS]
theorem wR:∀(k n:Nat),n<128 ^ (k+1)->(enc n).length<=k+1
 | 0,n,h=>by rw[j7 (by simpa using h)];simp
 | k+1,n,h=>by
   by_cases hn:n<128;·rw[j7 hn];simp
   ·rw[lB ap,bD]
    have:=wR k (n / 128) (by rw[Nat.pow_succ] at h;omega);omega
def eE(h:n<18446744073709551616):(enc n).length<=10:=wR 9 n ap
def nx(n:Nat):1<=(enc n).length:=by
 rcases b_ (enc n).length with h|h
 ·exact absurd (bu h) (Vu n)
 ·exact h
def Hi(l:aT)(i:Nat):Prop:=∀(j:Nat)(hj:j<l.length),j<i->128<=l[j].toNat
theorem sF:∀(p l:aT)(i:Nat),Canon p->p <+: l->Hi l i->i<p.length
 | [],_,_,h,_,_=>h.elim
 | [c],l,i,h,⟨r,hr⟩,hi=>by
   rcases b_ i with h0|h0
   ·subst h0;simp
   ·have:=hi 0 (by rw[<-hr];simp) h0
    subst hr;have E:c.toNat<128:=h;simp at this;omega
 | c::d::p,l,i,h,⟨r,hr⟩,hi=>by
   cases i with
   | zero=>simp
   | succ i=>
     have:=sF (d::p) (d::p++r) i h.2.2 ⟨r,rfl⟩ (λj hj F3=>by have:=hi (j+1) (by rw[<-hr];simpa using hj) ap;subst hr;simpa using this)
     simp at this ⊢;omega
theorem zK:∀(p l:aT)(i:Nat)(hi:i<l.length),Canon p->p <+: l->i<p.length->l[i].toNat<128->p.length=i+1
 | [],_,_,_,h,_,_,_=>h.elim
 | [c],_,i,_,_,_,h,_=>by simp at h;simp;omega
 | c::d::p,l,i,hi,h,⟨r,hr⟩,hip,hl=>by
   subst hr;cases i with
   | zero=>have:=h.1;simp at hl;omega
   | succ i=>
     have:=zK (d::p) (d::p++r) i (by simpa using hi) h.2.2 ⟨r,rfl⟩ (by simpa using hip) (by simpa using hl);simp at this ⊢;omega
theorem ly:∀(l:aT)(i:Nat)(hi:i<l.length),val (l.take (i+1))=val (l.take i)+(l[i].toNat % 128)*128 ^ i
 | [],_,h=>by simp at h
 | c::l,0,_=>by simp[val]
 | c::l,i+1,h=>by
   have hl:i<l.length:=by simpa using h
   have ih:=ly l i hl;rw[cG,cG];simp only[val,List.getElem_cons_succ];rw[ih,Nat.pow_succ,Nat.mul_add];have:128*(l[i].toNat % 128*128 ^ i)=l[i].toNat % 128*(128 ^ i*128):=by rw[Nat.mul_comm,Nat.mul_assoc]
   omega
theorem MJ:∀(l:aT),val l<128 ^ l.length
 | []=>by simp[val]
 | c::l=>by
   have:=MJ l;simp only[val,bD,Nat.pow_succ];omega
def pQ(l:aT)(i:Nat):val (l.take i)<128 ^ i:=by refine bw (MJ _) (Nat.pow_le_pow_right ap ?_);rw[bn];omega
theorem CV:∀(p l:aT)(i:Nat)(hi:i<l.length),p <+: l->i<p.length->(l[i].toNat % 128)*128 ^ i<=val p
 | [],_,_,_,_,h=>by simp at h
 | c::p,l,0,hi,⟨r,hr⟩,_=>by subst hr;simp[val]
 | c::p,l,i+1,hi,⟨r,hr⟩,h=>by
   subst hr;have hl:i<(p++r).length:=by simpa using hi
   have:=CV p (p++r) i hl ⟨r,rfl⟩ (by simpa using h);simp only[val,cD,List.getElem_cons_succ,Nat.pow_succ];have e:(p++r)[i].toNat % 128*(128 ^ i*128)=128*((p++r)[i].toNat % 128*128 ^ i):=by rw[Nat.mul_comm 128,Nat.mul_assoc]
   omega
theorem wU:∀(l:aT)(i:Nat)(hi:i<l.length),Hi l i->l[i].toNat<128->(l[i]≠0∨i=0)->Canon (l.take (i+1))
 | [],_,h,_,_,_=>by simp at h
 | c::l,0,_,_,h,_=>by simpa [Canon] using h
 | [c],i+1,h,_,_,_=>by simp at h
 | c::d::l,i+1,hi,hh,h,hz=>by
   have ih:=wU (d::l) i (by simpa using hi) (λj hj F3=>by have:=hh (j+1) (by simpa using hj) ap;simpa using this) (by simpa using h) (by
    rcases hz with hz|hz
    ·exact .inl (by simpa using hz)
    ·omega)
   have h0:=hh 0 (by simp) ap;rw[cG];cases ht:(d::l).take (i+1) with
   | nil=>simp at ht
   | cons e q=>
     rw[ht] at ih;refine⟨by simpa using h0,λhe=>?_,ih⟩;rw[he] at ht;have fj:=congrArg List.length ht;rw[bn,bD,bD,cx] at fj;rw[bD,bD] at hi;have hi0:i=0:=by omega
     subst hi0;rcases hz with hz|hz
     ·apply hz
      simp at ht ⊢;exact ht
     ·omega
def iF(l:aT)(n k:Nat):Prop:=(n<18446744073709551616∧enc n <+: l∧k=(enc n).length)∨((∀m,m<18446744073709551616->¬ enc m <+: l)∧n=0∧k=0)
def iF.one{n':Nat}(h:iF l n k)(h':iF l n' k'):n=n'∧k=k':=by
 rcases h with ⟨I,G,L⟩|⟨I,G,L⟩<;>rcases h' with ⟨g1,g2,g3⟩|⟨g1,g2,g3⟩
 ·have:=k8 G g2
  subst this;exact⟨rfl,by omega⟩
 ·exact absurd G (g1 _ I)
 ·exact absurd g2 (I _ g1)
 ·omega
def iF.none(h:∀m,m<18446744073709551616->¬ enc m <+: l):iF l 0 0 := .inr ⟨h,rfl,rfl⟩
def iF.lt(h:iF l n k):n<18446744073709551616∧k<=10∧k<=l.length:=by
 rcases h with ⟨I,G,L⟩|⟨I,G,L⟩
 ·exact⟨I,by have:=eE I;omega,by have:=G.length_le;omega⟩
 ·omega
def ub(h:Hi l i)(hi:i=l.length∨10<=i):∀m,m<18446744073709551616->¬ enc m <+: l:=λm hm hp=>by have I:=sF _ l i (l4 m) hp h;have G:=hp.length_le;have L:=eE hm;omega
def rN(hi:i<l.length)(h:Hi l i)(H:18446744073709551616<=(l[i].toNat % 128)*128 ^ i):∀m,m<18446744073709551616->¬ enc m <+: l:=λm hm hp=>by have I:=sF _ l i (l4 m) hp h;have G:=CV _ l i hi hp I;rw[vS] at G;omega
def Vv(hi:i<l.length)(h:Hi l i)(hl:l[i].toNat<128)(hp:enc m <+: l):enc m=l.take (i+1):=by have I:=sF _ l i (l4 m) hp h;have G:=zK _ l i hi (l4 m) hp I hl;obtain⟨r,rfl⟩:=hp;rw[<-G,List.take_left'];rfl
def pR(hi:i<l.length)(h:Hi l i)(hz:l[i]=0)(h0:0<i):∀m,m<18446744073709551616->¬ enc m <+: l:=λm _ hp=>by
 have e:=Vv hi h (by rw[hz];decide) hp;have E:=l4 m;rw[e] at E;have key:∀(l:aT)(i:Nat)(hi:i<l.length),l[i]=0->0<i->¬ Canon (l.take (i+1)):=by
  intro l;induction l with
  | nil=>intro i hi;simp at hi
  | cons c l ih=>
    intro i hi hz h0 E;cases i with
    | zero=>omega
    | succ i=>
      cases l with
      | nil=>simp at hi
      | cons d l=>
        rw[cG,cG] at E;cases i with
        | zero=>
          simp at hz;subst hz;exact E.2.1 (by simp)
        | succ i=>
          refine ih (i+1) (by simpa using hi) (by simpa using hz) ap ?_;rw[cG];exact E.2.2
 exact key l i hi hz h0 E
def uc(hi:i<l.length)(h:Hi l i)(hl:l[i].toNat<128)(hz:l[i]≠0∨i=0)(hv:val (l.take (i+1))<18446744073709551616):iF l (val (l.take (i+1))) (i+1):=by have e:=zJ _ (wU l i hi h hl hz);refine .inl ⟨hv,by rw[e];exact List.take_prefix _ _,?_⟩;rw[e,bn];omega
def Bp(hi:i<l.length)(h:Hi l i)(E:128<=l[i].toNat):Hi l (i+1):=λj hj F3=>by
 by_cases he:j=i;·subst he;exact E
 ·exact h j hj ap
def tb(t:BitVec 32)(i:Nat):UInt8:=⟨(t >>> (8*i)).setWidth 8⟩
def wV(c:BitVec 32)(i:Nat):(tb c i).toNat=c.toNat / 2 ^ (8*i) % 256:=by show ((c >>> (8*i)).setWidth 8).toNat=_;rw[BitVec.toNat_setWidth,BitVec.toNat_ushiftRight,Nat.shiftRight_eq_div_pow]
def oO(c:BitVec 32):List UInt8:=[tb c 0,tb c 1,tb c 2,tb c 3]
def CW(c:BitVec 32):(oO c).length=4:=rfl
def frame(l:aT):List UInt8:=enc l.length++(oO (crc l)++l)
def jB(l:aT):(frame l).length=(enc l.length).length+4+l.length:=by unfold frame;rw[bd,bd,CW];omega
def mA(h:frame l <+: r):enc l.length <+: r:=(cL _ _).trans h
def uf{l':aT}(h:frame l <+: r)(h':frame l' <+: r):l=l':=by have he:=k8 (mA h) (mA h');obtain⟨s,rfl⟩:=h;unfold frame at h';rw[<-he] at h';rw[bp] at h';have G:=(List.prefix_append_right_inj _).1 h';obtain⟨t,ht⟩:=G;rw[bp,bp] at ht;have h4:l'++t=l++s:=(List.append_inj ht rfl).2;exact ((List.append_inj h4 he.symm).1).symm
def l5(l x:aT)(k:Nat)(ok:Bool):Prop:=(ok=true∧x.length<=65536∧frame x <+: l∧k=(frame x).length)∨(ok=false∧(∀y:aT,y.length<=65536->¬ frame y <+: l)∧x=[]∧k=0)
def l5.none(h:∀y:aT,y.length<=65536->¬ frame y <+: l):l5 l [] 0 false := .inr ⟨rfl,h,rfl,rfl⟩
def l5.one{x x':aT}{ok ok':Bool}(h:l5 l x k ok)(h':l5 l x' k' ok'):x=x'∧k=k'∧ok=ok':=by
 rcases h with ⟨a1,a2,a3,a4⟩|⟨a1,a2,a3,a4⟩<;>rcases h' with ⟨b1,b2,b3,b4⟩|⟨b1,b2,b3,b4⟩
 ·have:=uf a3 b3
  subst this;exact⟨rfl,by omega,by rw[a1,b1]⟩
 ·exact absurd a3 (b2 _ a2)
 ·exact absurd b3 (a2 _ b2)
 ·exact⟨by rw[a3,b3],by omega,by rw[a1,b1]⟩
def MK(h:∀m,m<18446744073709551616->¬ enc m <+: l):∀y:aT,y.length<=65536->¬ frame y <+: l:=λy hy hp=>h y.length ap (mA hp)
def FI(h:enc n <+: l)(hn:65536<n):∀y:aT,y.length<=65536->¬ frame y <+: l:=λy hy hp=>by have:=k8 h (mA hp);omega
def FJ(h:enc n <+: l)(hn:l.length<(enc n).length+4+n):∀y:aT,y.length<=65536->¬ frame y <+: l:=λy hy hp=>by have he:=k8 h (mA hp);have I:=hp.length_le;rw[jB,<-he] at I;omega
def IB(h:enc n <+: l)(N:k=(enc n).length)(hn:k+4+n<=l.length):∃s x r:aT,l=enc n++(s++(x++r))∧s=(l.drop k).take 4∧x=(l.drop (k+4)).take n∧s.length=4∧x.length=n:=by
 obtain⟨t,rfl⟩:=h;subst N;rw[bd] at hn;refine⟨t.take 4,(t.drop 4).take n,(t.drop 4).drop n,?_,?_,?_,by rw[bn];omega,by rw[bn,bO];omega⟩;·rw[dt,dt]
 ·rw[List.drop_left'];rfl
 ·rw[<-List.drop_drop,List.drop_left'];rfl
def CX(h:enc n <+: l)(N:k=(enc n).length)(hn:k+4+n<=l.length)(h6:n<=65536)(hs:(l.drop k).take 4=oO (crc ((l.drop (k+4)).take n))):l5 l ((l.drop (k+4)).take n) (k+4+n) true:=by obtain⟨s,x,r,hl,I,G,L,h4⟩:=IB h N hn;rw[<-G];rw[<-I,<-G] at hs;refine .inl ⟨rfl,by omega,⟨r,?_⟩,by rw[jB,h4,<-N]⟩;unfold frame;rw[hl,h4,hs,bp,bp]
def IC(h:enc n <+: l)(N:k=(enc n).length)(hn:k+4+n<=l.length)(hs:(l.drop k).take 4≠oO (crc ((l.drop (k+4)).take n))):∀y:aT,y.length<=65536->¬ frame y <+: l:=λy hy hp=>by have he:=k8 h (mA hp);obtain⟨s,x,r,hl,I,G,L,h4⟩:=IB h N hn;rw[<-I,<-G] at hs;obtain⟨t,ht⟩:=hp;unfold frame at ht;rw[<-he,hl,bp,bp] at ht;have h5:=(List.append_inj ht rfl).2;have h6:=List.append_inj h5 (by rw[CW,L]);have h7:=(List.append_inj h6.2 (by rw[h4,he])).1;exact hs (by rw[<-h6.1,h7])
def Bq:List UInt8->Nat
 | []=>0
 | b::r=>b.toNat+256*Bq r
theorem ML:∀l:aT,Bq l<256 ^ l.length
 | []=>by decide
 | b::r=>by
   have:=ML r;have hb:=b.toNat_lt;show b.toNat+256*Bq r<256 ^ (r.length+1);rw[Nat.pow_succ];omega
theorem CY:∀(l:aT)(b:UInt8),Bq (l++[b])=Bq l+b.toNat*256 ^ l.length
 | [],b=>by simp[Bq]
 | a::r,b=>by
   show a.toNat+256*Bq (r++[b])=a.toNat+256*Bq r+b.toNat*256 ^ (r.length+1);rw[CY r b,Nat.pow_succ,Nat.mul_add,<-Nat.mul_assoc 256,Nat.mul_comm 256 b.toNat,Nat.mul_assoc b.toNat,Nat.mul_comm 256 (256 ^ r.length)];omega
theorem vT(s:aT)(c:BitVec 32)(h:s.length=4):Bq s=c.toNat↔s=oO c:=by
 match s,h with
 | [b0,b1,b2,b3],_=>
   have h0:=wV c 0;have I:=wV c 1;have G:=wV c 2;have L:=wV c 3;have E:=c.isLt;have g0:=b0.toNat_lt;have g1:=b1.toNat_lt;have g2:=b2.toNat_lt;simp only[Bq,Nat.mul_zero,Nat.add_zero,Nat.pow_zero,Nat.div_one,Nat.reduceMul,Nat.reducePow] at h0 I G L E ⊢;unfold oO;constructor
   ·intro he
    rw[show b0=tb c 0 from UInt8.toNat_inj.1 ap,show b1=tb c 1 from UInt8.toNat_inj.1 ap,show b2=tb c 2 from UInt8.toNat_inj.1 ap,show b3=tb c 3 from UInt8.toNat_inj.1 ap]
   ·intro he
    injection he with e0 he;injection he with e1 he;injection he with e2 he;injection he with e3 _;rw[e0,e1,e2,e3];omega
end Go.Proofs.YtpeepcmdehhbgaaGreatDoor.V
namespace Go.Proofs.YtpeepcmdehhbgaaGreatDoor.abq
open RowKit Hop
def MM(w:X)(g:Nat)(F:Int)(M:Nat)(n:Int)(h:eJ w g 328 #[J F,ae ah M]):dz W 233 #[g,J n] w λe O=>e=b5 (ae ah ((n-F-1) % 18446744073709551616))∧w=O:=by have c0:=h.cell 0;go_in;go_wp2;go_ret;exact⟨mq (by rw[wrap_u64,wrap_u64,wrap_u64,wrap_u64];omega),rfl⟩
def QX(w:X)(g:Nat)(F:Int)(M:Nat)(n:Int)(h:eJ w g 328 #[J F,ae ah M])(hF:-9223372036854775808<=F∧F<=9223372036854775807)(hn:-9223372036854775808<=n∧n<=9223372036854775807):dz W 177 #[g,J n] w λe O=>e=b5 (aY (far F n))∧w=O:=by
 have c0:=h.cell 0;by_cases fS:F<n
 ·go_in
  go_wp2_with (go_at_call 233;refine (MM _ g F M n h).mono ?_;rintro e w1 ⟨rfl,rfl⟩);go_ret;refine⟨kC ?_,rfl⟩;unfold far;rw[Bool.eq_iff_iff];simp only[bU,decide_eq_true_eq];omega
 ·go_in
  go_wp2;go_ret;exact⟨kC (by unfold far;rw[aD ap];rfl),rfl⟩
def Uj(w:X)(g:Nat)(F:Int)(M:Nat)(n:Int)(d:Nat)(h:eJ w g 328 #[J F,ae ah M])(hd:n-F-1=(d:Int))(fS:d<64):dz W 233 #[g,J n] w λe O=>e=b5 (ae ah d)∧w=O:=
 (MM w g F M n h).mono λe O ⟨he,hw⟩=>⟨by rw[he];exact mq ap,hw⟩
def rO(w:X)(g:Nat)(F:Int)(M:Nat)(n:Int)(b:Bool)(h:eJ w g 328 #[J F,ae ah M])(hF:-9223372036854775808<=F∧F<=9223372036854775807)(hn:-9223372036854775808<=n∧n<=9223372036854775807)(hb:far F n=b):dz W 177 #[g,J n] w λe O=>e=b5 (aY b)∧w=O:=hb▸QX w g F M n h hF hn
def MN(w:X)(g:Nat)(F:Int)(M:Nat)(n:Int)(h:eJ w g 328 #[J F,ae ah M])(mn:n<=F):dz W 175 #[g,J n] w λe O=>e=b5 (aY true)∧Grow w O:=by go_in;go_wp2_with fail;have c0:=λw1(H:Grow _ w1)=>(h.grow H).cell 0;refine fh ?_;intro w1 H;clear c0;go_wp2;go_ret;exact⟨rfl,H⟩
def QY(M d:Nat):((M:Int) / (2:Int) ^ d)=((M >>> d:Nat):Int):=by rw[Nat.shiftRight_eq_div_pow];push_cast;rfl
def and_one(x:Nat)(Y:x<18446744073709551616):bits .and .u64 (x:Int) 1=((x % 2:Nat):Int):=by have h:=u64_and_nat x 1 Y ap;rw[Nat.and_one_is_mod] at h;exact h
def QZ(M d:Nat):(((M >>> d % 2:Nat):Int) == 1)=M.testBit d:=by rw[Nat.testBit_eq_decide_div_mod_eq,Nat.shiftRight_eq_div_pow,Bool.eq_iff_iff];simp only[beq_iff_eq,decide_eq_true_eq];omega
def MO(w:X)(g:Nat)(F:Int)(M:Nat)(n:Int)(h:eJ w g 328 #[J F,ae ah M])(hF:-9223372036854775808<=F∧F<=9223372036854775807)(hn:-9223372036854775808<=n∧n<=9223372036854775807)(mn:F<n)(hf:far F n=true):dz W 175 #[g,J n] w λe O=>e=b5 (aY false)∧Grow w O:=by have YQ:decide (n<=F)=false:=aD ap;have FF:=Q hf;clear hf;go_in;go_wp2_with fail;have c0:=λw1(H:Grow _ w1)=>(h.grow H).cell 0;have c1:=λw1(H:Grow _ w1)=>t_ (rO w1 g F M n true (h.grow H) hF hn FF.out);refine fh ?_;intro w1 H;clear c0 c1;go_wp2;go_ret;exact⟨rfl,H⟩
def IE(w:X)(g:Nat)(F:Int)(M:Nat)(n:Int)(d:Nat)(h:eJ w g 328 #[J F,ae ah M])(hM:M<18446744073709551616)(hF:-9223372036854775808<=F∧F<=9223372036854775807)(hn:-9223372036854775808<=n∧n<=9223372036854775807)(hd:n-F-1=(d:Int))(fS:d<64):dz W 175 #[g,J n] w λe O=>e=b5 (aY (M.testBit d))∧Grow w O:=by
 have YQ:decide (n<=F)=false:=aD ap;have hnf:far F n=false:=by unfold far;rw[Bool.and_eq_false_iff];exact .inr (aD ap)
 have FF:=Q hnf;have HD:=Q hd;clear hnf hd;go_in;go_wp2_with fail;have c0:=λw1(H:Grow _ w1)=>(h.grow H).cell 0;have c1:=λw1(H:Grow _ w1)=>t_ (rO w1 g F M n false (h.grow H) hF hn FF.out);have c2:=λw1(H:Grow _ w1)=>(h.grow H).cell 1;have c3:=λw1(H:Grow _ w1)=>t_ (Uj w1 g F M n d (h.grow H) HD.out fS);refine fh ?_;intro w1 H;clear c0 c1 c2 c3;go_wp2;go_ret;exact⟨kC (by rw[QY,and_one _ (Nat.lt_of_le_of_lt (Nat.shiftRight_le M d) hM),QZ]),H⟩
end Go.Proofs.YtpeepcmdehhbgaaGreatDoor.abq
namespace Go.Hop
open RowKit
def In(w:X)(V:aV)(size:Nat)(A:aU)(n:Nat)(xs:List K):Prop:=xs.length=n*size∧(0<n->∃ad,A=some ad∧V ad.block∧ad.block<(w:Nat)∧∀j u,xs[j]?=some u->w.cell? (ad.add j)=some u)
section
variable{size:Nat}
def In.nil:In w V size A 0 []:=⟨by simp,λh=>absurd h ap⟩
def In.mono(h:In w V size A n xs)(hV:∀b,V b->V' b):In w V' size A n xs:=⟨h.1,λhn=>by obtain⟨ad,e,hv,hb,E⟩:=h.2 hn;exact⟨ad,e,hV _ hv,hb,E⟩⟩
def In.keep(h:In w V size A n xs)(N:∀b,V b->b<(w:Nat)->O.heap[b]?=w.heap[b]?):In O V size A n xs:=
 ⟨h.1,λhn=>by
  obtain⟨ad,e,hv,hb,E⟩:=h.2 hn;have hs:ad.block<(O:Nat):=by have I:=N _ hv hb;rw[Array.getElem?_eq_getElem hb] at I;exact (Array.getElem?_eq_some_iff.1 I).1
  exact⟨ad,e,hv,hs,λj u hu=>by rw[World.cell?_of_block (a:=ad.add j) (w:=w) (by rw[block_add];exact N _ hv hb)];exact E j u hu⟩⟩
def In.grow(h:In w V size A n xs)(H:Grow w O):In O V size A n xs:=h.keep λb _ hb=>H.block b hb
def In.just(h:In w V size A n xs)(hj:dM U w O)(hd:∀b,V b->¬ U b):In O V size A n xs:=h.keep λb hv hb=>hj.block b hb (hd b hv)
def In.reads(h:In w V size A n xs):Reads w (w:Nat) size A n xs:=⟨h.1,λhn=>by obtain⟨ad,e,_,hb,E⟩:=h.2 hn;exact⟨ad,e,hb,E⟩⟩
def In.below(h:In w V size A n xs)(hB:∀b,V b->b<B):Reads w B size A n xs:=⟨h.1,λhn=>by obtain⟨ad,e,hv,_,E⟩:=h.2 hn;exact⟨ad,e,hB _ hv,E⟩⟩
def Reads.jL{B:Nat}(h:Reads w B size A n xs)(hB:B<=(w:Nat))(hV:∀b,b<B->V b):In w V size A n xs:=⟨h.1,λhn=>by obtain⟨ad,e,hb,E⟩:=h.2 hn;exact⟨ad,e,hV _ hb,by omega,E⟩⟩
def Own.jL{e:dC}{v:K}(h:Own w V e size v n xs):∃A c,v=Z A n c∧In w V size A n xs∧n<=c∧c<=dG:=by
 rcases h.2 with ⟨rfl,rfl⟩|⟨g,cap,cur,rfl,hV,H,hn,hm,_,_⟩
 ·exact⟨none,0,rfl,⟨h.1,λhh=>absurd hh ap⟩,bh _,bo _⟩
 ·obtain⟨A,c,e1,T,_,_⟩:=h.reads
  injection e1 with e1 e2 e3;subst e1 e3;refine⟨_,_,rfl,⟨h.1,λhh=>?_⟩,hn,hm⟩;obtain⟨ad,e,hb,E⟩:=T.2 hh;injection e with e;subst e;exact⟨_,rfl,hV,hb,E⟩
theorem In.take(h:In w V size A n xs){k:Nat}(N:k<=n):In w V size A k (xs.take (k*size)):=by
 refine⟨by rw[bn,h.1];exact cz (cK _ N),λhn=>?_⟩;obtain⟨ad,rfl,hv,hb,ia⟩:=h.2 ap;refine⟨ad,rfl,hv,hb,λj u hu=>ia j u ?_⟩;rw[List.getElem?_take] at hu;split at hu;·exact hu
 ·cases hu
def In.mr{α:Type}{cells:α->List K}{q:List α}(h:In w V size A n (q.flatMap cells))(zD:0<size)(hl:∀a,(cells a).length=size)(N:k<n):∃(ad:dA)(hq:k<q.length),A=some ad∧V ad.block∧ad.block<(w:Nat)∧
   (∀u,(cells q[k])[0]?=some u->w.cell? (ad.add (k*size))=some u)∧∀j u,(cells q[k])[j+1]?=some u->w.cell? ⟨(ad.add (k*size)).block,(ad.add (k*size)).off+(j+1),none⟩=some u:=by
 obtain⟨ad,e,hv,hb,E⟩:=h.2 ap
 have ig:q.length=n:=by have:=h.1;rw[ix cells size hl] at this;exact Nat.eq_of_mul_eq_mul_right zD this
 have Iq:k<q.length:=by omega
 have hp:∀j,(⟨(ad.add (k*size)).block,(ad.add (k*size)).off+(j+1),none⟩:dA)=ad.add (k*size+(j+1)):=λj=>by rw[<-add_add];generalize ad.add (k*size)=p;unfold Addr.add;rw[aB ap]
 have fS:∀j u,(cells q[k])[j]?=some u->j<size:=λj u hu=>by have:=(List.getElem?_eq_some_iff.1 hu).1;rw[hl] at this;exact this
 exact⟨ad,Iq,e,hv,hb,λu hu=>E (k*size) u ((flat_get cells size hl q k 0 Iq zD).trans hu),λj u hu=>by rw[hp j];exact E _ u ((flat_get cells size hl q k (j+1) Iq (fS _ _ hu)).trans hu)⟩
end
def fp(w:X)(o:Obj):(w.alloc o).heap.size=(w:Nat)+1:=by simp
theorem ki{α β:Type}(f:α->List β)(m:Nat)(hf:∀a,(f a).length=m):∀(q:List α)(k:Nat),(q.flatMap f).take (k*m)=(q.take k).flatMap f
 | q,0=>by simp
 | [],k+1=>by simp
 | a::q,k+1=>by
   rw[bJ,cG,bJ,List.take_append,hf a,Nat.succ_mul,bH (by rw[hf];omega),show k*m+m-m=k*m by omega,ki f m hf q k]
theorem ob{α β:Type}(f:α->List β)(m:Nat)(hf:∀a,(f a).length=m):∀(q:List α)(k:Nat),(q.flatMap f).drop (k*m)=(q.drop k).flatMap f
 | q,0=>by simp
 | [],k+1=>by simp
 | a::q,k+1=>by
   rw[bJ,List.drop_succ_cons,List.drop_append,hf a,Nat.succ_mul,cH (by rw[hf];omega),show k*m+m-m=k*m by omega,ob f m hf q k,ch]
def Row(w:X)(V:aV)(e:dC)(size:Nat)(v:K)(n:Nat)(xs:List K):Prop:=
 xs.length=n*size∧((v=Z none 0 0∧n=0)∨
  ∃g cap cur,v=Z (some ⟨g,0,none⟩) n cap∧V g∧w.heap[g]?=some (.cells cur e (0,0))∧n<=cap∧cap<=dG∧cur.size=cap*size∧cur.toList.take (n*size)=xs)
section
variable{size:Nat}
def Row.own(h:Row w V e size v n xs):Own w V e size v n xs:=by
 refine⟨h.1,?_⟩;rcases h.2 with G|⟨g,cap,cur,I,G,L,h4,h5,h6,h7⟩
 ·exact .inl G
 ·exact .inr ⟨g,cap,cur,I,G,L,h4,h5,.inl h6,h7⟩
def Row.owns(h:Row w V e size v n xs):w.ownsRow 0 e size v n xs∧∀g,v.ownBlock=some g->V g:=by
 rcases h.2 with G|⟨g,cap,cur,I,G,L,h4,h5,h6,h7⟩
 ·refine⟨⟨h.1,.inl G⟩,λg H=>?_⟩
  rw[G.1] at H;cases H
 ·refine⟨⟨h.1,.inr ⟨g,cap,cur,I,bo _,L,h4,h5,h6,h7⟩⟩,λg' H=>?_⟩
  rw[I] at H;injection H with H;rw[<-H];exact G
def Row.of(h:w.ownsRow 0 e size v n xs)(hV:∀g,v.ownBlock=some g->V g):Row w V e size v n xs:=by
 refine⟨h.1,?_⟩;rcases h.2 with G|⟨g,cap,cur,I,_,L⟩
 ·exact .inl G
 ·exact .inr ⟨g,cap,cur,I,hV g (by rw[I];rfl),L⟩
def Row.nil:Row w V e size (Z none 0 0) 0 []:=⟨by simp,.inl ⟨rfl,rfl⟩⟩
def Row.mono(h:Row w V e size v n xs)(hV:∀b,V b->V' b):Row w V' e size v n xs:=by
 refine⟨h.1,?_⟩;rcases h.2 with G|⟨g,cap,cur,I,G,L⟩
 ·exact .inl G
 ·exact .inr ⟨g,cap,cur,I,hV g G,L⟩
def Row.keep(h:Row w V e size v n xs)(N:∀b,V b->b<(w:Nat)->O.heap[b]?=w.heap[b]?):Row O V e size v n xs:=by
 refine⟨h.1,?_⟩;rcases h.2 with G|⟨g,cap,cur,I,G,L,h4⟩
 ·exact .inl G
 ·exact .inr ⟨g,cap,cur,I,G,(N g G (Array.getElem?_eq_some_iff.1 L).1).trans L,h4⟩
def Row.grow(h:Row w V e size v n xs)(H:Grow w O):Row O V e size v n xs:=h.keep λb _ hb=>H.block b hb
def Row.just(h:Row w V e size v n xs)(hj:dM U w O)(hd:∀b,V b->¬ U b):Row O V e size v n xs:=h.keep λb hv hb=>hj.block b hb (hd b hv)
theorem Row.jL(h:Row w V e size v n xs):∃A c,v=Z A n c∧In w V size A n xs∧n<=c∧c<=dG:=h.own.jL
end
theorem iC(b:Nat)(e:dC)(mk:Nat×Nat):∀(vs:List K)(o:Nat)(w:X)(cur:aP),w.heap[b]?=some (.cells cur e mk)->o+vs.length<=cur.size->
 ∃cur',(w.setCells b o vs).heap[b]?=some (.cells cur' e mk)∧cur'.size=cur.size∧cur'.toList=cur.toList.take o++vs++cur.toList.drop (o+vs.length)
 | [],o,w,cur,h,hl=>⟨cur,h,rfl,by simp⟩
 | v::r,o,w,cur,h,hl=>by
   have I:(w.setCell ⟨b,o,none⟩ v).heap[b]?=some (.cells (cur.setIfInBounds o v) e mk):=by simp[World.setCell,Array.getElem?_modify,h]
   simp only[bD] at hl;obtain⟨cur',G,L,h4⟩:=iC b e mk r (o+1) (w.setCell ⟨b,o,none⟩ v) (cur.setIfInBounds o v) I (by simp;omega);refine⟨cur',G,by rw[L];simp,?_⟩;rw[h4];have e1:(cur.setIfInBounds o v).toList=cur.toList.take o++v::cur.toList.drop (o+1):=by rw[Array.toList_setIfInBounds,List.set_eq_take_append_cons_drop];rw[aA (by simp;omega)]
   have Fu:(cur.toList.take o).length=o:=by rw[bn];simp;omega
   rw[e1,List.take_append,List.drop_append,Fu];rw[bH (l:=cur.toList.take o) ap,cH (l:=cur.toList.take o) ap,show o+1-o=1 by omega,show o+1+r.length-o=r.length+1 by omega];simp only[cG,List.take_zero,List.drop_succ_cons,List.drop_drop,ch,bp,cD,bD];rw[show o+1+r.length=o+(r.length+1) by omega]
theorem gM(b:Nat):∀(vs:List K)(o:Nat)(w:X),fI b w (w.setCells b o vs)
 | [],_,w=>fI.refl b w
 | v::r,o,w=>((fI.refl b w).put o v).trans (gM b r (o+1) _)
theorem setCells_size(b:Nat):∀(vs:List K)(o:Nat)(w:X),(w.setCells b o vs).heap.size=(w:Nat)
 | [],_,_=>rfl
 | v::r,o,w=>(setCells_size b r (o+1) _).trans (gg w _ v)
section
variable{size:Nat}
def j_(abl:Elem P t e size bytes z)(hv:∀w,(zeroValue e).run P w=.ok z w)(I:∀u∈z.cells.toList,u.oneCell'=true)(w:X)(ty:dC)(b o n c:Nat)(hn:0<n)
 (E:∀j,j<n*size->(w.cell? ⟨b,o+j,none⟩).isSome=true) (hf:∀j,j<n*size->w.frozen? ⟨b,o+j,none⟩=false):(Builtin.clear_ #[t] ty #[Z (some ⟨b,o,none⟩) n c]).run P w=.ok (a_ #[]) (w.setCells b o (bM z.cells n).toList):=by
 have hl:(bM z.cells n).toList.length=n*size:=by rw[bZ,size_zeroCells,abl.zs]
 have kY:=run_storeCells_cells (P:=P) b o (bM z.cells n).toList 0 w (by rw[hl];simpa using E) (by rw[hl];simpa using hf) (λv hv'=>by
  have:v∈bM z.cells n:=Array.mem_toList_iff.1 hv';unfold bM at this;obtain⟨i,_,rfl⟩:=Array.mem_map.1 this;have hz:0<z.cells.size:=by rw[abl.zs];exact abl.pos
  refine I _ ?_;rw[getElem!_pos z.cells (i % z.cells.size) (Nat.mod_lt _ hz)];exact Array.mem_toList_iff.2 (Array.getElem_mem _))
 simp only[Nat.add_zero] at kY;obtain⟨m,rfl⟩:∃m,n=m+1:=⟨n-1,by omega⟩;simp[Builtin.clear_,run_underlying abl.und,hv,kY]
def mL(abl:Elem P t e size bytes z)(w:X)(ty:Nat)(v:K)(n:Nat)(xs:List K)(im:Row w V e size v n xs)
 (B:Nat) (A:aU) (m c:Nat) (news:List K) (hr:Reads w B size A m news) (I:∀u∈news,u.oneCell'=true) (fw:(n+m)*bytes<=140737488355328):∃v' O,(cn #[t,t] ty #[v,Z A m c]).run P w=.ok v' O∧Row O (iY V w O) e size v' (n+m) (xs++news)∧dM V w O:=by
 obtain⟨ho,hV⟩:=im.owns;obtain⟨v',O,eR,G,L,h4⟩:=oa abl w 0 ty v n xs ho B A m c news hr I fw (bo _);refine⟨v',O,eR,.of G λg H=>?_,⟨L.os,L.tape,L.output,L.size,λk N hv=>L.block k N (λe=>hv (hV k e.symm))⟩⟩;rcases h4 with h4|h4
 ·exact .inl (hV g (by rw[<-h4,H]))
 ·rw[H] at h4;injection h4 with h4
  have:=G.lt g H;exact .inr ⟨by omega,this.2⟩
def wW(abl:Elem P t e size bytes z)(w:X)(hw:bN o (yielded ops a.tmps)=true)(s x:Operand)
 (ho:o.op=.call { callee := .builtin .append,args:=#[s,x],argTypes:=#[t,t] })
 (v:K) (n:Nat) (xs:List K) (hs:a.eval s=v) (im:Row w V e size v n xs)
 (B:Nat) (A:aU) (m c:Nat) (news:List K) (Y:a.eval x=Z A m c) (hr:Reads w B size A m news) (I:∀u∈news,u.oneCell'=true)
 (fw:(n+m)*bytes<=140737488355328)
 (h:∀v' O,Row O (iY V w O) e size v' (n+m) (xs++news)->dM V w O->wpList P ops abo rest (a.put o.dst v') O):wpList P ops abo (o::rest) a w:=by obtain⟨v',O,eR,G,L⟩:=mL abl w o.type v n xs im B A m c news hr I fw;unfold wpList;rw[aA hw];refine .inl ?_;unfold Oper.wp execOp;simp only[ho,resolve,invoke,builtin,Sem.run_bind,Sem.run_pure,Result.andThen_ok,cV,bQ,cQ,hs,Y,eR];exact h v' O G L
def pv(abl:Elem P t e size bytes z){ρ:Operand->K}{R:K->X->Prop}{s x:Operand}(ho:o.op=.call { callee := .builtin .append,args:=#[s,x],argTypes:=#[t,t] })
 {v:K} {n:Nat} {xs:List K} (hs:ρ s=v) (im:Row w V e size v n xs) {B:Nat} {A:aU} {m c:Nat} {news:List K} (Y:ρ x=Z A m c) (hr:Reads w B size A m news) (I:∀u∈news,u.oneCell'=true)
 (fw:(n+m)*bytes<=140737488355328) (h:∀v' O,Row O (iY V w O) e size v' (n+m) (xs++news)->dM V w O->R v' O):gE P R ((execOp ρ o).run P w):=by obtain⟨v',O,eR,G,L⟩:=mL abl w o.type v n xs im B A m c news hr I fw;refine gv (u:=v') (w:=O) ?_ (h v' O G L);unfold execOp;simp only[ho,resolve,invoke,builtin,Sem.run_bind,Sem.run_pure,Result.andThen_ok,cV,bQ,cQ,hs,Y,eR]
end
section
variable{size:Nat}
def Reads.Vw(abl:Elem P t e size bytes z)(hr:Reads w B size A m news)(I:∀u∈news,u.oneCell'=true):Src P size t (Z A m c) m news w:=by
 by_cases hm:m=0
 ·have:=hr.src (c:=c) abl hm
  subst hm;obtain rfl:news=[]:=bu (by simpa using hr.1);exact this
 ·obtain⟨ad,rfl,_,E⟩:=hr.2 ap
  exact Src.ofSlice w abl.und ad m c news hr.1 E I
def pw(abl:Elem P t e size bytes z)(w:X)(ty:Nat){g c2:Nat}{cur:aP}(H:w.heap[g]?=some (.cells cur e (0,0)))(hr:Reads w B size A m news)(I:∀u∈news,u.oneCell'=true)
 (rH:k+m<=c) (hs:(k+m)*size<=cur.size):(cn #[t,t] ty #[Z (some (g,0)) k c,Z A m c2]).run P w=.ok (Z (some (g,0)) (k+m) c) (w.setCells g (k*size) news):=by
 obtain⟨i,hi,_,iZ,_⟩:=abl.info;have zC:Src P i.size t (Z A m c2) m news w:=by rw[iZ];exact hr.Vw abl I
 have hl:=hr.1;have mn:k*size+m*size<=cur.size:=by rw[<-Nat.add_mul];exact hs
 have:=run_append_room_src (P:=P) w t t ty e i abl.und hi g 0 k c (Z A m c2) m news zC rH (λj hj=>by rw[cell_of_row w g _ cur e (0,0) H,iZ,Array.getElem?_eq_getElem ap];rfl) (λj hj=>eJ.frozen (show eJ w g e cur from H) _)
 rw[iZ,cJ] at this;exact this
def sG(abl:Elem P t e size bytes z)(w:X):(zeroValue e).run P w=.ok z w:=by obtain⟨i,hi,hz,_,_⟩:=abl.info;simp[zeroValue,typeInfo,hi,hz]
def pS(hw:bN o (yielded ops a.tmps)=true)(s x:Operand){tx:dC}
 (ho:o.op=.call { callee := .builtin .append,args:=#[s,x],argTypes:=#[t,tx] }) {vs vx v':K} {O:X} (hs:a.eval s=vs) (Y:a.eval x=vx)
 (eR:(cn #[t,tx] o.type #[vs,vx]).run P w=.ok v' O) (h:wpList P ops abo rest (a.put o.dst v') O):wpList P ops abo (o::rest) a w:=by unfold wpList;rw[aA hw];refine .inl ?_;unfold Oper.wp execOp;simp only[ho,resolve,invoke,builtin,Sem.run_bind,Sem.run_pure,Result.andThen_ok,cV,bQ,cQ,hs,Y,eR];exact h
end
def rB{R:K->X->Prop}{r:Result Next}(hr:r=.ok .skip O)(h:R undef O):gE P R r:=by rw[hr];exact h
def kD(w:X)(x i:Nat)(u:K):dM (λb=>b=x) w (w.setCell ⟨x,i,none⟩ u):=(dM.dK (Grow.refl w)).put (V:=λb=>b=x) rfl i u
section
variable{size:Nat}
end
end Go.Hop
end
section
variable{t e:dC}{w:X}{v:K}{b0:Nat}
namespace Go.Hop
open ChangeShapes WideShapes ChangeAt RowKit
section
variable{abj:Type}{enc:dC×K->abj}{P:dD}
theorem rC(hl:laidOutB P=true){abq W':X}(hb:Below (abq:Nat) abq W'):∀(ts:List dC)(vs:List K)(ds:List (DataW abj))(ps:List MemPlace),
 (∀t∈ts,P.readableRec t=true∧t<P.types.size)->DataW.TrodAll enc P abq 0 (λ_=>true) true ts vs ds ps->(∀x∈ps,x.block<(abq:Nat))->
 DataW.TrodAll enc P W' 0 (λb=>decide (b<(abq:Nat))) true ts vs ds ps
 | [],vs,ds,ps,_,h,_=>by
   obtain⟨rfl,rfl,rfl⟩:=trodAll_nil h;exact trodAll_mk0
 | t::ts,vs,ds,ps,hr,h,fS=>by
   obtain⟨v0,vs0,d0,ds0,p0,q0,rfl,rfl,rfl,h0,r0⟩:=trodAll_cons h;obtain⟨I,G⟩:=hr t (by simp);exact⟨p0,q0,Below.trod hl I G h0 hb (λx Y=>fS x (by simp[Y])),rC hl hb ts vs0 ds0 q0 (λu hu=>hr u (by simp[hu])) r0 (λx Y=>fS x (by simp[Y])),rfl⟩
def MP{f:Func}{s:ChangeSpec}{tb:dC}(hl:laidOutB P=true)(htb:P.underlying tb=some .bool)(Ir:f.resultTypes=#[tb])(V7:s.vars=[])
 (V8:(f.params.toList.all λt=>P.readableRec t&&decide (t<P.types.size))=true) {abq W':X} {args:aP} {ds gs:List (DataW abj)} {before:List MemPlace}
 (hW:DataW.Whole enc P f.params.toList s.vars false abq args.toList ds gs before) (Qd:s.fn abj ds={ results:=[.lit (.bool true)],args:=ds }) (hb:Below (abq:Nat) abq W'):s.post enc P f false true false false abq args (aY true) W':=by
 have hW':=hW;have hr:∀t∈f.params.toList,P.readableRec t=true∧t<P.types.size:=by intro t ht;simpa using List.all_eq_true.1 V8 t ht
 have fS:∀p∈before,p.block<(abq:Nat):=λp hp=>hW'.lt p hp;obtain⟨p,q,hA,hV,rfl,hfz,pJ⟩:=hW;rw[V7] at hV;obtain⟨rfl,rfl⟩:=trodVars_none hV;refine⟨ds,[],p++[],[],p,[],hW',?_,?_,?_,World.keptBut_mono (λx Y=>⟨Y,?_⟩) (hb.frame (·∈p++[])),λh=>by cases h⟩
 ·rw[bm,Qd,Ir]
  exact trodAll_mk1 (shut_bool htb true)
 ·rw[bm,Qd]
  exact rC hl hb _ _ _ _ hr hA (λx Y=>fS x (by simp[Y]))
 ·rw[bm,Qd,V7]
  rfl
 ·exact Or.inr (Or.inl (by simpa using Y))
def MQ{z:Int}(h:(Lit.int .u8 z).wf=true):((UInt8.ofNat z.toNat).toNat:Int)=z:=by
 have Y:0<=z∧z<=255:=by simpa [Lit.wf,IntKind.min,IntKind.max,IntKind.signed,IntKind.bits] using h
 rw[UInt8.toNat_ofNat'];omega
def open_bytes(ht:P.underlying t=some (.slice e))(he:P.underlying e=some (.int .u8))(E:P.cellsOf e=1){d:DataW abj}{p:List MemPlace}{r:Reach}
 (hv:Value.okWide P w r b0 t v) (h:DataW.Trod enc P w 0 (λ_=>true) true t v d p):∃(A:aU)(n cap:Nat)(l:aT),v=Z A n cap∧Bytes w (w:Nat) A n l∧n<=cap∧cap<=dG∧
   ((d=.nil∧n=0)∨∃zs:aN,d=.slice (lits .u8 (zs.take n)) (lits .u8 (zs.drop n))∧zs.length=cap):=by
 obtain⟨A,n,cap,rfl⟩:=okWide_slice ht hv
 obtain⟨fuel,hf⟩:=h
 rcases open_ints ht he E hf with ⟨jQ,Y⟩|⟨a,len',cap',zs,jQ,_,hl,hm,hz,Y,ia,TQ⟩
 ·simp only[Value.cells,List.cons.injEq,Value.slice.injEq,and_true] at jQ
  simp only[Prod.mk.injEq] at Y
  obtain⟨rfl,rfl,rfl⟩:=jQ
  exact⟨none,0,0,[],rfl,Reads.nil,bh _,bo _,.inl ⟨Y.1,rfl⟩⟩
 ·simp only[Value.cells,List.cons.injEq,Value.slice.injEq,and_true] at jQ
  simp only[Prod.mk.injEq] at Y
  obtain⟨rfl,rfl,rfl⟩:=jQ
  simp only[if_true] at hz
  refine⟨_,_,_,(zs.take n).map (λz=>UInt8.ofNat z.toNat),rfl,⟨by simp;omega,λhn=>⟨a,rfl,?_,λj u hu=>?_⟩⟩,hl,hm,.inr ⟨zs,Y.1,hz⟩⟩
  ·have:=World.block_lt_of_cell? w (a.add 0) (ia 0 ap)
   rwa [block_add] at this
  ·obtain⟨hj,rfl⟩:=Bm hu
   simp only[bj,bn] at hj
   rw[ia j ap]
   simp only[di,List.getElem_take]
   rw[MQ (TQ _ (bF _))]
   simp[List.getD,show j<zs.length by omega]
def Kh{k:IntKind}(ht:P.underlying t=some (.slice e))(he:P.underlying e=some (.int k))(E:P.cellsOf e=1){d:DataW abj}{p:List MemPlace}{r:Reach}
 (hv:Value.okWide P w r b0 t v) (h:DataW.Trod enc P w 0 (λ_=>true) true t v d p):∃(A:aU)(n cap:Nat)(l:aN),v=.slice A n cap∧Reads w (w:Nat) 1 A n (l.map (Value.int k))∧(∀z∈l,(Lit.int k z).wf=true)∧n<=cap∧cap<=dG∧
   ((d=.nil∧n=0)∨∃zs:aN,d=.slice (lits k (zs.take n)) (lits k (zs.drop n))∧zs.length=cap):=by
 obtain⟨A,n,cap,rfl⟩:=okWide_slice ht hv
 obtain⟨fuel,hf⟩:=h
 rcases open_ints ht he E hf with ⟨jQ,Y⟩|⟨a,len',cap',zs,jQ,_,hl,hm,hz,Y,ia,TQ⟩
 ·simp only[Value.cells,List.cons.injEq,Value.slice.injEq,and_true] at jQ
  simp only[Prod.mk.injEq] at Y
  obtain⟨rfl,rfl,rfl⟩:=jQ
  exact⟨none,0,0,[],rfl,Reads.nil,by simp,bh _,bo _,.inl ⟨Y.1,rfl⟩⟩
 ·simp only[Value.cells,List.cons.injEq,Value.slice.injEq,and_true] at jQ
  simp only[Prod.mk.injEq] at Y
  obtain⟨rfl,rfl,rfl⟩:=jQ
  simp only[if_true] at hz
  refine⟨_,_,_,zs.take n,rfl,⟨by simp;omega,λhn=>⟨a,rfl,?_,λj u hu=>?_⟩⟩,λz hz=>TQ z (bW hz),hl,hm,.inr ⟨zs,Y.1,hz⟩⟩
  ·have:=World.block_lt_of_cell? w (a.add 0) (ia 0 ap)
   rwa [block_add] at this
  ·rw[List.getElem?_map,List.getElem?_take] at hu
   split at hu
   ·rename_i hj
    rw[List.getElem?_eq_getElem ap] at hu
    rw[ia j ap]
    simp only[df,Option.some.injEq] at hu
    rw[<-hu]
    simp[List.getD,show j<zs.length by omega]
   ·cases hu
end
end Go.Hop
namespace Go.Proofs.YtpeepcmdehhbgaaGreatDoor
open RowKit Hop ChangeShapes WideShapes ChangeAt
def own:ownKnob Tryz.prog.godebug=none:=by kernel_rfl
def laidOut:laidOutB W=true:=by kernel_rfl
end Go.Proofs.YtpeepcmdehhbgaaGreatDoor
end
section
open Go.Hop (dW)
variable{w O w1 w0 w2:X}{n e bytes B x k:Nat}{t:dC}{V:aV}{v z u:K}{S S' R:dW}{xs:List K}{A:aU}{P Pr:dD}{cs args:aP}{o:dE}{ρ:Go.Operand->K}{a:dF}{l:aT}
namespace Go.Hop
open RowKit
def New(w O:X)(b:Nat):Prop:=(w:Nat)<=b∧b<(O:Nat)
def ny{e:dC}{size:Nat}(hO:Own w1 (iY (λb=>b=(w:Nat)) (w.alloc (.cells #[] t)) w1) e size v n xs)(hj:dM (λb=>b=(w:Nat)) (w.alloc (.cells #[] t)) w1):Own w1 (New w w1) e size v n xs∧Grow w w1:=by
 have hs:(w:Nat)<(w1:Nat):=by have:=hj.size;simp at this;omega
 refine⟨hO.mono (λb hb=>?_),((Below.refl (w:Nat) w).alloc (bh _) (.cells #[] t)).trans (hj.below (B:=(w:Nat)) (λb hb=>by rw[hb];exact bh _) (by simp))⟩;rcases hb with rfl|⟨I,G⟩
 ·exact⟨bh _,hs⟩
 ·simp at I;exact⟨by omega,G⟩
def lC(w:X)(e:dC)(size:Nat):Own (w.alloc (.cells #[] e)) (λb=>b=(w:Nat)) e size (Z (some ⟨(w:Nat),0,none⟩) 0 0) 0 []:=⟨by simp,.inr ⟨(w:Nat),0,#[],rfl,rfl,heap_alloc_new w _,bh _,bo _,.inl (by simp),by simp⟩⟩
section
variable{P P' abo:aV}
def Solo.wide(h:Solo P S w)(hP:∀b,P b->P' b):Solo P' S w:=by obtain⟨h0,V,I,G⟩:=h;exact⟨λb hb=>hP b (h0 b hb),V,I,λb hb=>⟨hP b (G b hb).1,(G b hb).2⟩⟩
def Solo.turn(h:Solo P S w)(hS:∀V,S w V->S' w V):Solo P S' w:=by obtain⟨h0,V,I,G⟩:=h;exact⟨h0,V,hS V I,G⟩
end
section
variable{α:Type}(e:dC)(size:Nat)(cells:α->List K)(good:X->(Nat->Prop)->α->Prop)
def Zf(B:Nat)(abh:α->Prop)(u:K)(w:X):Prop:=∃(b:α)(abj:Nat),abh b∧u=aZ (cells b).toArray∧good w (λx=>B<=x∧x<abj) b∧abj<=(w:Nat)
def Zg(B:Nat)(abh:α->Prop)(u:K)(w:X):Prop:=∃(b:α)(abj:Nat)(A:aU),abh b∧u=Z A 1 1∧In w (λx=>B<=x) size A 1 (cells b)∧good w (λx=>B<=x∧x<abj) b∧abj<=(w:Nat)
def a3H(R:aV)(B:Nat)(q:List α)(abh:α->Prop)(u:K)(w:X):Prop:=∃(b:α)(R' D':aV),abh b∧Row w R' e size u (q.length+1) ((q++[b]).flatMap cells)∧good w D' b∧(∀x,R' x->(R x∨B<=x)∧x<(w:Nat)∧¬ D' x)∧(∀x,D' x->B<=x∧x<(w:Nat))
variable{e size cells good}
variable{R:aV}{q:List α}{abh:α->Prop}
def jr(good:X->(Nat->Prop)->α->Prop):Prop:=∀(w O:X)(D U:aV)(a:α),good w D a->dM U w O->(∀b,D b->¬ U b)->good O D a
def Ki(hG:jr good)(hl:∀b,(cells b).length=size)(h:Zf cells good B abh u w)(hs:B<=(w:Nat))
 (eR:∀b:α,u=aZ (cells b).toArray->(execOp ρ o).run P w=.ok (.value (Z (some ⟨(w:Nat),0,none⟩) 1 1)) (w.alloc (.cells (cells b).toArray e))):gE P (λv O=>Grow w O∧Zg size cells good B abh v O) ((execOp ρ o).run P w):=by obtain⟨b,abj,e1,e2,hb,hH⟩:=h;have H:Grow w (w.alloc (.cells (cells b).toArray e)):=(Below.refl _ w).alloc (bh _) _;refine gv (eR b e2) ⟨H,b,abj,some ⟨(w:Nat),0,none⟩,e1,rfl,?_,hG _ _ _ _ _ hb (dM.dK (V:=λ_=>False) H) (λ_ _ h=>h),bB hH H.size⟩;obtain⟨L,h4⟩:=fF w (cells b).toArray e (0,0) (n:=1) (size:=size) (by simp[hl]) _ rfl;exact⟨by simp[hl],λhn=>⟨_,rfl,hs,by simp,by obtain⟨ad,e,_,E⟩:=h4 hn;injection e with e;rw[e];simpa using E⟩⟩
def CZ(abl:Elem P t e size bytes z)(hG:jr good)(m_:∀b,∀u∈cells b,u.oneCell'=true){x y:Operand}(Mi:∀x,R x->x<B)
 (h:Row w R e size v q.length (q.flatMap cells)) (hu:Zg size cells good B abh u w) (Mw:B<=(w:Nat)) (fw:(q.length+1)*bytes<=140737488355328)
 (I:ρ x=v) (G:ρ y=u) (ho:o.op=.call { callee := .builtin .append,args:=#[x,y],argTypes:=#[t,t] }):gE P (λv' O=>dM R w O∧a3H e size cells good R B q abh v' O) ((execOp ρ o).run P w):=by
 obtain⟨b,abj,A,e1,rfl,hI,hb,hH⟩:=hu;refine pv abl ho I h G hI.reads (m_ b) fw λv' O T hj=>⟨hj,b,iY R w O,λx=>B<=x∧x<abj,e1,?_,hG _ _ _ _ _ hb hj λx Y hr=>?_,λx Y=>?_,λx Y=>⟨Y.1,bw Y.2 (bB hH hj.size)⟩⟩;·rw[bL,bJ,cE,bm];exact T
 ·exact Nat.lt_irrefl _ (bw (Mi x hr) Y.1)
 ·rcases Y with Y|Y
  ·have:=Mi x Y
   exact⟨.inl Y,by have:=hj.size;omega,λhd=>by have L:B<=x:=hd.1;omega⟩
  ·exact⟨.inr (by have:=Y.1;omega),Y.2,λhd=>by have:=Y.1;have L:x<abj:=hd.2;omega⟩
end
def Zh(size n:Nat)(xs:List K)(u:K)(w:X):Prop:=∃(A:aU)(c:Nat),u=Z A n c∧Reads w (w:Nat) size A n xs
section
variable{e:dC}{size:Nat}
end
def Sep(S R:dW):dW:=λw V=>∃V1 V2:aV,S w V1∧R w V2∧(∀b,V1 b->V b)∧(∀b,V2 b->V b)∧∀b,V1 b->¬ V2 b
def Yr:dW:=λ_ _=>True
def dN:List dW->dW
 | []=>Yr
 | S::l=>Sep S (dN l)
def Cell(x:Nat)(t:dC)(cs:aP):dW:=λw V=>V x∧eJ w x t cs
def Uk(p:Prop):dW:=λ_ _=>p
def eG(l:List dW):Prop:=∀S∈l,eu S
section
variable{R':dW}{l l':List dW}{V':aV}
def Cell.framed(x:Nat)(t:dC)(cs:aP):eu (Cell x t cs):=λ_ _ _ h N=>⟨h.1,(N x h.1).trans h.2⟩
def Yr.framed:eu Yr:=λ_ _ _ _ _=>trivial
def Uk.framed(p:Prop):eu (Uk p):=λ_ _ _ h _=>h
def Sep.framed(I:eu S)(G:eu R):eu (Sep S R):=λw O V ⟨V1,V2,a,b,c,d,e⟩ N=>⟨V1,V2,I w O V1 a λx Y=>N x (c x Y),G w O V2 b λx Y=>N x (d x Y),c,d,e⟩
theorem dN.framed:∀(l:List dW),eG l->eu (dN l)
 | [],_=>Yr.framed
 | S::l,h=>Sep.framed (h S (by simp)) (dN.framed l λR T=>h R (by simp[T]))
def eG.nil:eG []:=λS h=>by simp at h
def eG.cons(h:eu S)(hl:eG l):eG (S::l):=λR T=>by
 rcases List.mem_cons.1 T with rfl|T
 ·exact h
 ·exact hl R T
def Sep.wide(h:Sep S R w V)(hV:∀b,V b->V' b):Sep S R w V':=by obtain⟨V1,V2,a,b,c,d,e⟩:=h;exact⟨V1,V2,a,b,λx Y=>hV x (c x Y),λx Y=>hV x (d x Y),e⟩
def Sep.swap(h:Sep S R w V):Sep R S w V:=by obtain⟨V1,V2,a,b,c,d,e⟩:=h;exact⟨V2,V1,b,a,d,c,λx G I=>e x I G⟩
def Sep.assoc{abo:dW}(h:Sep (Sep S R) abo w V):Sep S (Sep R abo) w V:=by obtain⟨V1,V2,⟨U1,U2,a,b,c,d,e⟩,q,f,g,i⟩:=h;exact⟨U1,λx=>U2 x∨V2 x,a,⟨U2,V2,b,q,λx Y => .inl Y,λx Y => .inr Y,λx Y=>i x (d x Y)⟩,λx Y=>f x (c x Y),λx Y=>Y.elim (λY=>f x (d x Y)) (g x),λx Y hy=>hy.elim (e x Y) (i x (c x Y))⟩
def Sep.FK{abo:dW}(h:Sep S (Sep R abo) w V):Sep (Sep S R) abo w V:=by have I:=h.swap;have G:Sep R (Sep abo S) w V:=Sep.assoc I;have L:Sep abo (Sep S R) w V:=Sep.assoc G.swap;exact L.swap
def Sep.imp(h:Sep S R w V)(hS:∀U,S w U->S' w U)(T:∀U,R w U->R' w U):Sep S' R' w V:=by obtain⟨V1,V2,a,b,c,d,e⟩:=h;exact⟨V1,V2,hS _ a,T _ b,c,d,e⟩
def Sep.fst(h:Sep S R w V):∃U:aV,S w U∧∀b,U b->V b:=by obtain⟨V1,V2,a,b,c,d,e⟩:=h;exact⟨V1,a,c⟩
def Sep.snd(h:Sep S R w V):∃U:aV,R w U∧∀b,U b->V b:=h.swap.fst
theorem dN.perm(hp:l.Perm l'):∀{V:aV},dN l w V->dN l' w V:=by
 induction hp with
 | nil=>exact λh=>h
 | cons S _ ih=>intro V h;obtain⟨V1,V2,a,b,c,d,e⟩:=h;exact⟨V1,V2,a,ih b,c,d,e⟩
 | swap S R l=>
   intro V h;have I:Sep (Sep R S) (dN l) w V:=Sep.FK h;exact Sep.assoc (I.imp (λU hU=>hU.swap) (λU hU=>hU))
 | trans _ _ ih1 ih2=>exact λh=>ih2 (ih1 h)
theorem dN.app:∀(l:List dW){l':List dW}{V:aV},dN (l++l') w V->Sep (dN l) (dN l') w V
 | [],l',V,h=>⟨λ_=>False,V,trivial,h,λ_ h=>h.elim,λ_ h=>h,λ_ h _=>h⟩
 | S::l,l',V,h=>Sep.FK (S:=S) (R:=dN l) (by
     obtain⟨V1,V2,a,b,c,d,e⟩:=h;exact⟨V1,V2,a,dN.app l b,c,d,e⟩)
theorem dN.flat:∀(l:List dW){l':List dW}{V:aV},Sep (dN l) (dN l') w V->dN (l++l') w V
 | [],l',V,h=>by
   obtain⟨V1,V2,_,b,_,d,_⟩:=h;cases l' with
   | nil=>trivial
   | cons S l'=>exact Sep.wide b d
 | S::l,l',V,h=>by
   obtain⟨V1,V2,a,b,c,d,e⟩:=Sep.assoc (S:=S) (R:=dN l) h;exact⟨V1,V2,a,dN.flat l b,c,d,e⟩
theorem dN.pick:∀(l:List dW)(i:Nat)(S:dW),l[i]?=some S->∀{V:aV},dN l w V->Sep S (dN (l.eraseIdx i)) w V
 | S::l,0,S',h,V,hM=>by cases h;exact hM
 | S::l,i+1,S',h,V,hM=>by
   obtain⟨V1,V2,a,b,c,d,e⟩:=hM;have hp:=dN.pick l i S' (by simpa using h) b;have I:Sep (Sep S' (dN (l.eraseIdx i))) S w V:=⟨V2,V1,hp,a,d,c,λx G I=>e x I G⟩;exact (Sep.assoc I).imp (λU hU=>hU) (λU hU=>hU.swap)
theorem dN.rP:∀(l:List dW)(i:Nat)(S S':dW),l[i]?=some S->∀{V:aV},Sep S' (dN (l.eraseIdx i)) w V->dN (l.set i S') w V
 | S::l,0,_,S',_,V,hM=>hM
 | S::l,i+1,S0,S',h,V,hM=>by
   have I:Sep S' (Sep S (dN (l.eraseIdx i))) w V:=hM;have G:Sep S (Sep S' (dN (l.eraseIdx i))) w V:=Sep.assoc ((Sep.FK I).imp (λU hU=>hU.swap) (λU hU=>hU));exact G.imp (λU hU=>hU) (λU hU=>dN.rP l i S0 S' (by simpa using h) hU)
end
section
variable{f:FuncId}{C:Ending->Prop}{R':dW}{l l':List dW}{P:aV}
def wX(h:Sep S R w V)(T:eu R)(hV:∀b,V b->b<(w:Nat))(E:∀U:aV,S w U->(∀b,U b->b<(w:Nat))->(∀b,U b->V b)->dz Pr f args w λe O=>C e∧S' O (iY U w O)∧dM U w O):dz Pr f args w λe O=>C e∧Sep S' R O (iY V w O)∧dM V w O:=by
 obtain⟨V1,V2,a,b,c,d,e⟩:=h;refine (E V1 a (λx Y=>hV x (c x Y)) c).mono λen O ⟨he,hs,hj⟩=>⟨he,⟨iY V1 w O,V2,hs,T w O V2 b λx Y=>hj.block x (hV x (d x Y)) (λI=>e x I Y),λx Y=>?_,λx Y => .inl (d x Y),λx Y G=>?_⟩,hj.imp λx Y=>c x Y⟩
 ·rcases Y with Y|Y
  ·exact .inl (c x Y)
  ·exact .inr Y
 ·rcases Y with Y|Y
  ·exact e x Y G
  ·have:=hV x (d x G);have:=Y.1;omega
def Solo.at_(i:Nat)(hi:l[i]?=some S)(hF:eG l)(h:Solo P (dN l) w)(E:ii Pr f args C S S' w):dz Pr f args w λe O=>C e∧dM P w O∧Solo P (dN (l.set i S')) O:=by refine Solo.call h λV hM hV=>?_;exact (wX (dN.pick l i S hi hM) (dN.framed _ λR T=>hF R (cY T)) hV λU hU Vx _=>E U hU Vx).mono λe O ⟨a,b,c⟩=>⟨a,dN.rP l i S S' hi b,c⟩
def Solo.see(i:Nat)(hi:l[i]?=some S)(h:Solo P (dN l) w):∃U:aV,S w U∧∀b,U b->P b∧b<(w:Nat):=by obtain⟨_,V,hM,hV⟩:=h;obtain⟨U,hU,hs⟩:=(dN.pick l i S hi hM).fst;exact⟨U,hU,λb hb=>hV b (hs b hb)⟩
def Solo.grows(h:Solo P (dN l) w)(hF:eG l)(H:Grow w O):Solo P (dN l) O:=h.grow (dN.framed l hF) H
def nU(V:aV)(w:X)(b:Nat):Prop:=V b∨(w:Nat)<=b
def Solo.begin_(h:S w V)(hV:∀b,V b->b<(w:Nat)):Solo (nU V w) S w:=⟨λ_ hb => .inr hb,V,h,λb hb=>⟨.inl hb,hV b hb⟩⟩
def nU.grow(w:X)(H:Grow w O):dM (nU V w) w O:=dM.dK H
def Solo.end_(hW:∀(U U':aV),(∀b,U b->U' b)->S O U->S O U')(h:Solo (nU V w) S O)(hj:dM (nU V w) w O)(hV:∀b,V b->b<(w:Nat)):S O (iY V w O)∧dM V w O:=by
 obtain⟨_,U,hS,hU⟩:=h;refine⟨hW U _ (λb hb=>?_) hS,⟨hj.os,hj.tape,hj.output,hj.size,λb hb hv=>hj.block b hb λhl=>?_⟩⟩
 ·obtain⟨I,G⟩:=hU b hb
  rcases I with I|I
  ·exact .inl I
  ·exact .inr ⟨I,G⟩
 ·rcases hl with hl|hl
  ·exact hv hl
  ·omega
def C_(S:dW):Prop:=∀(w:X)(U U':aV),(∀b,U b->U' b)->S w U->S w U'
theorem dN.wide(l:List dW):C_ (dN l):=λw U U' h hs=>by
 cases l with
 | nil=>trivial
 | cons S l=>exact Sep.wide hs h
def Solo.done(h:Solo (nU V w) (dN l) O)(hj:dM (nU V w) w O)(hV:∀b,V b->b<(w:Nat)):dN l O (iY V w O)∧dM V w O:=h.end_ (λU U' hu=>dN.wide l O U U' hu) hj hV
theorem Solo.cell{x:Nat}{t:dC}{cs:aP}(h:Solo P (dN (Cell x t cs::l)) w)(i:Nat):w.cell? ⟨x,i,none⟩=cs[i]?:=by obtain⟨U,hU,_⟩:=h.see 0 rfl;exact hU.2.cell i
theorem Solo.frozen{x:Nat}{t:dC}{cs:aP}(h:Solo P (dN (Cell x t cs::l)) w)(i:Nat):w.frozen? ⟨x,i,none⟩=false:=by obtain⟨U,hU,_⟩:=h.see 0 rfl;exact hU.2.frozen i
theorem Solo.put{x:Nat}{t:dC}{cs:aP}(h:Solo P (dN (Cell x t cs::l)) w)(hF:eG l)(i:Nat)(u:K):Solo P (dN (Cell x t (cs.setIfInBounds i u)::l)) (w.setCell ⟨x,i,none⟩ u):=by obtain⟨h0,V,⟨V1,V2,a,b,c,d,e⟩,hV⟩:=h;refine⟨λb hb=>h0 b (by rwa [gg] at hb),V,⟨V1,V2,⟨a.1,a.2.put i u⟩,?_,c,d,e⟩,λb hb=>by rw[gg];exact hV b hb⟩;exact dN.framed l hF w _ V2 b λy hy=>Below.heap_setCell w ⟨x,i,none⟩ u y (λJV=>e x a.1 (by rw[<-show y=x from JV];exact hy))
def Solo.blk{x:Nat}{t:dC}{cs:aP}(i:Nat)(hi:l[i]?=some (Cell x t cs))(h:Solo P (dN l) w):eJ w x t cs:=by obtain⟨U,hU,_⟩:=h.see i hi;exact hU.2
def Solo.Vy(i:Nat)(hi:l[i]?=some (Cell x t cs))(h:Solo P (dN l) w):P x∧x<(w:Nat):=by obtain⟨U,hU,G⟩:=h.see i hi;exact G x hU.1
def Solo.turned{x:Nat}{t:dC}{cs cs':aP}(i:Nat)(hi:l[i]?=some (Cell x t cs))(hF:eG l)(h:Solo P (dN l) w)(hj:dM (λb=>b=x) w O)(hB:eJ O x t cs'):Solo P (dN (l.set i (Cell x t cs'))) O:=by obtain⟨h0,V,hM,hV⟩:=h;obtain⟨V1,V2,a,b,c,d,e⟩:=dN.pick l i _ hi hM;refine⟨λy hy=>h0 y (bB hj.size hy),V,dN.rP l i (Cell x t cs) _ hi ⟨V1,V2,⟨a.1,hB⟩,?_,c,d,e⟩,λy hy=>⟨(hV y hy).1,bw (hV y hy).2 hj.size⟩⟩;exact dN.framed _ (λR T=>hF R (cY T)) w O V2 b λy hy=>hj.block y (hV y (d y hy)).2 λJV=>e x a.1 (by rw[<-JV];exact hy)
def Solo.puts(i:Nat)(hi:l[i]?=some (Cell x t cs))(hF:eG l)(h:Solo P (dN l) w)(k:Nat)(u:K):Solo P (dN (l.set i (Cell x t (cs.setIfInBounds k u)))) (w.setCell ⟨x,k,none⟩ u):=h.turned i hi hF (kD w x k u) ((h.blk i hi).put k u)
def Solo.join{R:dW}(h:Solo P (dN l) w)(hF:eG l)(H:Grow w O){U:aV}(T:R O U)(hU:∀b,U b->(w:Nat)<=b∧b<(O:Nat)):Solo P (dN (R::l)) O:=by
 obtain⟨h0,V,hM,hV⟩:=h;refine⟨λb hb=>h0 b (bB H.size hb),λb=>V b∨U b,⟨U,V,T,dN.framed l hF w O V hM λb hb=>H.block b (hV b hb).2,λb hb => .inr hb,λb hb => .inl hb,λb hb hv=>?_⟩,λb hb=>?_⟩;·have:=(hV b hv).2;have:=(hU b hb).1;omega
 ·rcases hb with hb|hb
  ·exact⟨(hV b hb).1,bw (hV b hb).2 H.size⟩
  ·exact⟨h0 b (hU b hb).1,(hU b hb).2⟩
theorem Solo.perm(hp:l.Perm l')(h:Solo P (dN l) w):Solo P (dN l') w:=h.turn λ_ hV=>dN.perm hp hV
def Solo.drop1(h:Solo P (dN (S::l)) w):Solo P (dN l) w:=h.turn λV hV=>by obtain⟨U,hU,hs⟩:=Sep.snd hV;exact dN.wide l w U V hs hU
theorem Solo.flat(h:Solo P (dN (dN l::l')) w):Solo P (dN (l++l')) w:=h.turn λ_ hV=>dN.flat l hV
def Solo.Vz(h:Solo P (dN (l++l')) w):Solo P (dN (dN l::l')) w:=h.turn λ_ hV=>dN.app l hV
def Solo.map(i:Nat)(hi:l[i]?=some S)(h:Solo P (dN l) w)(hS:∀U,S w U->S' w U):Solo P (dN (l.set i S')) w:=h.turn λ_ hV=>dN.rP l i S S' hi ((dN.pick l i S hi hV).imp hS λ_ h=>h)
end
inductive Bl where
 | c (p:Nat) (t:dC) (cs:aP)
 | o (S:dW)
def Bl.th:Bl->dW
 | .c p t cs=>Cell p t cs
 | .o S=>S
def Bl.ok:Bl->Prop
 | .c ..=>True
 | .o S=>eu S
theorem Bl.framed:∀{x:Bl},x.ok->eu x.th
 | .c p t cs,_=>Cell.framed p t cs
 | .o _,h=>h
abbrev px(l:List Bl):List dW:=l.map Bl.th
def pF:List Bl->Prop
 | []=>True
 | x::l=>x.ok∧pF l
theorem oP:∀{l:List Bl},pF l->∀x∈l,x.ok
 | x::l,h,y,hy=>by
   rcases List.mem_cons.1 hy with rfl|hy
   ·exact h.1
   ·exact oP h.2 y hy
theorem pT:∀{l:List Bl},(∀x∈l,x.ok)->pF l
 | [],_=>trivial
 | x::l,h=>⟨h x (by simp),pT λy hy=>h y (by simp[hy])⟩
def lz{a b:List Bl}(ha:pF a)(hb:pF b):pF (a++b):=pT λx Y=>(List.mem_append.1 Y).elim (oP ha x) (oP hb x)
def jC{a b:List Bl}(h:pF (a++b)):pF b:=pT λx Y=>oP h x (List.mem_append.2 (.inr Y))
def Q_{l:List Bl}(h:pF l)(i:Nat){b:Bl}(hb:b.ok):pF (l.set i b):=pT λx Y=>(List.mem_or_eq_of_mem_set Y).elim (oP h x) λe=>e▸hb
def fP{l:List Bl}(h:pF l):eG (px l):=λS hS=>by obtain⟨x,Y,rfl⟩:=List.mem_map.1 hS;exact Bl.framed (oP h x Y)
def iD{l:List Bl}{i:Nat}{b:Bl}(h:l[i]?=some b):(px l)[i]?=some b.th:=by simp[px,h]
structure St(V:Nat->Prop)(w0:X)(l:List Bl)(w:X):Prop where
 own:Solo (nU V w0) (dN (px l)) w
 just:dM (nU V w0) w0 w
 ok:pF l
 lt:∀b,V b->b<(w0:Nat)
def Lw(P:dD)(D:aV)(f:FuncId)(args:aP)(a:List Bl){ι:Type}(C:ι->Ending->Prop)(a':ι->List Bl)(w:X):Prop:=∀V:aV,dN (px a) w V->(∀b,V b->b<(w:Nat)∧¬ D b)->dz P f args w λe O=>∃i,C i e∧dN (px (a' i)) O (iY V w O)∧dM V w O
def ec:List Bl->X->Prop
 | [],_=>True
 | .c p _ cs::l,w=>((∀i,w.cell? ⟨p,i,none⟩=cs[i]?)∧∀i,w.frozen? ⟨p,i,none⟩=false)∧ec l w
 | .o _::l,w=>ec l w
theorem wY:∀{l:List Bl}{w:X}{V:aV},dN (px l) w V->ec l w
 | [],_,_,_=>trivial
 | .c p t cs::l,w,V,h=>by
   obtain⟨_,_,I,G,_⟩:=h;exact⟨⟨λi=>I.2.cell i,λi=>I.2.frozen i⟩,wY G⟩
 | .o S::l,w,V,h=>by
   obtain⟨_,_,_,G,_⟩:=h;exact wY (l:=l) G
section
variable{D:aV}{f:FuncId}{ι:Type}{x:Bl}{C:ι->Ending->Prop}{l a b:List Bl}{a':ι->List Bl}{p:Nat}
theorem St.begin_(h:dN (px l) w V)(hV:∀b,V b->b<(w:Nat))(ho:pF l):St V w l w:=⟨Solo.begin_ h hV,dM.dK (Grow.refl w),ho,hV⟩
def St.facts(h:St V w0 l w):ec l w:=by obtain⟨⟨_,V,hM,_⟩,_⟩:=h;exact wY hM
theorem St.blk(h:St V w0 l w)(i:Nat)(hi:l[i]?=some (.c p t cs)):eJ w p t cs:=h.own.blk i (iD hi)
def St.grow(h:St V w0 l w)(H:Grow w O):St V w0 l O:=⟨h.own.grows (fP h.ok) H,h.just.trans (dM.dK H),h.ok,h.lt⟩
def fb(w:X)(o:Obj):Grow w (w.alloc o):=(Below.refl _ w).alloc (bh _) o
def St.new(h:St V w0 l w)(cs:aP)(t:dC):St V w0 (.c (w:Nat) t cs::l) (w.alloc (.cells cs t)):=⟨h.own.join (fP h.ok) (fb w _) (R:=Cell (w:Nat) t cs) (U:=λb=>b=(w:Nat)) ⟨rfl,eJ.made w t cs⟩ (λb hb=>by rw[show b=(w:Nat) from hb];exact⟨bh _,by simp⟩),h.just.trans (dM.dK (fb w _)),⟨trivial,h.ok⟩,h.lt⟩
theorem St.join(h:St V w0 l w){S:dW}(hS:eu S)(H:Grow w O){U:aV}(T:S O U)(hU:∀b,U b->(w:Nat)<=b∧b<(O:Nat)):St V w0 (.o S::l) O:=⟨h.own.join (fP h.ok) H T hU,h.just.trans (dM.dK H),⟨hS,h.ok⟩,h.lt⟩
def R1(l:List Bl)(i:Nat)(b:Bl):px (l.set i b)=(px l).set i b.th:=List.map_set
theorem St.turned(h:St V w0 l w)(i:Nat){cs':aP}(hi:l[i]?=some (.c p t cs))(hj:dM (λb=>b=p) w O)(hB:eJ O p t cs'):St V w0 (l.set i (.c p t cs')) O:=⟨by rw[R1];exact h.own.turned i (iD hi) (fP h.ok) hj hB,h.just.trans (hj.imp λb hb=>hb▸(h.own.Vy i (iD hi)).1),Q_ h.ok i trivial,h.lt⟩
theorem St.put(h:St V w0 l w)(i:Nat)(hi:l[i]?=some (.c p t cs))(k:Nat)(u:K):St V w0 (l.set i (.c p t (cs.setIfInBounds k u))) (w.setCell ⟨p,k,none⟩ u):=h.turned i hi (kD w p k u) ((h.blk i hi).put k u)
theorem St.perm(h:St V w0 l w){l':List Bl}(hp:l.Perm l'):St V w0 l' w:=⟨h.own.perm (hp.map _),h.just,pT λx Y=>oP h.ok x (hp.mem_iff.2 Y),h.lt⟩
theorem mM{α:Type}:∀{l:List α}{i:Nat}{b:α},l[i]?=some b->l.Perm (b::l.eraseIdx i)
 | x::l,0,b,h=>by cases h;exact List.Perm.refl _
 | x::l,i+1,b,h=>((mM (l:=l) (i:=i) (by simpa using h)).cons x).trans (List.Perm.swap b x _)
def St.front(h:St V w0 l w)(i:Nat){b:Bl}(hi:l[i]?=some b):St V w0 (b::l.eraseIdx i) w:=h.perm (mM hi)
def kE(a b:List Bl):px (a++b)=px a++px b:=bI
def St.call(h:St V w0 (a++b) w)(TS:∀i,pF (a' i))(hD:∀x,D x->x<(w:Nat)->¬ nU V w0 x)(E:Lw P D f args a C a' w):dz P f args w λe O=>∃i,C i e∧St V w0 (a' i++b) O:=by
 obtain⟨⟨h0,V1,hM,hV⟩,hj,ho,fS⟩:=h;rw[kE] at hM;obtain⟨U1,U2,hA,hB,k1,k2,k3⟩:=dN.app _ hM;refine (E U1 hA λx Y=>⟨(hV x (k1 x Y)).2,λhd=>hD x hd (hV x (k1 x Y)).2 (hV x (k1 x Y)).1⟩).mono λe O ⟨i,hC,XZ,lR⟩=>⟨i,hC,⟨⟨λx Y=>h0 x (bB lR.size Y),iY V1 w O,?_,λx Y=>?_⟩,hj.trans (lR.imp λx Y=>(hV x (k1 x Y)).1),lz (TS i) (jC ho),fS⟩⟩
 ·rw[kE]
  refine dN.flat _ ⟨iY U1 w O,U2,XZ,dN.framed _ (fP (jC ho)) w O U2 hB λx Y=>lR.block x (hV x (k2 x Y)).2 λI=>k3 x I Y,λx Y=>?_,λx Y => .inl (k2 x Y),λx Y G=>?_⟩
  ·rcases Y with Y|Y
   ·exact .inl (k1 x Y)
   ·exact .inr Y
  ·rcases Y with Y|Y
   ·exact k3 x Y G
   ·have:=(hV x (k2 x G)).2;have:=Y.1;omega
 ·rcases Y with Y|Y
  ·exact⟨(hV x Y).1,bw (hV x Y).2 lR.size⟩
  ·exact⟨h0 x Y.1,Y.2⟩
def St.D1(h:St V w0 (a++x::b) w)(TS:∀i,pF (a' i))(E:∀U:aV,x.th w U->(∀y,U y->y<(w:Nat))->Lw P U f args a C a' w):dz P f args w λe O=>∃i,C i e∧St V w0 (a' i++x::b) O:=by
 obtain⟨⟨h0,V1,hM,hV⟩,hj,ho,fS⟩:=h;rw[kE] at hM;obtain⟨U1,U2,hA,hB,k1,k2,k3⟩:=dN.app _ hM;obtain⟨W1,W2,Y,hB',m1,m2,m3⟩:=hB;refine (E W1 Y (λy hy=>(hV y (k2 y (m1 y hy))).2) U1 hA λy hy=>⟨(hV y (k1 y hy)).2,λhd=>k3 y hy (m1 y hd)⟩).mono λe O ⟨i,hC,XZ,lR⟩=>⟨i,hC,⟨⟨λy hy=>h0 y (bB lR.size hy),iY V1 w O,?_,λy hy=>?_⟩,hj.trans (lR.imp λy hy=>(hV y (k1 y hy)).1),lz (TS i) (jC ho),fS⟩⟩
 ·rw[kE]
  refine dN.flat _ ⟨iY U1 w O,U2,XZ,dN.framed _ (fP (jC ho)) w O U2 ⟨W1,W2,Y,hB',m1,m2,m3⟩ λy hy=>lR.block y (hV y (k2 y hy)).2 λI=>k3 y I hy,λy hy=>?_,λy hy => .inl (k2 y hy),λy hy G=>?_⟩
  ·rcases hy with hy|hy
   ·exact .inl (k1 y hy)
   ·exact .inr hy
  ·rcases hy with hy|hy
   ·exact k3 y hy G
   ·have:=(hV y (k2 y G)).2;have:=hy.1;omega
 ·rcases hy with hy|hy
  ·exact⟨(hV y hy).1,bw (hV y hy).2 lR.size⟩
  ·exact⟨h0 y hy.1,hy.2⟩
def St.opn{κ:Type}{o:κ->List Bl}(h:St V w0 (.o S::b) w)(hS:∀U,S w U->∃k,dN (px (o k)) w U∧pF (o k)):∃k,St V w0 (o k++b) w:=by obtain⟨⟨h0,V1,⟨U1,U2,hA,hB,k1,k2,k3⟩,hV⟩,hj,ho,fS⟩:=h;obtain⟨k,hM,N⟩:=hS U1 hA;exact⟨k,⟨h0,V1,by rw[kE];exact dN.flat _ ⟨U1,U2,hM,hB,k1,k2,k3⟩,hV⟩,hj,lz N ho.2,fS⟩
def St.cls(h:St V w0 (a++b) w)(hF:eu S)(hS:∀U,dN (px a) w U->S w U):St V w0 (.o S::b) w:=by obtain⟨⟨h0,V1,hM,hV⟩,hj,ho,fS⟩:=h;rw[kE] at hM;obtain⟨U1,U2,hA,hB,k1,k2,k3⟩:=dN.app _ hM;exact⟨⟨h0,V1,⟨U1,U2,hS _ hA,hB,k1,k2,k3⟩,hV⟩,hj,⟨hF,jC ho⟩,fS⟩
def St.drop(h:St V w0 (x::b) w):St V w0 b w:=⟨h.own.drop1,h.just,h.ok.2,h.lt⟩
def St.fin(h:St V w l O):dN (px l) O (iY V w O)∧dM V w O:=h.own.done h.just h.lt
theorem St.size(h:St V w0 l w):(w0:Nat)<=(w:Nat):=h.just.size
def St.keep(h:St V w0 l w)(hD:∀x,D x->x<(w0:Nat)∧¬ V x):∀x,D x->w.heap[x]?=w0.heap[x]?:=λx Y=>
 h.just.block x (hD x Y).1 λhl=>hl.elim (hD x Y).2 λG=>by have:=(hD x Y).1;omega
def St.far(hD:∀x,D x->x<(w0:Nat)∧¬ V x):∀x,D x->x<(w:Nat)->¬ nU V w0 x:=λx Y _ hl=>hl.elim (hD x Y).2 λG=>by have:=(hD x Y).1;omega
theorem iG{α:Type}:∀{l:List α}{i:Nat}{b b':α},l[i]?=some b->(l.set i b').Perm (b'::l.eraseIdx i)
 | x::l,0,b,b',h=>by cases h;exact List.Perm.refl _
 | x::l,i+1,b,b',h=>((iG (l:=l) (i:=i) (b':=b') (by simpa using h)).cons x).trans (List.Perm.swap b' x _)
def St.at_(h:St V w0 l w)(i:Nat){S':ι->dW}(hi:l[i]?=some (.o S))(hF:∀k,eu (S' k))(hD:∀x,D x->x<(w:Nat)->¬ nU V w0 x)(E:Lw P D f args [.o S] C (λk=>[.o (S' k)]) w):dz P f args w λe O=>∃k,C k e∧St V w0 (l.set i (.o (S' k))) O:=(St.call (a:=[.o S]) (a':=λk=>[.o (S' k)]) (b:=l.eraseIdx i) (h.front i hi) (λk=>⟨hF k,trivial⟩) hD E).mono λe O ⟨k,hC,hS⟩=>⟨k,hC,hS.perm (iG hi).symm⟩
def St.atR(h:St V w0 l w)(i j:Nat){S':ι->dW}(hi:l[i]?=some (.o S))(hj:(l.eraseIdx i)[j]?=some x)(hF:∀k,eu (S' k))(E:∀U:aV,x.th w U->(∀y,U y->y<(w:Nat))->Lw P U f args [.o S] C (λk=>[.o (S' k)]) w):dz P f args w λe O=>∃k,C k e∧St V w0 (l.set i (.o (S' k))) O:=(St.D1 (a:=[.o S]) (a':=λk=>[.o (S' k)]) (b:=(l.eraseIdx i).eraseIdx j) ((h.front i hi).perm ((mM hj).cons _)) (λk=>⟨hF k,trivial⟩) E).mono λe O ⟨k,hC,hS⟩=>⟨k,hC,(hS.perm ((mM hj).symm.cons _)).perm (iG hi).symm⟩
def St.dO(h:St V w0 l w)(i:Nat){b:Bl}(hi:l[i]?=some b):St V w0 (l.eraseIdx i) w:=(h.front i hi).drop
def St.new'(h:St V w0 l w)(cs:aP)(t:dC):∃y wa,Hid (y=(w:Nat))∧Hid (wa=w.alloc (.cells cs t))∧St V w0 (.c y t cs::l) wa:=⟨_,_,rfl,rfl,h.new cs t⟩
end
def ze(R:K->dF->Prop)(a:dF)(o:dE)(w:X):Result Next->Prop
 | .ok (.value v) O=>O=w∧R v (a.put o.dst v)
 | _=>False
def FL{R:K->dF->Prop}:ze R a o w (.ok (.value v) O)=(O=w∧R v (a.put o.dst v)):=rfl
attribute [go_sem] FL
def aM{a a':Act}{o:Oper}{w:World}{v:Value}{r:Result Next}(h:∀R:Value->Act->Prop,R v a'->ze R a o w r:=by intro R T;go_simp;exact T):∀R:Value->Act->Prop,R v a'->ze R a o w r:=h
def a3I(R:FuncId->Array K->Prop)(w:X):Result Next->Prop
 | .ok (.enter f args) O=>O=w∧R f args
 | _=>False
def FM{R:FuncId->Array K->Prop}{f:FuncId}:a3I R w (.ok (.enter f args) O)=(O=w∧R f args):=rfl
attribute [go_sem] FM
abbrev Facts:=List (Nat×K×Fact)
section
variable{ops:Array dE}{abo:Exit->dF->X->Prop}{A:Nat->List Nat}{abk:Nat->Kind}{abm:dF->X->Prop}{l:List dE}{j:Nat}{F:Facts}
def a3J(P:dD)(ops:Array dE)(A:Nat->List Nat)(abk:Nat->Kind)(abm:dF->X->Prop)(w0:X)(l:List dE)(j:Nat)(a:dF)(F:Facts):Prop:=wL P ops A abk quiet w0 abm l j a F
end
section
variable{l:List Bl}
def St.made{g:Nat}(h:St V w0 l w)(H:Grow w O)(hB:eJ O g t cs)(hn:(w:Nat)<=g):St V w0 (.c g t cs::l) O:=⟨h.own.join (fP h.ok) H (R:=Cell g t cs) (U:=λb=>b=g) ⟨rfl,hB⟩ (λb hb=>by rw[show b=g from hb];exact⟨hn,hB.lt⟩),h.just.trans (dM.dK H),⟨trivial,h.ok⟩,h.lt⟩
end
attribute [irreducible] a3J
def eJ.jL(h:eJ w x t cs){size:Nat}(hn:cs.toList.length=n*size):In w (λb=>b=x) size (some (x,0)) n cs.toList:=
 ⟨hn,λ_=>⟨_,rfl,rfl,h.lt,λj u hu=>by
  have I:=h.cell j;have G:((x,0):dA).add j=⟨x,j,none⟩:=by
   unfold Addr.add;split;·rename_i h;rw[h]
   ·simp
  rw[G,I,<-Array.getElem?_toList];exact hu⟩⟩
section
variable{f:FuncId}{C:Ending->Prop}{R':dW}{l l':List dW}{P:aV}
def Solo.Ys(i:Nat)(hi:l[i]?=some S)(hF:eG l)(h:Solo P (dN l) w)(E:∀U:aV,S w U->(∀b,U b->b<(w:Nat))->(∀b,U b->P b)->dz Pr f args w λe O=>C e∧S' O (iY U w O)∧dM U w O):dz Pr f args w λe O=>C e∧dM P w O∧Solo P (dN (l.set i S')) O:=by obtain⟨h0,V,I,h4⟩:=h;refine (wX (dN.pick l i S hi I) (dN.framed _ λR T=>hF R (cY T)) (λb hb=>(h4 b hb).2) λU hU Vx hU3=>E U hU Vx λb hb=>(h4 b (hU3 b hb)).1).mono λe O ⟨a,b,c⟩=>⟨a,c.imp λk N=>(h4 k N).1,λb hb=>h0 b (bB c.size hb),iY V w O,dN.rP l i S S' hi b,Bo h4 h0 c.size⟩
def Solo.R3{φ:X->Prop}(i:Nat)(hi:l[i]?=some S)(hF:eG l)(h:Solo P (dN l) w)(E:∀U:aV,S w U->(∀b,U b->P b∧b<(w:Nat))->∃O,φ O∧S' O U∧dM U w O):∃O,φ O∧Solo P (dN (l.set i S')) O∧dM P w O:=by obtain⟨h0,V,I,h4⟩:=h;obtain⟨V1,V2,a,b,c,d,e⟩:=dN.pick l i S hi I;obtain⟨O,hp,hs,hj⟩:=E V1 a λx Y=>h4 x (c x Y);have T:=dN.framed _ (λR T=>hF R (cY T)) w O V2 b λx Y=>hj.block x (h4 x (d x Y)).2 λI=>e x I Y;exact⟨O,hp,⟨λb hb=>h0 b (bB hj.size hb),V,dN.rP l i S S' hi ⟨V1,V2,hs,T,c,d,e⟩,λb hb=>⟨(h4 b hb).1,bw (h4 b hb).2 hj.size⟩⟩,hj.imp λx Y=>(h4 x (c x Y)).1⟩
def Solo.VA(h0:∀b,(w:Nat)<=b->P b)(hM:dN l w V)(hV:∀b,V b->P b∧b<(w:Nat)):Solo P (dN l) w:=⟨h0,V,hM,hV⟩
def Solo.D3{U:aV}(h0:∀b,(w:Nat)<=b->P b)(hM:dN l w V)(hV:∀b,V b->P b∧b<(w:Nat))(T:R w U)(hU:∀b,U b->P b∧b<(w:Nat)∧¬ V b):Solo P (dN (R::l)) w:=⟨h0,λb=>U b∨V b,⟨U,V,T,hM,λ_ h => .inl h,λ_ h => .inr h,λb I G=>(hU b I).2.2 G⟩,λb hb=>hb.elim (λh=>⟨(hU b h).1,(hU b h).2.1⟩) (hV b)⟩
end
end Go.Hop
namespace Go.Proofs.YtpeepcmdehhbgaaGreatDoor
open RowKit Hop
abbrev Dl:=ByteArray×Nat
def mN(d:Dl):List K:=[aX d.1,ae ah d.2]
def fm(l:List Dl):List K:=l.flatMap mN
def iH(d:Dl):(mN d).length=2:=rfl
def rQ(l:List Dl):∀u∈fm l,u.oneCell'=true:=by intro u hu;unfold fm at hu;obtain⟨d,_,hd⟩:=List.mem_flatMap.1 hu;simp only[mN,cI,cF,or_false] at hd;rcases hd with rfl|rfl<;>rfl
def ka(l:List Dl):(fm l).length=l.length*2:=ix mN 2 iH l
def New(w O:X)(b:Nat):Prop:=(w:Nat)<=b∧b<(O:Nat)
theorem info_parts{size:Nat}(h:(Tryz.prog.info? e).map (λi=>(i.zero,i.size,i.bytes))=some (some z,size,bytes)):∃i,Tryz.prog.info? e=some i∧i.zero=some z∧i.size=size∧i.bytes=bytes:=by
 cases hi:Tryz.prog.info? e with
 | none=>rw[hi] at h;cases h
 | some i=>rw[hi] at h;injection h with h;injection h with I G;injection G with G L;exact⟨i,rfl,I,G,L⟩
def FN:(Tryz.prog.info? 147).map (λi=>(i.zero,i.size,i.bytes))=some (some (aZ #[.string .empty,ae ah 0]),2,24):=by kernel_rfl
def oQ:Elem W 38 147 2 24 (aZ #[.string .empty,ae ah 0]):=⟨Tryz.underlying38,info_parts FN,rfl,by decide,by decide⟩
def jM(w:X)(V:aV)(A:aU)(n:Nat)(l:List Dl):Prop:=In w V 2 A n (fm l)
def jM.len{l:List Dl}(h:jM w V A n l):l.length=n:=by have:=h.1;rw[ka] at this;omega
def ny{e:dC}{size:Nat}(hO:Own w1 (iY (λb=>b=(w:Nat)) (w.alloc (.cells #[] t)) w1) e size v n xs)(hj:dM (λb=>b=(w:Nat)) (w.alloc (.cells #[] t)) w1):Own w1 (New w w1) e size v n xs∧Grow w w1:=by
 have hs:(w:Nat)<(w1:Nat):=by have:=hj.size;simp at this;omega
 refine⟨hO.mono (λb hb=>?_),((Below.refl (w:Nat) w).alloc (bh _) (.cells #[] t)).trans (hj.below (B:=(w:Nat)) (λb hb=>by rw[hb];exact bh _) (by simp))⟩;rcases hb with rfl|⟨I,G⟩
 ·exact⟨bh _,hs⟩
 ·simp at I;exact⟨by omega,G⟩
def lC(w:X)(e:dC)(size:Nat):Own (w.alloc (.cells #[] e)) (λb=>b=(w:Nat)) e size (Z (some ⟨(w:Nat),0,none⟩) 0 0) 0 []:=⟨by simp,.inr ⟨(w:Nat),0,#[],rfl,rfl,heap_alloc_new w _,bh _,bo _,.inl (by simp),by simp⟩⟩
end Go.Proofs.YtpeepcmdehhbgaaGreatDoor
namespace Go.Proofs.YtpeepcmdehhbgaaGreatDoor.abn
open RowKit Hop
abbrev Lb:=ByteArray×ByteArray
def mc(d:Lb):List K:=[aX d.1,aX d.2]
def gF(l:List Lb):List K:=l.flatMap mc
def oc(d:Lb):(mc d).length=2:=rfl
def wZ(l:List Lb):∀u∈gF l,u.oneCell'=true:=by intro u hu;unfold gF at hu;obtain⟨d,_,hd⟩:=List.mem_flatMap.1 hu;simp only[mc,cI,cF,or_false] at hd;rcases hd with rfl|rfl<;>rfl
def oR(l:List Lb):(gF l).length=l.length*2:=ix mc 2 oc l
def FO:(Tryz.prog.info? 66).map (λi=>(i.zero,i.size,i.bytes))=some (some (aZ #[.string .empty,.string .empty]),2,32):=by kernel_rfl
def MR:Elem W 67 66 2 32 (aZ #[.string .empty,.string .empty]):=⟨Tryz.underlying67,info_parts FO,rfl,by decide,by decide⟩
def MS:(Tryz.prog.info? 9).map (λi=>(i.zero,i.size,i.bytes))=some (some (.string .empty),1,16):=by kernel_rfl
def a3L:Elem W 59 9 1 16 (.string .empty):=⟨Tryz.underlying59,info_parts MS,rfl,by decide,by decide⟩
def FP(l:List ByteArray):∀u∈l.map Value.string,u.oneCell'=true:=by intro u hu;obtain⟨x,_,rfl⟩:=List.mem_map.1 hu;rfl
def FQ{q:List Lb}(h:In w V 2 A n (gF q))(N:k<n):∃(ad:dA)(hq:k<q.length),A=some ad∧(∀w1,Grow w w1->w1.cell? (ad.add (k*2))=some (aX q[k].1))∧∀w1,Grow w w1->w1.cell? ⟨(ad.add (k*2)).block,(ad.add (k*2)).off+1,none⟩=some (aX q[k].2):=by obtain⟨ad,hq,e,_,hb,e0,e12⟩:=In.mr (cells:=mc) h ap oc N;exact⟨ad,hq,e,λw1 H=>(H.cell (by rw[block_add];exact hb)).trans (e0 _ rfl),λw1 H=>(H.cell (p:=⟨(ad.add (k*2)).block,(ad.add (k*2)).off+1,none⟩) (show (ad.add (k*2)).block<_ by rw[block_add];exact hb)).trans (e12 0 _ rfl)⟩
def VB{q:List ByteArray}(h:In w V 1 A n (q.map Value.string))(N:k<n):∃(ad:dA)(hq:k<q.length),A=some ad∧∀w1,Grow w w1->w1.cell? (ad.add k)=some (aX q[k]):=by
 obtain⟨ad,e,_,hb,E⟩:=h.2 ap;have hl:=h.1;simp only[bj,cM] at hl;have hq:k<q.length:=by omega
 exact⟨ad,hq,e,λw1 H=>(H.cell (by rw[block_add];exact hb)).trans (E k _ (by rw[List.getElem?_map,List.getElem?_eq_getElem hq];rfl))⟩
def LIn.len{l:List Lb}(h:In w V 2 A n (gF l)):l.length=n:=by have:=h.1;rw[oR] at this;omega
end Go.Proofs.YtpeepcmdehhbgaaGreatDoor.abn
namespace Go.Proofs.YtpeepcmdehhbgaaGreatDoor
open RowKit Hop
theorem jD(w:X)(V:aV)(A:aU)(n c:Nat)(l:List Dl)(h:jM w V A n l)(hn:n<=1048576):dz W 188 #[Z A n c] w λe O=>∃A' c',e=b5 (Z A' n c')∧jM O (New w O) A' n l∧n<=c'∧c'<=dG∧Grow w O:=by
 have kS:=λ(O:X)=>Lib.run_eql_slice_nil (P:=W) O 38 147 A n c 0 0 Tryz.underlying38;cases A with
 | none=>
   have y_:n=0:=by
    rcases b_ n with h0|h0
    ·exact h0
    ·obtain⟨_,e,_⟩:=h.2 h0;cases e
   subst y_;obtain rfl:l=[]:=bu h.len;go_in;go_wp2;go_ret;exact⟨_,_,rfl,In.nil,bh _,bo _,Grow.refl _⟩
 | some ad=>
   go_in;go_wp2_with (at_builtin;refine stay ?_);refine dI ?_;refine fO (V:=λb=>b=(w:Nat)) oQ _ rfl (.tmp 5) (.tmp 6) rfl (Z (some ⟨(w:Nat),0,none⟩) 0 0) 0 [] rfl (lC w _ _) (w:Nat) (some ad) n c (fm l) rfl (Reads.alloc (In.reads h) (bh _) _) (rQ l) ap ?_;intro v1 w1 kv wo;simp only[cJ,ch] at kv;obtain⟨sw,eD⟩:=ny kv wo;obtain⟨A2,c2,rfl,hI,iS,hm⟩:=sw.jL;go_wp2;go_ret;exact⟨A2,c2,rfl,hI,iS,hm,eD⟩
def od(w:X)(A:aU)(n c:Nat)(hn:n<=c):dz W 133 #[Z A n c] w λe O=>e=b5 (Z A n n)∧w=O:=by go_in;go_wp2;go_ret;exact⟨rfl,rfl⟩
end Go.Proofs.YtpeepcmdehhbgaaGreatDoor
namespace Go.Proofs.YtpeepcmdehhbgaaGreatDoor.V
open RowKit Hop
def Br:(Tryz.prog.info? 5).map (λi=>(i.zero,i.size,i.bytes))=some (some (.int .u8 0),1,1):=by kernel_rfl
theorem info_parts{size:Nat}(h:(Tryz.prog.info? e).map (λi=>(i.zero,i.size,i.bytes))=some (some z,size,bytes)):∃i,Tryz.prog.info? e=some i∧i.zero=some z∧i.size=size∧i.bytes=bytes:=by
 cases hi:Tryz.prog.info? e with
 | none=>rw[hi] at h;cases h
 | some i=>rw[hi] at h;injection h with h;injection h with I G;injection G with G L;exact⟨i,rfl,I,G,L⟩
def Kj:Elem W 23 5 1 1 (.int .u8 0):=⟨d9,info_parts Br,rfl,by decide,by decide⟩
def New(w O:X)(b:Nat):Prop:=(w:Nat)<=b∧b<(O:Nat)
def w_(l:aT)(k:Nat):kz (l.take k)=(kz l).take (k*1):=by unfold kz;rw[List.map_take,cM]
def pU(l:aT)(k:Nat):kz (l.drop k)=(kz l).drop (k*1):=by unfold kz;rw[List.map_drop,cM]
def IF(w:X)(h:eM l u w):(convert 23 9 u).run W w=.ok (aX ⟨l.toArray⟩) w:=CU 23 9 5 d9 dm cW w h
def x9(w:X){c:Nat}(h:Bytes w B A n l):(convert 23 9 (Z A n c)).run W w=.ok (aX ⟨l.toArray⟩) w:=pP 23 9 5 d9 dm cW w h
def lC(w:X):Own (w.alloc (.cells #[] 5)) (λb=>b=(w:Nat)) 5 1 (Z (some ⟨(w:Nat),0,none⟩) 0 0) 0 []:=Own.wO (World.ownsRow_made w #[] 0 (bh _) am rfl) (λg H=>by injection H with H;exact H.symm)
def ny(hO:Own w1 (iY (λb=>b=(w:Nat)) (w.alloc (.cells #[] 5)) w1) 5 1 v n xs)(hj:dM (λb=>b=(w:Nat)) (w.alloc (.cells #[] 5)) w1):Own w1 (New w w1) 5 1 v n xs∧Grow w w1:=by
 have hs:(w:Nat)<(w1:Nat):=by have:=hj.size;simp at this;omega
 refine⟨hO.mono (λb hb=>?_),((Below.refl (w:Nat) w).alloc (bh _) (.cells #[] 5)).trans (hj.below (B:=(w:Nat)) (λb hb=>by rw[hb];exact bh _) (by simp))⟩;rcases hb with rfl|⟨I,G⟩
 ·exact⟨bh _,hs⟩
 ·simp at I;exact⟨by omega,G⟩
def D4{size:Nat}(H:Grow w w1)(hO:Own w2 (iY (New w w1) w1 w2) e size v n xs)(hj:dM (New w w1) w1 w2):Own w2 (New w w2) e size v n xs∧Grow w w2:=by
 have I:=H.size;have G:=hj.size;refine⟨hO.mono λb hb=>?_,Below.trans H (hj.below (B:=(w:Nat)) (λb hb=>hb.1) I)⟩;rcases hb with hb|hb
 ·exact⟨hb.1,by have:=hb.2;omega⟩
 ·exact⟨by have:=hb.1;omega,hb.2⟩
def mC{size:Nat}{o:Obj}(H:Grow w w1)(hO:Own w2 (iY (New w w1) (w1.alloc o) w2) e size v n xs)(hj:dM (New w w1) (w1.alloc o) w2):Own w2 (New w w2) e size v n xs∧Grow w w2:=by
 have I:=H.size;have G:=hj.size;simp at G;refine⟨hO.mono λb hb=>?_,Below.trans H (Below.trans ((Below.refl (w1:Nat) w1).alloc (bh _) o |>.mono I) (hj.below (B:=(w:Nat)) (λb hb=>hb.1) (by simp;omega)))⟩;rcases hb with hb|hb
 ·exact⟨hb.1,by have:=hb.2;omega⟩
 ·have:=hb.1;simp at this;exact⟨by omega,hb.2⟩
def mD{size:Nat}(hO:Own w1 (New w w1) e size v n xs)(o:Obj):Own (w1.alloc o) (New w w1) e size v n xs:=hO.grow (λb hb=>hb.2) ((Below.refl (w1:Nat) w1).alloc (bh _) o)
theorem jD(w:X)(A:aU)(n c:Nat)(l:aT)(h:Bytes w (w:Nat) A n l)(hn:n<=140737488355328):dz W 135 #[Z A n c] w λe O=>∃v,e=b5 v∧Own O (New w O) 5 1 v n (kz l)∧Grow w O:=by
 have kS:=λ(O:X)=>Lib.run_eql_slice_nil (P:=W) O 23 5 A n c 0 0 d9;cases A with
 | none=>
   have y_:n=0:=by
    rcases b_ n with h0|h0
    ·exact h0
    ·obtain⟨_,e,_⟩:=h.2 h0;cases e
   subst y_;obtain rfl:l=[]:=bu h.len;go_in;go_wp2;go_ret;exact⟨_,rfl,Own.nil,Grow.refl _⟩
 | some ad=>
   go_in;go_wp2_with (at_builtin;refine stay ?_);refine dI ?_;refine fO (V:=λb=>b=(w:Nat)) Kj _ rfl (.tmp 5) (.tmp 6) rfl (Z (some ⟨(w:Nat),0,none⟩) 0 0) 0 [] rfl (lC w) (w:Nat) (some ad) n c (kz l) rfl (Reads.alloc h (bh _) _) lx ap ?_;intro v1 w1 kv wo;simp only[cJ,ch] at kv;obtain⟨kv,eD⟩:=ny kv wo;go_wp2;go_ret;exact⟨v1,rfl,kv,eD⟩
def od(w:X)(A:aU)(n c:Nat)(hn:n<=c):dz W 238 #[Z A n c] w λe O=>e=b5 (Z A n n)∧w=O:=by go_in;go_wp2;go_ret;exact⟨rfl,rfl⟩
def D5(w:X)(V:aV)(v:K)(n:Nat)(l:aT)(h:Own w V 5 1 v n (kz l)):dz W 238 #[v] w λe O=>∃v',e=b5 v'∧w=O∧Own w V 5 1 v' n (kz l):=by obtain⟨A,c,rfl,T,hn,hm⟩:=h.reads;refine (od w A n c hn).mono λe O ⟨he,hw⟩=>⟨_,he,hw,?_⟩;have:=h.cut (bh n);rwa [bH (by rw[h.1];omega)] at this
def D6:∀x:Nat,x<256->bits .or .u8 (x:Int) 128=((x % 128+128:Nat):Int):=by decide +kernel
def Zi(m:Nat):bits .or .u8 ((m:Int) % 256) 128=((m % 128+128:Nat):Int):=by have:=D6 (m % 256) ap;rw[show ((m % 256:Nat):Int)=(m:Int) % 256 by omega] at this;rw[this];omega
def _root_.Go.Hop.Reads.oe{size:Nat}{ys:List K}(h:Reads w B size A n xs)(e:ys=xs):Reads w B size A n ys:=e▸h
def Bt(w:X)(A:aU)(n c:Nat)(l:aT)(hb:Bytes w (w:Nat) A n l)(hn:n<=1099511627776)(m:Nat)(hm:m<18446744073709551616):dz W 182 #[Z A n c,ae ah m] w λe O=>∃v,e=b5 v∧Own O (New w O) 5 1 v (n+(enc m).length) (kz (l++enc m))∧Grow w O:=by
 have fj:=eE hm;go_in;go_wp2_with (go_at_call 135;refine (jD _ A n c l hb ap).mono ?_;rintro e w1 ⟨v1,rfl,kv,eD⟩);go_loopw [1,5] (λmv v wr=>∃(pre:aT)(m':Nat),mv=ae ah m'∧m'<18446744073709551616∧pre++enc m'=enc m∧Own wr (New w wr) 5 1 v (n+pre.length) (kz (l++pre))∧Grow w wr) (λmv _ _=>(intOf mv).toNat);case atStart=>exact⟨[],m,rfl,hm,rfl,by simpa using kv,eD⟩
 case round=>
  obtain⟨pre,m',rfl,YR,F4,hO,H⟩:=hrel;obtain⟨A1,c1,rfl,lT,oK,ry⟩:=hO.reads;have TT:pre.length<=10:=by have:=congrArg List.length F4;rw[bd] at this;omega
  have HP:=Q F4;clear F4;by_cases hgo:128<=m'
  ·have eor:=Zi m'
   go_wp2_with (at_builtin;refine stay ?_);refine dI ?_;refine fO (V:=New w wr) Kj _ rfl (.tmp 10) (.tmp 14) rfl (Z A1 (n+pre.length) c1) (n+pre.length) (kz (l++pre)) rfl (mD hO _) ((wr:Nat)+1) (some ⟨(wr:Nat),0,none⟩) 1 1 (kz [UInt8.ofNat (m' % 128+128)]) rfl (fF wr _ 5 _ rfl _ rfl |>.oe (by simp only[kz,bQ,cQ];rw[nT ap];push_cast;rfl)) lx ap ?_;intro v3 w3 nt mz;rw[<-iT,bp] at nt;obtain⟨nt,ib⟩:=mC H nt mz;clear mz hO lT;go_wp2_with fail;go_roundw;case rel=>exact⟨pre++[UInt8.ofNat (m' % 128+128)],m' / 128,by go_num,by omega,by rw[bp,List.singleton_append,<-lB hgo];exact HP.out,by rw[bd,<-Nat.add_assoc];exact nt,ib⟩
   case measure=>simp[intOf];omega
  ·go_wp2_with (at_builtin;refine stay ?_)
   refine dI ?_;refine fO (V:=New w wr) Kj _ rfl (.tmp 18) (.tmp 21) rfl (Z A1 (n+pre.length) c1) (n+pre.length) (kz (l++pre)) rfl (mD hO _) ((wr:Nat)+1) (some ⟨(wr:Nat),0,none⟩) 1 1 (kz [UInt8.ofNat m']) rfl (fF wr _ 5 _ rfl _ rfl |>.oe (by simp only[kz,bQ,cQ];rw[nT ap])) lx ap ?_;intro v3 w3 nt mz;rw[<-iT,bp] at nt;obtain⟨nt,ib⟩:=mC H nt mz;have hP:=HP.out;rw[j7 ap] at hP;rw[hP] at nt;have hL:=congrArg List.length hP;rw[bd,bv] at hL;have hL':n+pre.length+1=n+(enc m).length:=by omega
   rw[hL'] at nt;clear mz hO lT hP hL hL';obtain⟨A3,c3,rfl,jN,Ul,R4⟩:=nt.reads;go_wp2_with (go_at_call 238;refine (D5 _ _ _ _ _ nt).mono ?_;rintro e w4 ⟨v4,rfl,rfl,hO4⟩);go_ret;exact⟨v4,rfl,hO4,ib⟩
def ug:∀x:Nat,x<256->bits .andNot .u64 (x:Int) 128=((x % 128:Nat):Int):=by decide +kernel
def R5(i:Nat):(2:Int) ^ (i*7)=((128 ^ i:Nat):Int):=by rw[Nat.mul_comm,Int.pow_mul];push_cast;rfl
def FR(p i:Nat)(h:p*128 ^ i<18446744073709551616):IntKind.u64.wrap ((p:Int)*2 ^ (i*7))=((p*128 ^ i:Nat):Int):=by rw[R5,<-Int.natCast_mul,wrap_u64];omega
def FT(p i:Nat):((p*128 ^ i:Nat):Int) / 2 ^ (i*7)=(p:Int):=by rw[R5,<-Int.natCast_ediv,Nat.mul_div_cancel _ (Nat.pow_pos ap)]
def Bu(p i:Nat)(h:¬ p*128 ^ i<18446744073709551616)(hi:i<=9)(hp:p<128):∃q d:Nat,IntKind.u64.wrap ((p:Int)*2 ^ (i*7))=(q:Int)∧(q:Int) / 2 ^ (i*7)=(d:Int)∧d≠p:=by
 have h9:i=9:=by
  rcases Nat.lt_or_ge i 9 with I|I
  ·exfalso
   have:128 ^ i<=128 ^ 8:=Nat.pow_le_pow_right ap ap;have G:p*128 ^ i<=127*128 ^ 8:=Nat.mul_le_mul ap this;omega
  ·omega
 subst h9;refine⟨p*128 ^ 9 % 18446744073709551616,p % 2,?_,?_,by omega⟩;·rw[R5,<-Int.natCast_mul,wrap_u64];omega
 ·rw[R5];omega
def VC(a b:Nat)(ha:a<18446744073709551616)(hb:b<18446744073709551616):bits .or .u64 (a:Int) (b:Int)=((a ||| b:Nat):Int):=by show IntKind.u64.wrap ((BitVec.ofInt 64 (a:Int) ||| BitVec.ofInt 64 (b:Int)).toNat:Nat)=_;rw[BitVec.toNat_or,BitVec.toNat_ofInt,BitVec.toNat_ofInt,wrap_u64];rw[show ((a:Int) % ((2 ^ 64:Nat):Int)).toNat=a by omega,show ((b:Int) % ((2 ^ 64:Nat):Int)).toNat=b by omega];have:=Nat.or_lt_two_pow (n:=64) ha hb;omega
def IG(a p i:Nat)(ha:a<128 ^ i)(h:p*128 ^ i<18446744073709551616)(hi:i<=9):a+p*128 ^ i<18446744073709551616:=by
 have M9:(18446744073709551616:Nat)=2 ^ (64-7*i)*128 ^ i:=by rw[show (128:Nat)=2 ^ 7 by rfl,<-Nat.pow_mul,<-Nat.pow_add,show 64-7*i+7*i=64 by omega]
 rw[M9] at h ⊢;have hp:p<2 ^ (64-7*i):=Nat.lt_of_mul_lt_mul_right h;calc a+p*128 ^ i<128 ^ i+p*128 ^ i:=by omega
  _=(p+1)*128 ^ i:=by rw[Nat.add_mul];omega
  _<=2 ^ (64-7*i)*128 ^ i:=cK _ hp
def MU(a p i:Nat)(ha:a<128 ^ i)(h:p*128 ^ i<18446744073709551616)(hi:i<=9)(_hp:p<128):bits .or .u64 (a:Int) ((p*128 ^ i:Nat):Int)=((a+p*128 ^ i:Nat):Int):=by
 have I:=IG a p i ha h hi;rw[VC a _ ap h];have Zj:(128:Nat) ^ i=2 ^ (7*i):=by rw[Nat.pow_mul]
 rw[Zj] at ha ⊢;have:=Nat.two_pow_add_eq_or_of_lt ha p;rw[Nat.mul_comm p,Nat.or_comm,<-this,Nat.add_comm]
def Kk(w:X)(B:Nat)(A:aU)(n c:Nat)(l:aT)(hb:Bytes w B A n l)(Qe:n<=dG)(hn:n<10):dz W 134 #[Z A n c] w λe O=>∃v k:Nat,iF l v k∧e=b5 (a_ #[ae ah v,J k])∧w=O:=by
 have fj:=hb.len;unfold dG at Qe;go_in;go_wp2_with fail;go_loopw [4,11] (λav iv wr=>∃i:Nat,i<=n∧iv=J i∧av=ae ah (val (l.take i):Int)∧Hi l i∧wr=w) (λ_ iv _=>n-(intOf iv).toNat);case atStart=>exact⟨0,by omega,rfl,rfl,λj hj h=>by omega,rfl⟩
 case round=>
  obtain⟨i,kT,rfl,rfl,JW,rfl⟩:=hrel;by_cases hi:i<n
  ·obtain⟨ad,vP,rfl,ia⟩:=hb.at_ (show i<n by omega)
   have E:=l[i].toNat_lt;obtain⟨x,HX⟩:∃x:Nat,Hid (x=l[i].toNat):=⟨l[i].toNat,rfl⟩;rw[<-HX.out] at ia E;have Zk:=ug x ap;obtain⟨p,IH⟩:=az (x % 128:Nat);have hp:p<128:=by have:=IH.out;omega
   rw[<-IH.out] at Zk;have hv:=ly l i vP;rw[<-HX.out,<-IH.out] at hv;have JX:=pQ l i;obtain⟨a,HA⟩:=az (val (l.take i):Nat);obtain⟨b,HB⟩:=az (val (l.take (i+1)):Nat);rw[<-HA.out] at hv JX;rw[<-HB.out] at hv;rw[<-HA.out];have zL:=Q JW;clear JW;by_cases JY:p*128 ^ i<18446744073709551616
   ·have ew:=FR p i JY
    obtain⟨q,HQ⟩:=az (p*128 ^ i:Nat);have ed:=FT p i;rw[<-HQ.out] at ew ed hv JY;have eo:bits .or .u64 (a:Int) (q:Int)=(b:Int):=by rw[hv,HQ.out];exact MU a p i JX (by rw[<-HQ.out];exact JY) (show i<=9 by omega) hp
    have uV:b<18446744073709551616:=by have:=IG a p i JX (by rw[<-HQ.out];exact JY) (show i<=9 by omega);rw[<-HQ.out] at this;omega
    clear hv JX;by_cases Y:128<=x
    ·go_wp2_with fail
     go_roundw;case rel=>exact⟨i+1,by omega,by go_num,by rw[HB.out],Bp vP zL.out (by rw[<-HX.out];exact Y),trivial⟩
     case measure=>simp[intOf];omega
    ·by_cases hz:x<=0∧0<i
     ·obtain⟨hz,h0⟩:=hz
      have hz':l[i]=0:=by have:=HX.out;apply UInt8.toNat_inj.1;rw[<-this,show x=0 by omega];rfl
      go_wp2;go_ret2;exact⟨0,0,iF.none (pR vP zL.out hz' h0),rfl,rfl⟩
     ·have hG:iF l b (i+1):=by
       rw[HB.out];refine uc vP zL.out (by rw[<-HX.out];omega) ?_ (by rw[<-HB.out];exact uV);by_cases h0:i=0;·exact .inr h0
       ·refine .inl λe=>hz ⟨?_,by omega⟩
        have:x=0:=by rw[HX.out,e];rfl
        omega
      by_cases TU:x<=0
      ·have hi0:i<=0:=by omega
       clear hz
       go_wp2
       go_ret2
       exact⟨b,i+1,hG,by push_cast;rfl,rfl⟩
      ·clear hz
       go_wp2
       go_ret2
       exact⟨b,i+1,hG,by push_cast;rfl,rfl⟩
   ·obtain⟨q,d,ew,ed,hd⟩:=Bu p i ap ap hp
    go_wp2;go_ret2;refine⟨0,0,iF.none (rN vP zL.out ?_),rfl,rfl⟩;rw[<-HX.out,<-IH.out];omega
  ·have tR:i=n:=by omega
   have zL:=Q JW;clear JW;obtain⟨a,HA⟩:=az (val (l.take i):Nat);rw[<-HA.out];subst tR;go_wp2;go_ret2;exact⟨0,0,iF.none (ub zL.out ap),rfl,rfl⟩
def MV(w:X)(B:Nat)(A:aU)(n c:Nat)(l:aT)(hb:Bytes w B A n l)(Qe:n<=dG)(hn:10<n):dz W 134 #[Z A n c] w λe O=>∃v k:Nat,iF l v k∧e=b5 (a_ #[ae ah v,J k])∧w=O:=by
 have fj:=hb.len;unfold dG at Qe;go_in;go_wp2_with fail;go_loopw [4,11] (λav iv wr=>∃i:Nat,i<=10∧iv=J i∧av=ae ah (val (l.take i):Int)∧Hi l i∧wr=w) (λ_ iv _=>10-(intOf iv).toNat);case atStart=>exact⟨0,by omega,rfl,rfl,λj hj h=>by omega,rfl⟩
 case round=>
  obtain⟨i,kT,rfl,rfl,JW,rfl⟩:=hrel;by_cases hi:i<10
  ·obtain⟨ad,vP,rfl,ia⟩:=hb.at_ (show i<n by omega)
   have E:=l[i].toNat_lt;obtain⟨x,HX⟩:∃x:Nat,Hid (x=l[i].toNat):=⟨l[i].toNat,rfl⟩;rw[<-HX.out] at ia E;have Zk:=ug x ap;obtain⟨p,IH⟩:=az (x % 128:Nat);have hp:p<128:=by have:=IH.out;omega
   rw[<-IH.out] at Zk;have hv:=ly l i vP;rw[<-HX.out,<-IH.out] at hv;have JX:=pQ l i;obtain⟨a,HA⟩:=az (val (l.take i):Nat);obtain⟨b,HB⟩:=az (val (l.take (i+1)):Nat);rw[<-HA.out] at hv JX;rw[<-HB.out] at hv;rw[<-HA.out];have zL:=Q JW;clear JW;by_cases JY:p*128 ^ i<18446744073709551616
   ·have ew:=FR p i JY
    obtain⟨q,HQ⟩:=az (p*128 ^ i:Nat);have ed:=FT p i;rw[<-HQ.out] at ew ed hv JY;have eo:bits .or .u64 (a:Int) (q:Int)=(b:Int):=by rw[hv,HQ.out];exact MU a p i JX (by rw[<-HQ.out];exact JY) (show i<=9 by omega) hp
    have uV:b<18446744073709551616:=by have:=IG a p i JX (by rw[<-HQ.out];exact JY) (show i<=9 by omega);rw[<-HQ.out] at this;omega
    clear hv JX;by_cases Y:128<=x
    ·go_wp2_with fail
     go_roundw;case rel=>exact⟨i+1,by omega,by go_num,by rw[HB.out],Bp vP zL.out (by rw[<-HX.out];exact Y),trivial⟩
     case measure=>simp[intOf];omega
    ·by_cases hz:x<=0∧0<i
     ·obtain⟨hz,h0⟩:=hz
      have hz':l[i]=0:=by have:=HX.out;apply UInt8.toNat_inj.1;rw[<-this,show x=0 by omega];rfl
      go_wp2;go_ret2;exact⟨0,0,iF.none (pR vP zL.out hz' h0),rfl,rfl⟩
     ·have hG:iF l b (i+1):=by
       rw[HB.out];refine uc vP zL.out (by rw[<-HX.out];omega) ?_ (by rw[<-HB.out];exact uV);by_cases h0:i=0;·exact .inr h0
       ·refine .inl λe=>hz ⟨?_,by omega⟩
        have:x=0:=by rw[HX.out,e];rfl
        omega
      by_cases TU:x<=0
      ·have hi0:i<=0:=by omega
       clear hz
       go_wp2
       go_ret2
       exact⟨b,i+1,hG,by push_cast;rfl,rfl⟩
      ·clear hz
       go_wp2
       go_ret2
       exact⟨b,i+1,hG,by push_cast;rfl,rfl⟩
   ·obtain⟨q,d,ew,ed,hd⟩:=Bu p i ap ap hp
    go_wp2;go_ret2;refine⟨0,0,iF.none (rN vP zL.out ?_),rfl,rfl⟩;rw[<-HX.out,<-IH.out];omega
  ·have tR:i=10:=by omega
   have zL:=Q JW;clear JW;obtain⟨a,HA⟩:=az (val (l.take i):Nat);rw[<-HA.out];subst tR;go_wp2;go_ret2;exact⟨0,0,iF.none (ub zL.out ap),rfl,rfl⟩
def R6(w:X)(B:Nat)(A:aU)(n c:Nat)(l:aT)(hb:Bytes w B A n l)(Qe:n<=dG)(hn:n=10):dz W 134 #[Z A n c] w λe O=>∃v k:Nat,iF l v k∧e=b5 (a_ #[ae ah v,J k])∧w=O:=by
 have fj:=hb.len;subst hn;clear Qe;go_in;go_wp2_with fail;go_loopw [4,11] (λav iv wr=>∃i:Nat,i<=10∧iv=J i∧av=ae ah (val (l.take i):Int)∧Hi l i∧wr=w) (λ_ iv _=>10-(intOf iv).toNat);case atStart=>exact⟨0,by omega,rfl,rfl,λj hj h=>by omega,rfl⟩
 case round=>
  obtain⟨i,kT,rfl,rfl,JW,rfl⟩:=hrel;by_cases hi:i<10
  ·obtain⟨ad,vP,rfl,ia⟩:=hb.at_ (show i<10 by omega)
   have E:=l[i].toNat_lt;obtain⟨x,HX⟩:∃x:Nat,Hid (x=l[i].toNat):=⟨l[i].toNat,rfl⟩;rw[<-HX.out] at ia E;have Zk:=ug x ap;obtain⟨p,IH⟩:=az (x % 128:Nat);have hp:p<128:=by have:=IH.out;omega
   rw[<-IH.out] at Zk;have hv:=ly l i vP;rw[<-HX.out,<-IH.out] at hv;have JX:=pQ l i;obtain⟨a,HA⟩:=az (val (l.take i):Nat);obtain⟨b,HB⟩:=az (val (l.take (i+1)):Nat);rw[<-HA.out] at hv JX;rw[<-HB.out] at hv;rw[<-HA.out];have zL:=Q JW;clear JW;by_cases JY:p*128 ^ i<18446744073709551616
   ·have ew:=FR p i JY
    obtain⟨q,HQ⟩:=az (p*128 ^ i:Nat);have ed:=FT p i;rw[<-HQ.out] at ew ed hv JY;have eo:bits .or .u64 (a:Int) (q:Int)=(b:Int):=by rw[hv,HQ.out];exact MU a p i JX (by rw[<-HQ.out];exact JY) (show i<=9 by omega) hp
    have uV:b<18446744073709551616:=by have:=IG a p i JX (by rw[<-HQ.out];exact JY) (show i<=9 by omega);rw[<-HQ.out] at this;omega
    clear hv JX;by_cases Y:128<=x
    ·go_wp2_with fail
     go_roundw;case rel=>exact⟨i+1,by omega,by go_num,by rw[HB.out],Bp vP zL.out (by rw[<-HX.out];exact Y),trivial⟩
     case measure=>simp[intOf];omega
    ·by_cases hz:x<=0∧0<i
     ·obtain⟨hz,h0⟩:=hz
      have hz':l[i]=0:=by have:=HX.out;apply UInt8.toNat_inj.1;rw[<-this,show x=0 by omega];rfl
      go_wp2;go_ret2;exact⟨0,0,iF.none (pR vP zL.out hz' h0),rfl,rfl⟩
     ·have hG:iF l b (i+1):=by
       rw[HB.out];refine uc vP zL.out (by rw[<-HX.out];omega) ?_ (by rw[<-HB.out];exact uV);by_cases h0:i=0;·exact .inr h0
       ·refine .inl λe=>hz ⟨?_,by omega⟩
        have:x=0:=by rw[HX.out,e];rfl
        omega
      by_cases TU:x<=0
      ·have hi0:i<=0:=by omega
       clear hz
       go_wp2
       go_ret2
       exact⟨b,i+1,hG,by push_cast;rfl,rfl⟩
      ·clear hz
       go_wp2
       go_ret2
       exact⟨b,i+1,hG,by push_cast;rfl,rfl⟩
   ·obtain⟨q,d,ew,ed,hd⟩:=Bu p i ap ap hp
    go_wp2;go_ret2;refine⟨0,0,iF.none (rN vP zL.out ?_),rfl,rfl⟩;rw[<-HX.out,<-IH.out];omega
  ·have tR:i=10:=by omega
   have zL:=Q JW;clear JW;obtain⟨a,HA⟩:=az (val (l.take i):Nat);rw[<-HA.out];subst tR;go_wp2;go_ret2;exact⟨0,0,iF.none (ub zL.out ap),rfl,rfl⟩
def qG(w:X)(B:Nat)(A:aU)(n c:Nat)(l:aT)(hb:Bytes w B A n l)(Qe:n<=dG):dz W 134 #[Z A n c] w λe O=>∃v k:Nat,iF l v k∧e=b5 (a_ #[ae ah v,J k])∧w=O:=by
 by_cases h:n<10;·exact Kk w B A n c l hb Qe h
 ·by_cases h':10<n
  ·exact MV w B A n c l hb Qe h'
  ·exact R6 w B A n c l hb Qe ap
def fits(l b:aT):Bool:=decide (l.length+b.length<=1048576)
def Bv(l b:aT):Int:=if fits l b then 0 else 24
def R7(l b:aT):List UInt8:=if fits l b then l++b else l
def sI(l:aT)(n:Int):Bool:=decide (0<=n)&&decide (n<=(l.length:Int))
def R8(l:aT)(n:Int):List UInt8:=if sI l n then l.take n.toNat else l
def kb(l:aT)(k:Nat)(n:Int):Nat:=if sI l n then n.toNat else k
def g9(t d:Nat)(l:aT)(k:Nat):dW:=λw V=>
 V d∧k<=l.length∧l.length<=1048576∧∃v,eJ w d t #[v,J k]∧Own w (λb=>V b∧b≠d) 5 1 v l.length (kz l)
def g9.framed(t d:Nat)(l:aT)(k:Nat):eu (g9 t d l k):=λw O V h N=>by obtain⟨I,G,L,v,h4,h5⟩:=h;exact⟨I,G,L,v,(N d I).trans h4,h5.keep λb hb=>N b hb.1⟩
end Go.Proofs.YtpeepcmdehhbgaaGreatDoor.V
end
section
variable{V:aV}{r cnt:Nat}{left:ByteArray->Bool}{P:dD}{t e:dC}
namespace Go.Hop
open RowKit Lib
def Bw(s:aR):strCells s=kz s.data.toList:=by unfold strCells kz;rfl
section
variable{u:dC}
def rR(abl:Elem P t e 1 1 (.int .u8 0))(hu:P.underlying u=some .string)(w:X)(ty:Nat)(v:K)(n:Nat)(xs:List K)(im:Own w V e 1 v n xs)(s:aR)
 (fw:n+s.size<=140737488355328):∃v' O,(cn #[t,u] ty #[v,aX s]).run P w=.ok v' O∧Own O (iY V w O) e 1 v' (n+s.size) (xs++kz s.data.toList)∧dM V w O:=by
 obtain⟨i,hi,hz,hs,hb⟩:=abl.info;have zC:Src P i.size u (aX s) s.size (kz s.data.toList) w:=by rw[hs];exact Src.ofString w hu s
 have QF:xs.length=n:=by have:=im.1;omega
 have YQ:(kz s.data.toList).length=s.size:=by have:=zC.newsLen;rw[hs] at this;omega
 have grow:∀(ao:aU)(cap:Nat),v=Z ao n cap->cap<n+s.size->(Builtin.firstCells i.size n (Z ao n cap)).run P w.drew=.ok xs.toArray w.drew->
  ∃v' O,(cn #[t,u] ty #[v,aX s]).run P w=.ok v' O∧Own O (iY V w O) e 1 v' (n+s.size) (xs++kz s.data.toList)∧dM V w O:=by
  rintro ao cap rfl H hold;have Mu:n+s.size<=dG:=by simp only[dG];omega
  have eR:=run_append_grow_src (P:=P) w t u ty e i (.int .u8 0) abl.und hi hz ao n cap xs hold (aX s) s.size (kz s.data.toList) zC H ap (growslice_fits H (by rw[hb];omega));have QG:=grownCap_ge w (n+s.size) cap e;have iO:grownCap w (n+s.size) cap e<=dG:=grownCap_le_maxLen w (n+s.size) cap e Mu;refine⟨_,_,eR,⟨by rw[bd];omega,.inr ⟨(w:Nat),_,_,rfl,.inr ⟨bh _,by simp⟩,heap_alloc_new w.drew _,QG,iO,.inl ?_,?_⟩⟩,⟨rfl,rfl,rfl,by simp,λk N _=>heap_alloc_old w.drew _ N⟩⟩
  ·have hz1:(Value.int IntKind.u8 0).cells.size=1:=rfl
   simp only[Array.size_append,cy,size_zeroCells,hz1,bd,QF,YQ];omega
  ·have hl:(xs++kz s.data.toList).length=(n+s.size)*1:=by rw[bd];omega
   rw[Array.toList_append,List.toList_toArray,<-hl];exact List.take_left
 by_cases hm:s.size=0
 ·have hn:kz s.data.toList=[]:=bu ap
  rw[hn,hm] at zC;obtain⟨A,c,rfl,_,iS,_⟩:=im.reads;refine⟨_,w,run_append_nothing (P:=P) w t u ty e i abl.und hi A n c iS (aX s) zC,?_,dM.dK (Grow.refl w)⟩;rw[hn,hm,bm];exact im.mono λb hb => .inl hb
 ·rcases im.2 with ⟨hv,h0⟩|⟨g,cap,cur,hv,hV,H,iS,iO,iZ,j9⟩
  ·subst h0
   obtain rfl:xs=[]:=bu QF;exact grow none 0 hv ap (run_firstCells_none (P:=P) w.drew i.size 0 0 0)
  ·by_cases rH:n+s.size<=cap
   ·have jQ:cur.size=cap:=by
     rcases iZ with h|⟨h,_⟩
     ·omega
     ·omega
    have hr:=run_append_room_string (P:=P) w t u ty e i abl.und hu hi hs g n cap cur H s rH ap
    subst hv
    refine⟨_,_,hr,⟨by rw[bd];omega,.inr ⟨g,cap,_,rfl,.inl hV,setRow_heap w g cur _ e _ H,rH,iO,.inl ?_,?_⟩⟩,⟨rfl,rfl,rfl,by simp,λk _ N=>setRow_other w g k _ (λe=>N (by rw[e];exact hV))⟩⟩
    ·simp only[cy,bd,bn,bO,bZ,strCells_length]
     omega
    ·have ht':cur.toList.take n=xs:=by simpa using j9
     have hl:(xs++strCells s).length=(n+s.size)*1:=by rw[bd,QF,strCells_length,cM]
     rw[List.toList_toArray,ht',<-hl,Bw]
     exact List.take_left
   ·refine grow (some (g,0)) cap hv ap ?_
    obtain⟨A',c',hv',rx,_,_⟩:=im.reads;refine run_firstCells_some (P:=P) w.drew i.size n (g,0) n cap xs (by rw[hs];exact im.1) λj u' hu'=>?_;have y_:0<n:=by
     rcases b_ n with h0|h0
     ·rw[bu (show xs.length=0 by omega)] at hu';simp at hu'
     ·exact h0
    obtain⟨Ze,e',_,XX⟩:=rx.2 y_;rw[hv] at hv';injection hv' with hv';rw[<-hv'] at e';injection e' with e';rw[e'];exact XX j u' hu'
def xb(abl:Elem P t e 1 1 (.int .u8 0))(hu:P.underlying u=some .string)(w:X){ops:Array dE}{rest:List dE}{o:dE}{a:dF}{abo:Exit->dF->X->Prop}(hw:bN o (yielded ops a.tmps)=true)(s x:Operand)
 (ho:o.op=.call { callee := .builtin .append,args:=#[s,x],argTypes:=#[t,u] })
 (v:K) (n:Nat) (xs:List K) (hs:a.eval s=v) (im:Own w V e 1 v n xs)
 (str:aR) (Y:a.eval x=aX str) (fw:n+str.size<=140737488355328)
 (h:∀v' O,Own O (iY V w O) e 1 v' (n+str.size) (xs++kz str.data.toList)->dM V w O->wpList P ops abo rest (a.put o.dst v') O):wpList P ops abo (o::rest) a w:=by obtain⟨v',O,eR,G,L⟩:=rR abl hu w o.type v n xs im str fw;unfold wpList;rw[aA hw];refine .inl ?_;unfold Oper.wp execOp;simp only[ho,resolve,invoke,builtin,Sem.run_bind,Sem.run_pure,Result.andThen_ok,cV,bQ,cQ,hs,Y,eR];exact h v' O G L
end
end Go.Hop
namespace Go.Hop
open RowKit Maps WideMaps
structure pV(P:dD)(t k e:dC)(qe:IntKind):Prop where
 und:P.underlying t=some (.map k e)
 key:P.underlying k=some .string
 elem:P.underlying e=some (.int qe)
 zero:∀w,(zeroValue e).run P w=.ok (.int qe 0) w
abbrev Kl(l:aR):Lit := .string l.data.toList
def FU{a b:aR}(h:Kl a=Kl b):a=b:=by injection h with h;exact ByteArray.ext (Array.toList_inj.1 h)
def Holds(qe:IntKind)(D:DataW Unit)(f:ByteArray->Option Int):Prop:=∀l:aR,l.size<=dG->has D (Kl l)=(f l).isSome∧D.atKey (Kl l) (.lit (.int qe 0))=.lit (.int qe ((f l).getD 0))
def SMap(P:dD)(k e:dC)(qe:IntKind)(w:X)(b n:Nat)(f:ByteArray->Option Int):Prop:=∃D:DataW Unit,w.ownsMap P k (plainElem P e) b n D∧Maps.size D=n∧Holds qe D f
section
variable{k:dC}{qe:IntKind}{w O:X}{b n:Nat}{f:ByteArray->Option Int}
def SMap.made(w:X):SMap P k e qe (w.alloc (.map #[] 0)) (w:Nat) 0 (λ_=>none):=⟨.map [],World.ownsMap_made w P k _,rfl,λ_ _=>⟨rfl,rfl⟩⟩
theorem SMap.lt(h:SMap P k e qe w b n f):b<(w:Nat):=by obtain⟨D,h,_⟩:=h;exact h.lt
def SMap.keep(h:SMap P k e qe w b n f)(N:O.heap[b]?=w.heap[b]?):SMap P k e qe O b n f:=by obtain⟨D,⟨es,clock,hb,r⟩,hf⟩:=h;exact⟨D,⟨es,clock,N.trans hb,r⟩,hf⟩
def SMap.grow(h:SMap P k e qe w b n f)(H:Grow w O):SMap P k e qe O b n f:=h.keep (H.block b h.lt)
def SMap.just(h:SMap P k e qe w b n f)(hj:dM V w O)(hv:¬ V b):SMap P k e qe O b n f:=h.keep (hj.block b h.lt hv)
def SMap.imp{f':ByteArray->Option Int}(h:SMap P k e qe w b n f)(hf:∀x:aR,x.size<=dG->f' x=f x):SMap P k e qe w b n f':=by obtain⟨D,I,G,L⟩:=h;exact⟨D,I,G,λx Y=>by rw[hf x Y];exact L x Y⟩
def D7{D:DataW Unit}{R:K->Option (DataW Unit×List MemPlace)}(h:w.ownsMap P k R b n D):w.ownsMap P k R b (Maps.size D) D:=by obtain⟨es,clock,hb,F,hs,rfl⟩:=h;exact⟨es,clock,hb,F,by simp[Maps.size,length_sorted],rfl⟩
def FV(abm:pV P t k e qe){l:aR}(hl:l.size<=dG):keyOf P k (aX l)=some (Kl l):=keyOf_string_mk abm.key hl
def SMap.look(abm:pV P t k e qe)(h:SMap P k e qe w b n f)(l:aR)(hl:l.size<=dG):(Instr.lookup t (.map (some b)) (aX l) true).run P w=.ok (a_ #[.int qe ((f l).getD 0),aY (f l).isSome]) w:=by
 obtain⟨D,ho,_,hf⟩:=h;have hw0:(Lit.int qe 0).wf=true:=by cases qe<;>decide
 obtain⟨v,ps,eR,T⟩:=ho.look_ok (string_keyed abm.key) abm.und (abm.zero w) (plainElem_int abm.elem hw0) (FV abm hl);rw[(hf l hl).1,(hf l hl).2] at *;obtain⟨a,rfl,hz,_⟩:=plainElem_int_inv abm.elem T;injection hz with hz;injection hz with hz;injection hz with _ hz;rw[eR,<-hz]
def SMap.II(abm:pV P t k e qe)(h:SMap P k e qe w b n f)(l:aR)(hl:l.size<=dG):(Instr.lookup t (.map (some b)) (aX l) false).run P w=.ok (.int qe ((f l).getD 0)) w:=by
 obtain⟨D,ho,_,hf⟩:=h;obtain⟨c,eR,hat,_⟩:=ho.lookup_int (string_keyed abm.key) abm.und abm.elem (abm.zero w) (FV abm hl);rw[(hf l hl).2] at hat
 injection hat with hz;injection hz with _ hz;rw[eR,hz]
def SMap.put(abm:pV P t k e qe)(h:SMap P k e qe w b n f)(l:aR)(v:Int)(hl:l.size<=dG)(hv:(Lit.int qe v).wf=true)(hn:n<dG):∃O,(Instr.mapUpdate t (.map (some b)) (aX l) (.int qe v)).run P w=.ok () O∧SMap P k e qe O b (if (f l).isSome then n else n+1) (λy=>if y=l then some v else f y)∧dM (λc=>c=b) w O:=by
 obtain⟨D,ho,hs,hf⟩:=h;obtain⟨O,eR,G,L⟩:=ho.update (string_keyed abm.key) abm.und hn (FV abm hl) (plainElem_int abm.elem hv);have iZ:=size_put (ho.tidy (string_keyed abm.key)) (k:=Kl l) (.lit (.int qe v));rw[(hf l hl).1,hs] at iZ;have G:=D7 G;rw[iZ] at G;refine⟨O,eR,⟨_,G,iZ,λy hy=>?_⟩,⟨L.os,L.tape,L.output,L.size,λi hi hb=>L.block i hi (λe=>hb (by injection e))⟩⟩;dsimp only;by_cases hyx:y=l
 ·subst hyx
  rw[aA rfl];exact⟨has_put_same ho.isMap (by exact trivial) _,atKey_put_same ho.isMap (by exact trivial) _ _⟩
 ·rw[aB hyx,has_put_other (λe=>hyx (FU e)),atKey_put_other (λe=>hyx (FU e))]
  exact hf y hy
theorem SMap.len(h:SMap P k e qe w b n f)(abm:pV P t k e qe)(ty:dC):(Builtin.len_ #[t] ty #[.map (some b)]).run P w=.ok (J n) w:=by obtain⟨D,ho,hs,_⟩:=h;rw[ho.len abm.und ty,hs]
def jb(P:dD)(k e:dC)(qe:IntKind)(w:X)(b r n:Nat)(f:ByteArray->Option Int)(left:ByteArray->Bool)(cnt:Nat):Prop:=∃(D:DataW Unit)(lf:Lit->Bool),w.ranges P k (plainElem P e) b r n D lf cnt∧Maps.size D=n∧Holds qe D f∧∀l:aR,lf (Kl l)=left l
def jb.keep(h:jb P k e qe w b r n f left cnt){row:Option Nat}(H:w.grownBy O row)(hb:some b≠row)(hr:some r≠row):jb P k e qe O b r n f left cnt:=by obtain⟨D,lf,I,G⟩:=h;exact⟨D,lf,I.kept H hb hr,G⟩
theorem jb.lt{r cnt:Nat}{left:ByteArray->Bool}(h:jb P k e qe w b r n f left cnt):r<(w:Nat):=by obtain⟨D,lf,I,_⟩:=h;exact I.lt
theorem jb.left_eq{r cnt:Nat}{left:ByteArray->Bool}(h:jb P k e qe w b r n f left cnt):w.rangeLeft b r=cnt:=by obtain⟨D,lf,I,_⟩:=h;exact I.left_eq
def jb.just(h:jb P k e qe w b r n f left cnt)(hj:dM V w O)(hb:¬ V b)(hr:¬ V r):jb P k e qe O b r n f left cnt:=by obtain⟨D,lf,I,G,L,h4⟩:=h;have uV:=I.owns.lt;have QH:=I.lt;refine⟨D,lf,?_,G,L,h4⟩;have eb:=hj.block b uV hb;have er:=hj.block r QH hr;obtain⟨es,clock,since,seen,c0,g1,g2,g3,g4,g5,g6⟩:=I;exact⟨es,clock,since,seen,c0,eb.trans g1,g2,g3,g4,er.trans g5,g6⟩
def jb.grow(h:jb P k e qe w b r n f left cnt)(H:Grow w O):jb P k e qe O b r n f left cnt:=h.just (V:=λ_=>False) (dM.dK H) (λh=>h) (λh=>h)
theorem SMap.range(abm:pV P t k e qe)(h:SMap P k e qe w b n f):∃O,(Instr.range t (.map (some b))).run P w=.ok ((((w:Nat),0):K)) O∧(∃left,jb P k e qe O b (w:Nat) n f left n∧∀l:aR,l.size<=dG->left l=(f l).isSome)∧Grow w O∧(O:Nat)=(w:Nat)+1:=by obtain⟨D,ho,hs,hf⟩:=h;obtain⟨O,eR,hr,H,iZ⟩:=ho.range (string_keyed abm.key) abm.und;rw[hs] at hr;exact⟨O,eR,⟨λl=>has D (Kl l),⟨D,_,hr,hs,hf,λ_=>rfl⟩,λl hl=>(hf l hl).1⟩,⟨H.os,H.tape,H.output,H.size,λi hi=>H.block i hi (by simp)⟩,iZ⟩
theorem jb.next(abm:pV P t k e qe){r cnt:Nat}{left:ByteArray->Bool}(h:jb P k e qe w b r n f left cnt)(ty:dC):(cnt=0∧(∀l,left l=false)∧(Instr.next ((r:K)) false ty).run P w=.ok (a_ #[aY false]) w)∨
 ∃(l:aR)(v:Int)(O:X)(cnt':Nat),l.size<=dG∧left l=true∧f l=some v∧(Lit.int qe v).wf=true∧(Instr.next ((r:K)) false ty).run P w=.ok (.tuple #[.bool true,Value.string l,.int qe v]) O∧
   jb P k e qe O b r n f (λz=>left z&&decide (z≠l)) cnt'∧cnt'<cnt∧dM (λc=>c=r) w O∧(Instr.entry ((r:K))).run P O=.ok (a_ #[Value.string l,.int qe v]) O:=by
 obtain⟨D,lf,I,G,L,h4⟩:=h
 rcases I.next (string_keyed abm.key) ty with ⟨h0,hl,eR⟩|⟨key,v,kl,y,O,cnt',a5V,Cv,hv,hat,eR,X_,fS,gP,iZ,hen⟩
 ·exact .inl ⟨h0,λl=>by rw[<-h4];exact hl _,eR⟩
 ·obtain⟨s,rfl,rfl,sA⟩:=string_of_keyOf abm.key a5V
  obtain⟨c,rfl,hz,hw⟩:=plainElem_int_inv abm.elem hv
  have hb:=(L _ sA).1
  rw[has_true_of_atKey hat] at hb
  have F5:=(L _ sA).2
  rw[hat] at F5
  obtain⟨v0,hv0⟩:=Option.isSome_iff_exists.1 hb.symm
  rw[hv0,hz] at F5
  injection F5 with F5
  injection F5 with _ F5
  simp only[Option.getD_some] at F5
  refine .inr ⟨s,c,O,cnt',sA,by rw[<-h4];exact Cv,by rw[hv0,F5],hw,eR,⟨D,_,X_,G,L,λz=>?_⟩,fS,⟨gP.os,gP.tape,gP.output,gP.size,λi hi hn=>gP.block i hi (λe=>hn (by injection e))⟩,hen⟩
  show (lf (Kl z)&&!(Kl z).sameKey (Kl s))=(left z&&decide (z≠s))
  rw[h4]
  congr 1
  by_cases hz:z=s
  ·subst hz
   rw[WideAt.sameKey_self (by exact trivial)]
   simp
  ·have:(Kl z).sameKey (Kl s)=false:=sameKey_ne (λe=>hz (FU e))
   rw[this]
   simp[hz]
end
end Go.Hop
end
section
variable{w w0 O:X}{V D V' U:aV}{a b x c:aR}{nodes i:Int}{n k g:Nat}{l:aT}{A:aU}{o:dE}{P:dD}{a':dF}
namespace Go.Proofs.YtpeepcmdehhbgaaGreatDoor.V
open RowKit Hop
def g9.wide{t d:Nat}(h:g9 t d l k w V)(hV:∀b,V b->V' b):g9 t d l k w V':=by obtain⟨I,G,L,v,h4,h5⟩:=h;exact⟨hV d I,G,L,v,h4,h5.mono λb hb=>⟨hV b hb.1,hb.2⟩⟩
def VD{n:Int}(h:sI l n=true):∃m:Nat,n=(m:Int)∧m<=l.length:=by unfold sI at h;rw[bU,decide_eq_true_eq,decide_eq_true_eq] at h;exact⟨n.toNat,by omega,by omega⟩
def MW(w:X)(d:Nat)(l:aT)(k:Nat):ii W 301 #[d] (λe=>e=b5 (a_ #[])) (g9 120 d l k) (g9 120 d l l.length) w:=by intro V ⟨hd,N,hl,v,hB,hO⟩ hV;obtain⟨A,c,rfl,T,hn,hm⟩:=hO.reads;have c0:=hB.cell 0;have f0:=hB.frozen 1;have c1:=hB.cell 1;go_in;go_wp2;go_end0;exact⟨rfl,⟨.inl hd,bh _,hl,_,hB.put 1 _,(hO.put (λh=>h.2 rfl) 1 _).mono λb hb=>⟨.inl hb.1,hb.2⟩⟩,(dM.dK (Grow.refl w)).put hd 1 _⟩
def VE(w:X)(d:Nat)(l:aT)(k:Nat)(n:Int)(hn:-9223372036854775808<=n∧n<=9223372036854775807)(E:sI l n=false):ii W 180 #[d,J n] (λe=>e=b5 (aY false)) (g9 120 d l k) (g9 120 d l k) w:=by
 intro V hD hV;have hD':=hD;obtain⟨hd,N,hl,v,hB,hO⟩:=hD;obtain⟨A,c,rfl,T,iS,hm⟩:=hO.reads;have c0:=hB.cell 0;unfold sI at E;rw[Bool.and_eq_false_iff,decide_eq_false_iff_not,decide_eq_false_iff_not] at E;by_cases h0:n<0
 ·go_in
  go_wp2;go_ret;exact⟨rfl,g9.wide hD' (λ_ => .inl),dM.dK (Grow.refl w)⟩
 ·have I:(l.length:Int)<n:=by omega
  go_in;go_wp2;go_ret;exact⟨rfl,g9.wide hD' (λ_ => .inl),dM.dK (Grow.refl w)⟩
def IJ(w:X)(d:Nat)(l:aT)(k m:Nat)(hm:m<=l.length):ii W 180 #[d,J m] (λe=>e=b5 (aY true)) (g9 120 d l k) (g9 120 d (l.take m) m) w:=by
 intro V ⟨hd,N,hl,v,hB,hO⟩ hV;obtain⟨A,c,rfl,T,iS,E⟩:=hO.reads;have sw:=hO.cut hm;have c0:=hB.cell 0;have f0:=hB.frozen 0;have f1:=hB.frozen 1;have c1:=hB.cell 1;have Fv:(l.take m).length=m:=by rw[bn];omega
 go_in;go_wp2_with (go_at_call 238;refine (od _ A m c ap).mono ?_;rintro e w1 ⟨rfl,rfl⟩);go_ret;have lS:=(hB.put 0 (Z A m m)).put 1 (J m);refine⟨rfl,⟨.inl hd,by omega,by omega,_,lS,?_⟩,((dM.dK (Grow.refl w)).put hd 0 _).put hd 1 _⟩;rw[Fv,w_];exact ((sw.put (λh=>h.2 rfl) 0 _).put (λh=>h.2 rfl) 1 _).mono λb hb=>⟨.inl hb.1,hb.2⟩
def Km(w:X)(d:Nat)(l:aT)(k:Nat)(A:aU)(n c:Nat)(b:aT)(hb:Bytes w (w:Nat) A n b)(hf:fits l b=false):ii W 300 #[d,Z A n c] (λe=>e=b5 (J 24)) (g9 120 d l k) (g9 120 d l k) w:=by
 intro V hD hV;have hD':=hD;obtain⟨hd,N,hl,v,hB,hO⟩:=hD;obtain⟨A1,c1,rfl,T,iS,hm⟩:=hO.reads;have c0:=hB.cell 0;have uV:=hb.len;have hf':¬ l.length+n<=1048576:=by rw[<-uV];exact of_decide_eq_false hf
 go_in;go_wp2;go_ret;exact⟨rfl,g9.wide hD' (λ_ => .inl),dM.dK (Grow.refl w)⟩
def FW(w:X)(d:Nat)(l:aT)(k:Nat)(A:aU)(n c:Nat)(b:aT)(hb:Bytes w (w:Nat) A n b)(hf:fits l b=true):ii W 300 #[d,Z A n c] (λe=>e=b5 (J 0)) (g9 120 d l k) (g9 120 d (l++b) k) w:=by
 intro V ⟨hd,N,hl,v,hB,hO⟩ hV;obtain⟨A1,c1,rfl,T,iS,hm⟩:=hO.reads;have c0:=hB.cell 0;have uV:=hb.len;have hf':l.length+n<=1048576:=by rw[<-uV];exact of_decide_eq_true hf
 go_in;go_wp2_with (at_builtin;refine stay ?_);refine dI ?_;refine fO Kj _ rfl (.tmp 18) (.tmp 19) rfl (Z A1 l.length c1) l.length (kz l) rfl hO (w:Nat) A n c (kz b) rfl hb lx ap ?_;intro v1 w1 kv wo;have ky:=wo.blk hB (λh=>h.2 rfl);obtain⟨A2,c2,rfl,gS,_,_⟩:=kv.reads;have f1:=ky.frozen 0;have c1:=ky.cell 0;go_wp2;go_ret;have pK:=hB.lt;rw[<-iT] at kv;have wu:(l++b).length=l.length+n:=by rw[bd,uV]
 refine⟨rfl,⟨.inl hd,by omega,by omega,_,ky.put 0 _,?_⟩,(wo.imp λk N=>N.1).put hd 0 _⟩;rw[wu];have jT:¬ iY (λb=>V b∧b≠d) w w1 d:=λh=>by
  rcases h with h|h
  ·exact h.2 rfl
  ·have:=h.1;omega
 exact (kv.put jT 0 _).mono λb hb=>⟨by rcases hb with h|h;exact .inl h.1;exact .inr ⟨h.1,by simpa [World.setCell] using h.2⟩,λe=>by subst e;exact jT hb⟩
theorem sJ(w:X)(d:Nat)(l:aT)(k:Nat)(n:Int)(hn:-9223372036854775808<=n∧n<=9223372036854775807):ii W 180 #[d,J n] (λe=>e=b5 (aY (sI l n))) (g9 120 d l k) (g9 120 d (R8 l n) (kb l k n)) w:=by
 unfold R8 kb;cases E:sI l n with
 | false=>exact VE w d l k n hn E
 | true=>
   obtain⟨m,rfl,hm⟩:=VD E;exact IJ w d l k m hm
theorem xc(w:X)(d:Nat)(l:aT)(k:Nat)(A:aU)(n c:Nat)(b:aT)(hb:Bytes w (w:Nat) A n b):ii W 300 #[d,Z A n c] (λe=>e=b5 (J (Bv l b))) (g9 120 d l k) (g9 120 d (R7 l b) k) w:=by
 unfold Bv R7;cases E:fits l b with
 | false=>exact Km w d l k A n c b hb E
 | true=>exact FW w d l k A n c b hb E
def vU(w:X)(d:Nat)(l:aT)(k:Nat)(V:aV)(hD:g9 120 d l k w V):dz W 107 #[d] w λe O=>∃v,e=b5 v∧Own O (New w O) 5 1 v l.length (kz l)∧Grow w O:=by obtain⟨hd,N,hl,v,hB,hO⟩:=hD;obtain⟨A1,c1,rfl,T,iS,hm⟩:=hO.reads;have c0:=hB.cell 0;go_in;go_wp2_with (go_at_call 135;refine (jD _ A1 l.length c1 l T ap).mono ?_;rintro e w1 ⟨v1,rfl,kv,eD⟩);go_ret;exact⟨v1,rfl,kv,eD⟩
def oS(w:X):dz W 16 #[] w λe O=>e=b5 ((((w:Nat),0):K))∧g9 120 (w:Nat) [] 0 O (New w O)∧Grow w O:=by go_in;go_wp2;go_ret;exact⟨rfl,⟨⟨bh _,by simp⟩,bh _,by simp,_,eJ.made w _ _,Own.nil⟩,(Below.refl (w:Nat) w).alloc (bh _) _⟩
end Go.Proofs.YtpeepcmdehhbgaaGreatDoor.V
namespace Go.Proofs.YtpeepcmdehhbgaaGreatDoor.abo
open RowKit Hop
structure iE where
 seq:Int
 A:Option dA
 m:Nat
 c:Nat
 ds:List Dl
def iE.cells(b:iE):List K:=[J b.seq,Z b.A b.m b.c]
def iE.abs(b:iE):Int×List Dl:=(b.seq,b.ds)
def nz(b:iE):b.cells.length=2:=rfl
def Bz(b:iE):∀u∈b.cells,u.oneCell'=true:=by intro u hu;simp only[iE.cells,cI,cF,or_false] at hu;rcases hu with rfl|rfl<;>rfl
def MX(q:List iE):∀u∈q.flatMap iE.cells,u.oneCell'=true:=by intro u hu;obtain⟨b,_,hb⟩:=List.mem_flatMap.1 hu;exact Bz b u hb
def MY(q:List iE):(q.flatMap iE.cells).length=q.length*2:=ix iE.cells 2 nz q
structure iQ(w:X)(V:Nat->Prop)(b:iE):Prop where
 ds:jM w V b.A b.m b.ds
 le:b.m<=b.c
 max:b.c<=dG
 small:b.m<=8
theorem iQ.mono{w:X}{V V':aV}{b:iE}(h:iQ w V b)(hV:∀b,V b->V' b):iQ w V' b:=⟨In.mono h.ds hV,h.le,h.max,h.small⟩
theorem iQ.grow{w O:X}{V:aV}{b:iE}(h:iQ w V b)(H:Grow w O):iQ O V b:=⟨In.grow h.ds H,h.le,h.max,h.small⟩
theorem iQ.just{w O:X}{V U:aV}{b:iE}(h:iQ w V b)(hj:dM U w O)(hd:∀b,V b->¬ U b):iQ O V b:=⟨In.just h.ds hj hd,h.le,h.max,h.small⟩
def FX:(Tryz.prog.info? 196).map (λi=>(i.zero,i.size,i.bytes))=some (some (aZ #[(),ay]),2,32):=by kernel_rfl
def xd:Elem W 193 196 2 32 (aZ #[(),ay]):=⟨Tryz.underlying193,info_parts FX,rfl,by decide,by decide⟩
def qH(w:X)(V:aV)(b:iE)(h:iQ w V b):dz W 230 #[aZ #[J b.seq,Z b.A b.m b.c]] w λe O=>∃A',e=b5 (aZ #[J b.seq,Z A' b.m b.m])∧iQ O (New w O) ⟨b.seq,A',b.m,b.m,b.ds⟩∧Grow w O:=by
 obtain⟨sq,A,m,c,ds⟩:=b;obtain⟨hd,mn,Bb,sB⟩:=h;dsimp only at hd mn Bb sB ⊢;have gl:Grow w ((w.alloc (.cells #[J sq,Z A m c] 196)).alloc (.cells #[(),ay] 196)):=((Below.refl _ _).alloc (bh _) _).alloc (by simp) _;have uW:=(eJ.made w 196 #[J sq,Z A m c]).alloc (.cells #[(),ay] 196);have ky:=eJ.made (w.alloc (.cells #[J sq,Z A m c] 196)) 196 #[(),ay];obtain⟨x,HX⟩:=az ((w:Nat):Nat);have rI:(w.alloc (.cells #[J sq,Z A m c] 196)).heap.size=x+1:=by rw[HX.out];simp
 rw[rI] at ky;rw[<-HX.out] at uW;obtain⟨wa,HA⟩:=az ((w.alloc (.cells #[J sq,Z A m c] 196)).alloc (.cells #[(),ay] 196):X);rw[<-HA.out] at uW ky gl;have iZ:(wa:Nat)=x+2:=by rw[HA.out,HX.out];simp
 go_in;go_wp2_with fail;rw[<-HA.out,<-HX.out];refine (jD wa V A m c ds (In.grow hd gl) ap).mono ?_;rintro e w1 ⟨A1,c1',rfl,F6,oK,ry,eD⟩;have JZ:=uW.grow eD;have R9:=ky.grow eD;have ja:∀u,(w1.setCell (x,1) u).cell? (x,0)=some (J sq):=λu=>(JZ.put 1 u).cell 0;have iP:∀u,(w1.setCell (x,1) u).cell? (x,1)=some u:=λu=>(JZ.put 1 u).cell 1;have f1:=JZ.frozen 1;have c10:=JZ.cell 1;have hD:=(R9.far (p:=⟨x,1,none⟩) (show x+1≠x by omega) (Z A1 m m));have d0:=hD.cell 0;have d1:=hD.cell 1;have g0:=hD.frozen 0;have g1:=hD.frozen 1;go_wp2_with (go_at_call 133;refine (od _ A1 m c1' oK).mono ?_;rintro e w2 ⟨rfl,rfl⟩);have hE:=(hD.put 0 (J sq)).put 1 (Z A1 m m);have e0:=hE.cell 0;have e1:=hE.cell 1;have hj:dM (λb=>b=x∨b=x+1) w1 (((w1.setCell (x,1) (Z A1 m m)).setCell (x+1,0) (J sq)).setCell (x+1,1) (Z A1 m m)):=(((dM.dK (Grow.refl w1)).put (V:=λb=>b=x∨b=x+1) (.inl rfl) 1 _).put (.inr rfl) 0 _).put (.inr rfl) 1 _
 have jU:Grow w (((w1.setCell (x,1) (Z A1 m m)).setCell (x+1,0) (J sq)).setCell (x+1,1) (Z A1 m m)):=Below.trans (gl.trans eD) (hj.below (B:=(w:Nat)) (λb hb=>by have:=HX.out;omega) (gl.trans eD).size)
 refine bodyPost_ret (v := aZ #[J sq,Z A1 m m]) (by simp[results,Tryz.results230,go_sem,e0,e1]) rfl ⟨A1,rfl,⟨?_,bh _,by dsimp only;omega,sB⟩,jU⟩;refine In.mono (V:=New wa w1) (In.just F6 hj λb hb=>by have:=hb.1;omega) λb hb=>⟨by have:=hb.1;have:=gl.size;omega,by have:=hb.2;simpa [World.setCell] using this⟩
def Kn(w:X)(A:aU)(n c:Nat)(hn:n<=c):dz W 231 #[Z A n c] w λe O=>e=b5 (Z A n n)∧w=O:=by go_in;go_wp2;go_ret;exact⟨rfl,rfl⟩
structure lW(w:X)(V D:Nat->Prop)(A:Option dA)(n:Nat)(q:List iE):Prop where
 row:In w V 2 A n (q.flatMap iE.cells)
 all:∀b∈q,iQ w D b
def lW.len{q:List iE}(h:lW w V D A n q):q.length=n:=by have:=h.row.1;rw[MY] at this;omega
theorem lW.grow{w O:X}{V D:aV}{A:aU}{n:Nat}{q:List iE}(h:lW w V D A n q)(H:Grow w O):lW O V D A n q:=⟨h.row.grow H,λb hb=>(h.all b hb).grow H⟩
theorem lW.mono{w:X}{V D V' D':aV}{A:aU}{n:Nat}{q:List iE}(h:lW w V D A n q)(hV:∀b,V b->V' b)(hD:∀b,D b->D' b):lW w V' D' A n q:=⟨h.row.mono hV,λb hb=>(h.all b hb).mono hD⟩
theorem lW.just{w O:X}{V D U:aV}{A:aU}{n:Nat}{q:List iE}(h:lW w V D A n q)(hj:dM U w O)(hV:∀b,V b->¬ U b)(hD:∀b,D b->¬ U b):lW O V D A n q:=⟨h.row.just hj hV,λb hb=>(h.all b hb).just hj hD⟩
theorem lW.nil{w:X}{V D:aV}{A:aU}:lW w V D A 0 []:=⟨In.nil,by simp⟩
theorem lW.take{w:X}{V D:aV}{A:aU}{n k:Nat}{q:List iE}(h:lW w V D A n q)(N:k<=n):lW w V D A k (q.take k):=by refine⟨?_,λb hb=>h.all b (bW hb)⟩;have:=h.row.take N;rwa [ki iE.cells 2 nz q k] at this
def D8(w:X)(V D:aV)(A:aU)(n c:Nat)(q:List iE)(h:lW w V D A n q)(hn:n<=1024)(iS:n<=c):dz W 172 #[Z A n c] w λe O=>∃A' q',e=b5 (Z A' n n)∧lW O (New w O) (New w O) A' n q'∧q'.map iE.abs=q.map iE.abs∧Grow w O:=by
 have ig:=h.len;go_in;go_wp2_with fail;go_loopw [3,8] (λs i wr=>∃(k:Nat)(q':List iE)(R D':aV),k<=n∧i=J k∧Own wr R 196 2 s k (q'.flatMap iE.cells)∧(∀b∈q',iQ wr D' b)∧q'.map iE.abs=(q.take k).map iE.abs∧(∀b,R b->New w wr b∧¬ D' b)∧(∀b,D' b->New w wr b)∧Grow w wr) (λ_ i _=>n-(intOf i).toNat);case atStart=>exact⟨0,[],λ_=>False,λ_=>False,by omega,rfl,Own.nil,by simp,by simp,λ_ h=>h.elim,λ_ h=>h.elim,Grow.refl _⟩
 case round=>
  obtain⟨k,q',R,D',oL,rfl,hO,kT,F7,T,hD,H⟩:=hrel;obtain⟨A1,c1,rfl,Ma,MZ,ry⟩:=hO.jL;by_cases N:k<n
  ·obtain⟨ad,vo,rfl,hV,hB,e0,e1⟩:=(h.row.grow H).mr ap nz N
   have jE:=(h.all q[k] (bF vo)).grow H;have vq:q.take (k+1)=q.take k++[q[k]]:=br vo;have e0:=e0 _ rfl;have e1:=e1 0 _ rfl;have HS:=Q vq;clear vq;generalize q[k]=b at jE e0 e1 HS;obtain⟨sq,Ab,mb,cb,ds⟩:=b;dsimp only[iE.cells] at e0 e1;have fu:Grow wr (wr.alloc (.cells #[J sq,Z Ab mb cb] 196)):=(Below.refl (wr:Nat) wr).alloc (bh _) _;go_wp2_with fail;refine (qH _ D ⟨sq,Ab,mb,cb,ds⟩ (jE.grow fu)).mono ?_;rintro e w1 ⟨A2,rfl,lA,eD⟩;have QI:=eD.size;simp only[fp] at QI;have pG:=(Below.refl (w1:Nat) w1).alloc (bh _) (.cells #[J sq,Z A2 mb mb] 196);go_wp2_with (at_builtin;refine stay ?_);refine dI ?_;have Fw:=H.size;have l6:∀b,R b->b<(wr:Nat):=λb hb=>(T b hb).1.2;refine fO (V:=R) xd _ rfl (.tmp 12) (.tmp 15) rfl (Z A1 k c1) k (q'.flatMap iE.cells) rfl (((hO.grow l6 (fu.trans eD)).grow (λb hb=>by have:=l6 b hb;omega) pG)) ((w1:Nat)+1) (some ⟨(w1:Nat),0,none⟩) 1 1 (iE.cells ⟨sq,A2,mb,mb,ds⟩) rfl (fF w1 _ 196 _ rfl _ rfl) (Bz _) ap ?_;intro v2 w2 sw k7;have z6:=k7.size;simp only[fp] at z6;have hgj:Below (w:Nat) w1 w2:=Below.trans (pG.mono ap) (k7.below (B:=(w:Nat)) (λb hb=>(T b hb).1.1) (by simp;omega));have fk:Grow w w2:=Below.trans (H.trans (fu.trans eD)) hgj;have hD2:∀b:iE,iQ w1 D' b->iQ w2 D' b:=λb hb=>(hb.grow pG).just k7 λx Y hr=>(T x hr).2 Y;have M_:∀b:iE,iQ w1 (New (wr.alloc (.cells #[J sq,Z Ab mb cb] 196)) w1) b->iQ w2 (New (wr.alloc (.cells #[J sq,Z Ab mb cb] 196)) w1) b:=λb hb=>(hb.grow pG).just k7 λx Y hr=>by have:=Y.1;have:=l6 x hr;simp at *;omega
   go_wp2_with fail;go_roundw;case rel=>
    refine⟨k+1,q'++[⟨sq,A2,mb,mb,ds⟩],iY R (w1.alloc (.cells #[J sq,Z A2 mb mb] 196)) w2,λb=>D' b∨New (wr.alloc (.cells #[J sq,Z Ab mb cb] 196)) w1 b,by omega,by go_num,?_,λb hb=>?_,?_,λb hb=>?_,λb hb=>?_,fk⟩;·rw[bL,bJ,cE,bm];exact sw
    ·rcases List.mem_append.1 hb with hb|hb
     ·exact (hD2 b ((kT b hb).grow (fu.trans eD))).mono λ_ => .inl
     ·rw[List.mem_singleton.1 hb];exact (M_ _ lA).mono λ_ => .inr
    ·rw[bI,F7,HS.out,bI];rfl
    ·rcases hb with hb|⟨I,G⟩
     ·refine⟨⟨(T b hb).1.1,by have:=l6 b hb;omega⟩,λhd=>?_⟩
      rcases hd with hd|hd
      ·exact (T b hb).2 hd
      ·have:=hd.1;have:=l6 b hb;simp at *;omega
     ·simp only[fp] at I
      refine⟨⟨by omega,G⟩,λhd=>?_⟩;rcases hd with hd|hd
      ·have:=(hD b hd).2;omega
      ·have:=hd.2;omega
    ·rcases hb with hb|hb
     ·have:=hD b hb;exact⟨this.1,by have:=this.2;omega⟩
     ·have I:=hb.1;have G:=hb.2;simp only[fp] at I;exact⟨by omega,by omega⟩
   case measure=>simp[intOf];omega
  ·obtain rfl:k=n:=by omega
   go_wp2_with (go_at_call 231;refine (Kn _ A1 k c1 MZ).mono ?_;rintro e w2 ⟨rfl,rfl⟩);go_ret;refine⟨A1,q',rfl,⟨Ma.mono λb hb=>(T b hb).1,λb hb=>(kT b hb).mono hD⟩,?_,H⟩;rw[F7,bH ap]
end Go.Proofs.YtpeepcmdehhbgaaGreatDoor.abo
namespace Go.Hop
open RowKit
def St.step{a b a2:List Bl}(h:St V w0 (a++b) w)(ha2:pF a2)(kY:∀U1:aV,dN (px a) w U1->(∀x,U1 x->x<(w:Nat))->dN (px a2) O (iY U1 w O)∧dM U1 w O):St V w0 (a2++b) O:=by
 obtain⟨⟨h0,V1,hM,hV⟩,hj,ho,fS⟩:=h;rw[kE] at hM;obtain⟨U1,U2,hA,hB,k1,k2,k3⟩:=dN.app _ hM;obtain⟨XZ,lR⟩:=kY U1 hA λx Y=>(hV x (k1 x Y)).2;refine⟨⟨λx Y=>h0 x (bB lR.size Y),iY V1 w O,?_,λx Y=>?_⟩,hj.trans (lR.imp λx Y=>(hV x (k1 x Y)).1),lz ha2 (jC ho),fS⟩
 ·rw[kE]
  refine dN.flat _ ⟨iY U1 w O,U2,XZ,dN.framed _ (fP (jC ho)) w O U2 hB λx Y=>lR.block x (hV x (k2 x Y)).2 λI=>k3 x I Y,λx Y=>?_,λx Y => .inl (k2 x Y),λx Y G=>?_⟩
  ·rcases Y with Y|Y
   ·exact .inl (k1 x Y)
   ·exact .inr Y
  ·rcases Y with Y|Y
   ·exact k3 x Y G
   ·have:=(hV x (k2 x G)).2;have:=Y.1;omega
 ·rcases Y with Y|Y
  ·exact⟨(hV x Y).1,bw (hV x Y).2 lR.size⟩
  ·exact⟨h0 x Y.1,Y.2⟩
section
variable{f:FuncId}{args:aP}{ι:Type}{x:Bl}{C:ι->Ending->Prop}{l a b:List Bl}{a':ι->List Bl}{p:Nat}{t:dC}{cs:aP}{S:dW}{S':ι->dW}
def Lw.turns{C:Ending->Prop}{S':dW}(h:ii P f args C S S' w):Lw P D f args [.o S] (λ(_:Unit)e=>C e) (λ_=>[.o S']) w:=λV hM hV=>by obtain⟨U,_,hS,_,k1,_⟩:=hM;exact (h U hS λb hb=>(hV b (k1 b hb)).1).mono λe O ⟨hC,yP,hj⟩=>⟨(),hC,dN.wide [S'] O _ _ (λb hb=>hb.imp (k1 b) id) ⟨_,λ_=>False,yP,trivial,λ_ h=>h,λ_ h=>h.elim,λ_ _ h=>h⟩,hj.imp k1⟩
def xe(h:dN (px l) w U)(i:Nat)(hi:l[i]?=some (.c p t cs)):U p∧eJ w p t cs:=by obtain⟨U',hU,hs⟩:=(dN.pick _ i _ (iD hi) h).fst;exact⟨hs p hU.1,hU.2⟩
def nV(h:dN (px l) w U)(i:Nat)(hi:l[i]?=some (.o S)):∃U':aV,S w U'∧∀b,U' b->U b:=(dN.pick _ i _ (iD hi) h).fst
def St.py(h:St V w0 (a++b) w)(TS:∀i,pF (a' i))(hD:∀y,D y->y<(w:Nat)->¬ nU V w0 y)(E:∀U:aV,dN (px b) w U->(∀y,U y->y<(w:Nat))->Lw P (λy=>U y∨D y) f args a C a' w):dz P f args w λe O=>∃i,C i e∧St V w0 (a' i++b) O:=by
 obtain⟨⟨h0,V1,hM,hV⟩,hj,ho,fS⟩:=h;rw[kE] at hM;obtain⟨U1,U2,hA,hB,k1,k2,k3⟩:=dN.app _ hM;refine (E U2 hB (λy hy=>(hV y (k2 y hy)).2) U1 hA λy hy=>⟨(hV y (k1 y hy)).2,λhd=>hd.elim (k3 y hy) λhd=>hD y hd (hV y (k1 y hy)).2 (hV y (k1 y hy)).1⟩).mono λe O ⟨i,hC,XZ,lR⟩=>⟨i,hC,⟨⟨λy hy=>h0 y (bB lR.size hy),iY V1 w O,?_,λy hy=>?_⟩,hj.trans (lR.imp λy hy=>(hV y (k1 y hy)).1),lz (TS i) (jC ho),fS⟩⟩
 ·rw[kE]
  refine dN.flat _ ⟨iY U1 w O,U2,XZ,dN.framed _ (fP (jC ho)) w O U2 hB λy hy=>lR.block y (hV y (k2 y hy)).2 λI=>k3 y I hy,λy hy=>hy.imp (k1 y) id,λy hy => .inl (k2 y hy),λy hy G=>?_⟩;rcases hy with hy|hy
  ·exact k3 y hy G
  ·have:=(hV y (k2 y G)).2;have:=hy.1;omega
 ·rcases hy with hy|hy
  ·exact⟨(hV y hy).1,bw (hV y hy).2 lR.size⟩
  ·exact⟨h0 y hy.1,hy.2⟩
def St.Fo(h:St V w0 l w)(i:Nat)(hi:l[i]?=some (.o S))(hF:∀k,eu (S' k))(hD:∀y,D y->y<(w:Nat)->¬ nU V w0 y)(E:∀U:aV,dN (px (l.eraseIdx i)) w U->(∀y,U y->y<(w:Nat))->Lw P (λy=>U y∨D y) f args [.o S] C (λk=>[.o (S' k)]) w):dz P f args w λe O=>∃k,C k e∧St V w0 (l.set i (.o (S' k))) O:=(St.py (a:=[.o S]) (a':=λk=>[.o (S' k)]) (b:=l.eraseIdx i) (h.front i hi) (λk=>⟨hF k,trivial⟩) hD E).mono λe O ⟨k,hC,hS⟩=>⟨k,hC,hS.perm (iG hi).symm⟩
def Ko{α:Type}(x:α)(l:List α)(k:Nat):(x::l).Perm (l.take k++x::l.drop k):=by have h:(l.take k++x::l.drop k).Perm (x::(l.take k++l.drop k)):=List.perm_middle;rw[dt] at h;exact h.symm
def St.back(h:St V w0 (x::l) w)(k:Nat):St V w0 (l.take k++x::l.drop k) w:=h.perm (Ko x l k)
def St.no(h:St V w0 l w):∀y,(λ_=>False) y->y<(w:Nat)->¬ nU V w0 y:=λ_ h=>h.elim
end
end Go.Hop
namespace Go.Proofs.YtpeepcmdehhbgaaGreatDoor
open RowKit Hop
def sK(x:Nat):Nat:=(x*6364136223846793005+1442695040888963407) % 18446744073709551616
def Yt(x n:Nat):Nat:=(sK x / 4294967296) % n
def og(n:Nat):Nat:=if n=0 then 4 else if n=1 then 8 else if n=2 then 16 else 32
def rD(x n:Nat):Nat:=og n+Yt x (og n / 2+1)
def uZ(n:Nat):og n=4∨og n=8∨og n=16∨og n=32:=by
 unfold og;repeat' split
 all_goals omega
def xf(x n:Nat):rD x n<=48:=by have h:=Nat.mod_lt (sK x / 4294967296) (show 0<og n / 2+1 by omega);have:=uZ n;unfold rD Yt;omega
def Ra(w:X)(x:Nat):dz W 378 #[ae ah x] w λe O=>e=b5 (ae ah (sK x:Int))∧w=O:=by
 have e:IntKind.u64.wrap (IntKind.u64.wrap ((x:Int)*6364136223846793005)+1442695040888963407)=(sK x:Int):=by simp only[IntKind.wrap_u64];unfold sK;omega
 go_in;go_wp2;go_ret;exact⟨rfl,rfl⟩
def Zl(w:X)(x n:Nat)(hn:1<=n∧n<=1024):dz W 363 #[ae ah x,J n] w λe O=>e=b5 (J (Yt x n:Int))∧w=O:=by
 have hN:=Ra w x;have hl:sK x<18446744073709551616:=by unfold sK;omega
 obtain⟨y,Hy⟩:=az (Yt x n);rw[<-Hy.out];obtain⟨z,Hz⟩:=az (sK x / 4294967296);obtain⟨u,Hu⟩:=az (sK x);rw[<-Hu.out] at hN hl;go_in;go_wp2_with fail;refine hN.mono ?_;rintro e w1 ⟨rfl,rfl⟩;go_wp2;go_ret;exact⟨by rw[Hy.out];unfold Yt;rw[<-Hu.out];simp,rfl⟩
def VF(w:X)(n:Nat)(hn:n<=4611686018427387904):dz W 362 #[J n,J 4,J 32] w λe O=>e=b5 (J (og n:Int))∧w=O:=by
 obtain⟨y,Hy⟩:=az (og n);rw[<-Hy.out];go_in;go_wp2_with fail;go_loopw [7,8] (λb k wr=>(∃j:Nat,k=J j∧j<=n∧((j=0∧b=J 4)∨(j=1∧b=J 8)∨(j=2∧b=J 16)∨(j=3∧b=J 32)))∧w=wr) (λ_ k _=>4-(intOf k).toNat);case atStart=>exact⟨⟨0,rfl,by omega,.inl ⟨rfl,rfl⟩⟩,rfl⟩
 case round=>
  obtain⟨⟨j,rfl,hj,hb⟩,rfl⟩:=hrel;by_cases Cw:n=j
  ·subst Cw
   have dj:decide (n<n)=false:=aD ap;have hy:y=og n:=Hy.out;rcases hb with ⟨I,rfl⟩|⟨I,rfl⟩|⟨I,rfl⟩|⟨I,rfl⟩
   ·have Qf:∀ts t w,(Builtin.min_ ts t #[J 4,J 32]).run W w=.ok (J 4) w:=λts t w=>by rw[run_min_int2];rfl
    rw[I] at hy;obtain rfl:y=4:=hy;go_wp2;go_ret;exact⟨rfl,rfl⟩
   ·have Qf:∀ts t w,(Builtin.min_ ts t #[J 8,J 32]).run W w=.ok (J 8) w:=λts t w=>by rw[run_min_int2];rfl
    rw[I] at hy;obtain rfl:y=8:=hy;go_wp2;go_ret;exact⟨rfl,rfl⟩
   ·have Qf:∀ts t w,(Builtin.min_ ts t #[J 16,J 32]).run W w=.ok (J 16) w:=λts t w=>by rw[run_min_int2];rfl
    rw[I] at hy;obtain rfl:y=16:=hy;go_wp2;go_ret;exact⟨rfl,rfl⟩
   ·have Qf:∀ts t w,(Builtin.min_ ts t #[J 32,J 32]).run W w=.ok (J 32) w:=λts t w=>by rw[run_min_int2];rfl
    rw[I] at hy;obtain rfl:y=32:=hy;go_wp2;go_ret;exact⟨rfl,rfl⟩
  ·have dj:decide (j<n)=true:=aC ap
   rcases hb with ⟨I,rfl⟩|⟨I,rfl⟩|⟨I,rfl⟩|⟨I,rfl⟩
   ·go_wp2_with fail
    exact⟨⟨⟨j+1,by go_num,by omega,.inr (.inl ⟨by omega,rfl⟩)⟩,trivial⟩,by simp[intOf];omega⟩
   ·go_wp2_with fail
    exact⟨⟨⟨j+1,by go_num,by omega,.inr (.inr (.inl ⟨by omega,rfl⟩))⟩,trivial⟩,by simp[intOf];omega⟩
   ·go_wp2_with fail
    exact⟨⟨⟨j+1,by go_num,by omega,.inr (.inr (.inr ⟨by omega,rfl⟩))⟩,trivial⟩,by simp[intOf];omega⟩
   ·have Qf:∀ts t w,(Builtin.min_ ts t #[J 32,J 32]).run W w=.ok (J 32) w:=λts t w=>by rw[run_min_int2];rfl
    have hy:y=32:=by rw[Hy.out];unfold og;rw[aB ap,aB ap,aB ap]
    subst hy;go_wp2;go_ret;exact⟨rfl,rfl⟩
def VG(w:X)(x n:Nat)(hn:n<=4611686018427387904):dz W 328 #[ae ah x,J n,J 4,J 32] w λe O=>e=b5 (J (rD x n:Int))∧w=O:=by
 have hB:=VF w n hn;have E:=uZ n;obtain⟨y,Hy⟩:=az (rD x n);have Qg:y<=48:=by rw[Hy.out];exact xf x n
 rw[<-Hy.out];obtain⟨b,Hb⟩:=az (og n);rw[<-Hb.out] at hB E;have hI:=Zl w x (b / 2+1) ap;obtain⟨z,Hz⟩:=az (Yt x (b / 2+1));rw[<-Hz.out] at hI;have hyz:y=b+z:=by rw[Hy.out,Hz.out,Hb.out];rfl
 replace hyz:=Q hyz;have YS:z<=48:=by rw[hyz.out] at Qg;omega
 clear Hy Hz;go_in;go_wp2_with fail;refine hB.mono ?_;rintro e w1 ⟨rfl,rfl⟩;rcases E with rfl|rfl|rfl|rfl
 all_goals
  go_wp2_with fail
  refine hI.mono ?_
  rintro e w1 ⟨rfl,rfl⟩
  go_wp2
  go_ret
  exact⟨by rw[hyz.out];simp,rfl⟩
end Go.Proofs.YtpeepcmdehhbgaaGreatDoor
namespace Go.Proofs.YtpeepcmdehhbgaaGreatDoor.Ne
open RowKit Hop
theorem info_parts{e size bytes:Nat}{z:K}(h:(Tryz.prog.info? e).map (λi=>(i.zero,i.size,i.bytes))=some (some z,size,bytes)):∃i,Tryz.prog.info? e=some i∧i.zero=some z∧i.size=size∧i.bytes=bytes:=by
 cases hi:Tryz.prog.info? e with
 | none=>rw[hi] at h;cases h
 | some i=>rw[hi] at h;injection h with h;injection h with I G;injection G with G L;exact⟨i,rfl,I,G,L⟩
def Br:(Tryz.prog.info? 5).map (λi=>(i.zero,i.size,i.bytes))=some (some (.int .u8 0),1,1):=by kernel_rfl
def Kj:Elem W 23 5 1 1 (.int .u8 0):=⟨d9,info_parts Br,rfl,by decide,by decide⟩
def Mj(w:X)(V:aV)(A:aU)(n:Nat)(l:aT):Prop:=In w V 1 A n (kz l)
def Mj.len(h:Mj w V A n l):l.length=n:=by have:=h.1;simpa using this
theorem jD(w:X)(V:aV)(A:aU)(n c:Nat)(l:aT)(h:Mj w V A n l)(hn:n<=1048576):dz W 135 #[Z A n c] w λe O=>∃A' c',e=b5 (Z A' n c')∧Mj O (New w O) A' n l∧n<=c'∧c'<=dG∧Grow w O:=by
 have kS:=λ(O:X)=>Lib.run_eql_slice_nil (P:=W) O 23 5 A n c 0 0 d9;cases A with
 | none=>
   have y_:n=0:=by
    rcases b_ n with h0|h0
    ·exact h0
    ·obtain⟨_,e,_⟩:=h.2 h0;cases e
   subst y_;obtain rfl:l=[]:=bu h.len;go_in;go_wp2;go_ret;exact⟨_,_,rfl,In.nil,bh _,bo _,Grow.refl _⟩
 | some ad=>
   go_in;go_wp2_with (at_builtin;refine stay ?_);refine dI ?_;refine fO (V:=λb=>b=(w:Nat)) Kj _ rfl (.tmp 5) (.tmp 6) rfl (Z (some ⟨(w:Nat),0,none⟩) 0 0) 0 [] rfl (lC w _ _) (w:Nat) (some ad) n c (kz l) rfl (Reads.alloc (In.reads h) (bh _) _) lx ap ?_;intro v1 w1 kv wo;simp only[cJ,ch] at kv;obtain⟨sw,eD⟩:=ny kv wo;obtain⟨A2,c2,rfl,hI,iS,hm⟩:=sw.jL;go_wp2;go_ret;exact⟨A2,c2,rfl,hI,iS,hm,eD⟩
abbrev Lb:=Int×Int×List UInt8
structure Lt where
 f:Int
 t:Int
 A:Option dA
 m:Nat
 c:Nat
 bs:List UInt8
def Lt.cells(b:Lt):List K:=[J b.f,J b.t,Z b.A b.m b.c]
def Lt.abs(b:Lt):Lb:=(b.f,b.t,b.bs)
def rS(b:Lt):b.cells.length=3:=rfl
def FY(b:Lt):∀u∈b.cells,u.oneCell'=true:=by intro u hu;simp only[Lt.cells,cI,cF,or_false] at hu;rcases hu with rfl|rfl|rfl<;>rfl
def IK(q:List Lt):∀u∈q.flatMap Lt.cells,u.oneCell'=true:=by intro u hu;obtain⟨b,_,hb⟩:=List.mem_flatMap.1 hu;exact FY b u hb
def Rb(q:List Lt):(q.flatMap Lt.cells).length=q.length*3:=ix Lt.cells 3 rS q
structure l7(w:X)(V:Nat->Prop)(b:Lt):Prop where
 bs:Mj w V b.A b.m b.bs
 le:b.m<=b.c
 max:b.c<=dG
 small:b.m<=1048576
theorem l7.mono{w:X}{V V':aV}{b:Lt}(h:l7 w V b)(hV:∀b,V b->V' b):l7 w V' b:=⟨In.mono h.bs hV,h.le,h.max,h.small⟩
theorem l7.keep{w O:X}{V:aV}{b:Lt}(h:l7 w V b)(N:∀b,V b->b<(w:Nat)->O.heap[b]?=w.heap[b]?):l7 O V b:=⟨In.keep h.bs N,h.le,h.max,h.small⟩
theorem l7.grow{w O:X}{V:aV}{b:Lt}(h:l7 w V b)(H:Grow w O):l7 O V b:=⟨In.grow h.bs H,h.le,h.max,h.small⟩
theorem l7.just{w O:X}{V U:aV}{b:Lt}(h:l7 w V b)(hj:dM U w O)(hd:∀b,V b->¬ U b):l7 O V b:=⟨In.just h.bs hj hd,h.le,h.max,h.small⟩
def D9:(Tryz.prog.info? 172).map (λi=>(i.zero,i.size,i.bytes))=some (some (aZ aL),3,40):=by kernel_rfl
def sL:Elem W 86 172 3 40 (aZ aL):=⟨Tryz.underlying86,info_parts D9,rfl,by decide,by decide⟩
def qH(w:X)(V:aV)(b:Lt)(h:l7 w V b):dz W 95 #[aZ #[J b.f,J b.t,Z b.A b.m b.c]] w λe O=>∃A' c',e=b5 (aZ #[J b.f,J b.t,Z A' b.m c'])∧l7 O (New w O) ⟨b.f,b.t,A',b.m,c',b.bs⟩∧Grow w O:=by
 obtain⟨f,t,A,m,c,bs⟩:=b;obtain⟨hd,mn,Bb,sB⟩:=h;dsimp only at hd mn Bb sB ⊢;have gl:Grow w ((w.alloc (.cells #[J f,J t,Z A m c] 172)).alloc (.cells aL 172)):=((Below.refl _ _).alloc (bh _) _).alloc (by simp) _;have uW:=(eJ.made w 172 #[J f,J t,Z A m c]).alloc (.cells aL 172);have ky:=eJ.made (w.alloc (.cells #[J f,J t,Z A m c] 172)) 172 aL;obtain⟨x,HX⟩:=az ((w:Nat):Nat);have rI:(w.alloc (.cells #[J f,J t,Z A m c] 172)).heap.size=x+1:=by rw[HX.out];simp
 rw[rI] at ky;rw[<-HX.out] at uW;obtain⟨wa,HA⟩:=az ((w.alloc (.cells #[J f,J t,Z A m c] 172)).alloc (.cells aL 172):X);rw[<-HA.out] at uW ky gl;have iZ:(wa:Nat)=x+2:=by rw[HA.out,HX.out];simp
 go_in;go_wp2_with fail;rw[<-HA.out,<-HX.out];refine (jD wa V A m c bs (In.grow hd gl) ap).mono ?_;rintro e w1 ⟨A1,c1',rfl,F6,oK,ry,eD⟩;have JZ:=uW.grow eD;have R9:=ky.grow eD;have ja:=(JZ.put 2 (Z A1 m c1')).cell 0;have iP:=(JZ.put 2 (Z A1 m c1')).cell 1;have ip:=(JZ.put 2 (Z A1 m c1')).cell 2;have f2:=JZ.frozen 2;have c12:=JZ.cell 2;have hD:=(R9.far (p:=⟨x,2,none⟩) (show x+1≠x by omega) (Z A1 m c1'));have d0:=hD.cell 0;have d1:=hD.cell 1;have d2:=hD.cell 2;have g0:=hD.frozen 0;have g1:=hD.frozen 1;have g2:=hD.frozen 2;go_wp2_with fail;have hE:=((hD.put 0 (J f)).put 1 (J t)).put 2 (Z A1 m c1');have e0:=hE.cell 0;have e1:=hE.cell 1;have e2:=hE.cell 2;have hj:dM (λb=>b=x∨b=x+1) w1 ((((w1.setCell (x,2) (Z A1 m c1')).setCell (x+1,0) (J f)).setCell (x+1,1) (J t)).setCell (x+1,2) (Z A1 m c1')):=((((dM.dK (Grow.refl w1)).put (V:=λb=>b=x∨b=x+1) (.inl rfl) 2 _).put (.inr rfl) 0 _).put (.inr rfl) 1 _).put (.inr rfl) 2 _
 have jU:Grow w ((((w1.setCell (x,2) (Z A1 m c1')).setCell (x+1,0) (J f)).setCell (x+1,1) (J t)).setCell (x+1,2) (Z A1 m c1')):=Below.trans (gl.trans eD) (hj.below (B:=(w:Nat)) (λb hb=>by have:=HX.out;omega) (gl.trans eD).size)
 refine bodyPost_ret (v := aZ #[J f,J t,Z A1 m c1']) (by simp[results,Tryz.results95,go_sem,e0,e1,e2]) rfl ⟨A1,c1',rfl,⟨?_,oK,ry,sB⟩,jU⟩;refine In.mono (V:=New wa w1) (In.just F6 hj λb hb=>by have:=hb.1;omega) λb hb=>⟨by have:=hb.1;have:=gl.size;omega,by have:=hb.2;simpa [World.setCell] using this⟩
def oT(nodes:Int)(v:K)(P:aO):Array K:=(Value.int .i64 nodes::v::(bV 64).map λi=>Value.bool (P i)).toArray
def N0(nodes:Int)(v:K)(P:aO){i:Nat}(hi:i<64):(oT nodes v P)[2+i]?=some (aY (P i)):=by unfold oT;rw[Nat.add_comm];simp[List.getElem?_range hi]
def zM(nodes:Int)(v v':K)(P:aO):(oT nodes v P).setIfInBounds 1 v'=oT nodes v' P:=by unfold oT;simp
def iy(nodes i:Int):Bool:=decide (0<=i)&&decide (i<nodes)
def oh(h:0<=i∧i<nodes):iy nodes i=true:=by unfold iy;rw[aC h.1,aC h.2];rfl
def Da(h:¬ (0<=i∧i<nodes)):iy nodes i=false:=by unfold iy;rw[Bool.and_eq_false_iff,decide_eq_false_iff_not,decide_eq_false_iff_not];omega
def Db(h:iy nodes i=true):0<=i∧i<nodes:=by unfold iy at h;rw[bU,decide_eq_true_eq,decide_eq_true_eq] at h;exact h
def Zm(nodes:Int)(a:Lb):Prop:=(0<=a.1∧a.1<nodes)∧(0<=a.2.1∧a.2.1<nodes)
def fc(g:Nat)(nodes:Int)(l:List Lb)(P:aO):dW:=λw V=>
 V g∧∃(v:K)(q:List Lt)(R D:aV),q.map Lt.abs=l∧q.length<=64∧(1<=nodes∧nodes<=8)∧(∀a∈l,Zm nodes a)∧eJ w g 170 (oT nodes v P)∧Row w R 172 3 v q.length (q.flatMap Lt.cells)∧(∀b∈q,l7 w D b)∧(∀b,R b->V b∧b≠g∧¬ D b)∧(∀b,D b->V b∧b≠g)
def fc.framed(g:Nat)(nodes:Int)(l:List Lb)(P:aO):eu (fc g nodes l P):=λw O V h N=>by obtain⟨I,v,q,R,D,G,L,hn,hi,h4,h5,h6,h7,h8⟩:=h;exact⟨I,v,q,R,D,G,L,hn,hi,(N g I).trans h4,h5.keep λb hb _=>N b (h7 b hb).1,λb hb=>(h6 b hb).keep λx Y _=>N x (h8 x Y).1,h7,h8⟩
def fc.wide{l:List Lb}{P:aO}(h:fc g nodes l P w V)(hV:∀b,V b->V' b):fc g nodes l P w V':=by obtain⟨I,v,q,R,D,G,L,hn,hi,h4,h5,h6,h7,h8⟩:=h;exact⟨hV g I,v,q,R,D,G,L,hn,hi,h4,h5,h6,λb hb=>⟨hV b (h7 b hb).1,(h7 b hb).2⟩,λb hb=>⟨hV b (h8 b hb).1,(h8 b hb).2⟩⟩
structure VH(w:X)(V D:Nat->Prop)(A:Option dA)(n:Nat)(q:List Lt):Prop where
 row:In w V 3 A n (q.flatMap Lt.cells)
 all:∀b∈q,l7 w D b
def VH.len{q:List Lt}(h:VH w V D A n q):q.length=n:=by have:=h.row.1;rw[Rb] at this;omega
theorem VH.grow{w O:X}{V D:aV}{A:aU}{n:Nat}{q:List Lt}(h:VH w V D A n q)(H:Grow w O):VH O V D A n q:=⟨h.row.grow H,λb hb=>(h.all b hb).grow H⟩
def fc.lts{l:List Lb}{P:aO}(h:fc g nodes l P w V):∃A c q,Hid (q.map Lt.abs=l)∧Hid (l.length=q.length)∧q.length<=64∧(1<=nodes∧nodes<=8)∧(∀a∈l,Zm nodes a)∧eJ w g 170 (oT nodes (Z A q.length c) P)∧VH w V V A q.length q∧q.length<=c∧c<=dG:=by obtain⟨I,v,q,R,D,rfl,L,hn,hi,h4,h5,h6,h7,h8⟩:=h;obtain⟨A,c,rfl,hI,iS,hm⟩:=h5.jL;exact⟨A,c,q,Q rfl,Q (bj ..),L,hn,hi,h4,⟨hI.mono λb hb=>(h7 b hb).1,λb hb=>(h6 b hb).mono λx Y=>(h8 x Y).1⟩,iS,hm⟩
def sM(w:X)(g:Nat)(nodes i:Int)(v:K)(P:aO)(hB:eJ w g 170 (oT nodes v P)):dz W 274 #[g,J i] w λe O=>e=b5 (aY (iy nodes i))∧w=O:=by
 have c0:w.cell? (g,0)=some (J nodes):=hB.cell 0;unfold iy;by_cases h:0<=i
 ·go_in
  go_wp2;go_ret;exact⟨kC (by rw[aC h];simp),rfl⟩
 ·go_in
  go_wp2;go_ret;exact⟨kC (by rw[aD (p:=0<=i) ap];rfl),rfl⟩
def qI(w:X)(g:Nat)(nodes i:Int)(A:aU)(n c:Nat)(P:aO)(hB:eJ w g 170 (oT nodes (Z A n c) P)):dz W 211 #[g,J i] w λe O=>e=b5 (aY (iy (n:Int) i))∧w=O:=by
 have c1:w.cell? (g,1)=some (Z A n c):=hB.cell 1;unfold iy;by_cases h:0<=i
 ·go_in
  go_wp2;go_ret;exact⟨kC (by rw[aC h];simp),rfl⟩
 ·go_in
  go_wp2;go_ret;exact⟨kC (by rw[aD (p:=0<=i) ap];rfl),rfl⟩
def N1:(Tryz.prog.info? 170).map (λi=>(i.zero,i.size,i.bytes))=some (some (aZ (oT 0 (Z none 0 0) (λ_=>false))),66,96):=by kernel_rfl
def N2(w:X):(zeroValue 170).run W w=.ok (aZ (oT 0 (Z none 0 0) (λ_=>false))) w:=by obtain⟨i,hi,hz,_,_⟩:=info_parts N1;simp[zeroValue,typeInfo,hi,hz]
def Kp(nodes nodes':Int)(v:K)(P:aO):(oT nodes v P).setIfInBounds 0 (J nodes')=oT nodes' v P:=by unfold oT;simp
def Re(nodes:Int)(v:K)(P:aO):¬ oT nodes v P=#[]:=λh=>by have:=congrArg (λa:Array K=>a[0]?) h;simp[oT] at this
def oS(w:X)(nodes:Int)(I:1<=nodes)(h8:nodes<=8):dz W 143 #[J nodes] w λe O=>e=b5 ((((w:Nat),0):K))∧fc (w:Nat) nodes [] (λ_=>false) O (New w O)∧Grow w O:=by
 have ha:¬ nodes<1:=by omega
 have hb:¬ 8<nodes:=by omega
 have hz:=N2;have E:=Kp 0 nodes (Z none 0 0) (λ_=>false);have jT:=Re 0 (Z none 0 0) (λ_=>false);generalize oT 0 (Z none 0 0) (λ_=>false)=np at hz E jT;go_in;go_wp2;go_ret;exact⟨rfl,⟨⟨bh _,by simp⟩,_,[],λ_=>False,λ_=>False,rfl,by simp,⟨I,h8⟩,by simp,eJ.made w _ _,Row.nil,by simp,λ_ h=>h.elim,λ_ h=>h.elim⟩,(Below.refl (w:Nat) w).alloc (bh _) _⟩
def Zn(l:List Lb)(w0:X)(u:K)(w:X):Prop:=∃(A:aU)(n c:Nat)(q:List Lt),u=Z A n c∧VH w (New w0 w) (New w0 w) A n q∧q.map Lt.abs=l∧n<=c∧c<=dG
def vU(w:X)(g:Nat)(nodes:Int)(l:List Lb)(P:aO)(V:aV)(hQ:fc g nodes l P w V):dz W 38 #[g] w λe O=>∃u,e=b5 u∧Zn l w u O∧Grow w O:=by
 obtain⟨A,c,q,HQ,HL,M9,hN,qD,hB,hI,iS,iO⟩:=hQ.lts;have cc1:w.cell? (g,1)=some (Z A q.length c):=hB.cell 1;go_in;go_wp2_with fail;go_loopw [3,11] (λs i wr=>∃(k:Nat)(q':List Lt)(R D':aV),k<=q.length∧i=J k∧Own wr R 172 3 s k (q'.flatMap Lt.cells)∧(∀b∈q',l7 wr D' b)∧q'.map Lt.abs=(q.take k).map Lt.abs∧(∀b,R b->New w wr b∧¬ D' b)∧(∀b,D' b->New w wr b)∧Grow w wr) (λ_ i _=>q.length-(intOf i).toNat);case atStart=>exact⟨0,[],λ_=>False,λ_=>False,by omega,rfl,Own.nil,by simp,by simp,λ_ h=>h.elim,λ_ h=>h.elim,Grow.refl _⟩
 case round=>
  obtain⟨k,q',R,D',oL,rfl,hO,kT,F7,T,hD,H⟩:=hrel;obtain⟨A1,c1,rfl,Ma,MZ,ry⟩:=hO.jL;by_cases N:k<q.length
  ·obtain⟨ad,vo,rfl,hV,hB,e0,e1⟩:=(hI.row.grow H).mr ap rS N
   have jE:=(hI.all q[k] (bF vo)).grow H;have vq:q.take (k+1)=q.take k++[q[k]]:=br vo;have e0:=e0 _ rfl;have e2:=e1 1 _ rfl;have e1:=e1 0 _ rfl;have HS:=Q vq;clear vq;generalize q[k]=b at jE e0 e1 e2 HS;obtain⟨f,t,Ab,mb,cb,bs⟩:=b;dsimp only[Lt.cells] at e0 e1 e2;have fu:Grow wr (wr.alloc (.cells #[J f,J t,Z Ab mb cb] 172)):=(Below.refl (wr:Nat) wr).alloc (bh _) _;go_wp2_with fail;refine (qH _ V ⟨f,t,Ab,mb,cb,bs⟩ (jE.grow fu)).mono ?_;rintro e w1 ⟨A2,c2,rfl,lA,eD⟩;have QI:=eD.size;simp only[fp] at QI;have pG:=(Below.refl (w1:Nat) w1).alloc (bh _) (.cells #[J f,J t,Z A2 mb c2] 172);go_wp2_with (at_builtin;refine stay ?_);refine dI ?_;have Fw:=H.size;have l6:∀b,R b->b<(wr:Nat):=λb hb=>(T b hb).1.2;refine fO (V:=R) sL _ rfl (.tmp 15) (.tmp 18) rfl (Z A1 k c1) k (q'.flatMap Lt.cells) rfl (((hO.grow l6 (fu.trans eD)).grow (λb hb=>by have:=l6 b hb;omega) pG)) ((w1:Nat)+1) (some ⟨(w1:Nat),0,none⟩) 1 1 (Lt.cells ⟨f,t,A2,mb,c2,bs⟩) rfl (fF w1 _ 172 _ rfl _ rfl) (FY _) ap ?_;intro v2 w2 sw k7;have z6:=k7.size;simp only[fp] at z6;have hgj:Below (w:Nat) w1 w2:=Below.trans (pG.mono ap) (k7.below (B:=(w:Nat)) (λb hb=>(T b hb).1.1) (by simp;omega));have fk:Grow w w2:=Below.trans (H.trans (fu.trans eD)) hgj;have hD2:∀b:Lt,l7 w1 D' b->l7 w2 D' b:=λb hb=>(hb.grow pG).just k7 λx Y hr=>(T x hr).2 Y;have M_:∀b:Lt,l7 w1 (New (wr.alloc (.cells #[J f,J t,Z Ab mb cb] 172)) w1) b->l7 w2 (New (wr.alloc (.cells #[J f,J t,Z Ab mb cb] 172)) w1) b:=λb hb=>(hb.grow pG).just k7 λx Y hr=>by have:=Y.1;have:=l6 x hr;simp at *;omega
   go_wp2_with fail;go_roundw;case rel=>
    refine⟨k+1,q'++[⟨f,t,A2,mb,c2,bs⟩],iY R (w1.alloc (.cells #[J f,J t,Z A2 mb c2] 172)) w2,λb=>D' b∨New (wr.alloc (.cells #[J f,J t,Z Ab mb cb] 172)) w1 b,by omega,by go_num,?_,λb hb=>?_,?_,λb hb=>?_,λb hb=>?_,fk⟩;·rw[bL,bJ,cE,bm];exact sw
    ·rcases List.mem_append.1 hb with hb|hb
     ·exact (hD2 b ((kT b hb).grow (fu.trans eD))).mono λ_ => .inl
     ·rw[List.mem_singleton.1 hb];exact (M_ _ lA).mono λ_ => .inr
    ·rw[bI,F7,HS.out,bI];rfl
    ·rcases hb with hb|⟨I,G⟩
     ·refine⟨⟨(T b hb).1.1,by have:=l6 b hb;omega⟩,λhd=>?_⟩
      rcases hd with hd|hd
      ·exact (T b hb).2 hd
      ·have:=hd.1;have:=l6 b hb;simp at *;omega
     ·simp only[fp] at I
      refine⟨⟨by omega,G⟩,λhd=>?_⟩;rcases hd with hd|hd
      ·have:=(hD b hd).2;omega
      ·have:=hd.2;omega
    ·rcases hb with hb|hb
     ·have:=hD b hb;exact⟨this.1,by have:=this.2;omega⟩
     ·have I:=hb.1;have G:=hb.2;simp only[fp] at I;exact⟨by omega,by omega⟩
   case measure=>simp[intOf];omega
  ·obtain rfl:k=q.length:=by omega
   go_wp2;go_ret;refine⟨_,rfl,⟨A1,q.length,c1,q',rfl,⟨Ma.mono λb hb=>(T b hb).1,λb hb=>(kT b hb).mono hD⟩,?_,MZ,ry⟩,H⟩;rw[F7,bH ap,HQ.out]
end Go.Proofs.YtpeepcmdehhbgaaGreatDoor.Ne
namespace Go.Hop
open RowKit
section
variable{ops:Array dE}{abo:Exit->dF->X->Prop}{S:X->Prop}{a:dF}{abn:Array Bool}
def gi(S:X->Prop)(n:Nat)(hn:ops.size-k=n)(h:wpAnyH P .any ops abo S n (tZ ops.size k) a w):Yq P ops abo k a w:=by unfold Yq;rw[hn];exact wpAny_of_held _ _ _ _ h
def Rf{i:Nat}{o:dE}{v:K}{a':dF}(hi:ops[i]?=some o)(hs:cZ ops=true)(hf:Region.free .any ops abn i=true)(hr:(cC .any ops abn).contains i=true)
 (hQ:∀c a w,abo (.panic c) (a.put o.dst v) w->abo (.panic c) a w) (hw:bN o (yielded ops a.tmps)=true) (F8:S w) (hy:∀w,S w->∀(R:K->dF->Prop),R v a'->ze R a o w ((execOp a.eval o).run P w)) (h:wpAnyH P .any ops abo S n (abn.setIfInBounds i true) a' w):wpAnyH P .any ops abo S (n+1) abn a w:=by
 have key:∀w1,S w1->(execOp a.eval o).run P w1=.ok (.value v) w1∧a.put o.dst v=a':=λw1 ej=>by
  have I:=hy w1 ej (λu b=>u=v∧b=a') ⟨rfl,rfl⟩;cases hr:(execOp a.eval o).run P w1 with
  | ok n O=>
    rw[hr] at I;cases n with
    | value u=>
      obtain⟨rfl,rfl,G⟩:=I;exact⟨rfl,G⟩
    | _=>exact I.elim
  | halt _ _=>rw[hr] at I;exact I.elim
 exact wpAnyH_take hi hs hf hr hQ (.inl ⟨hw,λw1 I=>(key w1 I).1⟩) F8 (by rw[(key w F8).2];exact h)
def held(i:Nat){v:Value}(hi:ops[i]?=some o)(F8:S w)(hy:∀w,S w->∀(R:Value->Act->Prop),R v a'->ze R a o w ((execOp a.eval o).run P w))(h:wpAnyH P .any ops abo S n (abn.setIfInBounds i true) a' w)
 (hs:Region.noSelect ops=true:=by kernel_rfl) (hf:Region.free .any ops abn i=true:=by kernel_rfl) (hr:(Region.ready .any ops abn).contains i=true:=by kernel_rfl)
 (hQ:∀c a w,abo (.panic c) (a.put o.dst v) w->abo (.panic c) a w:=by exact λ_ _ _ h=>h) (hw:Region.wanted o (yielded ops a.tmps)=true:=by kernel_rfl):wpAnyH P .any ops abo S (n+1) abn a w:=Rf hi hs hf hr hQ hw F8 hy h
def dQ(i:Nat)(hi:ops[i]?=some o)(F8:S w)(h:wpAnyH P .any ops abo S n (abn.setIfInBounds i true) a' w)
 (hs:Region.noSelect ops=true:=by kernel_rfl) (hf:Region.free .any ops abn i=true:=by kernel_rfl) (hr:(Region.ready .any ops abn).contains i=true:=by kernel_rfl)
 (hQ:∀c a w,abo (.panic c) (a.put o.dst undef) w->abo (.panic c) a w:=by exact λ_ _ _ h=>h) (hw:Region.wanted o (yielded ops a.tmps)=false:=by kernel_rfl) (hn:∀R:Act->Prop,R a'->R (a.put o.dst undef):=by intro R T;go_simp;exact T):wpAnyH P .any ops abo S (n+1) abn a w:=
 wpAnyH_take hi hs hf hr hQ (.inr ⟨hw,rfl⟩) F8 (hn (λb=>wpAnyH P .any ops abo S n (abn.setIfInBounds i true) b w) h)
def dY(i:Nat)(hi:ops[i]?=some o)(h:wpList P ops (Exit.then (λa' O=>S O∧wpAnyH P .any ops abo S n (abn.setIfInBounds i true) a' O) abo) [o] a w)
 (hr:Region.ready .any ops abn=[i]:=by kernel_rfl):wpAnyH P .any ops abo S (n+1) abn a w:=by
 refine wpAnyH_all hr (by simp) (λi' tR=>?_);rw[List.mem_singleton.1 tR];unfold wpList at h;unfold wpOp;rw[hi];simp only;split
 ·rename_i hw
  rw[aA hw] at h;refine h.imp (λL=>?_) (λL=>⟨L.1,?_⟩)
  ·unfold Oper.wp at L ⊢
   generalize (execOp a.eval o).run P w=r at *;cases r with
   | ok n O=>
     cases n<;>simp only[Oper.upon] at L ⊢<;>first
      | exact L
      | exact Calls.mono L (λe w'' he=>by
       cases e with
       | returned u=>exact he
       | panicked c=>exact he
       | outgrown=>obtain⟨a1,w1,h5⟩:=he;exact⟨a1,w1,h5⟩)
   | halt x O=>cases x<;>simp only[Oper.upon] at L ⊢<;>exact L
  ·obtain⟨a1,w1,h5⟩:=L.2;exact⟨a1,w1,h5⟩
 ·rename_i hw
  rw[aB hw] at h;exact h
def eU(h:abo .normal a w)(hr:Region.ready .any ops abn=[]:=by kernel_rfl):wpAnyH P .any ops abo S n abn a w:=wpAnyH_done hr h n
end
end Go.Hop
namespace Go.Proofs.YtpeepcmdehhbgaaGreatDoor.abn
open RowKit Hop
def slt(a b:aR):Bool:=Op.bytesLess a.toList b.toList
def rT(a b:aR):slt a b=decide (a.data.toList<b.data.toList):=by unfold slt;rw[bytesLess_eq,Lib.toList_data,Lib.toList_data]
def jF(a:aR):slt a a=false:=by rw[rT];exact aD (List.lt_irrefl _)
def rU(h:slt a b=true)(k:slt b c=true):slt a c=true:=by rw[rT] at *;exact aC (List.lt_trans (of_decide_eq_true h) (of_decide_eq_true k))
def oU(h:slt a b=false)(k:slt b a=false):a=b:=by rw[rT] at *;have I:=of_decide_eq_false h;have G:=of_decide_eq_false k;have e:a.data.toList=b.data.toList:=List.le_antisymm (List.not_lt.1 G) (List.not_lt.1 I);exact ByteArray.ext (Array.toList_inj.1 e)
theorem xg(h:slt a b=true):slt b a=false:=by
 cases hb:slt b a with
 | false=>rfl
 | true=>have:=rU h hb;rw[jF] at this;cases this
theorem IL{y z:aR}(h:slt x y=false)(k:slt y z=false):slt x z=false:=by
 cases hz:slt x z with
 | false=>rfl
 | true=>
   cases QJ:slt z y with
   | true=>rw[rU hz QJ] at h;cases h
   | false=>have e:=oU k QJ;rw[e,hz] at h;cases h
def FZ:a.toList=b.toList↔a=b:=by rw[Lib.toList_data,Lib.toList_data];exact⟨λe=>ByteArray.ext (Array.toList_inj.1 e),λe=>by rw[e]⟩
def BA(a b:aR):Int:=if slt a b then -1 else if slt b a then 1 else 0
theorem VI(a b:aR):(!(Op.bytesLess a.toList b.toList||a.toList == b.toList))=slt b a:=by
 cases I:slt a b with
 | true=>
   have G:=xg I;unfold slt at I;rw[I,G];rfl
 | false=>
   have Mx:=I;unfold slt at Mx;rw[Mx,Bool.false_or];cases G:slt b a with
   | false=>
     have:=oU I G;subst this;simp
   | true=>
     have jT:a.toList≠b.toList:=λe=>by have:=FZ.1 e;rw[this,jF] at G;cases G
     simp[jT]
def uh(w:X)(a:aR):dz W 193 #[aX a] w λe O=>e=b5 (aY false)∧w=O:=by go_in;go_wp2;go_ret;exact⟨by simp,rfl⟩
theorem Dc(w:X)(a b:aR):dz W 132 #[aX a,aX b] w λe O=>e=b5 (J (BA a b))∧w=O:=by
 have H:=VI a b;unfold BA;cases I:slt a b with
 | true=>
   rw[aA rfl];unfold slt at I;go_in;go_wp2_with (go_at_call 193;refine (uh _ _).mono ?_;rintro e O ⟨rfl,rfl⟩);go_ret;exact⟨rfl,rfl⟩
 | false=>
   rw[aB (by simp)];unfold slt at I;cases G:slt b a with
   | true=>
     rw[aA rfl];rw[G] at H;go_in;go_wp2_with (go_at_call 193;refine (uh _ _).mono ?_;rintro e O ⟨rfl,rfl⟩);all_goals first|(go_ret;exact⟨rfl,rfl⟩)|simp_all
   | false=>
     rw[aB (by simp)];rw[G] at H;go_in;go_wp2_with (go_at_call 193;refine (uh _ _).mono ?_;rintro e O ⟨rfl,rfl⟩);all_goals first|(go_ret;exact⟨rfl,rfl⟩)|simp_all
end Go.Proofs.YtpeepcmdehhbgaaGreatDoor.abn
namespace Go.Proofs.YtpeepcmdehhbgaaGreatDoor.abk
open RowKit Hop
def slt(a b:aR):Bool:=Op.bytesLess a.toList b.toList
def rT(a b:aR):slt a b=decide (a.data.toList<b.data.toList):=by unfold slt;rw[bytesLess_eq,Lib.toList_data,Lib.toList_data]
def jF(a:aR):slt a a=false:=by rw[rT];exact aD (List.lt_irrefl _)
def rU(h:slt a b=true)(k:slt b c=true):slt a c=true:=by rw[rT] at *;exact aC (List.lt_trans (of_decide_eq_true h) (of_decide_eq_true k))
def oU(h:slt a b=false)(k:slt b a=false):a=b:=by rw[rT] at *;have I:=of_decide_eq_false h;have G:=of_decide_eq_false k;have e:a.data.toList=b.data.toList:=List.le_antisymm (List.not_lt.1 G) (List.not_lt.1 I);exact ByteArray.ext (Array.toList_inj.1 e)
theorem xg(h:slt a b=true):slt b a=false:=by
 cases hb:slt b a with
 | false=>rfl
 | true=>have:=rU h hb;rw[jF] at this;cases this
def FZ:a.toList=b.toList↔a=b:=by rw[Lib.toList_data,Lib.toList_data];exact⟨λe=>ByteArray.ext (Array.toList_inj.1 e),λe=>by rw[e]⟩
abbrev Sm:=List Dl
def lk(q:Sm)(x:aR):Option Nat:=(q.find? λd=>decide (d.1=x)).map (·.2)
def gt(q:Sm)(x:aR):Nat:=(lk q x).getD 0
def Rh(q:Sm):Prop:=q.Pairwise λa b=>slt a.1 b.1=true
def N3(q:Sm)(x:aR):Sm:=q.takeWhile λd=>slt d.1 x
def sI(q:Sm)(x:aR):Sm:=q.dropWhile λd=>slt d.1 x
def put(q:Sm)(x:aR)(v:Nat):Sm:=if (lk q x).isSome then q.map λd=>if d.1=x then (x,v) else d else N3 q x++(x,v)::sI q x
def N4(x:aR):lk [] x=none:=rfl
def iU(d:Dl)(q:Sm)(x:aR):lk (d::q) x=if d.1=x then some d.2 else lk q x:=by unfold lk;rw[List.find?_cons];by_cases h:d.1=x<;>simp[h]
def zN(a b:Sm)(x:aR):lk (a++b) x=(lk a x).or (lk b x):=by unfold lk;rw[List.find?_append];cases a.find? (λd=>decide (d.1=x))<;>simp
def sN{q:Sm}:lk q x=none↔∀d∈q,d.1≠x:=by unfold lk;simp
def xh{q:Sm}{v:Nat}(h:lk q x=some v):(x,v)∈q:=by unfold lk at h;simp only[Option.map_eq_some_iff] at h;obtain⟨d,hd,rfl⟩:=h;have I:=List.mem_of_find?_eq_some hd;have G:=List.find?_some hd;simp only[decide_eq_true_eq] at G;rw[<-G];exact I
def vV(q:Sm)(x:aR):N3 q x++sI q x=q:=List.takeWhile_append_dropWhile
def IM{q:Sm}:∀d∈N3 q x,slt d.1 x=true:=λd hd=>by unfold N3 at hd;exact List.all_eq_true.1 List.all_takeWhile d hd
theorem Ri{q:Sm}(hs:Rh q):∀d∈sI q x,slt d.1 x=false:=by
 induction q with
 | nil=>intro d hd;simp[sI] at hd
 | cons a q ih=>
   intro d hd;unfold sI at hd;rw[List.dropWhile_cons] at hd;have vQ:=List.pairwise_cons.1 hs;split at hd;·exact ih vQ.2 d hd
   ·rename_i h
    have ha:slt a.1 x=false:=by simpa using h
    rcases List.mem_cons.1 hd with rfl|hd
    ·exact ha
    ·cases Zo:slt d.1 x with
     | false=>rfl
     | true=>rw[rU (vQ.1 d hd) Zo] at ha;cases ha
def BB(q:Sm)(x:aR)(v:Nat)(y:aR):lk (put q x v) y=if y=x then some v else lk q y:=by
 unfold put;split
 ·rename_i h
  have key:∀q:Sm,(lk q x).isSome=true->lk (q.map λd=>if d.1=x then (x,v) else d) y=if y=x then some v else lk q y:=by
   intro q;induction q with
   | nil=>intro h;simp[lk] at h
   | cons a q ih=>
     intro h;rw[bQ,iU,iU];rw[iU] at h;by_cases ha:a.1=x
     ·rw[aA ha]
      by_cases hy:y=x;·rw[aA hy,aA hy.symm]
      ·rw[aB hy,aB (λe=>hy e.symm),aB (λe=>hy (by rw[<-e,ha]))]
       by_cases hq:(lk q x).isSome=true;·rw[ih hq,aB hy]
       ·have hn:lk q x=none:=by simpa using hq
        have:(q.map λd=>if d.1=x then (x,v) else d)=q:=by
         conv=>rhs;rw[<-List.map_id q]
         exact cO λd hd=>by rw[aB (sN.1 hn d hd)];rfl
        rw[this]
     ·rw[aB ha] at h
      rw[aB ha,ih h];by_cases hy:y=x;·rw[aA hy,aB (λe=>ha (e.trans hy)),aA hy]
      ·rw[aB hy,aB hy]
  exact key q h
 ·rename_i h
  have hn:lk q x=none:=by simpa using h
  rw[zN,iU];by_cases hy:y=x
  ·rw[aA hy,aA hy.symm]
   have:lk (N3 q x) y=none:=sN.2 λd hd e=>by have:=IM d hd;rw[e,hy,jF] at this;cases this
   rw[this];rfl
  ·rw[aB hy,aB (λe=>hy e.symm),<-zN,vV]
def xi(q:Sm)(x:aR)(v:Nat):(put q x v).length=if (lk q x).isSome then q.length else q.length+1:=by
 unfold put;split;·rw[bj]
 ·rw[bd,bD]
  have:=congrArg List.length (vV q x);rw[bd] at this;omega
def BD{q:Sm}(hs:Rh q)(x:aR)(v:Nat):Rh (put q x v):=by
 unfold put;split
 ·unfold Rh
  rw[List.pairwise_map];refine List.Pairwise.imp (λ{a b}h=>?_) hs;have ea:(if a.1=x then ((x,v):Dl) else a).1=a.1:=by split<;>simp_all
  have eb:(if b.1=x then ((x,v):Dl) else b).1=b.1:=by split<;>simp_all
  rw[ea,eb];exact h
 ·rename_i h
  have hn:lk q x=none:=by simpa using h
  have z6:=hs;rw[<-vV q x] at z6;obtain⟨I,G,L⟩:=List.pairwise_append.1 z6;refine List.pairwise_append.2 ⟨I,List.pairwise_cons.2 ⟨λd hd=>?_,G⟩,λa ha d hd=>?_⟩
  ·cases Y:slt x d.1 with
   | true=>rfl
   | false=>
     have:=oU Y (Ri hs d hd);exact absurd this.symm (sN.1 hn d (by rw[<-vV q x];exact List.mem_append.2 (.inr hd)))
  ·rcases List.mem_cons.1 hd with rfl|hd
   ·exact IM a ha
   ·exact L a ha d hd
theorem F_{q:Sm}(hs:Rh q){d:Dl}(hd:d∈q):lk q d.1=some d.2:=by
 induction q with
 | nil=>cases hd
 | cons a q ih=>
   have vQ:=List.pairwise_cons.1 hs;rw[iU];rcases List.mem_cons.1 hd with rfl|hd
   ·rw[aA rfl]
   ·rw[aB (λe=>by have:=vQ.1 d hd;rw[e,jF] at this;cases this)]
    exact ih vQ.2 hd
theorem vW{p q:Sm}(hp:Rh p)(hq:Rh q)(h:∀x,lk p x=lk q x):p=q:=by
 induction p generalizing q with
 | nil=>
   cases q with
   | nil=>rfl
   | cons a q=>have:=h a.1;rw[N4,iU,aA rfl] at this;cases this
 | cons a p ih=>
   cases q with
   | nil=>have:=h a.1;rw[N4,iU,aA rfl] at this;cases this
   | cons b q=>
     have V9:=List.pairwise_cons.1 hp;have My:=List.pairwise_cons.1 hq;have e1:a.1=b.1:=by
      have ha:=h a.1;have hb:=h b.1;rw[iU,aA rfl] at ha;rw[iU b q b.1,aA rfl] at hb;have ma:=xh ha.symm;have mb:=xh hb;refine oU ?_ ?_
      ·cases Y:slt a.1 b.1 with
       | false=>rfl
       | true=>
         rcases List.mem_cons.1 ma with e|hm
         ·rw[<-e,jF] at Y;cases Y
         ·have:=My.1 _ hm
          rw[xg Y] at this;cases this
      ·cases Y:slt b.1 a.1 with
       | false=>rfl
       | true=>
         rcases List.mem_cons.1 mb with e|hm
         ·rw[<-e,jF] at Y;cases Y
         ·have:=V9.1 _ hm
          rw[xg Y] at this;cases this
     have e2:a.2=b.2:=by have ha:=h a.1;rw[iU,aA rfl,iU,aA e1.symm] at ha;injection ha
     have:a=b:=Prod.ext e1 e2;subst this;rw[ih V9.2 My.2 λx=>?_];have Y:=h x;rw[iU,iU] at Y;by_cases he:a.1=x
     ·have n1:lk p x=none:=sN.2 λd hd e=>by have:=V9.1 d hd;rw[e,<-he,jF] at this;cases this
      have n2:lk q x=none:=sN.2 λd hd e=>by have:=My.1 d hd;rw[e,<-he,jF] at this;cases this
      rw[n1,n2]
     ·rw[aB he,aB he] at Y;exact Y
end Go.Proofs.YtpeepcmdehhbgaaGreatDoor.abk
end
namespace Go.Proofs.YtpeepcmdehhbgaaGreatDoor.abq
open RowKit Hop
def VJ(M d:Nat)(hM:M<18446744073709551616)(hd:d<64):bits .or .u64 (M:Int) (((2 ^ d:Nat):Nat):Int)=((M ||| 2 ^ d:Nat):Int):=u64_or_nat M (2 ^ d) hM (bw (Nat.pow_lt_pow_right ap hd) am)
def N5(d:Nat)(hd:d<64):IntKind.u64.wrap ((2:Int) ^ d)=((2 ^ d:Nat):Int):=by
 have h:((2:Int) ^ d)=((2 ^ d:Nat):Int):=by push_cast;rfl
 have G:2 ^ d<2 ^ 64:=Nat.pow_lt_pow_right ap hd;rw[wrap_u64,h];clear h;generalize 2 ^ d=p at G ⊢;omega
def VK(x:Nat)(Y:x<18446744073709551616)(h:x % 2=1):(bits .and .u64 (x:Int) 1 == 1)=true:=by rw[and_one x Y,h];rfl
def Rj(x:Nat)(Y:x<18446744073709551616)(h:¬ x % 2=1):(bits .and .u64 (x:Int) 1 == 1)=false:=by rw[and_one x Y,show x % 2=0 by omega];rfl
def N6{F:Int}{M:Nat}(h:∀i,M.testBit i=true->F+1+(i:Int)<=9223372036854775807):∀i,(M / 2).testBit i=true->F+1+1+(i:Int)<=9223372036854775807:=λi hi=>by have:=h (i+1) (by rw[Nat.testBit_succ];exact hi);omega
def Rk(w:X)(g:Nat)(F:Int)(M:Nat)(n:Int)(d:Nat)(h:eJ w g 328 #[J F,ae ah M])(hI:jW F M)(hn:n<=9223372036854775807)(hd:n-F-1=(d:Int))(fS:d<64)(hb:M.testBit d=false):dz W 237 #[g,J n] w λe O=>e=b5 (aY true)∧eJ O g 328 #[J (put F M n).1,ae ah ((put F M n).2:Int)]∧fI g w O:=by
 have k233:∀(vs:aP)(w:X),(callFunc 233 vs).run W w=.ok (.enter 233 vs) w:=λvs w=>by go_simp
 have hF:-9223372036854775808<=F∧F<=9223372036854775807:=⟨by have:=hI.lo;omega,hI.hi⟩;have hn':-9223372036854775808<=n∧n<=9223372036854775807:=⟨by have:=hI.lo;omega,hn⟩;have hnf:far F n=false:=by unfold far;rw[Bool.and_eq_false_iff];exact .inr (aD ap)
 have c1:=Q (rO w g F M n false h hF hn' hnf);have c2:=Q (IE w g F M n d h hI.mask hF hn' hd fS);have HD:=Q hd;have hM:=hI.mask;clear hnf hd;rw[hb] at c2;obtain⟨x,HX⟩:=az (2 ^ d:Nat);obtain⟨y,HY⟩:=az (M ||| x:Nat);have BE:y<2 ^ 64:=by rw[HY.out,HX.out];exact Nat.or_lt_two_pow hM (Nat.pow_lt_pow_right ap fS)
 have N7:∀i,y.testBit i=true->F+1+(i:Int)<=9223372036854775807:=by
  intro i hi;rw[HY.out,Nat.testBit_or,Bool.or_eq_true] at hi;rcases hi with hi|hi
  ·exact hI.top i hi
  ·rw[HX.out,Nat.testBit_two_pow] at hi
   have:d=i:=by simpa using hi
   have:=HD.out;omega
 have Zp:=Q N7;clear N7;go_in;go_wp2_with (first
  | (go_at_call 177;refine (c1.out).mono ?_;rintro e w1 ⟨rfl,rfl⟩)
  | (go_at_call 175;refine (c2.out).mono ?_;rintro e w1 ⟨rfl,gl⟩;have ky:=h.grow gl))
 have c0:=λw1(H:Grow _ w1)=>(ky.grow H).cell 1;have c1:=λw1(H:Grow _ w1)=>Uj w1 g F M n d (ky.grow H) HD.out fS;have e1:IntKind.u64.wrap (2 ^ d)=(x:Int):=by rw[HX.out];exact N5 d fS
 have e2:bits .or .u64 (M:Int) (x:Int)=(y:Int):=by rw[HY.out,HX.out];exact VJ M d hM fS
 refine jo 11 λw1 H=>?_;clear c0 c1 e1 e2;have lS:=ky.grow H;have cc:=lS.cell 1;have cf:=lS.frozen 1;have pN:fI g w _:=(fI.dK (gl.trans H)).put 1 (ae ah y);have F9:=lS.put 1 (ae ah y);go_wp2_with fail;go_loopg [] 64 (λk wr=>∃(F':Int)(M':Nat),k<=64∧M'<2 ^ k∧strip 64 F y=strip k F' M'∧0<=F'∧(∀i,M'.testBit i=true->F'+1+(i:Int)<=9223372036854775807)∧eJ wr g 328 #[J F',ae ah M']∧fI g w wr);case atStart=>exact⟨F,y,by omega,BE,rfl,hI.lo,Zp.out,F9,pN⟩
 case round=>
  obtain⟨F',M',N,Va,hs,h0,a1t,hB,hO⟩:=hrel;have HS:=Q hs;have HT:=Q a1t;clear hs a1t;have b0:=hB.cell 0;have b1:=hB.cell 1;have f0:=hB.frozen 0;have f1:=hB.frozen 1;have Zq:M'<18446744073709551616:=bw Va (Nat.pow_le_pow_right ap N);by_cases Is:M' % 2=1
  ·have ho:=VK M' Zq Is
   have hf0:F'+1<=9223372036854775807:=by have:=HT.out 0 (by rw[Nat.testBit_zero];simpa using Is);omega
   have hgk:0<gk:=by
    rcases b_ gk with e|e
    ·rw[e] at Va;simp at Va;omega
    ·exact e
   have HO:=Q Is;clear Is;go_wp2_with fail;go_roundg (gk-1);case measure=>omega
   case rel=>
    have Zj:2 ^ gk=2*2 ^ (gk-1):=by rw[<-Nat.pow_succ'];congr 1;omega
    refine⟨F'+1,M' / 2,by omega,by omega,?_,by omega,N6 HT.out,?_,(hO.put 0 _).put 1 _⟩
    ·rw[HS.out,show gk=(gk-1)+1 by omega]
     show (if M' % 2=1 then strip (gk-1) (F'+1) (M' / 2) else (F',M'))=_;rw[aA HO.out];rfl
    ·have:=(hB.put 0 (J (F'+1))).put 1 (ae ah ((M':Int) / 2))
     simpa using this
  ·have ho:=Rj M' Zq Is
   have uX:strip gk F' M'=(F',M'):=by
    cases gk with
    | zero=>rfl
    | succ k=>show (if M' % 2=1 then _ else _)=_;rw[aB Is]
   have a3M:=Q uX;clear uX Is;go_wp2;go_ret;have Cx:put F M n=(F',M'):=by unfold put;rw[HD.out,cA,<-HX.out,<-HY.out,HS.out,a3M.out]
   rw[Cx];exact⟨rfl,hB,hO⟩
def Rl(w:X)(g:Nat)(F:Int)(M:Nat)(n:Int)(h:eJ w g 328 #[J F,ae ah M])(hF:-9223372036854775808<=F∧F<=9223372036854775807)(hn:-9223372036854775808<=n∧n<=9223372036854775807)(hf:far F n=true):dz W 237 #[g,J n] w λe O=>e=b5 (aY false)∧Grow w O:=by have c1:=Q (rO w g F M n true h hF hn hf);clear hf;go_in;go_wp2_with (go_at_call 177;refine (c1.out).mono ?_;rintro e w1 ⟨rfl,rfl⟩);go_ret;exact⟨rfl,Grow.refl _⟩
def N8(w:X)(g:Nat)(F:Int)(M:Nat)(n:Int)(h:eJ w g 328 #[J F,ae ah M])(hF:-9223372036854775808<=F∧F<=9223372036854775807)(hn:-9223372036854775808<=n∧n<=9223372036854775807)(hf:far F n=false)
 (hs:∀w,eJ w g 328 #[J F,ae ah M]->dz W 175 #[g,J n] w λe O=>e=b5 (aY true)∧Grow w O):dz W 237 #[g,J n] w λe O=>e=b5 (aY false)∧Grow w O:=by
 have c1:=Q (rO w g F M n false h hF hn hf);have c2:=Q (hs w h);clear hf hs;go_in;go_wp2_with (first
  | (go_at_call 177;refine (c1.out).mono ?_;rintro e w1 ⟨rfl,rfl⟩)
  | (go_at_call 175;refine (c2.out).mono ?_;rintro e w1 ⟨rfl,gl⟩))
 go_ret;exact⟨rfl,gl⟩
def ol(w:X)(g:Nat)(F:Int)(M:Nat)(n:Int)(h:eJ w g 328 #[J F,ae ah M])(hI:jW F M)(hn:-9223372036854775808<=n∧n<=9223372036854775807):dz W 175 #[g,J n] w λe O=>e=b5 (aY (seen F M n))∧Grow w O:=by
 have hF:-9223372036854775808<=F∧F<=9223372036854775807:=⟨by have:=hI.lo;omega,hI.hi⟩;by_cases mn:n<=F
 ·have e:seen F M n=true:=by unfold seen;rw[aC mn];rfl
  rw[e];exact MN w g F M n h mn
 ·cases hf:far F n with
  | true=>
    have e:seen F M n=false:=by unfold seen;rw[aD mn,hf];rfl
    rw[e];exact MO w g F M n h hF hn ap hf
  | false=>
    have hd:n-F-1<64:=by unfold far at hf;simp only[Bool.and_eq_false_iff,decide_eq_false_iff_not] at hf;omega
    have e:seen F M n=M.testBit (n-F-1).toNat:=by unfold seen;rw[aD mn,hf];rfl
    rw[e];exact IE w g F M n _ h hI.mask hF hn ap ap
theorem IP(w:X)(g:Nat)(F:Int)(M:Nat)(n:Int)(h:eJ w g 328 #[J F,ae ah M])(hI:jW F M)(hn:-9223372036854775808<=n∧n<=9223372036854775807):dz W 237 #[g,J n] w λe O=>e=b5 (aY (Kf F M n))∧eJ O g 328 #[J (ij F M n).1,ae ah ((ij F M n).2:Int)]∧fI g w O:=by
 have hF:-9223372036854775808<=F∧F<=9223372036854775807:=⟨by have:=hI.lo;omega,hI.hi⟩;cases hb:Kf F M n with
 | true=>
   obtain⟨I,G,L⟩:=wM hb;have e:ij F M n=put F M n:=by unfold ij;rw[aA hb]
   rw[e];exact Rk w g F M n _ h hI hn.2 ap ap L
 | false=>
   have e:ij F M n=(F,M):=by unfold ij;rw[aB (by rw[hb];exact cB)]
   rw[e];cases hf:far F n with
   | true=>exact (Rl w g F M n h hF hn hf).mono λ_ _ ⟨he,H⟩=>⟨he,h.grow H,fI.dK H⟩
   | false=>
     have hs:seen F M n=true:=by unfold Kf at hb;rw[hf] at hb;simpa using hb
     exact (N8 w g F M n h hF hn hf (λw1 wv=>hs▸ol w1 g F M n wv hI hn)).mono λ_ _ ⟨he,H⟩=>⟨he,h.grow H,fI.dK H⟩
def Rm(w:X):dz W 232 #[] w λe O=>e=b5 ((((w:Nat),0):K))∧eJ O (w:Nat) 328 #[(),ae ah ((0:Nat):Int)]∧Grow w O:=by go_in;go_wp2;go_ret;exact⟨rfl,eJ.made w 328 _,(Below.refl _ w).alloc (bh _) _⟩
end Go.Proofs.YtpeepcmdehhbgaaGreatDoor.abq
