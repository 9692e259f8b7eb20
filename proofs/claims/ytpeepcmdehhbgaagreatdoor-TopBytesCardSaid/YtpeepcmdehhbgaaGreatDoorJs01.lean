/- Quiet, Own, Own2, Vplain, Fplain, Wiwin, Recs. -/
import Derived.Test.YtpeepcmdehhbgaaGreatDoorJs00
import Derived.Deep.QuietTactic
import Derived.BigQuiet
import Derived.StillTailTactics
import Derived.Deep.Upon
import Derived.Laws.IdiomStrings
import Derived.Laws.BytesArg
import Derived.Lib.SliceRun
set_option linter.all false
set_option maxRecDepth 100000
set_option maxHeartbeats 2000000
open Go.Value renaming int->ae,slice->Z,string->aX,bool->aY,agg->aZ,tuple->a_
open Go.Ending renaming returned->b5
open Go.IntKind renaming i64->af,u64->ah
open Go (J az aE aA aB aC aD ay aj am ap aw aL aK aJ aI aH aV aU aT aR aQ aP aO aN)
open Go.Proofs.Tryz renaming prog->W
open Go.Lib renaming hid->Q
open List renaming length_append->bd,append_nil->bm,length_take->bn,append_assoc->bp,eq_nil_of_length_eq_zero->bu,length_cons->bD,take_of_length_le->bH,flatMap_cons->bJ,length_drop->bO,map_cons->bQ,nil_append->ch,length_nil->cx,size_toArray->cy,cons_append->cD,take_succ_cons->cG,drop_of_length_le->cH,prefix_append->cL,map_nil->cQ,map_toArray->cV,take_append_drop->dt
open Nat renaming le_refl->bh,zero_le->bo,lt_of_lt_of_le->bw,le_trans->bB,eq_zero_or_pos->b_,min_eq_left->cz,zero_add->cJ,mul_le_mul_right->cK
open Go.Builtin renaming zeroCells->bM,append_->cn
open Go.Region renaming wanted->bN
open Bool renaming and_eq_true->bU
open Array renaming length_toList->bZ
open Go renaming Value->K,World->X,Calls->dz,Addr->dA,TypeId->dC,Program->dD,Oper->dE,Act->dF,maxLen->dG
variable{l r:aT}{n k i bytes m c B k':Nat}{w O w0:X}{P Pr:dD}{V V' U:aV}{e t:dC}{o:dE}{v z:K}{ops:Array dE}{A:aU}{a:dF}{xs news:List K}{rest:List dE}{abo:Go.Exit->dF->X->Prop}{R:K->dF->Prop}{args:aP}
namespace Go.Hop
open RowKit
section
variable{a':dF}{C:X->Prop}{abk:dF->Prop}{f:FuncId}{vs:aP}
def QV(R:K->dF->Prop)(a:dF)(o:dE)(w:X):Result Next->Prop
 | .ok (.value v) O=>O=w∧R v (a.put o.dst v)
 | _=>False
def Zd(R:FuncId->Array K->Prop)(w:X):Result Next->Prop
 | .ok (.enter f vs) O=>O=w∧R f vs
 | _=>False
def a3F:QV R a o w (.ok (.value v) O)=(O=w∧R v (a.put o.dst v)):=rfl
def a3G{R:FuncId->Array K->Prop}:Zd R w (.ok (.enter f vs) O)=(O=w∧R f vs):=rfl
attribute [go_sem] a3F a3G
def QW{c:Prop}[Decidable c]{r s:Result Next}(E:c)(h:QV R a o w r):QV R a o w (if c then r else s):=by rw[aA E];exact h
def Kg(hy:∀w,C w->∀R:K->dF->Prop,R v a'->QV R a o w ((execOp a.eval o).run P w))(N:∃w,C w)(h:abk a'):o.quiet P a C abk:=by
 have key:∀w,C w->(execOp a.eval o).run P w=.ok (.value v) w∧a.put o.dst v=a':=λw hC=>by
  have I:=hy w hC (λu b=>u=v∧b=a') ⟨rfl,rfl⟩;cases hr:(execOp a.eval o).run P w with
  | ok n O=>
    rw[hr] at I;cases n with
    | value u=>
      obtain⟨rfl,rfl,G⟩:=I;exact⟨rfl,G⟩
    | _=>exact I.elim
  | halt _ _=>rw[hr] at I;exact I.elim
 refine⟨v,λw hC=>?_,?_⟩
 ·unfold Oper.quietAt
  rw[(key w hC).1];exact⟨rfl,rfl⟩
 ·obtain⟨w,hC⟩:=N
  rw[(key w hC).2];exact h
theorem FH(hy:∀w,C w->∀R:FuncId->Array K->Prop,R f vs->Zd R w ((execOp a.eval o).run P w))(E:∀w,C w->dz P f vs w λe O=>e=b5 v∧C O)(h:abk (a.put o.dst v)):o.quiet P a C abk:=by
 refine⟨v,λw hC=>?_,h⟩;have I:=hy w hC (λg us=>g=f∧us=vs) ⟨rfl,rfl⟩;unfold Oper.quietAt;cases hr:(execOp a.eval o).run P w with
 | ok n O=>
   rw[hr] at I;cases n with
   | enter g us=>
     obtain⟨rfl,rfl,rfl⟩:=I;exact⟨rfl,E _ hC⟩
   | _=>exact I.elim
 | halt _ _=>rw[hr] at I;exact I.elim
def qc(h:∀w1,Grow w0 w1->dz P f vs w1 λe O=>e=b5 v∧Grow w1 O):∀w1,Grow w0 w1->dz P f vs w1 λe O=>e=b5 v∧Grow w0 O:=λw1 H=>(h w1 H).mono λ_ _ ⟨he,G⟩=>⟨he,H.trans G⟩
def qs(h:∀w1,dz P f vs w1 λe O=>e=b5 v∧w1=O):∀w1,Grow w0 w1->dz P f vs w1 λe O=>e=b5 v∧Grow w0 O:=λw1 H=>(h w1).mono λ_ _ ⟨he,G⟩=>⟨he,G▸H⟩
structure Ui(p:Prop):Prop where
 out:p
def fh{id:Nat}{abo:Exit->Act->World->Prop}{l:List Oper}{R:Prop}(h:R)
 (hs:Ui R->wpQuiet P l.toArray (Grow w) (λa'=>∀O,Grow w O->abo .normal a' O) l a:=by
  intro T;repeat (first|go_big_quiet_skip|(go_big_quiet_want;first|(refine Kg (λw1 H R T=>by go_simp;first|exact T|(refine QW ap ?_;go_simp;exact T)) ⟨_,Grow.refl _⟩ ?_;go_big_quiet_on)|(refine FH (λw1 H R T=>by go_simp;exact T) (by first|exact qc (by with_reducible assumption)|exact qs (by with_reducible assumption)) ?_;go_simp;go_big_quiet_on)))
  exact wpQuiet_nil T.out)
 (hm:P.follows .mixedOrders=true:=by rfl) (hB:Region.lexB .any l.toArray=true:=by kernel_rfl):(Code.region id l.toArray true).wp P abo a w:=
 wp_region_quiet (C:=Grow w) hm hB (Grow.refl _).drew (by simpa using hs ⟨h⟩)
def sc(h:∀w1,dz P f vs w1 λe O=>e=b5 v∧w1=O):dz P f vs w λe O=>e=b5 v∧O=w:=(h w).mono λ_ _ ⟨he,G⟩=>⟨he,G.symm⟩
def sg(h:∀w1,Grow w0 w1->dz P f vs w1 λe O=>e=b5 v∧w1=O)(H:Grow w0 w):dz P f vs w λe O=>e=b5 v∧O=w:=(h w H).mono λ_ _ ⟨he,G⟩=>⟨he,G.symm⟩
def jo{id:Nat}{abo:Exit->Act->World->Prop}{l:List Oper}{R:World->Prop}(n:Nat)(h:∀w1,Grow w w1->R w1)
 (hs:∀w1,Grow w w1->Ui (R w1)->wpStill P l.toArray w1 (λa'=>wpList P l.toArray abo (l.drop n) a' w1) (l.take n) a:=by
  intro w1 H T;simp only[List.take_succ_cons,List.take_zero,List.drop_succ_cons,List.drop_zero];repeat (refine wpStill_step (λabk hK=>?_);go_simp;first|(refine hK _ ?_;clear hK abk)|(refine⟨_,(by first|exact sg (by with_reducible assumption) H|exact sc (by with_reducible assumption)),hK _ ?_⟩;clear hK abk))
  exact wpStill_nil T.out)
 (hm:P.follows .mixedOrders=true:=by rfl) (hB:Region.lexTailB .any l.toArray n=true:=by kernel_rfl):(Code.region id l.toArray true).wp P abo a w:=
 wp_region_still_tail n hm hB (hs w.drew (Grow.refl w).drew ⟨h _ (Grow.refl w).drew⟩)
end
def Own(w:X)(V:aV)(e:dC)(size:Nat)(v:K)(n:Nat)(xs:List K):Prop:=
 xs.length=n*size∧((v=Z none 0 0∧n=0)∨
  ∃g cap cur,v=Z (some ⟨g,0,none⟩) n cap∧V g∧w.heap[g]?=some (.cells cur e (0,0))∧n<=cap∧cap<=dG∧(cur.size=cap*size∨(cap=n∧n*size<=cur.size))∧cur.toList.take (n*size)=xs)
def iY(V:aV)(w O:X)(b:Nat):Prop:=V b∨((w:Nat)<=b∧b<(O:Nat))
section
variable{size:Nat}
def Own.nil:Own w V e size (Z none 0 0) 0 []:=⟨by simp,.inl ⟨rfl,rfl⟩⟩
def Own.mono(h:Own w V e size v n xs)(hV:∀b,V b->V' b):Own w V' e size v n xs:=by
 refine⟨h.1,?_⟩;rcases h.2 with G|⟨g,cap,cur,I,G,L⟩
 ·exact .inl G
 ·exact .inr ⟨g,cap,cur,I,hV g G,L⟩
def Own.keep(h:Own w V e size v n xs)(N:∀b,V b->O.heap[b]?=w.heap[b]?):Own O V e size v n xs:=by
 refine⟨h.1,?_⟩;rcases h.2 with G|⟨g,cap,cur,I,G,L,h4⟩
 ·exact .inl G
 ·exact .inr ⟨g,cap,cur,I,G,(N g G).trans L,h4⟩
def Own.wO{base:Nat}(h:w.ownsRow base e size v n xs)(hV:∀g,v.ownBlock=some g->V g):Own w V e size v n xs:=by
 refine⟨h.1,?_⟩;rcases h.2 with G|⟨g,cap,cur,I,_,L,h4,h5,h6,h7⟩
 ·exact .inl G
 ·exact .inr ⟨g,cap,cur,I,hV g (by rw[I];rfl),L,h4,h5,.inl h6,h7⟩
def Own.reads(h:Own w V e size v n xs):∃A c,v=Z A n c∧Reads w (w:Nat) size A n xs∧n<=c∧c<=dG:=by
 rcases h.2 with ⟨rfl,rfl⟩|⟨g,cap,cur,rfl,_,H,hn,hm,iZ,j9⟩
 ·exact⟨none,0,rfl,⟨h.1,λhh=>absurd hh ap⟩,bh _,bo _⟩
 ·refine⟨_,cap,rfl,⟨h.1,λ_=>⟨_,rfl,(Array.getElem?_eq_some_iff.1 H).1,λj u hu=>?_⟩⟩,hn,hm⟩
  have qC:((g,0):dA).add j=⟨g,j,none⟩:=by unfold Addr.add;split<;>simp_all
  rw[qC,cell_of_row _ _ _ _ _ _ H];rw[<-j9,List.getElem?_take] at hu;split at hu;·simpa using hu
  ·cases hu
def Own.cut(h:Own w V e size (Z A n c) n xs)(N:k<=n):Own w V e size (Z A k k) k (xs.take (k*size)):=by
 have hks:k*size<=n*size:=cK _ N;refine⟨by rw[bn,h.1];exact cz hks,?_⟩;rcases h.2 with ⟨I,rfl⟩|⟨g,cap,cur,I,hV,H,hn,hm,iZ,j9⟩
 ·injection I with I G L
  subst I;obtain rfl:k=0:=by omega
  exact .inl ⟨rfl,rfl⟩
 ·injection I with I G L
  subst I;subst L;refine .inr ⟨g,k,cur,rfl,hV,H,bh _,by omega,.inr ⟨rfl,?_⟩,?_⟩
  ·have:=cK size hn
   rcases iZ with iZ|⟨_,iZ⟩<;>omega
  ·rw[<-j9,List.take_take,cz hks]
def Own.put(h:Own w V e size v n xs){g:Nat}(H:¬ V g)(i:Nat)(u:K):Own (w.setCell ⟨g,i,none⟩ u) V e size v n xs:=h.keep λb hb=>Below.heap_setCell w ⟨g,i,none⟩ u b (λe=>H (by rw[<-show b=g from e];exact hb))
def Own.grow(h:Own w V e size v n xs)(hV:∀b,V b->b<(w:Nat))(H:Grow w O):Own O V e size v n xs:=h.keep λb hb=>H.block b (hV b hb)
def gg(w:X)(p:dA)(u:K):(w.setCell p u).heap.size=(w:Nat):=by simp[World.setCell]
theorem dM.put{a b:X}(h:dM V a b){g:Nat}(H:V g)(i:Nat)(u:K):dM V a (b.setCell ⟨g,i,none⟩ u):=h.trans (dM.jA ((fI.refl g b).put i u) H)
end
section
variable{size:Nat}
theorem Reads.src(abl:Elem P t e size bytes z)(hr:Reads w B size A m news)(hm:m=0):Src P size t (Z A m c) 0 [] w:=by
 subst hm;cases A with
 | none=>exact Src.ofNil w abl.und c
 | some ad=>exact Src.ofSlice w abl.und ad 0 c [] (by simp) (by simp) (by simp)
def jq(abl:Elem P t e size bytes z)(w:X)(ty:Nat)(v:K)(n:Nat)(xs:List K)(im:Own w V e size v n xs)
 (B:Nat) (A:aU) (m c:Nat) (news:List K) (hr:Reads w B size A m news) (I:∀u∈news,u.oneCell'=true)
 (fw:(n+m)*bytes<=140737488355328):∃v' O,(cn #[t,t] ty #[v,Z A m c]).run P w=.ok v' O∧Own O (iY V w O) e size v' (n+m) (xs++news)∧dM V w O:=by
 have whole:w.ownsRow 0 e size v n xs->(∀g,v.ownBlock=some g->V g)->∃v' O,(cn #[t,t] ty #[v,Z A m c]).run P w=.ok v' O∧Own O (iY V w O) e size v' (n+m) (xs++news)∧dM V w O:=λho hV=>by
  obtain⟨v',O,eR,G,L,h4⟩:=oa abl w 0 ty v n xs ho B A m c news hr I fw (bo _);refine⟨v',O,eR,.wO G λg H=>?_,⟨L.os,L.tape,L.output,L.size,λk N hv=>L.block k N (λe=>hv (hV k e.symm))⟩⟩;rcases h4 with h4|h4
  ·exact .inl (hV g (by rw[<-h4,H]))
  ·rw[H] at h4;injection h4 with h4
   have:=G.lt g H;exact .inr ⟨by omega,this.2⟩
 rcases im.2 with ⟨rfl,rfl⟩|⟨g,cap,cur,rfl,hV,H,hn,hm,iZ,j9⟩
 ·exact whole ⟨im.1,.inl ⟨rfl,rfl⟩⟩ (λg H=>by cases H)
 ·rcases iZ with iZ|⟨rfl,iZ⟩
  ·exact whole ⟨im.1,.inr ⟨g,cap,cur,rfl,bo _,H,hn,hm,iZ,j9⟩⟩ (λg' yO=>by injection yO with yO;rw[<-yO];exact hV)
  ·obtain⟨i,hi,hz,hs,hb⟩:=abl.info
   by_cases su:m=0
   ·have zC:=hr.src (c:=c) abl su
    subst su;obtain rfl:news=[]:=bu (by simpa using hr.1);have:=run_append_nothing (P:=P) w t t ty e i abl.und hi (some (g,0)) cap cap (bh _) (Z A 0 c) (by rw[hs];exact zC);refine⟨_,w,this,?_,dM.dK (Grow.refl w)⟩;rw[bm];exact im.mono λb hb => .inl hb
   ·obtain⟨ad,rfl,_,E⟩:=hr.2 ap
    obtain⟨A',c',hv,rx,_,_⟩:=im.reads;have Mu:cap+m<=dG:=by have:=Nat.le_mul_of_pos_right (cap+m) abl.bpos;simp only[dG];omega
    have holds:∀j u,xs[j]?=some u->w.cell? (((g,0):dA).add j)=some u:=by
     intro j u hu;have fS:0<cap:=by
      rcases b_ cap with h0|h0
      ·have:xs.length=0:=by rw[im.1,h0];simp
       rw[bu this] at hu;simp at hu
      ·exact h0
     obtain⟨Ze,e',_,XX⟩:=rx.2 fS;injection hv with hv;rw[<-hv] at e';injection e' with e';rw[e'];exact XX j u hu
    obtain⟨v',O,eR,r1,r2⟩:=run_append_arg_grows (P:=P) w t ty e i z size bytes abl.und hi hz hs hb abl.zs abl.pos (g,0) cap cap xs im.1 holds ad m c news hr.1 E ap Mu fw;refine⟨v',O,eR,.wO r1 λg' yO=>?_,⟨r2.os,r2.tape,r2.output,r2.size,λk N _=>r2.block k N (by simp)⟩⟩;have I:=r1.lt g' yO;rcases r1.2 with ⟨hv',_⟩|⟨g2,_,_,hv',vn,_⟩
    ·rw[hv'] at yO;cases yO
    ·rw[hv'] at yO;injection yO with yO
     subst yO;exact .inr ⟨vn,I.2⟩
def fO(abl:Elem P t e size bytes z)(w:X)(hw:bN o (yielded ops a.tmps)=true)(s x:Operand)
 (ho:o.op=.call { callee := .builtin .append,args:=#[s,x],argTypes:=#[t,t] })
 (v:K) (n:Nat) (xs:List K) (hs:a.eval s=v) (im:Own w V e size v n xs)
 (B:Nat) (A:aU) (m c:Nat) (news:List K) (Y:a.eval x=Z A m c) (hr:Reads w B size A m news) (I:∀u∈news,u.oneCell'=true)
 (fw:(n+m)*bytes<=140737488355328)
 (h:∀v' O,Own O (iY V w O) e size v' (n+m) (xs++news)->dM V w O->wpList P ops abo rest (a.put o.dst v') O):wpList P ops abo (o::rest) a w:=by obtain⟨v',O,eR,G,L⟩:=jq abl w o.type v n xs im B A m c news hr I fw;unfold wpList;rw[aA hw];refine .inl ?_;unfold Oper.wp execOp;simp only[ho,resolve,invoke,builtin,Sem.run_bind,Sem.run_pure,Result.andThen_ok,cV,bQ,cQ,hs,Y,eR];exact h v' O G L
end
theorem pP(src dst e:dC)(hs:P.underlying src=some (.slice e))(he:P.underlying e=some (.int .u8))(hd:P.underlying dst=some .string)
 (w:X) {B:Nat} {A:aU} {n c:Nat} {l:aT} (h:Bytes w B A n l):(convert src dst (Z A n c)).run P w=.ok (aX ⟨l.toArray⟩) w:=by
 have hl:=h.len;cases A with
 | none=>
   have hn:n=0:=by
    rcases b_ n with h0|h0
    ·exact h0
    ·obtain⟨_,e',_⟩:=h.2 h0;cases e'
   subst hn;obtain rfl:l=[]:=bu hl;exact run_convert_bytes_nil w src e hs he 0 c dst hd
 | some ad=>
   subst hl;refine run_convert_bytes_back w src dst e ad c l hs he hd λj hj=>?_;obtain⟨Ze,_,e',E⟩:=h.at_ hj;injection e' with e';rw[e'];exact E
def CU(src dst e:dC)(hs:P.underlying src=some (.slice e))(he:P.underlying e=some (.int .u8))(hd:P.underlying dst=some .string)
 (w:X) {u:K} {l:aT} (h:eM l u w):(convert src dst u).run P w=.ok (aX ⟨l.toArray⟩) w:=by obtain⟨A,n,c,rfl,h,_⟩:=h;exact pP src dst e hs he hd w h
def Own.isBytes{e:Nat}(h:Own w V e 1 v n (kz l)):eM l v w:=by obtain⟨A,c,rfl,T,I,G⟩:=h.reads;exact⟨A,n,c,rfl,T,I,G⟩
abbrev dW:=X->(Nat->Prop)->Prop
def eu(S:dW):Prop:=∀w O V,S w V->(∀b,V b->O.heap[b]?=w.heap[b]?)->S O V
def Mv(P:aV)(S R:dW)(w:X):Prop:=(∀b,(w:Nat)<=b->P b)∧∃V U:aV,S w V∧R w U∧(∀b,V b->¬ U b)∧(∀b,V b->P b∧b<(w:Nat))∧(∀b,U b->P b∧b<(w:Nat))
def Solo(P:aV)(S:dW)(w:X):Prop:=(∀b,(w:Nat)<=b->P b)∧∃V:aV,S w V∧(∀b,V b->P b∧b<(w:Nat))
def ii(Pr:dD)(f:FuncId)(args:aP)(C:Ending->Prop)(S S':dW)(w:X):Prop:=∀V:aV,S w V->(∀b,V b->b<(w:Nat))->dz Pr f args w λe O=>C e∧S' O (iY V w O)∧dM V w O
section
variable{P P':aV}{S S' R R':dW}
def Bo(hV:∀b,V b->P b∧b<(w:Nat))(hP:∀b,(w:Nat)<=b->P b)(hs:(w:Nat)<=(O:Nat)):∀b,iY V w O b->P b∧b<(O:Nat):=λb hb=>by
 rcases hb with h|⟨I,G⟩
 ·have:=hV b h;exact⟨this.1,by omega⟩
 ·exact⟨hP b I,G⟩
def Mv.swap(h:Mv P S R w):Mv P R S w:=by obtain⟨h0,V,U,I,G,L,h4,h5⟩:=h;exact⟨h0,U,V,G,I,λb hb hv=>L b hv hb,h5,h4⟩
def Mv.left{f:FuncId}{C:Ending->Prop}(h:Mv P S R w)(T:eu R)(E:ii Pr f args C S S' w):dz Pr f args w λe O=>C e∧dM P w O∧Mv P S' R O:=by
 obtain⟨h0,V,U,I,G,L,h4,h5⟩:=h;refine (E V I (λb hb=>(h4 b hb).2)).mono λe O ⟨he,hs,hj⟩=>⟨he,hj.imp λk N=>(h4 k N).1,λb hb=>h0 b (bB hj.size hb),iY V w O,U,hs,T w O U G (λb hb=>hj.block b (h5 b hb).2 (λhv=>L b hv hb)),λb hb hu=>?_,Bo h4 h0 hj.size,λb hb=>⟨(h5 b hb).1,bw (h5 b hb).2 hj.size⟩⟩;rcases hb with hb|⟨hb,_⟩
 ·exact L b hb hu
 ·have:=(h5 b hu).2;omega
def Mv.grow(h:Mv P S R w)(hS:eu S)(T:eu R)(H:Grow w O):Mv P S R O:=by obtain⟨h0,V,U,I,G,L,h4,h5⟩:=h;exact⟨λb hb=>h0 b (bB H.size hb),V,U,hS w O V I (λb hb=>H.block b (h4 b hb).2),T w O U G (λb hb=>H.block b (h5 b hb).2),L,λb hb=>⟨(h4 b hb).1,bw (h4 b hb).2 H.size⟩,λb hb=>⟨(h5 b hb).1,bw (h5 b hb).2 H.size⟩⟩
def Mv.wide(h:Mv P S R w)(hP:∀b,P b->P' b):Mv P' S R w:=by obtain⟨h0,V,U,I,G,L,h4,h5⟩:=h;exact⟨λb hb=>hP b (h0 b hb),V,U,I,G,L,λb hb=>⟨hP b (h4 b hb).1,(h4 b hb).2⟩,λb hb=>⟨hP b (h5 b hb).1,(h5 b hb).2⟩⟩
def Solo.call{f:FuncId}{C:Ending->Prop}(h:Solo P S w)(E:ii Pr f args C S S' w):dz Pr f args w λe O=>C e∧dM P w O∧Solo P S' O:=by obtain⟨h0,V,I,h4⟩:=h;exact (E V I (λb hb=>(h4 b hb).2)).mono λe O ⟨he,hs,hj⟩=>⟨he,hj.imp λk N=>(h4 k N).1,λb hb=>h0 b (bB hj.size hb),iY V w O,hs,Bo h4 h0 hj.size⟩
def Solo.grow(h:Solo P S w)(hS:eu S)(H:Grow w O):Solo P S O:=by obtain⟨h0,V,I,h4⟩:=h;exact⟨λb hb=>h0 b (bB H.size hb),V,hS w O V I (λb hb=>H.block b (h4 b hb).2),λb hb=>⟨(h4 b hb).1,bw (h4 b hb).2 H.size⟩⟩
end
theorem flat_get{α β:Type}(f:α->List β)(m:Nat)(hf:∀a,(f a).length=m):∀(l:List α)(k j:Nat)(N:k<l.length),j<m->(l.flatMap f)[k*m+j]?=(f l[k])[j]?
 | [],k,_,N,_=>by simp at N
 | a::l,0,j,_,hj=>by
   rw[bJ,Nat.zero_mul,cJ,List.getElem?_append_left (by rw[hf];exact hj)];rfl
 | a::l,k+1,j,N,hj=>by
   rw[bJ,List.getElem?_append_right (by rw[hf,Nat.add_mul];omega),hf,show (k+1)*m+j-m=k*m+j by rw[Nat.add_mul];omega];rw[flat_get f m hf l k j (by simpa using N) hj];rfl
theorem ix{α β:Type}(f:α->List β)(m:Nat)(hf:∀a,(f a).length=m):∀(l:List α),(l.flatMap f).length=l.length*m
 | []=>by simp
 | a::l=>by rw[bJ,bd,hf,ix f m hf l,bD,Nat.add_mul];omega
section
variable{size:Nat}
def vy(abl:Elem P t e size bytes z)(w:X)(ty:Nat)(v:K)(n:Nat)(xs:List K)(im:Own w V e size v n xs)
 (B:Nat) (A:aU) (m c:Nat) (news:List K) (hr:Reads w B size A m news) (I:∀u∈news,u.oneCell'=true)
 (fw:(n+m)*bytes<=140737488355328):∃v' O,(cn #[t,t] ty #[v,Z A m c]).run P w=.ok v' O∧Own O (iY V w O) e size v' (n+m) (xs++news)∧dM V w O∧Own O V e size v n xs:=by
 obtain⟨i,hi,hz,hs,hb⟩:=abl.info;have Mu:n+m<=dG:=by have:=Nat.le_mul_of_pos_right (n+m) abl.bpos;simp only[dG];omega
 by_cases su:m=0
 ·have zC:=hr.src (c:=c) abl su
  subst su;obtain rfl:news=[]:=bu (by simpa using hr.1);obtain⟨A',c',rfl,_,iS,_⟩:=im.reads;have:=run_append_nothing (P:=P) w t t ty e i abl.und hi A' n c' iS (Z A 0 c) (by rw[hs];exact zC);refine⟨_,w,this,?_,dM.dK (Grow.refl w),im⟩;rw[bm];exact im.mono λb hb => .inl hb
 ·obtain⟨ad,rfl,_,E⟩:=hr.2 ap
  have fin:∀v' O,O.ownsRow (w:Nat) e size v' (n+m) (xs++news)->w.grownBy O none->Own O (iY V w O) e size v' (n+m) (xs++news)∧dM V w O∧Own O V e size v n xs:=λv' O r1 r2=>by
   refine⟨.wO r1 λg' yO=>?_,⟨r2.os,r2.tape,r2.output,r2.size,λk N _=>r2.block k N (by simp)⟩,?_⟩
   ·have I:=r1.lt g' yO
    rcases r1.2 with ⟨hv',_⟩|⟨g2,_,_,hv',vn,_⟩
    ·rw[hv'] at yO;cases yO
    ·rw[hv'] at yO;injection yO with yO
     subst yO;exact .inr ⟨vn,I.2⟩
   ·refine⟨im.1,?_⟩
    rcases im.2 with G|⟨g,cap,cur,I,G,L,h4⟩
    ·exact .inl G
    ·exact .inr ⟨g,cap,cur,I,G,(r2.block g (Array.getElem?_eq_some_iff.1 L).1 (by simp)).trans L,h4⟩
  rcases im.2 with ⟨rfl,rfl⟩|⟨g,cap,cur,rfl,hV,H,iS,iO,iZ,j9⟩
  ·obtain rfl:xs=[]:=bu (by simpa using im.1)
   obtain⟨v',O,eR,r1,r2,_⟩:=run_append_own_at (P:=P) w (w:Nat) t ty e i z size bytes abl.und hi hz hs hb abl.zs abl.pos (Z none 0 0) 0 [] (World.ownsRow_nil w _ e size) ad m c news hr.1 E I Mu fw (bh _);exact⟨v',O,eR,fin v' O r1 r2⟩
  ·by_cases rH:n+m<=cap
   ·have jQ:cur.size=cap*size:=by
     rcases iZ with h|⟨h,_⟩
     ·exact h
     ·omega
    have sv:n*i.size+news.length<=cur.size:=by rw[hs,hr.1,jQ,<-Nat.add_mul];exact cK _ rH
    have XY:=run_append_room (P:=P) w t ty e i abl.und hi g n cap cur H ad m c news (by rw[hs];exact hr.1) E I rH sv
    rw[hs] at XY sv
    have fj:(xs++news).length=(n+m)*size:=by rw[bd,im.1,hr.1,Nat.add_mul]
    have Qc:=setRow_heap w g cur (cur.toList.take (n*size)++news++cur.toList.drop (n*size+news.length)).toArray e (0,0) H
    have TP:(cur.toList.take (n*size)++news++cur.toList.drop (n*size+news.length)).toArray.size=cap*size:=by simp only[cy,bd,bn,bO,bZ];omega
    refine⟨_,_,XY,⟨fj,.inr ⟨g,cap,_,rfl,.inl hV,Qc,rH,iO,.inl TP,?_⟩⟩,⟨rfl,rfl,rfl,by simp,λk _ N=>setRow_other w g k _ (λe=>N (by rw[e];exact hV))⟩,⟨im.1,.inr ⟨g,cap,_,rfl,hV,Qc,iS,iO,.inl TP,?_⟩⟩⟩
    ·rw[List.toList_toArray,j9,<-fj]
     exact List.take_left
    ·rw[List.toList_toArray,j9,bp,<-im.1]
     exact List.take_left
   ·obtain⟨A',c',hv,rx,_,_⟩:=im.reads
    have holds:∀j u,xs[j]?=some u->w.cell? (((g,0):dA).add j)=some u:=by
     intro j u hu;have fS:0<n:=by
      rcases b_ n with h0|h0
      ·have:xs.length=0:=by rw[im.1,h0];simp
       rw[bu this] at hu;simp at hu
      ·exact h0
     obtain⟨Ze,e',_,XX⟩:=rx.2 fS;injection hv with hv;rw[<-hv] at e';injection e' with e';rw[e'];exact XX j u hu
    obtain⟨v',O,eR,r1,r2⟩:=run_append_arg_grows (P:=P) w t ty e i z size bytes abl.und hi hz hs hb abl.zs abl.pos (g,0) n cap xs im.1 holds ad m c news hr.1 E ap Mu fw;exact⟨v',O,eR,fin v' O r1 r2⟩
end
section
variable{A:Nat->List Nat}{abk:Nat->Kind}{S:jm}{abm:dF->X->Prop}{l:List dE}{j:Nat}{a0:dF}{abn:List (Tmp×K)}{F:List (Nat×K×Fact)}
end
def Own.grows{e size:Nat}(h:Own w V e size v n xs)(H:Grow w O):Own O V e size v n xs:=by
 refine⟨h.1,?_⟩;rcases h.2 with G|⟨g,cap,cur,I,G,L,h4⟩
 ·exact .inl G
 ·exact .inr ⟨g,cap,cur,I,G,(H.block g (Array.getElem?_eq_some_iff.1 L).1).trans L,h4⟩
def Once(φ:K->X->Prop):Fact:=λk u w=>match k with
 | 0=>False
 | _=>φ u w
def wP(w:X)(cs:aP)(e n:Nat)(l:aT)(h:cs.size=n*1)(E:cs.toList=kz l)(hn:n<=dG):eM l (Z (some ⟨(w:Nat),0,none⟩) n n) (w.alloc (.cells cs e)):=⟨_,n,n,rfl,by have:=fF w cs e (0,0) h _ rfl;rw[E] at this;exact Reads.more this (by simp),bh _,hn⟩
end Go.Hop
namespace Go.Proofs.YtpeepcmdehhbgaaGreatDoor.V
open RowKit Hop
def enc(n:Nat):List UInt8:=if n<128 then [UInt8.ofNat n] else UInt8.ofNat (n % 128+128)::enc (n / 128)
termination_by n
decreasing_by omega
def val:List UInt8->Nat
 | []=>0
 | c::l=>c.toNat % 128+128*val l
def Canon:List UInt8->Prop
 | []=>False
 | [c]=>c.toNat<128
 | c::d::l=>128<=c.toNat∧(d::l)≠[0]∧Canon (d::l)
def nT(h:n<256):(UInt8.ofNat n).toNat=n:=by rw[UInt8.toNat_ofNat'];omega
def j7(h:n<128):enc n=[UInt8.ofNat n]:=by rw[enc];rw[aA h]
def lB(h:128<=n):enc n=UInt8.ofNat (n % 128+128)::enc (n / 128):=by rw[enc];rw[aB ap]
def Vu(n:Nat):enc n≠[]:=by
 by_cases h:n<128;·rw[j7 h];simp
 ·rw[lB ap];simp
theorem vS(n:Nat):val (enc n)=n:=by
 induction n using Nat.strongRecOn with
 | _ n ih=>
   by_cases h:n<128
   ·rw[j7 h]
    simp only[val];rw[nT ap];omega
   ·rw[lB ap]
    simp only[val];rw[ih (n / 128) ap,nT ap];omega
def MI(h:enc n=[0]):n=0:=by have:=vS n;rw[h] at this;rw[<-this];rfl
theorem l4(n:Nat):Canon (enc n):=by
 induction n using Nat.strongRecOn with
 | _ n ih=>
   by_cases h:n<128
   ·rw[j7 h]
    show (UInt8.ofNat n).toNat<128;rw[nT ap];exact h
   ·rw[lB ap]
    have I:=ih (n / 128) ap;have G:enc (n / 128)≠[0]:=λe=>by have:=MI e;omega
    revert I G;cases enc (n / 128) with
    | nil=>intro I;exact absurd I (by simp[Canon])
    | cons d l=>
      intro I G;exact⟨by rw[nT ap];omega,G,I⟩
theorem zJ:∀(p:aT),Canon p->enc (val p)=p
 | [],h=>h.elim
 | [c],h=>by
   have h:c.toNat<128:=h;simp only[val];rw[show c.toNat % 128+128*0=c.toNat by omega,j7 h];simp
 | c::d::l,h=>by
   obtain⟨I,G,L⟩:=h;have ih:=zJ (d::l) L;have E:c.toNat<256:=c.toNat_lt;have hv:1<=val (d::l):=by
    rcases b_ (val (d::l)) with h0|h0
    ·rw[h0,j7 ap] at ih
     exact absurd ih.symm G
    ·exact h0
   show enc (c.toNat % 128+128*val (d::l))=_;generalize val (d::l)=v at ih hv;rw[lB ap,show (c.toNat % 128+128*v) / 128=v by omega,ih];congr 1;rw[show (c.toNat % 128+128*v) % 128+128=c.toNat by omega];simp
theorem sE:∀(p q l:aT),Canon p->Canon q->p <+: l->q <+: l->p=q
 | [],_,_,h,_,_,_=>h.elim
 | _,[],_,_,h,_,_=>h.elim
 | c::p,d::q,l,hp,hq,I,G=>by
   obtain⟨r,rfl⟩:=I;rw[cD] at G;obtain⟨rfl,L⟩:=List.cons_prefix_cons.1 G;have I:p <+: p++r:=⟨r,rfl⟩;cases p with
   | nil=>
     cases q with
     | nil=>rfl
     | cons e q=>exact absurd hq.1 (by have:d.toNat<128:=hp;omega)
   | cons e p=>
     cases q with
     | nil=>exact absurd hp.1 (by have:d.toNat<128:=hq;omega)
     | cons f q=>rw[sE (e::p) (f::q) (e::p++r) hp.2.2 hq.2.2 I L]
def k8(I:enc m <+: l)(G:enc n <+: l):m=n:=by have:=sE _ _ l (l4 m) (l4 n) I G;rw[<-vS m,this,vS]
theorem wR:∀(k n:Nat),n<128 ^ (k+1)->(enc n).length<=k+1
 | 0,n,h=>by rw[j7 (by simpa using h)];simp
 | k+1,n,h=>by
   by_cases hn:n<128;·rw[j7 hn];simp
   ·rw[lB ap,bD]
    have:=wR k (n / 128) (by rw[Nat.pow_succ] at h;omega);omega
def eE(h:n<18446744073709551616):(enc n).length<=10:=wR 9 n ap
def nx(n:Nat):1<=(enc n).length:=by
 rcases b_ (enc n).length with h|h
 ·exact absurd (bu h) (Vu n)
 ·exact h
def Hi(l:aT)(i:Nat):Prop:=∀(j:Nat)(hj:j<l.length),j<i->128<=l[j].toNat
theorem sF:∀(p l:aT)(i:Nat),Canon p->p <+: l->Hi l i->i<p.length
 | [],_,_,h,_,_=>h.elim
 | [c],l,i,h,⟨r,hr⟩,hi=>by
   rcases b_ i with h0|h0
   ·subst h0;simp
   ·have:=hi 0 (by rw[<-hr];simp) h0
    subst hr;have E:c.toNat<128:=h;simp at this;omega
 | c::d::p,l,i,h,⟨r,hr⟩,hi=>by
   cases i with
   | zero=>simp
   | succ i=>
     have:=sF (d::p) (d::p++r) i h.2.2 ⟨r,rfl⟩ (λj hj F3=>by have:=hi (j+1) (by rw[<-hr];simpa using hj) ap;subst hr;simpa using this)
     simp at this ⊢;omega
theorem zK:∀(p l:aT)(i:Nat)(hi:i<l.length),Canon p->p <+: l->i<p.length->l[i].toNat<128->p.length=i+1
 | [],_,_,_,h,_,_,_=>h.elim
 | [c],_,i,_,_,_,h,_=>by simp at h;simp;omega
 | c::d::p,l,i,hi,h,⟨r,hr⟩,hip,hl=>by
   subst hr;cases i with
   | zero=>have:=h.1;simp at hl;omega
   | succ i=>
     have:=zK (d::p) (d::p++r) i (by simpa using hi) h.2.2 ⟨r,rfl⟩ (by simpa using hip) (by simpa using hl);simp at this ⊢;omega
theorem ly:∀(l:aT)(i:Nat)(hi:i<l.length),val (l.take (i+1))=val (l.take i)+(l[i].toNat % 128)*128 ^ i
 | [],_,h=>by simp at h
 | c::l,0,_=>by simp[val]
 | c::l,i+1,h=>by
   have hl:i<l.length:=by simpa using h
   have ih:=ly l i hl;rw[cG,cG];simp only[val,List.getElem_cons_succ];rw[ih,Nat.pow_succ,Nat.mul_add];have:128*(l[i].toNat % 128*128 ^ i)=l[i].toNat % 128*(128 ^ i*128):=by rw[Nat.mul_comm,Nat.mul_assoc]
   omega
theorem MJ:∀(l:aT),val l<128 ^ l.length
 | []=>by simp[val]
 | c::l=>by
   have:=MJ l;simp only[val,bD,Nat.pow_succ];omega
def pQ(l:aT)(i:Nat):val (l.take i)<128 ^ i:=by refine bw (MJ _) (Nat.pow_le_pow_right ap ?_);rw[bn];omega
theorem CV:∀(p l:aT)(i:Nat)(hi:i<l.length),p <+: l->i<p.length->(l[i].toNat % 128)*128 ^ i<=val p
 | [],_,_,_,_,h=>by simp at h
 | c::p,l,0,hi,⟨r,hr⟩,_=>by subst hr;simp[val]
 | c::p,l,i+1,hi,⟨r,hr⟩,h=>by
   subst hr;have hl:i<(p++r).length:=by simpa using hi
   have:=CV p (p++r) i hl ⟨r,rfl⟩ (by simpa using h);simp only[val,cD,List.getElem_cons_succ,Nat.pow_succ];have e:(p++r)[i].toNat % 128*(128 ^ i*128)=128*((p++r)[i].toNat % 128*128 ^ i):=by rw[Nat.mul_comm 128,Nat.mul_assoc]
   omega
theorem wU:∀(l:aT)(i:Nat)(hi:i<l.length),Hi l i->l[i].toNat<128->(l[i]≠0∨i=0)->Canon (l.take (i+1))
 | [],_,h,_,_,_=>by simp at h
 | c::l,0,_,_,h,_=>by simpa [Canon] using h
 | [c],i+1,h,_,_,_=>by simp at h
 | c::d::l,i+1,hi,hh,h,hz=>by
   have ih:=wU (d::l) i (by simpa using hi) (λj hj F3=>by have:=hh (j+1) (by simpa using hj) ap;simpa using this) (by simpa using h) (by
    rcases hz with hz|hz
    ·exact .inl (by simpa using hz)
    ·omega)
   have h0:=hh 0 (by simp) ap;rw[cG];cases ht:(d::l).take (i+1) with
   | nil=>simp at ht
   | cons e q=>
     rw[ht] at ih;refine⟨by simpa using h0,λhe=>?_,ih⟩;rw[he] at ht;have fj:=congrArg List.length ht;rw[bn,bD,bD,cx] at fj;rw[bD,bD] at hi;have hi0:i=0:=by omega
     subst hi0;rcases hz with hz|hz
     ·apply hz
      simp at ht ⊢;exact ht
     ·omega
def iF(l:aT)(n k:Nat):Prop:=(n<18446744073709551616∧enc n <+: l∧k=(enc n).length)∨((∀m,m<18446744073709551616->¬ enc m <+: l)∧n=0∧k=0)
def iF.one{n':Nat}(h:iF l n k)(h':iF l n' k'):n=n'∧k=k':=by
 rcases h with ⟨I,G,L⟩|⟨I,G,L⟩<;>rcases h' with ⟨g1,g2,g3⟩|⟨g1,g2,g3⟩
 ·have:=k8 G g2
  subst this;exact⟨rfl,by omega⟩
 ·exact absurd G (g1 _ I)
 ·exact absurd g2 (I _ g1)
 ·omega
def iF.none(h:∀m,m<18446744073709551616->¬ enc m <+: l):iF l 0 0 := .inr ⟨h,rfl,rfl⟩
def iF.lt(h:iF l n k):n<18446744073709551616∧k<=10∧k<=l.length:=by
 rcases h with ⟨I,G,L⟩|⟨I,G,L⟩
 ·exact⟨I,by have:=eE I;omega,by have:=G.length_le;omega⟩
 ·omega
def ub(h:Hi l i)(hi:i=l.length∨10<=i):∀m,m<18446744073709551616->¬ enc m <+: l:=λm hm hp=>by have I:=sF _ l i (l4 m) hp h;have G:=hp.length_le;have L:=eE hm;omega
def rN(hi:i<l.length)(h:Hi l i)(H:18446744073709551616<=(l[i].toNat % 128)*128 ^ i):∀m,m<18446744073709551616->¬ enc m <+: l:=λm hm hp=>by have I:=sF _ l i (l4 m) hp h;have G:=CV _ l i hi hp I;rw[vS] at G;omega
def Vv(hi:i<l.length)(h:Hi l i)(hl:l[i].toNat<128)(hp:enc m <+: l):enc m=l.take (i+1):=by have I:=sF _ l i (l4 m) hp h;have G:=zK _ l i hi (l4 m) hp I hl;obtain⟨r,rfl⟩:=hp;rw[<-G,List.take_left'];rfl
def pR(hi:i<l.length)(h:Hi l i)(hz:l[i]=0)(h0:0<i):∀m,m<18446744073709551616->¬ enc m <+: l:=λm _ hp=>by
 have e:=Vv hi h (by rw[hz];decide) hp;have E:=l4 m;rw[e] at E;have key:∀(l:aT)(i:Nat)(hi:i<l.length),l[i]=0->0<i->¬ Canon (l.take (i+1)):=by
  intro l;induction l with
  | nil=>intro i hi;simp at hi
  | cons c l ih=>
    intro i hi hz h0 E;cases i with
    | zero=>omega
    | succ i=>
      cases l with
      | nil=>simp at hi
      | cons d l=>
        rw[cG,cG] at E;cases i with
        | zero=>
          simp at hz;subst hz;exact E.2.1 (by simp)
        | succ i=>
          refine ih (i+1) (by simpa using hi) (by simpa using hz) ap ?_;rw[cG];exact E.2.2
 exact key l i hi hz h0 E
def uc(hi:i<l.length)(h:Hi l i)(hl:l[i].toNat<128)(hz:l[i]≠0∨i=0)(hv:val (l.take (i+1))<18446744073709551616):iF l (val (l.take (i+1))) (i+1):=by have e:=zJ _ (wU l i hi h hl hz);refine .inl ⟨hv,by rw[e];exact List.take_prefix _ _,?_⟩;rw[e,bn];omega
def Bp(hi:i<l.length)(h:Hi l i)(E:128<=l[i].toNat):Hi l (i+1):=λj hj F3=>by
 by_cases he:j=i;·subst he;exact E
 ·exact h j hj ap
def tb(t:BitVec 32)(i:Nat):UInt8:=⟨(t >>> (8*i)).setWidth 8⟩
def wV(c:BitVec 32)(i:Nat):(tb c i).toNat=c.toNat / 2 ^ (8*i) % 256:=by show ((c >>> (8*i)).setWidth 8).toNat=_;rw[BitVec.toNat_setWidth,BitVec.toNat_ushiftRight,Nat.shiftRight_eq_div_pow]
def oO(c:BitVec 32):List UInt8:=[tb c 0,tb c 1,tb c 2,tb c 3]
def CW(c:BitVec 32):(oO c).length=4:=rfl
def frame(l:aT):List UInt8:=enc l.length++(oO (crc l)++l)
def jB(l:aT):(frame l).length=(enc l.length).length+4+l.length:=by unfold frame;rw[bd,bd,CW];omega
def mA(h:frame l <+: r):enc l.length <+: r:=(cL _ _).trans h
def uf{l':aT}(h:frame l <+: r)(h':frame l' <+: r):l=l':=by have he:=k8 (mA h) (mA h');obtain⟨s,rfl⟩:=h;unfold frame at h';rw[<-he] at h';rw[bp] at h';have G:=(List.prefix_append_right_inj _).1 h';obtain⟨t,ht⟩:=G;rw[bp,bp] at ht;have h4:l'++t=l++s:=(List.append_inj ht rfl).2;exact ((List.append_inj h4 he.symm).1).symm
def l5(l x:aT)(k:Nat)(ok:Bool):Prop:=(ok=true∧x.length<=65536∧frame x <+: l∧k=(frame x).length)∨(ok=false∧(∀y:aT,y.length<=65536->¬ frame y <+: l)∧x=[]∧k=0)
def l5.none(h:∀y:aT,y.length<=65536->¬ frame y <+: l):l5 l [] 0 false := .inr ⟨rfl,h,rfl,rfl⟩
def l5.one{x x':aT}{ok ok':Bool}(h:l5 l x k ok)(h':l5 l x' k' ok'):x=x'∧k=k'∧ok=ok':=by
 rcases h with ⟨a1,a2,a3,a4⟩|⟨a1,a2,a3,a4⟩<;>rcases h' with ⟨b1,b2,b3,b4⟩|⟨b1,b2,b3,b4⟩
 ·have:=uf a3 b3
  subst this;exact⟨rfl,by omega,by rw[a1,b1]⟩
 ·exact absurd a3 (b2 _ a2)
 ·exact absurd b3 (a2 _ b2)
 ·exact⟨by rw[a3,b3],by omega,by rw[a1,b1]⟩
def MK(h:∀m,m<18446744073709551616->¬ enc m <+: l):∀y:aT,y.length<=65536->¬ frame y <+: l:=λy hy hp=>h y.length ap (mA hp)
def FI(h:enc n <+: l)(hn:65536<n):∀y:aT,y.length<=65536->¬ frame y <+: l:=λy hy hp=>by have:=k8 h (mA hp);omega
def FJ(h:enc n <+: l)(hn:l.length<(enc n).length+4+n):∀y:aT,y.length<=65536->¬ frame y <+: l:=λy hy hp=>by have he:=k8 h (mA hp);have I:=hp.length_le;rw[jB,<-he] at I;omega
def IB(h:enc n <+: l)(N:k=(enc n).length)(hn:k+4+n<=l.length):∃s x r:aT,l=enc n++(s++(x++r))∧s=(l.drop k).take 4∧x=(l.drop (k+4)).take n∧s.length=4∧x.length=n:=by
 obtain⟨t,rfl⟩:=h;subst N;rw[bd] at hn;refine⟨t.take 4,(t.drop 4).take n,(t.drop 4).drop n,?_,?_,?_,by rw[bn];omega,by rw[bn,bO];omega⟩;·rw[dt,dt]
 ·rw[List.drop_left'];rfl
 ·rw[<-List.drop_drop,List.drop_left'];rfl
def CX(h:enc n <+: l)(N:k=(enc n).length)(hn:k+4+n<=l.length)(h6:n<=65536)(hs:(l.drop k).take 4=oO (crc ((l.drop (k+4)).take n))):l5 l ((l.drop (k+4)).take n) (k+4+n) true:=by obtain⟨s,x,r,hl,I,G,L,h4⟩:=IB h N hn;rw[<-G];rw[<-I,<-G] at hs;refine .inl ⟨rfl,by omega,⟨r,?_⟩,by rw[jB,h4,<-N]⟩;unfold frame;rw[hl,h4,hs,bp,bp]
def IC(h:enc n <+: l)(N:k=(enc n).length)(hn:k+4+n<=l.length)(hs:(l.drop k).take 4≠oO (crc ((l.drop (k+4)).take n))):∀y:aT,y.length<=65536->¬ frame y <+: l:=λy hy hp=>by have he:=k8 h (mA hp);obtain⟨s,x,r,hl,I,G,L,h4⟩:=IB h N hn;rw[<-I,<-G] at hs;obtain⟨t,ht⟩:=hp;unfold frame at ht;rw[<-he,hl,bp,bp] at ht;have h5:=(List.append_inj ht rfl).2;have h6:=List.append_inj h5 (by rw[CW,L]);have h7:=(List.append_inj h6.2 (by rw[h4,he])).1;exact hs (by rw[<-h6.1,h7])
def Bq:List UInt8->Nat
 | []=>0
 | b::r=>b.toNat+256*Bq r
theorem ML:∀l:aT,Bq l<256 ^ l.length
 | []=>by decide
 | b::r=>by
   have:=ML r;have hb:=b.toNat_lt;show b.toNat+256*Bq r<256 ^ (r.length+1);rw[Nat.pow_succ];omega
theorem CY:∀(l:aT)(b:UInt8),Bq (l++[b])=Bq l+b.toNat*256 ^ l.length
 | [],b=>by simp[Bq]
 | a::r,b=>by
   show a.toNat+256*Bq (r++[b])=a.toNat+256*Bq r+b.toNat*256 ^ (r.length+1);rw[CY r b,Nat.pow_succ,Nat.mul_add,<-Nat.mul_assoc 256,Nat.mul_comm 256 b.toNat,Nat.mul_assoc b.toNat,Nat.mul_comm 256 (256 ^ r.length)];omega
theorem vT(s:aT)(c:BitVec 32)(h:s.length=4):Bq s=c.toNat↔s=oO c:=by
 match s,h with
 | [b0,b1,b2,b3],_=>
   have h0:=wV c 0;have I:=wV c 1;have G:=wV c 2;have L:=wV c 3;have E:=c.isLt;have g0:=b0.toNat_lt;have g1:=b1.toNat_lt;have g2:=b2.toNat_lt;simp only[Bq,Nat.mul_zero,Nat.add_zero,Nat.pow_zero,Nat.div_one,Nat.reduceMul,Nat.reducePow] at h0 I G L E ⊢;unfold oO;constructor
   ·intro he
    rw[show b0=tb c 0 from UInt8.toNat_inj.1 ap,show b1=tb c 1 from UInt8.toNat_inj.1 ap,show b2=tb c 2 from UInt8.toNat_inj.1 ap,show b3=tb c 3 from UInt8.toNat_inj.1 ap]
   ·intro he
    injection he with e0 he;injection he with e1 he;injection he with e2 he;injection he with e3 _;rw[e0,e1,e2,e3];omega
end Go.Proofs.YtpeepcmdehhbgaaGreatDoor.V
namespace Go.Proofs.YtpeepcmdehhbgaaGreatDoor.abq
open RowKit Hop
def MM(w:X)(g:Nat)(F:Int)(M:Nat)(n:Int)(h:eJ w g 328 #[J F,ae ah M]):dz W 233 #[g,J n] w λe O=>e=b5 (ae ah ((n-F-1) % 18446744073709551616))∧w=O:=by have c0:=h.cell 0;go_in;go_wp2;go_ret;exact⟨mq (by rw[wrap_u64,wrap_u64,wrap_u64,wrap_u64];omega),rfl⟩
def QX(w:X)(g:Nat)(F:Int)(M:Nat)(n:Int)(h:eJ w g 328 #[J F,ae ah M])(hF:-9223372036854775808<=F∧F<=9223372036854775807)(hn:-9223372036854775808<=n∧n<=9223372036854775807):dz W 177 #[g,J n] w λe O=>e=b5 (aY (far F n))∧w=O:=by
 have c0:=h.cell 0;by_cases fS:F<n
 ·go_in
  go_wp2_with (go_at_call 233;refine (MM _ g F M n h).mono ?_;rintro e w1 ⟨rfl,rfl⟩);go_ret;refine⟨kC ?_,rfl⟩;unfold far;rw[Bool.eq_iff_iff];simp only[bU,decide_eq_true_eq];omega
 ·go_in
  go_wp2;go_ret;exact⟨kC (by unfold far;rw[aD ap];rfl),rfl⟩
def Uj(w:X)(g:Nat)(F:Int)(M:Nat)(n:Int)(d:Nat)(h:eJ w g 328 #[J F,ae ah M])(hd:n-F-1=(d:Int))(fS:d<64):dz W 233 #[g,J n] w λe O=>e=b5 (ae ah d)∧w=O:=
 (MM w g F M n h).mono λe O ⟨he,hw⟩=>⟨by rw[he];exact mq ap,hw⟩
def rO(w:X)(g:Nat)(F:Int)(M:Nat)(n:Int)(b:Bool)(h:eJ w g 328 #[J F,ae ah M])(hF:-9223372036854775808<=F∧F<=9223372036854775807)(hn:-9223372036854775808<=n∧n<=9223372036854775807)(hb:far F n=b):dz W 177 #[g,J n] w λe O=>e=b5 (aY b)∧w=O:=hb▸QX w g F M n h hF hn
def MN(w:X)(g:Nat)(F:Int)(M:Nat)(n:Int)(h:eJ w g 328 #[J F,ae ah M])(mn:n<=F):dz W 175 #[g,J n] w λe O=>e=b5 (aY true)∧Grow w O:=by go_in;go_wp2_with fail;have c0:=λw1(H:Grow _ w1)=>(h.grow H).cell 0;refine fh ?_;intro w1 H;clear c0;go_wp2;go_ret;exact⟨rfl,H⟩
def QY(M d:Nat):((M:Int) / (2:Int) ^ d)=((M >>> d:Nat):Int):=by rw[Nat.shiftRight_eq_div_pow];push_cast;rfl
def and_one(x:Nat)(Y:x<18446744073709551616):bits .and .u64 (x:Int) 1=((x % 2:Nat):Int):=by have h:=u64_and_nat x 1 Y ap;rw[Nat.and_one_is_mod] at h;exact h
def QZ(M d:Nat):(((M >>> d % 2:Nat):Int) == 1)=M.testBit d:=by rw[Nat.testBit_eq_decide_div_mod_eq,Nat.shiftRight_eq_div_pow,Bool.eq_iff_iff];simp only[beq_iff_eq,decide_eq_true_eq];omega
def MO(w:X)(g:Nat)(F:Int)(M:Nat)(n:Int)(h:eJ w g 328 #[J F,ae ah M])(hF:-9223372036854775808<=F∧F<=9223372036854775807)(hn:-9223372036854775808<=n∧n<=9223372036854775807)(mn:F<n)(hf:far F n=true):dz W 175 #[g,J n] w λe O=>e=b5 (aY false)∧Grow w O:=by have YQ:decide (n<=F)=false:=aD ap;have FF:=Q hf;clear hf;go_in;go_wp2_with fail;have c0:=λw1(H:Grow _ w1)=>(h.grow H).cell 0;have c1:=λw1(H:Grow _ w1)=>t_ (rO w1 g F M n true (h.grow H) hF hn FF.out);refine fh ?_;intro w1 H;clear c0 c1;go_wp2;go_ret;exact⟨rfl,H⟩
def IE(w:X)(g:Nat)(F:Int)(M:Nat)(n:Int)(d:Nat)(h:eJ w g 328 #[J F,ae ah M])(hM:M<18446744073709551616)(hF:-9223372036854775808<=F∧F<=9223372036854775807)(hn:-9223372036854775808<=n∧n<=9223372036854775807)(hd:n-F-1=(d:Int))(fS:d<64):dz W 175 #[g,J n] w λe O=>e=b5 (aY (M.testBit d))∧Grow w O:=by
 have YQ:decide (n<=F)=false:=aD ap;have hnf:far F n=false:=by unfold far;rw[Bool.and_eq_false_iff];exact .inr (aD ap)
 have FF:=Q hnf;have HD:=Q hd;clear hnf hd;go_in;go_wp2_with fail;have c0:=λw1(H:Grow _ w1)=>(h.grow H).cell 0;have c1:=λw1(H:Grow _ w1)=>t_ (rO w1 g F M n false (h.grow H) hF hn FF.out);have c2:=λw1(H:Grow _ w1)=>(h.grow H).cell 1;have c3:=λw1(H:Grow _ w1)=>t_ (Uj w1 g F M n d (h.grow H) HD.out fS);refine fh ?_;intro w1 H;clear c0 c1 c2 c3;go_wp2;go_ret;exact⟨kC (by rw[QY,and_one _ (Nat.lt_of_le_of_lt (Nat.shiftRight_le M d) hM),QZ]),H⟩
end Go.Proofs.YtpeepcmdehhbgaaGreatDoor.abq
namespace Go.Hop
open RowKit
def In(w:X)(V:aV)(size:Nat)(A:aU)(n:Nat)(xs:List K):Prop:=xs.length=n*size∧(0<n->∃ad,A=some ad∧V ad.block∧ad.block<(w:Nat)∧∀j u,xs[j]?=some u->w.cell? (ad.add j)=some u)
section
variable{size:Nat}
def In.nil:In w V size A 0 []:=⟨by simp,λh=>absurd h ap⟩
def In.mono(h:In w V size A n xs)(hV:∀b,V b->V' b):In w V' size A n xs:=⟨h.1,λhn=>by obtain⟨ad,e,hv,hb,E⟩:=h.2 hn;exact⟨ad,e,hV _ hv,hb,E⟩⟩
def In.keep(h:In w V size A n xs)(N:∀b,V b->b<(w:Nat)->O.heap[b]?=w.heap[b]?):In O V size A n xs:=
 ⟨h.1,λhn=>by
  obtain⟨ad,e,hv,hb,E⟩:=h.2 hn;have hs:ad.block<(O:Nat):=by have I:=N _ hv hb;rw[Array.getElem?_eq_getElem hb] at I;exact (Array.getElem?_eq_some_iff.1 I).1
  exact⟨ad,e,hv,hs,λj u hu=>by rw[World.cell?_of_block (a:=ad.add j) (w:=w) (by rw[block_add];exact N _ hv hb)];exact E j u hu⟩⟩
def In.grow(h:In w V size A n xs)(H:Grow w O):In O V size A n xs:=h.keep λb _ hb=>H.block b hb
def In.just(h:In w V size A n xs)(hj:dM U w O)(hd:∀b,V b->¬ U b):In O V size A n xs:=h.keep λb hv hb=>hj.block b hb (hd b hv)
def In.reads(h:In w V size A n xs):Reads w (w:Nat) size A n xs:=⟨h.1,λhn=>by obtain⟨ad,e,_,hb,E⟩:=h.2 hn;exact⟨ad,e,hb,E⟩⟩
def In.below(h:In w V size A n xs)(hB:∀b,V b->b<B):Reads w B size A n xs:=⟨h.1,λhn=>by obtain⟨ad,e,hv,_,E⟩:=h.2 hn;exact⟨ad,e,hB _ hv,E⟩⟩
def Reads.jL{B:Nat}(h:Reads w B size A n xs)(hB:B<=(w:Nat))(hV:∀b,b<B->V b):In w V size A n xs:=⟨h.1,λhn=>by obtain⟨ad,e,hb,E⟩:=h.2 hn;exact⟨ad,e,hV _ hb,by omega,E⟩⟩
def Own.jL{e:dC}{v:K}(h:Own w V e size v n xs):∃A c,v=Z A n c∧In w V size A n xs∧n<=c∧c<=dG:=by
 rcases h.2 with ⟨rfl,rfl⟩|⟨g,cap,cur,rfl,hV,H,hn,hm,_,_⟩
 ·exact⟨none,0,rfl,⟨h.1,λhh=>absurd hh ap⟩,bh _,bo _⟩
 ·obtain⟨A,c,e1,T,_,_⟩:=h.reads
  injection e1 with e1 e2 e3;subst e1 e3;refine⟨_,_,rfl,⟨h.1,λhh=>?_⟩,hn,hm⟩;obtain⟨ad,e,hb,E⟩:=T.2 hh;injection e with e;subst e;exact⟨_,rfl,hV,hb,E⟩
theorem In.take(h:In w V size A n xs){k:Nat}(N:k<=n):In w V size A k (xs.take (k*size)):=by
 refine⟨by rw[bn,h.1];exact cz (cK _ N),λhn=>?_⟩;obtain⟨ad,rfl,hv,hb,ia⟩:=h.2 ap;refine⟨ad,rfl,hv,hb,λj u hu=>ia j u ?_⟩;rw[List.getElem?_take] at hu;split at hu;·exact hu
 ·cases hu
def In.mr{α:Type}{cells:α->List K}{q:List α}(h:In w V size A n (q.flatMap cells))(zD:0<size)(hl:∀a,(cells a).length=size)(N:k<n):∃(ad:dA)(hq:k<q.length),A=some ad∧V ad.block∧ad.block<(w:Nat)∧
   (∀u,(cells q[k])[0]?=some u->w.cell? (ad.add (k*size))=some u)∧∀j u,(cells q[k])[j+1]?=some u->w.cell? ⟨(ad.add (k*size)).block,(ad.add (k*size)).off+(j+1),none⟩=some u:=by
 obtain⟨ad,e,hv,hb,E⟩:=h.2 ap
 have ig:q.length=n:=by have:=h.1;rw[ix cells size hl] at this;exact Nat.eq_of_mul_eq_mul_right zD this
 have Iq:k<q.length:=by omega
 have hp:∀j,(⟨(ad.add (k*size)).block,(ad.add (k*size)).off+(j+1),none⟩:dA)=ad.add (k*size+(j+1)):=λj=>by rw[<-add_add];generalize ad.add (k*size)=p;unfold Addr.add;rw[aB ap]
 have fS:∀j u,(cells q[k])[j]?=some u->j<size:=λj u hu=>by have:=(List.getElem?_eq_some_iff.1 hu).1;rw[hl] at this;exact this
 exact⟨ad,Iq,e,hv,hb,λu hu=>E (k*size) u ((flat_get cells size hl q k 0 Iq zD).trans hu),λj u hu=>by rw[hp j];exact E _ u ((flat_get cells size hl q k (j+1) Iq (fS _ _ hu)).trans hu)⟩
end
def fp(w:X)(o:Obj):(w.alloc o).heap.size=(w:Nat)+1:=by simp
theorem ki{α β:Type}(f:α->List β)(m:Nat)(hf:∀a,(f a).length=m):∀(q:List α)(k:Nat),(q.flatMap f).take (k*m)=(q.take k).flatMap f
 | q,0=>by simp
 | [],k+1=>by simp
 | a::q,k+1=>by
   rw[bJ,cG,bJ,List.take_append,hf a,Nat.succ_mul,bH (by rw[hf];omega),show k*m+m-m=k*m by omega,ki f m hf q k]
theorem ob{α β:Type}(f:α->List β)(m:Nat)(hf:∀a,(f a).length=m):∀(q:List α)(k:Nat),(q.flatMap f).drop (k*m)=(q.drop k).flatMap f
 | q,0=>by simp
 | [],k+1=>by simp
 | a::q,k+1=>by
   rw[bJ,List.drop_succ_cons,List.drop_append,hf a,Nat.succ_mul,cH (by rw[hf];omega),show k*m+m-m=k*m by omega,ob f m hf q k,ch]
def Row(w:X)(V:aV)(e:dC)(size:Nat)(v:K)(n:Nat)(xs:List K):Prop:=
 xs.length=n*size∧((v=Z none 0 0∧n=0)∨
  ∃g cap cur,v=Z (some ⟨g,0,none⟩) n cap∧V g∧w.heap[g]?=some (.cells cur e (0,0))∧n<=cap∧cap<=dG∧cur.size=cap*size∧cur.toList.take (n*size)=xs)
section
variable{size:Nat}
def Row.own(h:Row w V e size v n xs):Own w V e size v n xs:=by
 refine⟨h.1,?_⟩;rcases h.2 with G|⟨g,cap,cur,I,G,L,h4,h5,h6,h7⟩
 ·exact .inl G
 ·exact .inr ⟨g,cap,cur,I,G,L,h4,h5,.inl h6,h7⟩
def Row.owns(h:Row w V e size v n xs):w.ownsRow 0 e size v n xs∧∀g,v.ownBlock=some g->V g:=by
 rcases h.2 with G|⟨g,cap,cur,I,G,L,h4,h5,h6,h7⟩
 ·refine⟨⟨h.1,.inl G⟩,λg H=>?_⟩
  rw[G.1] at H;cases H
 ·refine⟨⟨h.1,.inr ⟨g,cap,cur,I,bo _,L,h4,h5,h6,h7⟩⟩,λg' H=>?_⟩
  rw[I] at H;injection H with H;rw[<-H];exact G
def Row.of(h:w.ownsRow 0 e size v n xs)(hV:∀g,v.ownBlock=some g->V g):Row w V e size v n xs:=by
 refine⟨h.1,?_⟩;rcases h.2 with G|⟨g,cap,cur,I,_,L⟩
 ·exact .inl G
 ·exact .inr ⟨g,cap,cur,I,hV g (by rw[I];rfl),L⟩
def Row.nil:Row w V e size (Z none 0 0) 0 []:=⟨by simp,.inl ⟨rfl,rfl⟩⟩
def Row.mono(h:Row w V e size v n xs)(hV:∀b,V b->V' b):Row w V' e size v n xs:=by
 refine⟨h.1,?_⟩;rcases h.2 with G|⟨g,cap,cur,I,G,L⟩
 ·exact .inl G
 ·exact .inr ⟨g,cap,cur,I,hV g G,L⟩
def Row.keep(h:Row w V e size v n xs)(N:∀b,V b->b<(w:Nat)->O.heap[b]?=w.heap[b]?):Row O V e size v n xs:=by
 refine⟨h.1,?_⟩;rcases h.2 with G|⟨g,cap,cur,I,G,L,h4⟩
 ·exact .inl G
 ·exact .inr ⟨g,cap,cur,I,G,(N g G (Array.getElem?_eq_some_iff.1 L).1).trans L,h4⟩
def Row.grow(h:Row w V e size v n xs)(H:Grow w O):Row O V e size v n xs:=h.keep λb _ hb=>H.block b hb
def Row.just(h:Row w V e size v n xs)(hj:dM U w O)(hd:∀b,V b->¬ U b):Row O V e size v n xs:=h.keep λb hv hb=>hj.block b hb (hd b hv)
theorem Row.jL(h:Row w V e size v n xs):∃A c,v=Z A n c∧In w V size A n xs∧n<=c∧c<=dG:=h.own.jL
end
theorem iC(b:Nat)(e:dC)(mk:Nat×Nat):∀(vs:List K)(o:Nat)(w:X)(cur:aP),w.heap[b]?=some (.cells cur e mk)->o+vs.length<=cur.size->
 ∃cur',(w.setCells b o vs).heap[b]?=some (.cells cur' e mk)∧cur'.size=cur.size∧cur'.toList=cur.toList.take o++vs++cur.toList.drop (o+vs.length)
 | [],o,w,cur,h,hl=>⟨cur,h,rfl,by simp⟩
 | v::r,o,w,cur,h,hl=>by
   have I:(w.setCell ⟨b,o,none⟩ v).heap[b]?=some (.cells (cur.setIfInBounds o v) e mk):=by simp[World.setCell,Array.getElem?_modify,h]
   simp only[bD] at hl;obtain⟨cur',G,L,h4⟩:=iC b e mk r (o+1) (w.setCell ⟨b,o,none⟩ v) (cur.setIfInBounds o v) I (by simp;omega);refine⟨cur',G,by rw[L];simp,?_⟩;rw[h4];have e1:(cur.setIfInBounds o v).toList=cur.toList.take o++v::cur.toList.drop (o+1):=by rw[Array.toList_setIfInBounds,List.set_eq_take_append_cons_drop];rw[aA (by simp;omega)]
   have Fu:(cur.toList.take o).length=o:=by rw[bn];simp;omega
   rw[e1,List.take_append,List.drop_append,Fu];rw[bH (l:=cur.toList.take o) ap,cH (l:=cur.toList.take o) ap,show o+1-o=1 by omega,show o+1+r.length-o=r.length+1 by omega];simp only[cG,List.take_zero,List.drop_succ_cons,List.drop_drop,ch,bp,cD,bD];rw[show o+1+r.length=o+(r.length+1) by omega]
theorem gM(b:Nat):∀(vs:List K)(o:Nat)(w:X),fI b w (w.setCells b o vs)
 | [],_,w=>fI.refl b w
 | v::r,o,w=>((fI.refl b w).put o v).trans (gM b r (o+1) _)
theorem setCells_size(b:Nat):∀(vs:List K)(o:Nat)(w:X),(w.setCells b o vs).heap.size=(w:Nat)
 | [],_,_=>rfl
 | v::r,o,w=>(setCells_size b r (o+1) _).trans (gg w _ v)
section
variable{size:Nat}
def j_(abl:Elem P t e size bytes z)(hv:∀w,(zeroValue e).run P w=.ok z w)(I:∀u∈z.cells.toList,u.oneCell'=true)(w:X)(ty:dC)(b o n c:Nat)(hn:0<n)
 (E:∀j,j<n*size->(w.cell? ⟨b,o+j,none⟩).isSome=true) (hf:∀j,j<n*size->w.frozen? ⟨b,o+j,none⟩=false):(Builtin.clear_ #[t] ty #[Z (some ⟨b,o,none⟩) n c]).run P w=.ok (a_ #[]) (w.setCells b o (bM z.cells n).toList):=by
 have hl:(bM z.cells n).toList.length=n*size:=by rw[bZ,size_zeroCells,abl.zs]
 have kY:=run_storeCells_cells (P:=P) b o (bM z.cells n).toList 0 w (by rw[hl];simpa using E) (by rw[hl];simpa using hf) (λv hv'=>by
  have:v∈bM z.cells n:=Array.mem_toList_iff.1 hv';unfold bM at this;obtain⟨i,_,rfl⟩:=Array.mem_map.1 this;have hz:0<z.cells.size:=by rw[abl.zs];exact abl.pos
  refine I _ ?_;rw[getElem!_pos z.cells (i % z.cells.size) (Nat.mod_lt _ hz)];exact Array.mem_toList_iff.2 (Array.getElem_mem _))
 simp only[Nat.add_zero] at kY;obtain⟨m,rfl⟩:∃m,n=m+1:=⟨n-1,by omega⟩;simp[Builtin.clear_,run_underlying abl.und,hv,kY]
def mL(abl:Elem P t e size bytes z)(w:X)(ty:Nat)(v:K)(n:Nat)(xs:List K)(im:Row w V e size v n xs)
 (B:Nat) (A:aU) (m c:Nat) (news:List K) (hr:Reads w B size A m news) (I:∀u∈news,u.oneCell'=true) (fw:(n+m)*bytes<=140737488355328):∃v' O,(cn #[t,t] ty #[v,Z A m c]).run P w=.ok v' O∧Row O (iY V w O) e size v' (n+m) (xs++news)∧dM V w O:=by
 obtain⟨ho,hV⟩:=im.owns;obtain⟨v',O,eR,G,L,h4⟩:=oa abl w 0 ty v n xs ho B A m c news hr I fw (bo _);refine⟨v',O,eR,.of G λg H=>?_,⟨L.os,L.tape,L.output,L.size,λk N hv=>L.block k N (λe=>hv (hV k e.symm))⟩⟩;rcases h4 with h4|h4
 ·exact .inl (hV g (by rw[<-h4,H]))
 ·rw[H] at h4;injection h4 with h4
  have:=G.lt g H;exact .inr ⟨by omega,this.2⟩
def wW(abl:Elem P t e size bytes z)(w:X)(hw:bN o (yielded ops a.tmps)=true)(s x:Operand)
 (ho:o.op=.call { callee := .builtin .append,args:=#[s,x],argTypes:=#[t,t] })
 (v:K) (n:Nat) (xs:List K) (hs:a.eval s=v) (im:Row w V e size v n xs)
 (B:Nat) (A:aU) (m c:Nat) (news:List K) (Y:a.eval x=Z A m c) (hr:Reads w B size A m news) (I:∀u∈news,u.oneCell'=true)
 (fw:(n+m)*bytes<=140737488355328)
 (h:∀v' O,Row O (iY V w O) e size v' (n+m) (xs++news)->dM V w O->wpList P ops abo rest (a.put o.dst v') O):wpList P ops abo (o::rest) a w:=by obtain⟨v',O,eR,G,L⟩:=mL abl w o.type v n xs im B A m c news hr I fw;unfold wpList;rw[aA hw];refine .inl ?_;unfold Oper.wp execOp;simp only[ho,resolve,invoke,builtin,Sem.run_bind,Sem.run_pure,Result.andThen_ok,cV,bQ,cQ,hs,Y,eR];exact h v' O G L
def pv(abl:Elem P t e size bytes z){ρ:Operand->K}{R:K->X->Prop}{s x:Operand}(ho:o.op=.call { callee := .builtin .append,args:=#[s,x],argTypes:=#[t,t] })
 {v:K} {n:Nat} {xs:List K} (hs:ρ s=v) (im:Row w V e size v n xs) {B:Nat} {A:aU} {m c:Nat} {news:List K} (Y:ρ x=Z A m c) (hr:Reads w B size A m news) (I:∀u∈news,u.oneCell'=true)
 (fw:(n+m)*bytes<=140737488355328) (h:∀v' O,Row O (iY V w O) e size v' (n+m) (xs++news)->dM V w O->R v' O):gE P R ((execOp ρ o).run P w):=by obtain⟨v',O,eR,G,L⟩:=mL abl w o.type v n xs im B A m c news hr I fw;refine gv (u:=v') (w:=O) ?_ (h v' O G L);unfold execOp;simp only[ho,resolve,invoke,builtin,Sem.run_bind,Sem.run_pure,Result.andThen_ok,cV,bQ,cQ,hs,Y,eR]
end
section
variable{size:Nat}
def Reads.Vw(abl:Elem P t e size bytes z)(hr:Reads w B size A m news)(I:∀u∈news,u.oneCell'=true):Src P size t (Z A m c) m news w:=by
 by_cases hm:m=0
 ·have:=hr.src (c:=c) abl hm
  subst hm;obtain rfl:news=[]:=bu (by simpa using hr.1);exact this
 ·obtain⟨ad,rfl,_,E⟩:=hr.2 ap
  exact Src.ofSlice w abl.und ad m c news hr.1 E I
def pw(abl:Elem P t e size bytes z)(w:X)(ty:Nat){g c2:Nat}{cur:aP}(H:w.heap[g]?=some (.cells cur e (0,0)))(hr:Reads w B size A m news)(I:∀u∈news,u.oneCell'=true)
 (rH:k+m<=c) (hs:(k+m)*size<=cur.size):(cn #[t,t] ty #[Z (some (g,0)) k c,Z A m c2]).run P w=.ok (Z (some (g,0)) (k+m) c) (w.setCells g (k*size) news):=by
 obtain⟨i,hi,_,iZ,_⟩:=abl.info;have zC:Src P i.size t (Z A m c2) m news w:=by rw[iZ];exact hr.Vw abl I
 have hl:=hr.1;have mn:k*size+m*size<=cur.size:=by rw[<-Nat.add_mul];exact hs
 have:=run_append_room_src (P:=P) w t t ty e i abl.und hi g 0 k c (Z A m c2) m news zC rH (λj hj=>by rw[cell_of_row w g _ cur e (0,0) H,iZ,Array.getElem?_eq_getElem ap];rfl) (λj hj=>eJ.frozen (show eJ w g e cur from H) _)
 rw[iZ,cJ] at this;exact this
def sG(abl:Elem P t e size bytes z)(w:X):(zeroValue e).run P w=.ok z w:=by obtain⟨i,hi,hz,_,_⟩:=abl.info;simp[zeroValue,typeInfo,hi,hz]
def pS(hw:bN o (yielded ops a.tmps)=true)(s x:Operand){tx:dC}
 (ho:o.op=.call { callee := .builtin .append,args:=#[s,x],argTypes:=#[t,tx] }) {vs vx v':K} {O:X} (hs:a.eval s=vs) (Y:a.eval x=vx)
 (eR:(cn #[t,tx] o.type #[vs,vx]).run P w=.ok v' O) (h:wpList P ops abo rest (a.put o.dst v') O):wpList P ops abo (o::rest) a w:=by unfold wpList;rw[aA hw];refine .inl ?_;unfold Oper.wp execOp;simp only[ho,resolve,invoke,builtin,Sem.run_bind,Sem.run_pure,Result.andThen_ok,cV,bQ,cQ,hs,Y,eR];exact h
end
def rB{R:K->X->Prop}{r:Result Next}(hr:r=.ok .skip O)(h:R undef O):gE P R r:=by rw[hr];exact h
def kD(w:X)(x i:Nat)(u:K):dM (λb=>b=x) w (w.setCell ⟨x,i,none⟩ u):=(dM.dK (Grow.refl w)).put (V:=λb=>b=x) rfl i u
section
variable{size:Nat}
end
end Go.Hop
