/- Wg1, Wg2, Wn1, Wn2, Wn3, Wg3, Wg4. -/
import Derived.Test.YtpeepcmdehhbgaaGreatDoorJs42
set_option linter.all false
set_option maxRecDepth 100000
open Go.Value renaming int->ae,slice->Z,string->aX,bool->aY,agg->aZ,tuple->a_
open Go.Ending renaming returned->b5
open Go.IntKind renaming i64->af,u64->ah
open Go (J az aE aA aB aC aD ay aj am ap aw aL aK aJ aI aH aV aU aT aR aQ aP aO aN)
open Go.Proofs.Tryz renaming prog->W
open Nat renaming le_refl->bh,zero_le->bo,le_trans->bB,le_succ_of_le->dw
open List renaming length_map->bj,length_take->bn,length_cons->bD,map_append->bI,range->bV,mem_of_mem_take->bW,length_nil->cx,length_range->da
open Int renaming toNat_natCast->cA,toNat_of_nonneg->cP,natCast_nonneg->de
open Go.Proofs.YtpeepcmdehhbgaaGreatDoor (Ms Wl)
variable{i n abq abp t M f B node nd a tg code:Nat}{x:Wl}{m:Ms}{s:aR}
namespace Go.Proofs.YtpeepcmdehhbgaaGreatDoor
open RowKit Hop V
def gN(abp B:Nat)(l:Sends):Prop:=∀q∈l,q.2.term<=(B:Int)∧(q.2.k=2∨(0<=q.1∧q.1<(abp:Int)))
section
theorem gN.nil:gN abp B []:=λ_ h=>by simp at h
theorem gN.app{a b:Sends}(ha:gN abp B a)(hb:gN abp B b):gN abp B (a++b):=λq hq=>(List.mem_append.1 hq).elim (ha q) (hb q)
theorem gN.one{f:Int}(h:m.term<=(B:Int))(G:m.k=2∨(0<=f∧f<(abp:Int))):gN abp B [(f,m)]:=λq hq=>by rw[List.mem_singleton.1 hq];exact⟨h,G⟩
theorem gN.all(h:m.term<=(B:Int)):gN abp B (tD node abp m):=λq hq=>by obtain⟨j,hj,rfl⟩:=List.mem_map.1 hq;have:=List.mem_range.1 (List.mem_filter.1 hj).1;exact⟨h,.inr ⟨de _,by show (j:Int)<_;omega⟩⟩
theorem gN.mono{B':Nat}{l:Sends}(h:gN abp B l)(hB:B<=B'):gN abp B' l:=λq hq=>⟨by have:=(h q hq).1;omega,(h q hq).2⟩
theorem JG(leads:Bool)(own:Nat):∀(l:List En)(k:Nat)(x:j4)(out:List Sd),gN abp B (out.map Sd.fn)->gN abp B ((CJ leads own l k x out).2.map Sd.fn)
 | [],_,_,_,ho=>ho
 | e::l,k,x,out,ho=>by
   refine JG leads own l (k+1) (ei x e).2.2 _ ?_;split
   ·rw[bI]
    exact ho.app (gN.one (m:=fx e.tg (ei x e).1 (ei x e).2.1) (de _) (.inl rfl))
   ·exact ho
end
structure Rp.Tb(x:Rp)(n abp B:Nat):Prop where
 node:x.node=n
 nodes:x.nodes=abp
 t:x.s.c.t<=B
 v:∀v,x.v=some v->v.t<=B
namespace Rp
variable{x:Rp}
theorem Tb.mono{B':Nat}(h:x.Tb n abp B)(hB:B<=B'):x.Tb n abp B':=⟨h.node,h.nodes,bB h.t hB,λv hv=>bB (h.v v hv) hB⟩
theorem Tb.apply(h:x.Tb n abp B)(k:Nat):(x.apply k).1.Tb n abp B∧gN abp B (x.apply k).2:=⟨⟨h.node,h.nodes,h.t,h.v⟩,JG _ _ _ _ _ _ gN.nil⟩
theorem Tb.accepts(h:x.Tb n abp B):gN abp B x.accepts:=by unfold Rp.accepts;rw[h.nodes];exact gN.all (by show ((x.s.c.t:Nat):Int)<=_;have:=h.t;omega)
theorem Tb.counted(h:x.Tb n abp B){v:Vt}(hv:v.t<=B)(i k:Nat):(x.counted v i k).1.Tb n abp B∧gN abp B (x.counted v i k).2:=Tb.apply (x:={ x with v:=some (v.told i k) }) ⟨h.node,h.nodes,h.t,λv' h'=>by cases h';exact hv⟩ _
theorem Tb.told(h:x.Tb n abp B){v:Vt}(hv:v.t<=B):(x.told v).1.Tb n abp B∧gN abp B (x.told v).2:=by obtain⟨I,G⟩:=h.counted hv x.node x.s.c.es.length;exact⟨I,G.app I.accepts⟩
theorem PH{s s':Vs}{y:Wo}(e:s.keep y=some s'):s'.c=y:=by
 unfold Vs.keep at e;split at e;·cases e;exact Vs.m7 _ _
 ·cases e
theorem PI{s s':Vs}{l:List En}(e:s.accept t l=some s'):s'.c.t=t∨s'=s:=by
 unfold Vs.accept at e;split at e;·cases e
 ·split at e
  ·cases e;exact .inr rfl
  ·refine .inl ?_
   rw[PH e];unfold Vs.next;split<;>rfl
theorem B8{s s':Vs}(e:s.promise t=some s'):s'.c.t=t:=by
 unfold Vs.promise at e;split at e;·rw[PH e]
 ·cases e
theorem Tb.acc(h:x.Tb n abp B){s:Vs}{l:List En}(ht:t<=B)(e:x.s.accept t l=some s):s.c.t<=B:=by
 rcases PI e with I|I
 ·omega
 ·rw[I];exact h.t
theorem Tb.won(h:x.Tb n abp B){v:Vt}(hv:v.t<=B):(x.won v).1.Tb n abp B∧gN abp B (x.won v).2:=by
 unfold Rp.won;split;·exact⟨⟨h.node,h.nodes,h.t,λ_ h'=>by cases h'⟩,gN.nil⟩
 ·next s e=>exact Tb.told (x:={ x with s:=s,leads:=true,own:=s.c.es.length }) ⟨h.node,h.nodes,h.acc hv e,h.v⟩ hv
theorem PK(v:Vt)(i had:Nat)(l:List En):(v.promise i had l).2.t=v.t:=by
 unfold Vt.promise;repeat' split
 all_goals rfl
theorem Tb.lead(h:x.Tb n abp B)(hN:1<=abp):(x.lead).1.Tb n abp (B+abp)∧gN abp (B+abp) (x.lead).2:=by
 have h8:=h.mono (B':=B+abp) ap;unfold Rp.lead;split;·exact⟨h8,gN.nil⟩
 ·split
  ·exact⟨h8,gN.nil⟩
  ·next s e=>
   have htl:=yw x.s.c.t x.node x.nodes (by rw[h.nodes];exact hN);have kY:s.c.t<=B+abp:=by rw[B8 e];have:=h.t;have:=h.nodes;omega
   have hv:((Vt.new s.c.t x.nodes).promise x.node s.c.h s.c.es).2.t<=B+abp:=by rw[PK];exact kY
   have lw:Rp.Tb { x with s:=s,leads:=false,v:=some ((Vt.new s.c.t x.nodes).promise x.node s.c.h s.c.es).2 } n abp (B+abp):=⟨h.node,h.nodes,kY,λv' h'=>by cases h';exact hv⟩;dsimp only;split;·exact lw.won hv
   ·refine⟨lw,?_⟩
    rw[h.nodes];exact gN.all (by show ((s.c.t:Nat):Int)<=_;omega)
theorem Tb.ask(h:x.Tb n abp B)(f:Int)(e:En):(x.ask f e).1.Tb n abp B∧gN abp B (x.ask f e).2:=by
 unfold Rp.ask;split
 ·next v _ hv=>
  split;·exact⟨h,gN.one (de _) (.inl rfl)⟩
  ·split
   ·exact⟨h,gN.one (de _) (.inl rfl)⟩
   ·next s e1=>
    have hv:=h.v v hv;exact Tb.told (x:={ x with s:=s }) ⟨h.node,h.nodes,h.acc hv e1,h.v⟩ hv
 ·exact⟨h,gN.one (de _) (.inl rfl)⟩
theorem Tb.prepare(h:x.Tb n abp B){f:Int}(hf:0<=f∧f<(abp:Int)){t:Nat}(ht:t<=B):(x.prepare f t).1.Tb n abp B∧gN abp B (x.prepare f t).2:=by
 unfold Rp.prepare;split;·exact⟨h,gN.nil⟩
 ·next s e=>exact⟨⟨h.node,h.nodes,by show s.c.t<=B;rw[B8 e];exact ht,λ_ h'=>by cases h'⟩,gN.one (by show (t:Int)<=_;omega) (.inr hf)⟩
theorem Tb.accept(h:x.Tb n abp B){f:Int}(hf:0<=f∧f<(abp:Int)){t cm:Nat}{l:List En}(ht:t<=B):(x.accept f t l cm).1.Tb n abp B∧gN abp B (x.accept f t l cm).2:=by
 unfold Rp.accept;split;·exact⟨h,gN.nil⟩
 ·next s e=>
  have G:Rp.Tb { x with s:=s } n abp B:=⟨h.node,h.nodes,h.acc ht e,h.v⟩;dsimp only;refine⟨?_,gN.one (by show (t:Int)<=_;omega) (.inr hf)⟩;split;·exact (Tb.apply (x:=({ x with s:=s }:Rp).down) ⟨G.node,G.nodes,G.t,λ_ h'=>by cases h'⟩ _).1
  ·exact (G.apply _).1
theorem Tb.ji(h:x.Tb n abp B)(F t had:Nat)(l:List En):(ji x F t had l).1.Tb n abp B∧gN abp B (ji x F t had l).2:=by
 unfold Go.Proofs.YtpeepcmdehhbgaaGreatDoor.ji;split;·exact⟨h,gN.nil⟩
 ·next v hv=>
  split
  ·have rK:(v.promise F had l).2.t<=B:=by rw[PK];exact h.v v hv
   have L:Rp.Tb { x with v:=some (v.promise F had l).2 } n abp B:=⟨h.node,h.nodes,h.t,λv' h'=>by cases h';exact rK⟩;split;·exact L.won rK
   ·exact⟨L,gN.nil⟩
  ·exact⟨h,gN.nil⟩
theorem Tb.mV(h:x.Tb n abp B)(F t k:Nat):(mV x F t k).1.Tb n abp B∧gN abp B (mV x F t k).2:=by
 unfold Go.Proofs.YtpeepcmdehhbgaaGreatDoor.mV;split
 ·split
  ·next v hv=>
   split;·exact h.counted (h.v v hv) F k
   ·exact⟨h,gN.nil⟩
  ·exact⟨h,gN.nil⟩
 ·exact⟨h,gN.nil⟩
theorem Tb.recv(h:x.Tb n abp B)(f:Int){m:Ms}(hm:m.term<=(B:Int)):(x.recv f m).1.Tb n abp B∧gN abp B (x.recv f m).2:=by
 unfold Rp.recv;split;·exact h.ask f m.e
 ·split
  ·exact⟨h,gN.nil⟩
  ·next hf=>
   have hf:x.hears f:=Classical.byContradiction hf;have Ud:0<=f∧f<(abp:Int):=⟨hf.1,by have:=hf.2.1;rw[h.nodes] at this;exact this⟩;split;·exact h.prepare Ud ap
   ·split
    ·exact h.ji _ _ _ _
    ·split
     ·exact h.accept Ud ap
     ·split
      ·exact h.mV _ _ _
      ·exact⟨h,gN.nil⟩
theorem Tb.ticks(h:x.Tb n abp B):gN abp B x.ticks:=by
 unfold Rp.ticks;split;·exact h.accepts
 ·exact gN.nil
end Rp
def PL(i:lp):Prop:=i=(0,0,0)∨∃a k s:Nat,i=((a:Int),(k:Int),(s:Int))∧1<=a∧k<4∧s<=9223372036854775807
def tN(abp:Nat)(l:Sends):Prop:=∀q∈l,q.2.term=0∧0<=q.1∧q.1<(abp:Int)
theorem tN.nil:tN abp []:=λ_ h=>by simp at h
theorem tN.more{l:Sends}(h:tN abp l)(hf:f<abp)(hm:m.term=0):tN abp (l++[((f:Int),m)]):=λq hq=>by
 rcases List.mem_append.1 hq with hq|hq
 ·exact h q hq
 ·rw[List.mem_singleton.1 hq];exact⟨hm,de _,by show (f:Int)<_;omega⟩
structure Ag.Ti(x:Ag)(nd abp M:Nat):Prop where
 node:x.node=nd
 eX:x.eX=abp
 tm:x.Tm M
 ask:∀e∈x.ask,PL e.2
 last:x.last<abp
namespace Ag
variable{x y:Ag}
theorem Ti.mono{M':Nat}(h:x.Ti nd abp M)(hm:M<=M'):x.Ti nd abp M':=⟨h.node,h.eX,h.tm.mono hm,h.ask,h.last⟩
structure nN(x y:Ag):Prop where
 node:y.node=x.node
 eX:y.eX=x.eX
 tag:y.tag=x.tag
 now:y.now=x.now
 tr:y.tr=x.tr
 ask:y.ask=x.ask
 last:y.last=x.last
theorem nN.refl(x:Ag):nN x x:=⟨rfl,rfl,rfl,rfl,rfl,rfl,rfl⟩
theorem nN.trans{z:Ag}(h:nN x y)(h':nN y z):nN x z:=⟨h'.node.trans h.node,h'.eX.trans h.eX,h'.tag.trans h.tag,h'.now.trans h.now,h'.tr.trans h.tr,h'.ask.trans h.ask,h'.last.trans h.last⟩
theorem nN.ti(h:nN x y)(Y:x.Ti nd abp M):y.Ti nd abp M:=⟨h.node.trans Y.node,h.eX.trans Y.eX,⟨by rw[h.tag];exact Y.tm.tag,by rw[h.now];exact Y.tm.now,by rw[h.tr];exact Y.tm.tr⟩,by rw[h.ask];exact Y.ask,by rw[h.last];exact Y.last⟩
theorem nN.fX(x:Ag)(d:Dl):nN x (x.fX d).1:=by
 unfold Ag.fX;split;·exact nN.refl _
 ·split
  ·exact nN.refl _
  ·exact⟨rfl,rfl,rfl,rfl,rfl,rfl,rfl⟩
theorem nN.sync(x:Ag):nN x x.sync:=⟨rfl,rfl,rfl,rfl,rfl,rfl,rfl⟩
theorem nN.kx{k:Nat}{ds:List Dl}(h:x.kx k ds=some y):nN x y:=by obtain⟨_,_,_,rfl⟩:=AV h;exact⟨rfl,rfl,rfl,rfl,rfl,rfl,rfl⟩
theorem nN.kb{k:Nat}:∀(f:Nat)(x:Ag)(l:List Dl),nN x (x.kb k f l).1
 | 0,x,_=>nN.refl x
 | f+1,x,l=>by
   unfold Ag.kb;split;·exact nN.refl _
   ·split
    ·exact nN.refl _
    ·next y e=>exact (nN.kx e).trans (nN.kb f y (l.drop 8))
theorem nN.ey:∀(ks:aQ)(x:Ag),nN x (x.ey ks).1
 | [],x=>nN.refl x
 | k::ks,x=>by
   unfold Ag.ey;split;·exact (nN.kb _ x _).trans (nN.ey ks _)
   ·exact nN.kb _ x _
theorem nN.cut(x:Ag):nN x x.cut.1:=by
 unfold Ag.cut;split;·exact nN.ey _ x
 ·exact (nN.ey _ x).trans (nN.sync _)
theorem Ti.next(h:x.Ti nd abp M){i:lp}(hi:PL i):(x.next i).Ti nd abp (M+1):=⟨h.node,h.eX,⟨Nat.succ_le_succ h.tm.tag,dw h.tm.now,(h.tm.mono (Nat.le_succ M)).tr⟩,λe he=>by
 rcases yp he with rfl|he
 ·exact hi
 ·exact h.ask e he,h.last⟩
theorem Ti.send(h:x.Ti nd abp M){i:lp}(hi:PL i):(x.send i (x.tries i)).Ti nd abp (M+1):=⟨h.node,h.eX,h.tm.send i (h.tm.tries i).1,(h.next hi).ask,h.last⟩
theorem Ti.ff{k:Nat}(N:k<4)(pJ:1<=nd):∀(l:List abo.Ab)(x:Ag)(M:Nat)(out:Sends),(∀b∈l,EL b)->x.Ti nd abp M->tN abp out->(Ag.ff k l x out).1.Ti nd abp (M+l.length)∧tN abp (Ag.ff k l x out).2
 | [],_,_,_,_,h,ho=>⟨h,ho⟩
 | b::l,x,M,out,hb,h,ho=>by
   have I:=(hb b (by simp)).1;have hi:PL (x.iX k b.1) := .inr ⟨nd,k,b.1.toNat,by unfold Ag.iX;rw[h.node,cP ap],pJ,N,by omega⟩;unfold Ag.ff;rw[bD];split
   ·have:=Ti.ff N pJ l _ (M+1) (out++[(((x.to (x.tries (x.iX k b.1)).1:Nat):Int),gp (x.tI (x.iX k b.1) b.2))]) (λc E=>hb c (by simp[E])) (h.send hi) (ho.more (by
     unfold Ag.to;rw[h.eX];exact Nat.mod_lt _ (by have:=h.last;omega)) rfl)
    exact⟨this.1.mono ap,this.2⟩
   ·have:=Ti.ff N pJ l x M out (λc E=>hb c (by simp[E])) h ho
    exact⟨this.1.mono ap,this.2⟩
theorem Ti.fZ(pJ:1<=nd):∀(ks:aQ)(x:Ag)(M:Nat)(out:Sends),(∀k∈ks,k<4)->x.b.Wf->x.node<8->x.tag+4*ks.length<=9223372036854775807->jz out->x.Ti nd abp M->tN abp out->(Ag.fZ ks x out).1.Ti nd abp (M+4*ks.length)∧tN abp (Ag.fZ ks x out).2
 | [],_,_,_,_,_,_,_,_,h,ho=>⟨h,ho⟩
 | k::ks,x,M,out,N,hb,hn,ht,H,h,ho=>by
   rw[bD] at ht ⊢;have Bh:∀b∈(x.b.qu k).l.take 4,EL b:=λb vn=>hb.bt k b (bW vn);have hl:((x.b.qu k).l.take 4).length<=4:=by rw[bn];omega
   obtain⟨g1,g2,_⟩:=tM (N k (by simp)) _ x out Bh hn hb ap H;obtain⟨t1,t2⟩:=Ti.ff (abp:=abp) (N k (by simp)) pJ _ x M out Bh h ho;unfold Ag.fZ;have hbw:(Ag.ff k ((x.b.qu k).l.take 4) x out).1.b.Wf:=by rw[g2.b];exact hb
   have:=Ti.fZ pJ ks _ (M+4) _ (λc E=>N c (by simp[E])) hbw (by rw[g2.node];exact hn) (by have:=g2.tag;omega) g1 (t1.mono ap) t2;exact⟨this.1.mono ap,this.2⟩
theorem Ti.f_(pJ:1<=nd):∀(n:Nat)(x:Ag)(M:Nat)(out:Sends),x.b.Wf->x.node<8->x.tag+16*n<=9223372036854775807->jz out->x.Ti nd abp M->tN abp out->(Ag.f_ n x out).1.Ti nd abp (M+17*n)∧tN abp (Ag.f_ n x out).2
 | 0,_,_,_,_,_,_,_,h,ho=>⟨h,ho⟩
 | n+1,x,M,out,hb,hn,ht,H,h,ho=>by
   have I:Ag.Ti { x with now:=x.now+1 } nd abp (M+1):=⟨h.node,h.eX,⟨dw h.tm.tag,Nat.succ_le_succ h.tm.now,(h.tm.mono (Nat.le_succ M)).tr⟩,h.ask,h.last⟩;have hr:∀k∈bV 4,k<4:=λk N=>List.mem_range.1 N;obtain⟨g1,g2,_⟩:=yx (bV 4) { x with now:=x.now+1 } out hr hn hb (by show x.tag+_<=_;rw[da];omega) H;obtain⟨t1,t2⟩:=Ti.fZ pJ (bV 4) { x with now:=x.now+1 } (M+1) out hr hb hn (by show x.tag+_<=_;rw[da];omega) H I ho;rw[da] at g2 t1;have Yo:(Ag.fZ (bV 4) { x with now:=x.now+1 } out).1.tag<=x.tag+4*4:=g2.tag;unfold Ag.f_ Ag.lN;have:=Ti.f_ pJ n (Ag.fZ (bV 4) { x with now:=x.now+1 } out).1 (M+1+4*4) _ (by rw[g2.b];exact hb) (by rw[g2.node];exact hn) ap g1 t1 t2;exact⟨this.1.mono ap,this.2⟩
theorem yA{κ α:Type}[DecidableEq κ]{q:List (κ×α)}{k:κ}{e:κ×α}(h:e∈gV q k):e∈q:=by unfold gV at h;exact (List.mem_filter.1 h).1
theorem PN{κ α:Type}[DecidableEq α]{q:List (κ×α)}{v:α}{e:κ×α}(h:e∈vH q v):e∈q:=(List.mem_filter.1 h).1
theorem Tr(x:Ag)(r:Rc):nN x (x.put r):=by
 unfold Ag.put;split;·exact⟨rfl,rfl,rfl,rfl,rfl,rfl,rfl⟩
 ·exact nN.refl _
theorem Ti.fin(h:x.Ti nd abp M)(a k s:Nat):(x.fin a k s).Ti nd abp M:=by have I:=(Tr x (.dn k s)).ti h;exact⟨I.node,I.eX,⟨I.tm.tag,I.tm.now,λe he=>h.tm.tr e (yA he)⟩,λe he=>h.ask e (PN he),I.last⟩
theorem Ti.of(h:x.Ti nd abp M)(tg:Nat):PL (x.jw tg):=by
 unfold Ag.jw;cases hf:qR x.ask (tg:Int) with
 | none=>exact .inl rfl
 | some t=>
   obtain⟨e,he,rfl⟩:=Ce hf;exact h.ask e he
theorem Ti.took(h:x.Ti nd abp M){f tg code:Nat}(hf:f<abp):(x.took f tg code).Ti nd abp M:=by
 have I:Ag.Ti { x with ask:=gV x.ask (tg:Int) } nd abp M:=⟨h.node,h.eX,⟨h.tm.tag,h.tm.now,h.tm.tr⟩,λe he=>h.ask e (yA he),h.last⟩;have G:Ag.Ti (if code=6 then { x with ask:=gV x.ask (tg:Int) } else { x with ask:=gV x.ask (tg:Int),last:=f }) nd abp M:=by
  split;·exact I
  ·exact⟨I.node,I.eX,⟨I.tm.tag,I.tm.now,I.tm.tr⟩,I.ask,hf⟩
 have hn:(if code=6 then ({ x with ask:=gV x.ask (tg:Int) }:Ag) else { x with ask:=gV x.ask (tg:Int),last:=f }).now=x.now:=by split<;>rfl
 unfold Ag.took;dsimp only;generalize (if code=6 then ({ x with ask:=gV x.ask (tg:Int) }:Ag) else { x with ask:=gV x.ask (tg:Int),last:=f })=y at G hn;split
 ·split
  ·exact⟨G.node,G.eX,⟨G.tm.tag,G.tm.now,G.tm.tr⟩,G.ask,by rw[h.eX];exact Nat.mod_lt _ (by have:=h.last;omega)⟩
  ·exact G
 ·split
  ·exact G.fin _ _ _
  ·split
   ·refine⟨G.node,G.eX,⟨G.tm.tag,G.tm.now,λe he=>?_⟩,G.ask,G.last⟩
    rcases yp he with rfl|he
    ·exact⟨(G.tm.tries _).1,by have:=h.tm.now;show x.now<=_;omega⟩
    ·exact G.tm.tr e he
   ·exact G
theorem Ti.new(nd abp:Nat)(hN:1<=abp)(rs:List Rc)(n:Nat):(Ag.new nd abp rs n).Ti nd abp (n*4294967296):=⟨rfl,rfl,⟨bh _,bo _,λ_ h=>by simp[Ag.new] at h⟩,λ_ h=>by simp[Ag.new] at h,hN⟩
end Ag
def je(abq:Nat)(x:Wl)(a:Ac)(ev:Ev)(x':Wl):Prop:=∀w D,Lw W D 33 #[abq,aZ (j8 a)] [.o (iw abq x)] (λ(_:Unit)e=>e=b5 (aZ (kB { ev with bag:=(x'.net.length:Int) }))) (λ_=>[.o (iw abq x')]) w
theorem je.of{x':Wl}{a:Ac}{ev:Ev}(hq:∀P,pM P x->pM P x')(h:∀(P:my),pM P x->∀w D,Lw W D 88 #[.pointer (some ⟨P.w,0,none⟩),aZ (j8 a)] (dL P x) (λ(_:Unit)e=>e=b5 (aZ (kB ev))) (λ_=>dL P x') w):je abq x a ev x':=λw D=>
 a0S w D abq x x' a ev λw D=>Td hq (λP w D hw hQ=>by subst hw;exact h P hQ w D) w D
theorem I9(hi:i<x.na)(Y:(x.ag i).Wf)(ht:(x.ag i).Tm M)(hM:M<=576460752303423488)(b:Int)(s:aR)(hn:1<=n∧n<=1024):je abq x ⟨1,((x.nr+i:Nat):Int),b,(n:Int),s⟩ { Ev.zero with node:=((x.nr+i:Nat):Int) } ((x.jx i ((x.ag i).f_ n []).1).send (x.nr+i) ((x.ag i).f_ n []).2):=
 je.of (λP h=>⟨h.n,h.r,h.a,h.d,h.c,h.m⟩) λP hQ w D=>by obtain⟨I,_,L⟩:=Ag.yz n (x.ag i) [] Y.ok.node Y.bk (by have:=ht.tag;omega) jz.nil;rw[cx] at L;exact EI w D P x _ _ b _ s _ λw D=>T5 w D P x hQ i hi Y.ok M ht hM b n s hn I ap
theorem Ia(hi:i<x.nr)(Y:(x.rp i).Wf)(b:Int)(s:aR)(hn:1<=n∧n<=1024):je abq x ⟨1,(i:Int),b,(n:Int),s⟩ { Ev.zero with node:=(i:Int) } (x.ml i (x.rp i).ticks n):=
 je.of (λP h=>⟨h.n,h.r,h.a,h.d,h.c,h.m⟩) λP hQ w D=>
  EI w D P x _ _ b _ s _ λw D=>T8 w D P x hQ i hi Y.ok b n s hn Y.ticks (bB Y.L_ am)
theorem zt(he:x.net[i]?=some (f,t,m))(E:x.cut (f*8+t)=false)(hl:Tq x.nn (f,t,m))(ht:t<x.nr)(Y:(x.rp t).Wf)(a b:Int)(s:aR):je abq x ⟨2,a,b,(i:Int),s⟩ { Ev.zero with node:=(t:Int) } (((x.del i).qv t ((x.rp t).recv (f:Int) m).1).send t ((x.rp t).recv (f:Int) m).2):=
 je.of (λP h=>⟨h.n,h.r,h.a,h.d,h.c,h.m⟩) λP hQ w D=>
  nM w D P x _ a b _ s _ λw D=>Hw w D P x hQ i f t m he E hl.gd hl.fit ht Y.ok (Y.recv (f:Int) hl.gd).2 (bB (Y.Py (f:Int) hl.gd) am)
theorem Ts(hi:i<x.nr)(Y:(x.rp i).Wf)(ht:(x.rp i).s.c.t<=1099511627776)(b n:Int)(s:aR):je abq x ⟨8,(i:Int),b,n,s⟩ { Ev.zero with node:=(i:Int) } ((x.qv i ((x.rp i).lead).1).send i ((x.rp i).lead).2):=
 je.of (λP h=>⟨h.n,h.r,h.a,h.d,h.c,h.m⟩) λP hQ w D=>Pq w D P x hQ i hi Y.ok ht b n s Y.lead.2 (bB Y.Pw am)
theorem M4(hi:i<x.na)(Y:(x.ag i).Wf)(b:Int)(hs:s.size<=1000000)(hn:n<=9223372036854775807):je abq x ⟨9,((x.nr+i:Nat):Int),b,(n:Int),s⟩ { Ev.zero with why:=((x.ag i).fX (s,n)).2 } (x.jx i ((x.ag i).fX (s,n)).1):=
 je.of (λP h=>⟨h.n,h.r,h.a,h.d,h.c,h.m⟩) λP hQ w D=>LU w D P x _ _ b _ s _ λw D=>EG w D P x hQ i hi Y.ok b n s hs hn
theorem PO(hi:i<x.na)(Y:(x.ag i).Wf)(b n:Int)(s:aR):je abq x ⟨10,((x.nr+i:Nat):Int),b,n,s⟩ { Ev.zero with code:=((x.ag i).cut.2.length:Int) } (x.jx i (x.ag i).cut.1):=
 je.of (λP h=>⟨h.n,h.r,h.a,h.d,h.c,h.m⟩) λP hQ w D=>H_ w D P x _ _ b _ s _ λw D=>Hl w D P x hQ i hi Y.ok b n s
theorem Tt(hi:i<x.na)(Y:(x.ag i).Wf)(b n:Int)(hp:abn.fW s=0)(ht:(x.ag i).tag<=4611686018427387904):je abq x ⟨13,((x.nr+i:Nat):Int),b,n,s⟩ Ev.zero ((x.jx i ((x.ag i).look s).1).send (x.nr+i) [((x.ag i).last,gp (kq s (x.ag i).node ((x.ag i).tag+1)))]):=
 je.of (λ_ h=>⟨h.n,h.r,h.a,h.d,h.c,h.m⟩) λP hQ w D=>I0 w D P x _ _ b _ s _ λw D=>LS w D P x hQ i hi b n s (jt hp) hp ht Y.ok.node
theorem zu{k n:Int}(N:k≠0)(hT:∀(P:my)w,ii W 209 #[.pointer (some ⟨P.g,0,none⟩),J n] (λe=>e=b5 (a_ #[aZ aL,J k])) (Ne.fc P.g (x.nn:Int) (x.net.map jY) x.cut) (Ne.fc P.g (x.nn:Int) (x.net.map jY) x.cut) w)(a b:Int)(s:aR):je abq x ⟨2,a,b,n,s⟩ { Ev.zero with why:=k } x:=
 je.of (λ_ h=>h) λP _ w D=>nM w D P x _ a b _ s _ λw D=>Hp w D P x n k N (hT P)
theorem Tv(hi:i<x.net.length)(a b:Int)(s:aR):je abq x ⟨3,a,b,(i:Int),s⟩ { Ev.zero with why:=0 } (x.del i):=
 je.of (λ_ h=>⟨h.n,h.r,h.a,h.d,h.c,h.m⟩) λP _ w D=>Pp w D P x (x.net.eraseIdx i) x.cut a b i 0 s λw=>by rw[<-EH];exact Ne.NI w P.g (x.nn:Int) (x.net.map jY) x.cut i (by rw[bj];exact hi)
theorem M5(ha:a<x.na)(he:x.net[i]?=some (f,x.nr+a,fx (tg:Int) (code:Int) n))(E:x.cut (f*8+(x.nr+a))=false)(hl:Tq x.nn (f,x.nr+a,fx (tg:Int) (code:Int) n))(I:tg<=9223372036854775807)(G:code<=255)(Y:(x.ag a).Wf)(hf:f<(x.ag a).eX)(kT:(qR (x.ag a).ask (tg:Int)).isSome=true)(hid:(x.ag a).jw tg=(0,0,0)∨∃a' k s:Nat,(x.ag a).jw tg=((a':Int),(k:Int),(s:Int))∧1<=a'∧k<4∧s<=9223372036854775807)(A B:Int)(s:aR):je abq x ⟨2,A,B,(i:Int),s⟩ { Ev.zero with node:=((x.nr+a:Nat):Int),code:=(code:Int),id:=(x.ag a).jw tg,n:=if code=8 then n else 0 } ((x.del i).jx a ((x.ag a).took f tg code)):=
 je.of (λ_ h=>⟨h.n,h.r,h.a,h.d,h.c,h.m⟩) λP hQ w D=>nM w D P x _ A B _ s _ λw D=>yv w D P x hQ i f a tg code n ha he E hl.gd hl.fit _ _ code λw U p _=>by have:=He w U p (x.ag a) Y.ok (f:Int) tg code n I G ⟨by omega,by omega⟩ kT hid;rw[cA] at this;exact this
theorem Cj(ha:a<x.na)(he:x.net[i]?=some (f,x.nr+a,fx (tg:Int) (code:Int) n))(E:x.cut (f*8+(x.nr+a))=false)(hl:Tq x.nn (f,x.nr+a,fx (tg:Int) (code:Int) n))(I:tg<=9223372036854775807)(G:code<=255)(hf:f<(x.ag a).eX)(kT:qR (x.ag a).ask (tg:Int)=none)(A B:Int)(s:aR):je abq x ⟨2,A,B,(i:Int),s⟩ { Ev.zero with node:=((x.nr+a:Nat):Int),code:=((0:Nat):Int),id:=(0,0,0),n:=if (0:Nat)=8 then n else 0 } ((x.del i).jx a (x.ag a)):=
 je.of (λ_ h=>⟨h.n,h.r,h.a,h.d,h.c,h.m⟩) λP hQ w D=>nM w D P x _ A B _ s _ λw D=>yv w D P x hQ i f a tg code n ha he E hl.gd hl.fit _ _ 0 λw U p _=>
  EA w U p (x.ag a) (f:Int) tg code n I G ⟨by omega,by omega⟩ kT
def oG(nr B:Nat)(b:List Lt3):Prop:=∀l∈b,l.2.2.term<=(B:Int)∧(nr<=l.2.1->l.2.2.k=2∧l.1<nr)
section
variable{nr nn:Nat}
theorem oG.mono{B':Nat}{b:List Lt3}(h:oG nr B b)(hB:B<=B'):oG nr B' b:=λl hl=>⟨by have:=(h l hl).1;omega,(h l hl).2⟩
theorem oG.rp(hn:node<nr):∀(l:Sends){b:List Lt3},oG nr B b->gN nr B l->oG nr B (il nn node b l)
 | [],_,h,_=>h
 | (to,m)::l,b,h,H=>by
   unfold il;refine oG.rp hn l ?_ λq hq=>H q (by simp[hq]);split
   ·intro x Y
    rcases List.mem_append.1 Y with Y|Y
    ·exact h x Y
    ·rw[List.mem_singleton.1 Y]
     have I:=H (to,m) (by simp);refine⟨I.1,λG=>⟨I.2.resolve_right λL=>?_,hn⟩⟩;have G:nr<=to.toNat:=G;have L:0<=to∧to<(nr:Int):=L;omega
   ·exact h
theorem oG.ag:∀(l:Sends){b:List Lt3},oG nr B b->tN nr l->oG nr B (il nn node b l)
 | [],_,h,_=>h
 | (to,m)::l,b,h,H=>by
   unfold il;refine oG.ag l ?_ λq hq=>H q (by simp[hq]);split
   ·intro x Y
    rcases List.mem_append.1 Y with Y|Y
    ·exact h x Y
    ·rw[List.mem_singleton.1 Y]
     have I:=H (to,m) (by simp);refine⟨by have h5:m.term=0:=I.1;show m.term<=_;omega,λG=>?_⟩;have G:nr<=to.toNat:=G;have L:0<=to∧to<(nr:Int):=I.2;omega
   ·exact h
theorem oG.ml(hn:node<nr){l:Sends}(H:gN nr B l):∀(r:Nat){b:List Lt3},oG nr B b->oG nr B (T7 nn node l r b)
 | 0,_,h=>h
 | r+1,_,h=>oG.rp hn l (oG.ml hn H r h) H
theorem oG.del{b:List Lt3}(h:oG nr B b)(i:Nat):oG nr B (b.eraseIdx i):=λl hl=>h l ((List.eraseIdx_sublist b i).subset hl)
end
structure Rp.Go(x:Rp)(n abp B:Nat):Prop where
 wf:x.Wf
 sm:x.s.Sm
 tb:x.Tb n abp B
structure Ag.Go(x:Ag)(nd abp M:Nat):Prop where
 wf:x.Wf
 sm:x.Sm
 ti:x.Ti nd abp M
structure Wl.Good(x:Wl)(M:Nat):Prop where
 n:1<=x.nr∧x.nn<=8
 rp:∀i,i<x.nr->(x.rp i).Go i x.nr (8*M)
 ag:∀i,i<x.na->(x.ag i).Go (x.nr+i) x.nr (8589934592*M)
 net:mm x.nn x.net
 nb:oG x.nr (8*M) x.net
namespace Wl
theorem Good.mono{M':Nat}(h:x.Good M)(hm:M<=M'):x.Good M':=⟨h.n,λi hi=>⟨(h.rp i hi).wf,(h.rp i hi).sm,(h.rp i hi).tb.mono ap⟩,λi hi=>⟨(h.ag i hi).wf,(h.ag i hi).sm,(h.ag i hi).ti.mono ap⟩,h.net,h.nb.mono ap⟩
theorem Good.qv(h:x.Good M){i:Nat}{y:Rp}(hy:y.Go i x.nr (8*M)):(x.qv i y).Good M:=⟨h.n,λj hj=>by
 show (at_ x.rp i y j).Go j x.nr _;unfold at_;split;·next e=>rw[e];exact hy
 ·exact h.rp j hj,h.ag,h.net,h.nb⟩
theorem Good.jx(h:x.Good M){i:Nat}{y:Ag}(hy:y.Go (x.nr+i) x.nr (8589934592*M)):(x.jx i y).Good M:=⟨h.n,h.rp,λj hj=>by
 show (at_ x.ag i y j).Go (x.nr+j) x.nr _;unfold at_;split;·next e=>rw[e];exact hy
 ·exact h.ag j hj,h.net,h.nb⟩
theorem Good.del(h:x.Good M)(i:Nat):(x.del i).Good M:=⟨h.n,h.rp,h.ag,h.net.del i,h.nb.del i⟩
theorem Good.UX(h:x.Good M)(hi:i<x.nr){l:Sends}(H:jz l)(ho:gN x.nr (8*M) l):(x.send i l).Good M:=⟨h.n,h.rp,h.ag,h.net.sends (by unfold Wl.nn;omega) l H,h.nb.rp hi l ho⟩
theorem Good.UY(h:x.Good M)(hi:i<x.na){l:Sends}(H:jz l)(ho:tN x.nr l):(x.send (x.nr+i) l).Good M:=⟨h.n,h.rp,h.ag,h.net.sends (by unfold Wl.nn;omega) l H,h.nb.ag l ho⟩
end Wl
theorem XB(h:m.Gd)(N:m.k=2):∃tg co n:Nat,m=fx (tg:Int) (co:Int) n∧tg<=9223372036854775807∧co<=255:=by
 cases h with
 | ans tg c n I G _=>exact⟨tg,c,n,rfl,I,G⟩
 | ask=>exact absurd N (show ¬ (1:Int)=2 by decide)
 | vD=>exact absurd N (show ¬ (3:Int)=2 by decide)
 | prom=>exact absurd N (show ¬ (4:Int)=2 by decide)
 | acc=>exact absurd N (show ¬ (5:Int)=2 by decide)
 | Mq=>exact absurd N (show ¬ (6:Int)=2 by decide)
def Wl.kK(x:Wl)(i:Nat):Ev×Wl:=
 match x.net[i]? with
 | none=>({ Ev.zero with why:=23 },x)
 | some l=>
   if x.cut (l.1*8+l.2.1)=true then ({ Ev.zero with why:=26 },x) else
   if l.2.1<x.nr then ({ Ev.zero with node:=(l.2.1:Int) },((x.del i).qv l.2.1 ((x.rp l.2.1).recv (l.1:Int) l.2.2).1).send l.2.1 ((x.rp l.2.1).recv (l.1:Int) l.2.2).2) else
   if (qR (x.ag (l.2.1-x.nr)).ask l.2.2.tag).isSome=true then
    ({ Ev.zero with node:=(l.2.1:Int),code:=l.2.2.code,id:=(x.ag (l.2.1-x.nr)).jw l.2.2.tag.toNat,n:=if l.2.2.code=8 then l.2.2.n else 0 },
     (x.del i).jx (l.2.1-x.nr) ((x.ag (l.2.1-x.nr)).took l.1 l.2.2.tag.toNat l.2.2.code.toNat))
   else ({ Ev.zero with node:=(l.2.1:Int) },(x.del i).jx (l.2.1-x.nr) (x.ag (l.2.1-x.nr)))
theorem Da{i:Int}(h:i<0∨(n:Int)<=i):Ne.iy (n:Int) i=false:=by unfold Ne.iy;simp;omega
theorem XC(h:x.Good M)(hi:i<x.net.length)(a b:Int)(s:aR):je abq x ⟨2,a,b,(i:Int),s⟩ (x.kK i).1 (x.kK i).2:=by
 obtain⟨l,hl⟩:∃l,x.net[i]?=some l:=⟨_,List.getElem?_eq_getElem hi⟩;have fS:=h.net.all l (List.mem_of_getElem? hl);have Fe:=h.nb l (List.mem_of_getElem? hl);obtain⟨f,t,m⟩:=l;unfold Wl.kK;rw[hl];dsimp only at fS Fe ⊢;by_cases E:x.cut (f*8+t)=true
 ·rw[aA E]
  refine zu (k:=26) am (λP w=>?_) a b s;have hi2:i<(x.net.map jY).length:=by rw[bj];exact hi
  have e:(x.net.map jY)[i]=jY (f,t,m):=by
   have L:(x.net.map jY)[i]?=some (jY (f,t,m)):=by rw[List.getElem?_map,hl];rfl
   rw[List.getElem?_eq_getElem hi2] at L;exact Option.some.inj L
  exact Ne.Dy w P.g (x.nn:Int) (x.net.map jY) x.cut i hi2 (by rw[e];exact E)
 ·rw[aB E]
  have E:x.cut (f*8+t)=false:=by simpa using E
  by_cases ht:t<x.nr
  ·rw[aA ht]
   exact zt hl E fS ht (h.rp t ht).wf a b s
  ·rw[aB ht]
   have Ka:t<x.nn:=fS.t;obtain⟨A,rfl⟩:∃A,t=x.nr+A:=⟨t-x.nr,by omega⟩;have hA:A<x.na:=by unfold Wl.nn at Ka;omega
   rw[Nat.add_sub_cancel_left];obtain⟨N,hf⟩:=Fe.2 (by show x.nr<=x.nr+A;omega);have Qt:=h.ag A hA;obtain⟨tg,co,n,rfl,I,G⟩:=XB fS.gd N;have e1:(fx (tg:Int) (co:Int) n).tag=(tg:Int):=rfl;have e2:(fx (tg:Int) (co:Int) n).code=(co:Int):=rfl;have e3:(fx (tg:Int) (co:Int) n).n=n:=rfl;rw[e1,e2,e3,cA,cA];have qX:f<(x.ag A).eX:=by rw[Qt.ti.eX];exact hf
   by_cases kT:(qR (x.ag A).ask (tg:Int)).isSome=true
   ·rw[aA kT]
    have:=M5 (abq:=abq) (x:=x) (n:=n) hA hl E fS I G Qt.wf qX kT (Qt.ti.of tg) a b s;have h8:(if co=8 then n else 0)=if (co:Int)=8 then n else 0:=by
     by_cases h8:co=8;·rw[aA h8,aA ap]
     ·rw[aB h8,aB ap]
    rw[h8] at this;exact this
   ·rw[aB kT]
    have kT:qR (x.ag A).ask (tg:Int)=none:=by simpa using kT
    exact Cj (abq:=abq) (x:=x) (n:=n) hA hl E fS I G qX kT a b s
theorem Wl.Good.kK{x:Wl}{M:Nat}(h:x.Good M)(i:Nat):(x.kK i).2.Good M:=by
 unfold Wl.kK;cases hl:x.net[i]? with
 | none=>exact h
 | some l=>
   have fS:=h.net.all l (List.mem_of_getElem? hl);have Fe:=h.nb l (List.mem_of_getElem? hl);obtain⟨f,t,m⟩:=l;dsimp only at fS Fe ⊢;split;·exact h
   ·split
    ·next ht=>
     have hr:=h.rp t ht;obtain⟨w1,w2⟩:=hr.wf.recv (f:Int) fS.gd;obtain⟨t1,t2⟩:=hr.tb.recv (f:Int) Fe.1;exact ((h.del i).qv (i:=t) ⟨w1,Rp.Tp hr.sm _ _,t1⟩).UX ht w2 t2
    ·next ht=>
     have Ka:t<x.nn:=fS.t;obtain⟨A,rfl⟩:∃A,t=x.nr+A:=⟨t-x.nr,by omega⟩;have hA:A<x.na:=by unfold Wl.nn at Ka;omega
     rw[Nat.add_sub_cancel_left];obtain⟨N,hf⟩:=Fe.2 (by show x.nr<=x.nr+A;omega);have Qt:=h.ag A hA;split;·exact (h.del i).jx ⟨Qt.wf.took (by rw[Qt.ti.eX];exact hf) (Qt.ti.of _),Qt.sm.took _ _ _,Qt.ti.took hf⟩
     ·exact (h.del i).jx Qt
end Go.Proofs.YtpeepcmdehhbgaaGreatDoor
section
namespace Go.Proofs.YtpeepcmdehhbgaaGreatDoor
open Go.RowKit Go.Hop V
namespace Wl
def gH(x:Wl)(i:Nat):Wl:=(x.qv i ((x.rp i).lead).1).send i ((x.rp i).lead).2
def lP(x:Wl)(i n:Nat):Wl:=x.ml i (x.rp i).ticks n
def jy(x:Wl)(i n:Nat):Wl:=(x.jx i ((x.ag i).f_ n []).1).send (x.nr+i) ((x.ag i).f_ n []).2
def fU(x:Wl)(i:Nat):Wl:=x.jx i (x.ag i).cut.1
def gI(x:Wl)(i:Nat)(d:Dl):Wl:=x.jx i ((x.ag i).fX d).1
def nO(x:Wl)(i:Nat)(s:aR):Wl:=(x.jx i ((x.ag i).look s).1).send (x.nr+i) [((x.ag i).last,gp (kq s (x.ag i).node ((x.ag i).tag+1)))]
theorem Good.gH(h:x.Good M){i:Nat}(hi:i<x.nr):(x.gH i).Good (M+1):=by
 have hr:=h.rp i hi;have hn:=h.n;have Ya:x.nr<=8:=by have:=hn.2;unfold Wl.nn at this;omega
 obtain⟨w1,w2⟩:=hr.wf.lead;obtain⟨t1,t2⟩:=hr.tb.lead hn.1;have I:=h.mono (Nat.le_succ M);exact (I.qv (i:=i) (y:=(x.rp i).lead.1) ⟨w1,Rp.Tl hr.sm,t1.mono ap⟩).UX hi w2 (t2.mono ap)
theorem Good.lP(h:x.Good M){i:Nat}(hi:i<x.nr)(n:Nat):(x.lP i n).Good M:=by have hr:=h.rp i hi;exact⟨h.n,h.rp,h.ag,h.net.ml (by unfold Wl.nn;omega) hr.wf.ticks n,h.nb.ml hi hr.tb.ticks n⟩
theorem Good.jy(h:x.Good M)(hM:M<=1048576){i:Nat}(hi:i<x.na){n:Nat}(hn:n<=1024):(x.jy i n).Good (M+1):=by
 have ha:=h.ag i hi;have I:=h.mono (Nat.le_succ M);have pJ:x.nr+i<8:=by have:=h.n.2;unfold Wl.nn at this;omega
 have a5B:1<=x.nr+i:=by have:=h.n.1;omega
 have KS:=ha.ti.tm.tag;obtain⟨g1,g2,_⟩:=Ag.yz n (x.ag i) [] (by rw[ha.ti.node];exact pJ) ha.wf.bk ap jz.nil;obtain⟨t1,t2⟩:=Ag.Ti.f_ a5B n (x.ag i) _ [] ha.wf.bk (by rw[ha.ti.node];exact pJ) ap jz.nil ha.ti tN.nil;exact (I.jx (i:=i) (y:=((x.ag i).f_ n []).1) ⟨ha.wf.f_ n [],Ag.Sm.f_ n [] ha.sm,t1.mono ap⟩).UY hi g1 t2
theorem Good.fU(h:x.Good M){i:Nat}(hi:i<x.na):(x.fU i).Good M:=by have ha:=h.ag i hi;exact h.jx ⟨ha.wf.cut,ha.sm.cut,(Ag.nN.cut _).ti ha.ti⟩
theorem Good.gI(h:x.Good M){i:Nat}(hi:i<x.na){d:Dl}(hd:d.2<=18446744073709551615):(x.gI i d).Good M:=by have ha:=h.ag i hi;exact h.jx ⟨ha.wf.fX d hd,ha.sm.fX d,(Ag.nN.fX _ d).ti ha.ti⟩
theorem Tw(hp:abn.fW s=0)(pJ:nd<8)(ht:t<=9223372036854775807):(gp (kq s nd t)).Gd:=Ms.Gd.ask (kq s nd t) ⟨⟨⟨de _,by show (nd:Int)<8;omega⟩,de _,by show (t:Int)<=_;omega⟩,.inr ⟨rfl,rfl,rfl,rfl,rfl,rfl,hp,jt hp⟩⟩
theorem Good.nO(h:x.Good M)(hM:M<=1048576){i:Nat}(hi:i<x.na){s:aR}(hp:abn.fW s=0):(x.nO i s).Good (M+1):=by
 have ha:=h.ag i hi;have I:=h.mono (Nat.le_succ M);have KS:=ha.ti.tm.tag;have pJ:x.nr+i<8:=by have:=h.n.2;unfold Wl.nn at this;omega
 have e:((x.ag i).look s).1=(x.ag i).next (0,0,0):=by unfold Ag.look;rw[aB ap]
 unfold Wl.nO;rw[e];refine (I.jx (i:=i) (y:=(x.ag i).next (0,0,0)) ⟨ha.wf.next _,ha.sm,(ha.ti.next (.inl rfl)).mono ap⟩).UY hi (jz.one (Tw hp (by rw[ha.ti.node];exact pJ) ap)) ?_;intro q hq;rw[List.mem_singleton.1 hq];exact⟨rfl,de _,by have:=ha.ti.last;show ((x.ag i).last:Int)<(x.nr:Int);omega⟩
theorem Good.PP(h:x.Good M)(hM:M<=1048576)(hi:i<x.nr)(b n:Int)(s:aR):je abq x ⟨8,(i:Int),b,n,s⟩ { Ev.zero with node:=(i:Int) } (x.gH i):=Ts hi (h.rp i hi).wf (by have:=(h.rp i hi).tb.t;omega) b n s
theorem Good.Tx(h:x.Good M)(hi:i<x.nr)(b:Int)(s:aR)(hn:1<=n∧n<=1024):je abq x ⟨1,(i:Int),b,(n:Int),s⟩ { Ev.zero with node:=(i:Int) } (x.lP i n):=Ia hi (h.rp i hi).wf b s hn
theorem Good.JH(h:x.Good M)(hM:M<=1048576)(hi:i<x.na)(b:Int)(s:aR)(hn:1<=n∧n<=1024):je abq x ⟨1,((x.nr+i:Nat):Int),b,(n:Int),s⟩ { Ev.zero with node:=((x.nr+i:Nat):Int) } (x.jy i n):=I9 hi (h.ag i hi).wf (h.ag i hi).ti.tm ap b s hn
theorem Good.Ck(h:x.Good M)(hi:i<x.na)(b n:Int)(s:aR):je abq x ⟨10,((x.nr+i:Nat):Int),b,n,s⟩ { Ev.zero with code:=((x.ag i).cut.2.length:Int) } (x.fU i):=PO hi (h.ag i hi).wf b n s
theorem Good.EM(h:x.Good M)(hi:i<x.na)(b:Int)(hs:s.size<=1000000)(hn:n<=9223372036854775807):je abq x ⟨9,((x.nr+i:Nat):Int),b,(n:Int),s⟩ { Ev.zero with why:=((x.ag i).fX (s,n)).2 } (x.gI i (s,n)):=M4 hi (h.ag i hi).wf b hs hn
theorem Good.XD(h:x.Good M)(hM:M<=1048576)(hi:i<x.na)(b n:Int)(hp:abn.fW s=0):je abq x ⟨13,((x.nr+i:Nat):Int),b,n,s⟩ Ev.zero (x.nO i s):=Tt hi (h.ag i hi).wf b n hp (by have:=(h.ag i hi).ti.tm.tag;omega)
end Wl
end Go.Proofs.YtpeepcmdehhbgaaGreatDoor
end
