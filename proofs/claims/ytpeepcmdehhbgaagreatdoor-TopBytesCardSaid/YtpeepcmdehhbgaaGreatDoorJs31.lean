/- Rp, Vg1, Vg2, Vg3, Ld4, Ld5, Rg5, Rg6. -/
import Derived.Test.YtpeepcmdehhbgaaGreatDoorJs30
import Derived.Test.YtpeepcmdehhbgaaGreatDoorJs17
set_option linter.all false
set_option maxRecDepth 100000
set_option maxHeartbeats 2000000
open Go.Value renaming int->ae,slice->Z,string->aX,bool->aY,agg->aZ,tuple->a_
open Go.Ending renaming returned->b5
open Go.IntKind renaming i64->af,u64->ah
open Go (J az aE aA aB aC aD ay aj am ap aw aL aK aJ aI aH aV aU aT aR aQ aP aO aN)
open Go.Proofs.Tryz renaming prog->W
open Go.Lib renaming hid->Q
open List renaming length_append->bd,length_map->bj,length_singleton->bv,set_cons_succ->bz,set_cons_zero->bA,length_cons->bD,getElem_mem->bF,flatMap_cons->bJ,mem_of_mem_take->bW,setIfInBounds_toArray->bY,nil_append->ch,cons_append->cD,replicate->cS,length_set->dh
open Nat renaming le_of_ble_eq_true->bf,le_refl->bh,zero_le->bo
open Bool renaming eq_false_or_eq_true->bC,and_eq_true->bU,false_ne_true->cB
open Go renaming Value->K,World->X,Calls->dz,Addr->dA,Program->dD,Oper->dE,Act->dF,maxLen->dG
open Go.Hop (Bl)
open Go.Proofs.YtpeepcmdehhbgaaGreatDoor (El)
variable{P:dD}{ops:Array dE}{abo:Go.Exit->dF->X->Prop}{S:X->Prop}{a a':dF}{w:X}{abn:Array Bool}{o:dE}{v:K}{V:aV}{w0:X}{l:List Bl}{A:aU}{q:List El}{s x d nodes:Nat}
namespace Go.Proofs.YtpeepcmdehhbgaaGreatDoor
open RowKit Hop V
structure Wo where
 (t h:Nat) (es:List En)
def Wo.zero:Wo:=⟨0,0,[]⟩
def Wo.B(x:Wo):List UInt8:=nC x.t x.h x.es
structure Wo.Ok(x:Wo):Prop where
 t:x.t<=9223372036854775807
 h:x.h<=9223372036854775807
 es:∀e∈x.es,e.Ok
 len:x.es.length<=128
theorem Wo.Ok.zero:Wo.zero.Ok:=⟨by decide,by decide,λ_ h=>by simp[Wo.zero] at h,by decide⟩
def ye(l:List Wo):List UInt8:=l.flatMap λx=>frame x.B
theorem qh(l:List Wo)(x:Wo):ye (l++[x])=ye l++frame x.B:=by simp[ye]
def room(bs b:aT):Bool:=decide (b.length<=65536)&&decide (bs.length+(frame b).length<=1048576)
theorem oB{bs b:aT}:room bs b=true↔Room bs b:=by simp[room,Room]
structure Vs where
 ws:List Wo
def Vs.c(x:Vs):Wo:=x.ws.getLast?.getD Wo.zero
def Vs.bs(x:Vs):List UInt8:=ye x.ws
def Vs.keep(x:Vs)(y:Wo):Option Vs:=if room x.bs y.B then some ⟨x.ws++[y]⟩ else none
structure Vs.Ok(x:Vs):Prop where
 ws:∀y∈x.ws,y.Ok
 bs:x.bs.length<=1048576
theorem Vs.Ok.c{x:Vs}(h:x.Ok):x.c.Ok:=by
 unfold Vs.c;cases e:x.ws.getLast? with
 | none=>exact Wo.Ok.zero
 | some y=>exact h.ws y (List.mem_of_getLast? e)
theorem Vs.m7(l:List Wo)(y:Wo):(Vs.mk (l++[y])).c=y:=by simp[Vs.c]
theorem Vs.Ok.keep{x x':Vs}{y:Wo}(h:x.Ok)(hy:y.Ok)(e:x.keep y=some x'):x'.Ok∧x'.c=y:=by
 unfold Vs.keep at e;split at e
 ·rename_i hr
  cases e;refine⟨⟨λz hz=>?_,?_⟩,Vs.m7 _ _⟩
  ·rcases List.mem_append.1 hz with hz|hz
   ·exact h.ws z hz
   ·rw[List.mem_singleton.1 hz];exact hy
  ·unfold Vs.bs
   rw[qh,bd];exact (oB.1 hr).2
 ·cases e
theorem Lq(b:aT):1<=(frame b).length:=by rw[jB];omega
theorem Jn:∀l:List Wo,l.length<=(ye l).length
 | []=>bh _
 | x::l=>by
   have:=Jn l;have:=Lq x.B;simp only[ye,bJ,bd,bD] at *;omega
def Vs.promise(x:Vs)(t:Nat):Option Vs:=if x.c.t<t then x.keep ⟨t,x.c.h,x.c.es⟩ else none
def Vs.next(x:Vs)(t:Nat)(l:List En):Wo:=if x.c.h<t∨x.c.es.length<l.length then ⟨t,t,l⟩ else ⟨t,x.c.h,x.c.es⟩
def Vs.accept(x:Vs)(t:Nat)(l:List En):Option Vs:=
 if t<x.c.t∨t<1∨128<l.length then none else
 if ¬ (x.c.h<t∨x.c.es.length<l.length)∧t=x.c.t then some x else x.keep (x.next t l)
structure Vt where
 (t nodes:Nat) (pr:List Bool) (ac:aN) (had:Nat) (best:List En) (n:Nat)
structure Vt.Ok(v:Vt):Prop where
 t:v.t<=9223372036854775807
 nodes:1<=v.nodes∧v.nodes<=8
 pr:v.pr.length=8
 ac:v.ac.length=8
 had:v.had<=9223372036854775807
 best:∀e∈v.best,e.Ok
 len:v.best.length<=128
 n:v.n=v.pr.count true
 nn:∀a∈v.ac,0<=a
def Vt.new(t nodes:Nat):Vt:=⟨t,nodes,cS 8 false,cS 8 0,0,[],0⟩
theorem Vt.Ok.new{t nodes:Nat}(ht:t<=9223372036854775807)(hn:1<=nodes∧nodes<=8):(Vt.new t nodes).Ok:=⟨ht,hn,rfl,rfl,bo _,λ_ h=>by simp[Vt.new] at h,bo _,rfl,λa h=>by rw[List.eq_of_mem_replicate (show a∈cS 8 0 from h)];exact Int.le_refl _⟩
theorem Vt.Ok.few{v:Vt}(h:v.Ok):v.n<=8:=by rw[h.n,<-h.pr];exact List.count_le_length
def Vt.won(v:Vt):Bool:=decide (v.nodes<2*v.n)
def Vt.counts(v:Vt)(had:Nat)(l:List En):Bool:=decide (v.n=0)||(decide (v.had<had)||(decide (had=v.had)&&decide (v.best.length<l.length)))
def Vt.heard(v:Vt)(i:Nat):Vt:={ v with pr:=v.pr.set i true,n:=v.n+1 }
def Vt.promise(v:Vt)(i had:Nat)(l:List En):Bool×Vt:=
 if v.pr.getD i false=true then (false,v) else
 if v.won=true then (false,v.heard i) else
 if v.counts had l=true then ((v.heard i).won,{ v.heard i with had:=had,best:=l }) else ((v.heard i).won,v.heard i)
theorem count_set:∀(l:List Bool)(i:Nat),i<l.length->l.getD i false=false->(l.set i true).count true=l.count true+1
 | [],i,h,_=>absurd h (by simp)
 | b::l,0,_,G=>by
   simp only[List.getD_cons_zero] at G;subst G;simp
 | b::l,i+1,h,G=>by
   have ih:=count_set l i (by simpa using h) (by simpa using G);simp only[bz,List.count_cons,ih];omega
theorem Vt.Ok.promise{v:Vt}(h:v.Ok){i had:Nat}{l:List En}(hi:i<8)(hh:had<=9223372036854775807)(hl:∀e∈l,e.Ok)(hn:l.length<=128):(v.promise i had l).2.Ok:=by
 unfold Vt.promise;by_cases I:v.pr.getD i false=true;·rw[aA I];exact h
 ·have G:(v.heard i).Ok:=⟨h.t,h.nodes,by simp[Vt.heard,h.pr],h.ac,h.had,h.best,h.len,by
   show v.n+1=_;rw[h.n];exact (count_set v.pr i (by rw[h.pr];exact hi) (by simpa using I)).symm,h.nn⟩
  rw[aB I]
  split
  ·exact G
  ·split
   ·exact⟨G.t,G.nodes,G.pr,G.ac,hh,hl,hn,G.n,G.nn⟩
   ·exact G
def Vt.told(v:Vt)(i n:Nat):Vt:={ v with ac:=v.ac.set i (max (v.ac.getD i 0) (n:Int)) }
def Vt.accepted(v:Vt)(i n:Nat):Int×Vt:=(most v.nodes (v.told i n).ac,v.told i n)
theorem Vt.Ok.told{v:Vt}(h:v.Ok)(i n:Nat):(v.told i n).Ok:=⟨h.t,h.nodes,h.pr,by simp[Vt.told,h.ac],h.had,h.best,h.len,h.n,λa ha=>by
 rcases List.mem_or_eq_of_mem_set ha with ha|rfl
 ·exact h.nn a ha
 ·omega⟩
theorem Ss{ac:aN}(h:∀a∈ac,0<=a):0<=most nodes ac:=by
 unfold most;rw[List.getD_eq_getElem?_getD];cases e:(pB (ac.take nodes))[(nodes-1) / 2]? with
 | none=>exact Int.le_refl _
 | some a=>exact h a (bW ((xq _).mem_iff.1 (List.mem_of_getElem? e)))
def Ms.zero:Ms:=⟨0,En.zero,0,0,0,0,0,[],0,0⟩
def fx(tag code:Int)(n:Nat):Ms:={ Ms.zero with k:=2,tag:=tag,code:=code,n:=n }
def jX(t:Nat):Ms:={ Ms.zero with k:=3,term:=t }
def i9(t h:Nat)(l:List En):Ms:={ Ms.zero with k:=4,term:=t,had:=h,log:=l }
def kR(t:Nat)(l:List En)(c:Nat):Ms:={ Ms.zero with k:=5,term:=t,log:=l,commit:=c }
def m8(t n:Nat):Ms:={ Ms.zero with k:=6,term:=t,len:=n }
structure Rp where
 (node nodes:Nat) (s:Vs) (m:j4) (commit:Nat) (v:Option Vt) (leads:Bool) (own:Nat)
abbrev Sends:=List (Int×Ms)
def Rp.down(x:Rp):Rp:={ x with leads:=false,v:=none }
def Rp.accepts(x:Rp):Sends:=tD x.node x.nodes (kR x.s.c.t x.s.c.es x.commit)
def Rp.apply(x:Rp)(abp:Nat):Rp×Sends:=({ x with m:=(CJ x.leads x.own ((x.s.c.es.take abp).drop x.commit) x.commit x.m []).1,commit:=max x.commit (min abp x.s.c.es.length) },(CJ x.leads x.own ((x.s.c.es.take abp).drop x.commit) x.commit x.m []).2.map Sd.fn)
def Rp.counted(x:Rp)(v:Vt)(i n:Nat):Rp×Sends:=Rp.apply { x with v:=some (v.told i n) } (v.accepted i n).1.toNat
def Rp.told(x:Rp)(v:Vt):Rp×Sends:=((x.counted v x.node x.s.c.es.length).1,(x.counted v x.node x.s.c.es.length).2++(x.counted v x.node x.s.c.es.length).1.accepts)
def Rp.won(x:Rp)(v:Vt):Rp×Sends:=
 match x.s.accept v.t v.best with
 | none=>(x.down,[])
 | some s=>Rp.told { x with s:=s,leads:=true,own:=s.c.es.length } v
def lM(t node nodes:Nat):Nat:=t+1+(node+nodes-(t+1) % nodes) % nodes
def Rp.lead(x:Rp):Rp×Sends:=
 if x.s.c.t > 1099511627776 then (x,[]) else
 match x.s.promise (lM x.s.c.t x.node x.nodes) with
 | none=>(x,[])
 | some s=>
   let r:=(Vt.new s.c.t x.nodes).promise x.node s.c.h s.c.es
   if r.1=true then Rp.won { x with s:=s,leads:=false,v:=some r.2 } r.2 else ({ x with s:=s,leads:=false,v:=some r.2 },tD x.node x.nodes (jX s.c.t))
def Rp.ask(x:Rp)(from_:Int)(e:En):Rp×Sends:=
 match x.leads,x.v with
 | true,some v=>
   if 128<=x.s.c.es.length∨¬ (0<=from_∧from_<8) then (x,[(from_,fx e.tg 7 0)]) else
   match x.s.accept v.t (x.s.c.es++[{ e with fr:=from_ }]) with
   | none=>(x,[(from_,fx e.tg 7 0)])
   | some s=>Rp.told { x with s:=s } v
 | _,_=>(x,[(from_,fx e.tg 6 0)])
def Rp.prepare(x:Rp)(from_:Int)(t:Nat):Rp×Sends:=
 match x.s.promise t with
 | none=>(x,[])
 | some s=>({ x with s:=s }.down,[(from_,i9 t s.c.h s.c.es)])
def Rp.accept(x:Rp)(from_:Int)(t:Nat)(l:List En)(commit:Nat):Rp×Sends:=
 match x.s.accept t l with
 | none=>(x,[])
 | some s=>
   let y:Rp:=if (x.v.any λv=>decide (v.t≠t))=true then { x with s:=s }.down else { x with s:=s }
   ((y.apply commit).1,[(from_,m8 t s.c.es.length)])
theorem mG(l b:aT):(room l b=true->i6 l b=0∧zg l b=l++frame b)∧(room l b=false->(i6 l b == 0)=false∧zg l b=l):=by unfold i6 zg room Bv R7 V.fits;by_cases I:b.length<=65536<;>by_cases G:l.length+(frame b).length<=1048576<;>simp[I,G]
def yf(x d n:Nat)(l b:aT)(r:Bool):dW:=if r=true then eC x d (n+1:Nat) (l++frame b) (l++frame b).length else eC x d n l l.length
theorem yf.framed(x d n:Nat)(l b:aT)(r:Bool):eu (yf x d n l b r):=by unfold yf;split<;>exact eC.framed _ _ _ _ _
theorem OC(w:X)(D:aV)(x d n:Nat)(l b:aT)(u:K)(hb:eM b u w)(hn:n<=1099511627776):Lw W D 183 #[x,u] [.o (eC x d n l l.length)] (λ(abl:Unit×Int)e=>e=b5 (J abl.2)∧(room l b=true->abl.2=0)∧(room l b=false->(abl.2 == 0)=false)) (λ_=>[.o (yf x d n l b (room l b))]) w:=by
 intro V hM hV;obtain⟨r1,r2⟩:=mG l b;have hS:=St.begin_ hM (λb hb=>(hV b hb).1) ⟨eC.framed _ _ _ _ _,trivial⟩;obtain⟨A,m,c,rfl,K8,_⟩:=hb;have hA:=hS.at_ 0 rfl (λ_=>eC.framed _ _ _ _ _) (D:=λ_=>False) (λ_ h=>h.elim) (Lw.turns (va w x d n l l.length A m c b K8 ap));obtain⟨abm,HT⟩:=az (yf x d n l b (room l b));rw[<-HT.out];rcases bC (room l b) with h|h
 ·obtain⟨hz,hr⟩:=r1 h
  clear r1 r2;rw[hz,aA rfl,hr] at hA;have HT:abm=eC x d (n+1:Nat) (l++frame b) (l++frame b).length:=by rw[HT.out,h];rfl
  rw[h];replace HT:=Q HT;clear hz hr h;go_in;go_wp2_with fail;refine hA.mono ?_;rintro e w1 ⟨_,rfl,ej⟩;go_wp2_with fail;refine (ej.at_ 0 rfl (λ_=>eC.framed _ _ _ _ _) (D:=λ_=>False) (λ_ h=>h.elim) (Lw.turns (um w1 x d ((n:Int)+1) (l++frame b) l.length))).mono ?_;rintro e w2 ⟨_,rfl,dV⟩;go_wp2;go_ret;obtain⟨k1,k2⟩:=dV.fin;exact⟨((),0),⟨rfl,λ_=>rfl,λh=>absurd h (by simp)⟩,by rw[HT.out];exact k1,k2⟩
 ·obtain⟨hz,hr⟩:=r2 h
  clear r1 r2;rw[aB (by simpa using hz),hr] at hA;have HT:abm=eC x d n l l.length:=by rw[HT.out,h];rfl
  rw[h];replace HT:=Q HT;obtain⟨abl,HE⟩:=az (i6 l b);rw[<-HE.out] at hz hA;clear hr h;go_in;go_wp2_with fail;refine hA.mono ?_;rintro e w1 ⟨_,rfl,ej⟩;go_wp2;go_ret;obtain⟨k1,k2⟩:=ej.fin;exact⟨((),abl),⟨rfl,λh=>absurd h (by simp),λ_=>hz⟩,by rw[HT.out];exact k1,k2⟩
def sf(s x d n:Nat)(l b:aT)(cs cs':aP)(r:Bool):List Bl:=[.c s 206 (if r=true then cs' else cs),.o (yf x d n l b r)]
theorem GV(w:X)(D:aV)(s x d:Nat)(t0 h0:Int)(sl0:K)(n:Nat)(bs:aT)(TE HA:Nat)(A:aU)(c:Nat)(q:List El)(K9:TE<=9223372036854775807)(hha:HA<=9223372036854775807)
 (hq:jO w D A q) (j6:∀b,D b->b<(w:Nat)) (gC:∀x∈q,x.e.Ok) (hn:q.length<=128) (y_:n<=1099511627776) (WB:aT) (hWB:WB=nC TE HA (q.map El.e)):Lw W D 117 #[s,aZ #[J TE,J HA,Z A q.length c]] [.c s 206 (lY t0 h0 sl0 x),.o (eC x d n bs bs.length)] (λ(_:Unit)e=>e=b5 (aY (room bs WB)))
  (λ_=>sf s x d n bs WB (lY t0 h0 sl0 x) (lY TE HA (Z A q.length c) x) (room bs WB)) w:=by
 obtain⟨F,HF⟩:=aE (sf s x d n bs WB (lY t0 h0 sl0 x) (lY TE HA (Z A q.length c) x) (room bs WB):List Bl)
 rw[<-HF]
 intro V hM hV
 have kV:∀x,D x->x<(w:Nat)∧¬ V x:=λx Y=>⟨j6 x Y,λh=>(hV x h).2 Y⟩
 have hS:=St.begin_ hM (λb hb=>(hV b hb).1) ⟨trivial,eC.framed _ _ _ _ _,trivial⟩
 have hwd:WB=enc TE++enc HA++enc q.length++r_ (q.map El.e):=by rw[hWB];unfold nC;rw[bj]
 replace hWB:=Q hWB
 have wT:IntKind.u64.wrap (TE:Int)=(TE:Int):=by rw[wrap_u64];omega
 have wH:IntKind.u64.wrap (HA:Int)=(HA:Int):=by rw[wrap_u64];omega
 have eT:=eE (n:=TE) ap
 have eH:=eE (n:=HA) ap
 obtain⟨y,wa,HY,lZ,hS⟩:=hS.new' #[J TE,J HA,Z A q.length c] 204
 go_in
 go_wp2_with fail
 rw[<-lZ.out,<-HY.out]
 have eW:=hS.grow (Grow.refl _).drew
 have oN:∀w1,Grow wa.drew w1->ec [.c y 204 #[J TE,J HA,Z A q.length c]] w1:=λw1 H=>(((eW.grow H).dO 2 rfl).dO 1 rfl).facts
 refine dJ rfl ?_
 have eA:=oN _ (Grow.refl _)
 refine gi (ec [.c y 204 #[J TE,J HA,Z A q.length c]]) 12 rfl ?_
 refine held 0 rfl eA (λw1 E R T=>by simp only[ec] at E;go_simp;exact T) ?_
 refine held 1 rfl eA (λw1 E R T=>by simp only[ec] at E;go_simp;exact T) ?_
 refine held 2 rfl eA (λw1 E R T=>by simp only[ec] at E;go_simp;exact T) ?_
 refine held 4 rfl eA (λw1 E R T=>by simp only[ec] at E;go_simp;exact T) ?_
 refine held 5 rfl eA (λw1 E R T=>by simp only[ec] at E;go_simp;exact T) ?_
 refine held 6 rfl eA (λw1 E R T=>by simp only[ec] at E;go_simp;exact T) ?_
 refine held 8 rfl eA (λw1 E R T=>by simp only[ec] at E;go_simp;exact T) ?_
 refine held 9 rfl eA (λw1 E R T=>by simp only[ec] at E;go_simp;exact T) ?_
 refine dY 3 rfl ?_
 go_wp2_with fail
 refine (ic _ _ [] TE (ve _) (by simp) ap).mono ?_
 rintro en u1 ⟨v9,rfl,eD,lU⟩
 rw[ch] at lU
 go_wp2_with fail
 refine⟨oN _ eD,?_⟩
 refine dY 7 rfl ?_
 go_wp2_with fail
 refine (ic u1 v9 _ HA lU ap ap).mono ?_
 rintro en u2 ⟨v13,rfl,fk,lA⟩
 replace fk:=eD.trans fk
 go_wp2_with fail
 refine⟨oN _ fk,?_⟩
 refine dY 10 rfl ?_
 go_wp2_with fail
 refine (xM u2 v13 _ D A c q lA (by rw[bd];omega) (fT.framed A q w u2 D hq λb hb=>(eW.grow fk).keep kV b hb) gC ap).mono ?_
 rintro en w1 ⟨v16,rfl,H,hE⟩
 replace H:=fk.trans H
 go_wp2_with fail
 refine⟨oN _ H,?_⟩
 refine held 11 rfl (oN _ H) (λw1 E=>aM) ?_
 refine eU ?_
 rw[<-hwd] at hE
 have ej:=eW.grow H
 clear oN eW hS eA eD fk lU lA
 have E:=ej.facts
 simp only[ec,lY] at E
 go_wp2_with fail
 refine (ej.at_ 2 rfl (λ_=>yf.framed _ _ _ _ _ _) (D:=λ_=>False) (λ_ h=>h.elim) (OC w1 _ x d n bs WB v16 hE y_)).mono ?_
 rintro e w2 ⟨⟨_,abl⟩,⟨rfl,g1,g2⟩,dV⟩
 have dV:St V w [.c y 204 #[J TE,J HA,Z A q.length c],.c s 206 #[J t0,J h0,sl0,x],.o (yf x d n bs WB (room bs WB))] w2:=dV
 clear E ej
 have E:=dV.facts
 simp only[ec] at E
 rcases bC (room bs WB) with hr|hr
 ·obtain rfl:abl=0:=g1 hr
  rw[hr] at dV HF
  replace HF:=Q HF
  clear g1 g2
  replace hr:=Q hr
  go_wp2_with (refine d_ dV 1 rfl 204 _ _ rfl 0 rfl [J TE,J HA,Z A q.length c] rfl (bf rfl) rfl aw (lY TE HA (Z A q.length c) x) rfl rfl ?_;clear dV E;intro w3 dX;refine stay ?_)
  refine dI ?_
  go_wp2
  go_ret
  obtain⟨k1,k2⟩:=(dX.dO 0 rfl).fin
  exact⟨(),by rw[hr.out];rfl,by rw[HF.out];exact k1,k2⟩
 ·have g2:=g2 hr
  rw[hr] at dV HF
  replace HF:=Q HF
  clear g1
  replace hr:=Q hr
  go_wp2
  go_ret
  obtain⟨k1,k2⟩:=(dV.dO 0 rfl).fin
  exact⟨(),by rw[hr.out];rfl,by rw[HF.out];exact k1,k2⟩
def ik(s x d:Nat)(y:Vs)(A:aU)(c:Nat)(q:List El):List Bl:=[.c s 206 (lY y.c.t y.c.h (Z A q.length c) x),.o (eC x d y.ws.length y.bs y.bs.length),.o (fT A q)]
abbrev qP(s x d:Nat)(y:Vs):dW:=gG s x d y.c.t y.c.h y.c.es y.ws.length y.bs
section
variable{w:X}{y:Vs}
theorem GX(h:St V w0 (.o (qP s x d y)::l) w):∃(A:aU)(c:Nat)(q:List El),(q.map El.e=y.c.es∧q.length<=c∧c<=dG)∧St V w0 (ik s x d y A c q++l) w:=by
 obtain⟨⟨⟨A,c,q⟩,I⟩,G⟩:=St.opn (κ:={ x:Option dA×Nat×List El // x.2.2.map El.e=y.c.es∧x.2.2.length<=x.2.1∧x.2.1<=dG }) (o:=λz=>[.o (fT z.1.1 z.1.2.2),.c s 206 (lY y.c.t y.c.h (Z z.1.1 z.1.2.2.length z.1.2.1) x),.o (eC x d y.ws.length y.bs y.bs.length)]) h λ_ hU=>by obtain⟨A,c,q,I,G,L,h4⟩:=hU;exact⟨⟨(A,c,q),I,G,L⟩,h4,fT.framed _ _,trivial,eC.framed _ _ _ _ _,trivial⟩
 exact⟨A,c,q,I,G.perm ((List.Perm.swap _ _ _).trans (List.Perm.cons _ (List.Perm.swap _ _ _)))⟩
theorem kJ{c:Nat}(h:St V w0 (ik s x d y A c q++l) w)(hq:q.map El.e=y.c.es∧q.length<=c∧c<=dG):St V w0 (.o (qP s x d y)::l) w:=St.cls (a:=[.o (fT A q),.c s 206 (lY y.c.t y.c.h (Z A q.length c) x),.o (eC x d y.ws.length y.bs y.bs.length)]) (h.perm (((List.Perm.cons _ (List.Perm.swap _ _ _)).trans (List.Perm.swap _ _ _)))) (gG.framed _ _ _ _ _ _ _ _) λU hU=>⟨A,c,q,hq.1,hq.2.1,hq.2.2,hU⟩
end
theorem Vs.Ok.n{y:Vs}(h:y.Ok):y.ws.length<=1099511627776:=by have:=Jn y.ws;have:=h.bs;unfold Vs.bs at this;omega
theorem uI{y:Vs}{z:Wo}(h:room y.bs z.B=true):y.keep z=some ⟨y.ws++[z]⟩:=by unfold Vs.keep;rw[aA h]
theorem uJ{y:Vs}{z:Wo}(h:room y.bs z.B=false):y.keep z=none:=by unfold Vs.keep;rw[aB (by rw[h];exact cB)]
theorem yg(w:X)(D:aV)(s x d:Nat)(y:Vs)(hy:y.Ok)(TE:Nat)(K9:TE<=9223372036854775807):Lw W D 57 #[s,J TE] [.o (qP s x d y)] (λ(_:Unit)e=>e=b5 (aY (y.promise TE).isSome)) (λ_=>[.o (qP s x d ((y.promise TE).getD y))]) w:=by
 obtain⟨R,HR⟩:=aE (y.promise TE);rw[<-HR];intro V hM hV;have hS:=St.begin_ hM (λb hb=>(hV b hb).1) ⟨gG.framed _ _ _ _ _ _ _ _,trivial⟩;obtain⟨A,c,q,hq,hS⟩:=GX hS;have fN:=hS;have hS:=hS.grow (Grow.refl _).drew;have E:=hS.facts;simp only[ik,cD,ch,ec,lY] at E;unfold Vs.promise at HR;by_cases ht:y.c.t<TE
 ·rw[aA ht] at HR
  have fj:=hy.c.len;rw[<-hq.1,bj] at fj;have gC:∀x∈q,x.e.Ok:=λx Y=>hy.c.es _ (by rw[<-hq.1];exact List.mem_map.2 ⟨x,Y,rfl⟩);have hCK:=St.D1 (a:=[.c s 206 (lY y.c.t y.c.h (Z A q.length c) x),.o (eC x d y.ws.length y.bs y.bs.length)]) (x := .o (fT A q)) (b:=[])
   (a':=λ_=>sf s x d y.ws.length y.bs (Wo.B ⟨TE,y.c.h,y.c.es⟩) (lY y.c.t y.c.h (Z A q.length c) x) (lY TE y.c.h (Z A q.length c) x) (room y.bs (Wo.B ⟨TE,y.c.h,y.c.es⟩))) hS (λ_=>⟨trivial,yf.framed _ _ _ _ _ _,trivial⟩) (λU hU jR=>GV w.drew U s x d y.c.t y.c.h (Z A q.length c) y.ws.length y.bs TE y.c.h A c q K9 hy.c.h hU jR gC fj hy.n (Wo.B ⟨TE,y.c.h,y.c.es⟩) (by rw[hq.1];rfl))
  go_in;go_wp2_with fail;go_still_tail 21,(by kernel_rfl);change wpList _ _ _ _ _ w.drew;go_wp2_with fail;refine hCK.mono ?_;rintro e w1 ⟨_,rfl,ej⟩;go_wp2_with fail;rcases bC (room y.bs (Wo.B ⟨TE,y.c.h,y.c.es⟩)) with hr|hr
  ·rw[uI hr] at HR
   subst HR;rw[hr] at ej ⊢;go_wp2;go_ret;obtain⟨r1,r2⟩:=(kJ (l:=[]) (y:=⟨y.ws++[⟨TE,y.c.h,y.c.es⟩]⟩) (s:=s) (x:=x) (d:=d) (A:=A) (c:=c) (q:=q) (by unfold ik;rw[Vs.m7];have e:(Vs.mk (y.ws++[⟨TE,y.c.h,y.c.es⟩])).bs=y.bs++frame (Wo.B ⟨TE,y.c.h,y.c.es⟩):=qh _ _;rw[e];rw[show (y.ws++[(⟨TE,y.c.h,y.c.es⟩:Wo)]).length=y.ws.length+1 by rw[bd,bv]];exact ej) (by rw[Vs.m7];exact hq)).fin
   first|exact⟨(),rfl,r1,r2⟩|exact⟨rfl,r1,r2⟩
  ·rw[uJ hr] at HR
   subst HR;rw[hr] at ej ⊢;go_wp2;go_ret;obtain⟨r1,r2⟩:=(kJ (l:=[]) (A:=A) (c:=c) (q:=q) ej hq).fin;first|exact⟨(),rfl,r1,r2⟩|exact⟨rfl,r1,r2⟩
 ·rw[aB ht] at HR
  go_in;go_wp2_with fail;have k0:∀w1,Grow w w1->w1.cell? ⟨s,0,none⟩=some (J y.c.t):=λw1 H=>(fN.grow H).facts.1.1 0;have kd:decide ((y.c.t:Int)<(TE:Int))=false:=aD ap;refine fh ?_;intro w1 H;have hS:=fN.grow H;clear k0 kd E;go_wp2;go_ret;subst HR;obtain⟨r1,r2⟩:=(kJ (l:=[]) hS hq).fin;first|exact⟨(),rfl,r1,r2⟩|exact⟨rfl,r1,r2⟩
theorem Sv{w:X}{y:Vs}{z:Wo}{A':aU}{c c':Nat}{q':List El}(hq:q.map El.e=y.c.es∧q.length<=c∧c<=dG)(My:q'.map El.e=z.es∧q'.length<=c'∧c'<=dG)
 (h:St V w0 (sf s x d y.ws.length y.bs z.B (lY y.c.t y.c.h (Z A q.length c) x) (lY z.t z.h (Z A' q'.length c') x) (room y.bs z.B) ++ .o (fT A' q')::.o (fT A q)::l) w):room y.bs z.B=(y.keep z).isSome∧St V w0 (.o (qP s x d ((y.keep z).getD y))::l) w:=by
 rcases bC (room y.bs z.B) with hr|hr
 ·rw[uI hr]
  refine⟨hr,?_⟩;rw[hr] at h;refine kJ (y:=⟨y.ws++[z]⟩) (A:=A') (c:=c') (q:=q') ?_ (by rw[Vs.m7];exact My);unfold ik;rw[Vs.m7,show (Vs.mk (y.ws++[z])).bs=y.bs++frame z.B from qh _ _,show (y.ws++[z]).length=y.ws.length+1 by rw[bd,bv]];exact h.dO 3 rfl
 ·rw[uJ hr]
  refine⟨hr,?_⟩;rw[hr] at h;exact kJ (A:=A) (c:=c) (q:=q) (h.dO 2 rfl) hq
theorem WJ{w:X}{y:Vs}{z:Wo}{c:Nat}(hz:z.es=y.c.es)(hq:q.map El.e=y.c.es∧q.length<=c∧c<=dG)
 (h:St V w0 (sf s x d y.ws.length y.bs z.B (lY y.c.t y.c.h (Z A q.length c) x) (lY z.t z.h (Z A q.length c) x) (room y.bs z.B) ++ .o (fT A q)::l) w):room y.bs z.B=(y.keep z).isSome∧St V w0 (.o (qP s x d ((y.keep z).getD y))::l) w:=by
 rcases bC (room y.bs z.B) with hr|hr
 ·rw[uI hr]
  refine⟨hr,?_⟩;rw[hr] at h;refine kJ (y:=⟨y.ws++[z]⟩) (A:=A) (c:=c) (q:=q) ?_ (by rw[Vs.m7,hz];exact hq);unfold ik;rw[Vs.m7,show (Vs.mk (y.ws++[z])).bs=y.bs++frame z.B from qh _ _,show (y.ws++[z]).length=y.ws.length+1 by rw[bd,bv]];exact h
 ·rw[uJ hr]
  refine⟨hr,?_⟩;rw[hr] at h;exact kJ (A:=A) (c:=c) (q:=q) h hq
theorem uK(w:X)(D:aV)(s x d:Nat)(y:Vs)(hy:y.Ok)(TE:Nat)(K9:TE<=9223372036854775807)(A9:aU)(c9:Nat)(q9:List El)(hq9:jO w D A9 q9)(j6:∀b,D b->b<(w:Nat))(a0d:∀x∈q9,x.e.Ok)(hn9:q9.length<=128):Lw W D 121 #[s,J TE,Z A9 q9.length c9] [.o (qP s x d y)] (λ(_:Unit)e=>e=b5 (aY (y.accept TE (q9.map El.e)).isSome)) (λ_=>[.o (qP s x d ((y.accept TE (q9.map El.e)).getD y))]) w:=by
 obtain⟨R,HR⟩:=aE (y.accept TE (q9.map El.e));rw[<-HR];intro V hM hV;have kV:∀x,D x->x<(w:Nat)∧¬ V x:=λx Y=>⟨j6 x Y,λh=>(hV x h).2 Y⟩;have hS:=St.begin_ hM (λb hb=>(hV b hb).1) ⟨gG.framed _ _ _ _ _ _ _ _,trivial⟩;obtain⟨A,c,q,hq,hS⟩:=GX hS;have E:=hS.facts;simp only[ik,cD,ch,ec,lY] at E;unfold Vs.accept at HR;obtain⟨m,HM⟩:=az (q9.length);rw[bj,<-HM.out] at HR;have a0e:m<=128:=by rw[HM.out];exact hn9
 have d3:decide ((m:Int) > 128)=false:=aD ap;have d3':decide ((128:Int)<(m:Int))=false:=aD ap;rw[<-HM.out];by_cases kh:TE<y.c.t∨TE<1
 ·rw[aA ap] at HR
  replace HR:=Q HR;have hX:decide (TE<y.c.t)=true∨(decide (TE<y.c.t)=false∧decide ((TE:Int)<1)=true):=by simp only[decide_eq_true_eq,decide_eq_false_iff_not];omega
  clear kh;rcases hX with I|⟨I,G⟩
  all_goals
   go_in
   go_wp2
   go_ret
   have HR:=HR.out
   subst HR
   obtain⟨r1,r2⟩:=(kJ (l:=[]) hS hq).fin
   first|exact⟨(),rfl,r1,r2⟩|exact⟨rfl,r1,r2⟩
 rw[aB ap] at HR;have d1:decide (TE<y.c.t)=false:=aD ap;have d2:decide ((TE:Int)<1)=false:=aD ap;replace HR:=Q HR;replace kh:=Q kh;go_in;go_wp2_with fail;clear E;go_loopw [29] (λi wr=>∃k:Nat,k<=m∧i=J k∧Grow w wr) (λi _=>m-(intOf i).toNat);case atStart=>exact⟨0,by omega,rfl,Grow.refl _⟩
 case round=>
  obtain⟨k,oL,rfl,gP⟩:=hrel;by_cases N:k<m
  ·have ip:k<q9.length:=by have:=HM.out;omega
   have Iy:=hq9.grow gP;obtain⟨ad,vo,rfl,hVk,S3,e0,e1⟩:=Iy.1.mr ap pf ip;have jE:=Iy.2 _ (bF vo);have re:=a0d _ (bF vo);generalize q9[k]=b at jE e0 e1 re;have m6:=λw1(eD:Grow wr w1)=>ju w1 b.e D b.A b.c re (In.grow jE.1 eD);obtain⟨⟨bk,ag,sh,sq,ep,ds,se,fr,tg⟩,Ab,cb⟩:=b;dsimp only[El.cells,En.agg] at e0 e1 m6;have e1:=e1 0 _ rfl;have e0:=e0 _ rfl;have fu:=dT wr (.cells #[J bk,J ag,J sh,J sq,J ep,Z Ab ds.length cb,aX se,J fr,J tg] 40);have m6:=m6 _ fu;clear jE re Iy;go_wp2_with fail;refine m6.mono ?_;rintro e w2 ⟨rfl,fk⟩;go_wp2_with fail;exact⟨⟨k+1,by omega,by go_num,gP.trans (fu.trans fk)⟩,by simp[intOf];omega⟩
  ·obtain rfl:k=m:=by omega
   have ej:=(hS.grow gP).grow (Grow.refl _).drew;have oN:∀w1,Grow wr.drew w1->ec (ik s x d y A c q) w1:=λw1 H=>(ej.grow H).facts;go_wp2_with fail;refine dJ rfl ?_;have eA:=oN _ (Grow.refl _);refine gi (ec (ik s x d y A c q)) 14 rfl ?_;refine held 0 rfl eA (λw1 E R T=>by simp only[ik,ec,lY] at E;go_simp;exact T) ?_;refine held 1 rfl eA (λw1 E R T=>by simp only[ik,ec,lY] at E;go_simp;exact T) ?_;refine held 2 rfl eA (λw1 E R T=>by simp only[ik,ec,lY] at E;go_simp;exact T) ?_;refine held 3 rfl eA (λw1 E R T=>by simp only[ik,ec,lY] at E;go_simp;exact T) ?_;refine held 4 rfl eA (λw1 E R T=>by simp only[ik,ec,lY] at E;go_simp;exact T) ?_;refine held 5 rfl eA (λw1 E R T=>by simp only[ik,ec,lY] at E;go_simp;exact T) ?_;refine held 6 rfl eA (λw1 E R T=>by simp only[ik,ec,lY] at E;go_simp;exact T) ?_;refine held 7 rfl eA (λw1 E R T=>by simp only[ik,ec,lY] at E;go_simp;exact T) ?_;refine held 8 rfl eA (λw1 E R T=>by simp only[ik,ec,lY] at E;go_simp;exact T) ?_;refine held 9 rfl eA (λw1 E R T=>by simp only[ik,ec,lY] at E;go_simp;exact T) ?_;refine held 10 rfl eA (λw1 E R T=>by simp only[ik,ec,lY] at E;go_simp;exact T) ?_;refine held 11 rfl eA (λw1 E R T=>by simp only[ik,ec,lY] at E;go_simp;exact T) ?_;refine dY 12 rfl ?_;obtain⟨z,wb,HZ,HB,dV⟩:=(hS.grow gP).new' aL 204;go_wp2_with fail;rw[<-HB.out,<-HZ.out];have dV:=dV.grow (Grow.refl _).drew;refine⟨(dV.dO 0 rfl).facts,?_⟩;refine dY 13 rfl ?_;clear oN ej eA;refine d_ dV 0 rfl 204 _ _ rfl 0 rfl [J TE,J y.c.h,Z A q.length c] rfl (bf rfl) rfl aw #[J TE,J y.c.h,Z A q.length c] rfl rfl ?_;clear dV;intro w3 dX;refine wpList_nil ?_;refine⟨(dX.dO 0 rfl).facts,?_⟩;refine eU ?_;have dX:St V w [.c z 204 #[J TE,J y.c.h,Z A q.length c],.c s 206 (lY y.c.t y.c.h (Z A q.length c) x),.o (eC x d y.ws.length y.bs y.bs.length),.o (fT A q)] w3:=dX;have wK:q.length=y.c.es.length:=by rw[<-hq.1,bj]
   have fj:q.length<=128:=by rw[wK];exact hy.c.len
   have gC:∀x∈q,x.e.Ok:=λx Y=>hy.c.es _ (by rw[<-hq.1];exact List.mem_map.2 ⟨x,Y,rfl⟩);clear N gP;have hC:=mQ w3 D A9 c9 q9 (fT.framed A9 q9 w w3 D hq9 λb hb=>dX.keep kV b hb) ap;have E:=dX.facts;simp only[ec,lY] at E;by_cases yT:y.c.h<TE∨y.c.es.length<k
   ·have HR:=HR.out
    rw[aB (by intro h;exact h.1 yT),show y.next TE (q9.map El.e)=⟨TE,TE,q9.map El.e⟩ by unfold Vs.next;rw[bj,<-HM.out,aA yT]] at HR;replace HR:=Q HR;have hX:decide (y.c.h<TE)=true∨(decide (y.c.h<TE)=false∧decide (q.length<k)=true):=by simp only[decide_eq_true_eq,decide_eq_false_iff_not];omega
    replace wK:=Q wK;clear yT;rw[<-HM.out] at hC;rcases hX with I|⟨I,G⟩
    all_goals
     go_wp2_with fail
     refine hC.mono ?_
     rintro e w4 ⟨u,rfl,⟨A1,c1,q1,rfl,Md,o3,zn,zG⟩,-,Bi⟩
     have eO:=dX.join (fT.framed A1 q1) Bi (U:=New w3 w4) Md (λb hb=>hb)
     have WK:q1.length=k:=by rw[<-bj (f:=El.e),o3,bj,HM.out]
     have a6r:∀x∈q1,x.e.Ok:=λx Y=>by
      have L:x.e∈q9.map El.e:=by rw[<-o3];exact List.mem_map.2 ⟨x,Y,rfl⟩
      obtain⟨x',hx',e'⟩:=List.mem_map.1 L;rw[<-e'];exact a0d x' hx'
     replace WK:=Q WK
     clear E dX
     go_wp2_with (refine fv eO 1 rfl 2 _ _ rfl 1 rfl (J TE) rfl (bf rfl) rfl aw rfl ?_;clear eO;intro w5 eF;refine stay ?_)
     refine dI ?_
     go_wp2_with (refine fv eF 1 rfl 43 _ _ rfl 2 rfl (Z A1 q1.length c1) rfl (bf rfl) rfl aw rfl ?_;clear eF;intro w6 eN;refine stay ?_)
     refine dI ?_
     simp only[bY,bz,bA] at eN
     have E:=eN.facts
     simp only[ec,lY] at E
     go_wp2_with fail
     have fH:=(eN.dO 1 rfl).perm ((List.Perm.swap _ _ _).trans (List.Perm.cons _ (List.Perm.swap _ _ _)))
     have hCK:=St.D1 (a:=[.c s 206 (lY y.c.t y.c.h (Z A q.length c) x),.o (eC x d y.ws.length y.bs y.bs.length)]) (x := .o (fT A1 q1)) (b:=[.o (fT A q)])
      (a':=λ_=>sf s x d y.ws.length y.bs (Wo.B ⟨TE,TE,q9.map El.e⟩) (lY y.c.t y.c.h (Z A q.length c) x) (lY TE TE (Z A1 q1.length c1) x) (room y.bs (Wo.B ⟨TE,TE,q9.map El.e⟩))) fH (λ_=>⟨trivial,yf.framed _ _ _ _ _ _,trivial⟩) (λU hU jR=>GV w6 U s x d y.c.t y.c.h (Z A q.length c) y.ws.length y.bs TE TE A1 c1 q1 K9 K9 hU jR a6r (by rw[WK.out];exact a0e) hy.n (Wo.B ⟨TE,TE,q9.map El.e⟩) (by rw[o3];rfl))
     refine hCK.mono ?_
     rintro e w8 ⟨_,rfl,fD⟩
     obtain⟨hr,gy⟩:=Sv (z:=⟨TE,TE,q9.map El.e⟩) hq ⟨o3,zn,zG⟩ fD
     rw[hr]
     obtain⟨b,Hb⟩:=az ((y.keep ⟨TE,TE,q9.map El.e⟩).isSome)
     rw[<-Hb.out]
     clear E
     go_wp2
     go_ret
     have HR:=HR.out
     rw[HR]
     obtain⟨r1,r2⟩:=gy.fin
     first|exact⟨(),by rw[Hb.out];rfl,r1,r2⟩|exact⟨by rw[Hb.out];rfl,r1,r2⟩
   ·have I:decide (y.c.h<TE)=false:=aD ap
    have G:decide (q.length<k)=false:=aD ap;have Fy:y.next TE (q9.map El.e)=⟨TE,y.c.h,y.c.es⟩:=by unfold Vs.next;rw[bj,<-HM.out,aB yT]
    rw[Fy] at HR;clear hC Fy;replace wK:=Q wK;replace yT:=Q yT;by_cases ht:TE=y.c.t
    ·have L:((TE:Int) == (y.c.t:Int))=true:=by rw[ht];simp
     have HR:=HR.out;rw[aA ⟨yT.out,ht⟩] at HR;replace HR:=Q HR;replace ht:=Q ht;go_wp2;go_ret;have HR:=HR.out;rw[HR];obtain⟨r1,r2⟩:=(kJ (l:=[]) (dX.dO 0 rfl) hq).fin;first|exact⟨(),rfl,r1,r2⟩|exact⟨rfl,r1,r2⟩
    ·have L:((TE:Int) == (y.c.t:Int))=false:=by simp;omega
     have HR:=HR.out;rw[aB (by intro h;exact ht h.2)] at HR;replace HR:=Q HR;replace ht:=Q ht;go_wp2_with fail;have hCK:=St.D1 (a:=[.c s 206 (lY y.c.t y.c.h (Z A q.length c) x),.o (eC x d y.ws.length y.bs y.bs.length)]) (x := .o (fT A q)) (b:=[])
      (a':=λ_=>sf s x d y.ws.length y.bs (Wo.B ⟨TE,y.c.h,y.c.es⟩) (lY y.c.t y.c.h (Z A q.length c) x) (lY TE y.c.h (Z A q.length c) x) (room y.bs (Wo.B ⟨TE,y.c.h,y.c.es⟩))) (dX.dO 0 rfl) (λ_=>⟨trivial,yf.framed _ _ _ _ _ _,trivial⟩) (λU hU jR=>GV w3 U s x d y.c.t y.c.h (Z A q.length c) y.ws.length y.bs TE y.c.h A c q K9 hy.c.h hU jR gC fj hy.n (Wo.B ⟨TE,y.c.h,y.c.es⟩) (by rw[hq.1];rfl))
     refine hCK.mono ?_;rintro e w8 ⟨_,rfl,fD⟩;obtain⟨hr,gy⟩:=WJ (z:=⟨TE,y.c.h,y.c.es⟩) rfl hq fD;rw[hr];obtain⟨b,Hb⟩:=az ((y.keep ⟨TE,y.c.h,y.c.es⟩).isSome);rw[<-Hb.out];clear E;go_wp2;go_ret;have HR:=HR.out;rw[HR];obtain⟨r1,r2⟩:=gy.fin;first|exact⟨(),by rw[Hb.out];rfl,r1,r2⟩|exact⟨by rw[Hb.out];rfl,r1,r2⟩
def C8(g:Nat)(v:Vt)(A:aU)(c:Nat)(q:List El):List Bl:=[.c g 213 (nX v.t v.nodes v.pr v.ac v.had (Z A q.length c) v.n),.o (fT A q)]
def fJ(g:Nat)(v:Vt):dW:=λw V=>∃(A:aU)(c:Nat)(q:List El),(q.map El.e=v.best∧q.length<=c∧c<=dG)∧dN (px (C8 g v A c q)) w V
theorem AQ(g:Nat)(v:Vt)(A:aU)(c:Nat)(q:List El):pF (C8 g v A c q):=⟨trivial,fT.framed _ _,trivial⟩
theorem fJ.framed(g:Nat)(v:Vt):eu (fJ g v):=λw O V ⟨A,c,q,I,G⟩ N=>⟨A,c,q,I,dN.framed _ (fP (AQ g v A c q)) w O V G N⟩
section
variable{w:X}{g:Nat}{v:Vt}
theorem yh(h:St V w0 (.o (fJ g v)::l) w):∃(A:aU)(c:Nat)(q:List El),(q.map El.e=v.best∧q.length<=c∧c<=dG)∧St V w0 (.c g 213 (nX v.t v.nodes v.pr v.ac v.had (Z A q.length c) v.n)::.o (fT A q)::l) w:=by
 obtain⟨⟨⟨A,c,q⟩,I⟩,G⟩:=St.opn (κ:={ x:Option dA×Nat×List El // x.2.2.map El.e=v.best∧x.2.2.length<=x.2.1∧x.2.1<=dG }) (o:=λx=>C8 g v x.1.1 x.1.2.1 x.1.2.2) h λ_ hU=>by obtain⟨A,c,q,I,G⟩:=hU;exact⟨⟨(A,c,q),I⟩,G,AQ _ _ _ _ _⟩
 exact⟨A,c,q,I,G⟩
theorem nE{c:Nat}(h:St V w0 (.c g 213 (nX v.t v.nodes v.pr v.ac v.had (Z A q.length c) v.n)::.o (fT A q)::l) w)(hq:q.map El.e=v.best∧q.length<=c∧c<=dG):St V w0 (.o (fJ g v)::l) w:=St.cls (a:=C8 g v A c q) h (fJ.framed g v) λU hU=>⟨A,c,q,hq,hU⟩
theorem WL{best:K}(h:St V w0 l w)(i:Nat)(hv:v.Ok)(hi:l[i]?=some (.c g 213 (nX v.t v.nodes v.pr v.ac v.had best v.n))):vb w g v.t v.nodes v.pr v.ac v.had best v.n:=⟨h.blk i hi,hv.pr,hv.ac⟩
end
theorem yi(w:X)(D:aV)(g:Nat)(v:Vt)(hv:v.Ok)(i had:Nat)(hi:i<v.nodes)(A:aU)(c:Nat)(q:List El)(hq:jO w D A q)(ig:q.length<=128)(OD:had<=9223372036854775807)(j6:∀b,D b->b<(w:Nat))(vv:∀x∈q,x.e.Ok):Lw W D 60 #[g,J i,J had,Z A q.length c] [.o (fJ g v)] (λ(_:Unit)e=>e=b5 (aY (v.promise i had (q.map El.e)).1)) (λ_=>[.o (fJ g (v.promise i had (q.map El.e)).2)]) w:=by
 obtain⟨R,HR⟩:=az (v.promise i had (q.map El.e));have gC:R.2.Ok:=by rw[HR.out];exact hv.promise (by have:=hv.nodes;omega) OD (λe he=>by obtain⟨x,Y,rfl⟩:=List.mem_map.1 he;exact vv x Y) (by rw[bj];exact ig)
 rw[<-HR.out];intro V hM hV;obtain⟨oK,Ux⟩:=hv.nodes;have a0f:=hv.few;have Yw:i<8:=by omega
 have a4g:(i:Int)<8:=by omega
 have kV:∀x,D x->x<(w:Nat)∧¬ V x:=λx Y=>⟨j6 x Y,λh=>(hV x h).2 Y⟩;have hS:=St.begin_ hM (λb hb=>(hV b hb).1) ⟨fJ.framed _ _,trivial⟩;obtain⟨A0,c0,q0,yU,hS⟩:=yh hS;have hB:=WL hS 0 hv rfl;have ci:=hB.cp Yw;have hN:=Af hB i hi;have hW:=BQ hB a0f;go_in;go_wp2_with fail;refine hN.mono ?_;rintro e w1 ⟨rfl,rfl⟩;rcases bC (v.pr.getD i false) with hp|hp
 ·have T:R=(false,v):=by rw[HR.out];unfold Vt.promise;rw[aA hp]
  rw[hp] at ci;go_wp2;go_ret;subst T;obtain⟨r1,r2⟩:=(nE hS yU).fin;exact⟨(),rfl,r1,r2⟩
 rw[hp] at ci;have T:R=if v.won=true then (false,v.heard i) else if v.counts had (q.map El.e)=true then ((v.heard i).won,{ v.heard i with had:=had,best:=q.map El.e }) else ((v.heard i).won,v.heard i):=by rw[HR.out];unfold Vt.promise;rw[aB (by rw[hp];exact cB)]
 clear HR;replace T:=Q T;go_wp2_with fail;refine hW.mono ?_;rintro e w1 ⟨rfl,eD⟩;have ej:=hS.grow eD;clear ci hN hW hB hM;have hh:(v.pr.set i true).length=8:=by rw[dh];exact hv.pr
 have z6:2+i<(nX v.t v.nodes v.pr v.ac v.had (Z A0 q0.length c0) v.n).size:=by rw[sY hv.pr hv.ac];omega
 have sC:IntKind.i64.wrap ((v.n:Int)+1)=(v.n:Int)+1:=by rw[IntKind.wrap_i64];omega
 go_wp2_with (refine fv ej 0 rfl 4 _ _ rfl (2+i) rfl (aY true) rfl z6 rfl aw rfl ?_;intro wa mh;refine stay ?_);refine dI ?_;simp only[bA,W0 hv.pr Yw] at mh;have c20:=(show vb _ g v.t v.nodes (v.pr.set i true) v.ac v.had (Z A0 q0.length c0) v.n from ⟨mh.blk 0 rfl,hh,hv.ac⟩).c20;have Mb:20<(nX v.t v.nodes (v.pr.set i true) v.ac v.had (Z A0 q0.length c0) v.n).size:=by rw[sY hh hv.ac];omega
 go_wp2_with (refine fv mh 0 rfl 3 _ _ rfl 20 rfl (J ((v.n+1:Nat):Int)) rfl Mb rfl aw rfl ?_;intro w2 dX;refine stay ?_);refine dI ?_;simp only[bA,RN hh hv.ac] at dX;clear mh c20 Mb z6;have rK:(v.heard i).Ok:=⟨hv.t,hv.nodes,hh,hv.ac,hv.had,hv.best,hv.len,by show v.n+1=_;rw[hv.n];exact (count_set v.pr i (by rw[hv.pr];exact Yw) hp).symm,hv.nn⟩
 have dX:St V w [.c g 213 (nX (v.heard i).t (v.heard i).nodes (v.heard i).pr (v.heard i).ac (v.heard i).had (Z A0 q0.length c0) (v.heard i).n),.o (fT A0 q0)] w2:=dX;rcases bC (decide (v.nodes<2*v.n)) with hw|hw
 ·have T:R=(false,v.heard i):=by rw[T.out,aA (show v.won=true from hw)]
  rw[hw];go_wp2;go_ret;subst T;obtain⟨r1,r2⟩:=(nE dX yU).fin;exact⟨(),rfl,r1,r2⟩
 have F9:=WL dX 0 rK rfl;have k18:=F9.c18;have k19:=F9.c19;have k20:=F9.c20;rw[hw];have a4S:v.won=false:=hw;have T:=T.out;rw[a4S,aB cB] at T;have e1:(v.heard i).n=v.n+1:=rfl;have e2:(v.heard i).had=v.had:=rfl;have e3:q0.length=v.best.length:=by rw[<-yU.1,bj]
 have hC:=mQ w2 D A c q (fT.framed A q w w2 D hq λb hb=>dX.keep kV b hb) ap;by_cases Fh:v.counts had (q.map El.e)=true
 ·rw[aA Fh] at T
  have hX:(((((v.heard i).n:Nat):Int) == 1)=true)∨((((((v.heard i).n:Nat):Int) == 1)=false)∧decide ((v.heard i).had<had)=true)∨((((((v.heard i).n:Nat):Int) == 1)=false)∧decide ((v.heard i).had<had)=false∧(((had:Nat):Int) == (((v.heard i).had:Nat):Int))=true∧decide (q0.length<q.length)=true):=by unfold Vt.counts at Fh;simp only[Bool.or_eq_true,bU,decide_eq_true_eq,bj] at Fh;simp only[beq_iff_eq,beq_eq_false_iff_ne,decide_eq_true_eq,decide_eq_false_iff_not,e1,e2,e3];omega
  clear Fh;have hX:=hX;rcases hX with I|⟨I,G⟩|⟨I,G,L,h4⟩
  all_goals clear e1 e2 e3
  all_goals go_wp2_with fail
  all_goals
   refine hC.mono ?_
   rintro e w3 ⟨u,rfl,⟨A1,c1,q1,rfl,Md,o3,zn,zG⟩,-,ib⟩
   have eO:=dX.join (fT.framed A1 q1) ib (U:=New w2 w3) Md (λb hb=>hb)
   clear hX hC k18 k19 k20
   go_wp2_with (refine fv eO 1 rfl 2 _ _ rfl 18 rfl (J had) rfl (by rw[sY rK.pr rK.ac];omega) rfl aw rfl ?_;intro wa mh;refine stay ?_)
   refine dI ?_
   simp only[bz,bA,RJ rK.pr rK.ac] at mh
   go_wp2_with (refine fv mh 1 rfl 43 _ _ rfl 19 rfl (Z A1 q1.length c1) rfl (by rw[sY rK.pr rK.ac];omega) rfl aw rfl ?_;intro wb yV;refine stay ?_)
   refine dI ?_
   simp only[bz,bA,RL rK.pr rK.ac] at yV
   have yV:=(yV.front 1 rfl).dO 2 rfl
   have yV:St V w [.c g 213 (nX R.2.t R.2.nodes R.2.pr R.2.ac R.2.had (Z A1 q1.length c1) R.2.n),.o (fT A1 q1)] wb:=by rw[T];exact yV
   have hv3:R.2.Ok:=gC
   have hW:=BQ (WL yV 0 hv3 rfl) hv3.few
   go_wp2_with fail
   refine hW.mono ?_
   rintro e w6 ⟨rfl,tW⟩
   go_wp2
   go_ret
   obtain⟨r1,r2⟩:=(nE (yV.grow tW) ⟨by rw[o3,T],zn,zG⟩).fin
   exact⟨(),by rw[T];rfl,r1,r2⟩
 ·rw[aB Fh] at T
  have hX:((((v.heard i).n:Nat):Int) == 1)=false∧decide ((v.heard i).had<had)=false∧((((had:Nat):Int) == (((v.heard i).had:Nat):Int))=false∨((((had:Nat):Int) == (((v.heard i).had:Nat):Int))=true∧decide (q0.length<q.length)=false)):=by unfold Vt.counts at Fh;simp only[Bool.or_eq_true,bU,decide_eq_true_eq,bj] at Fh;simp only[beq_iff_eq,beq_eq_false_iff_ne,decide_eq_false_iff_not,e1,e2,e3];omega
  clear Fh;obtain⟨I,G,hX⟩:=hX;rcases hX with L|⟨L,h4⟩
  all_goals clear e1 e2 e3
  all_goals go_wp2_with fail
  all_goals
   refine (BQ F9 rK.few).mono ?_
   rintro e w6 ⟨rfl,tW⟩
   go_wp2
   go_ret
   subst T
   obtain⟨r1,r2⟩:=(nE (dX.grow tW) yU).fin
   exact⟨(),rfl,r1,r2⟩
theorem Ee(t:Nat){node:Nat}(I:node<nodes)(h8:nodes<=8):lM t node nodes % nodes=node∧t<lM t node nodes∧lM t node nodes<=t+nodes∧∀k,t<k->k<lM t node nodes->k % nodes≠node:=by
 unfold lM;have h:nodes=1∨nodes=2∨nodes=3∨nodes=4∨nodes=5∨nodes=6∨nodes=7∨nodes=8:=by omega
 rcases h with rfl|rfl|rfl|rfl|rfl|rfl|rfl|rfl
 all_goals refine⟨by omega,by omega,by omega,λk G L=>by omega⟩
theorem Sw(w:X)(t node nodes:Nat)(I:node<nodes)(h8:nodes<=8)(ht:t<=1099511627776):dz W 55 #[J t,J node,J nodes] w λe O=>e=b5 (J (lM t node nodes:Nat))∧w=O:=by
 obtain⟨f1,f2,f3,f4⟩:=Ee t I h8;obtain⟨abm,HT⟩:=az (lM t node nodes);rw[<-HT.out] at f1 f2 f3 f4 ⊢;have d1:decide ((nodes:Int) >= 1)=true:=aC ap;have d2:decide ((nodes:Int)<=8)=true:=aC ap;have hr:dz W 116 #[J nodes] w λe O=>e=b5 (aY true)∧w=O:=by go_in;go_wp2;go_ret;trivial
 have d3:decide ((node:Int)<0)=false:=aD ap;have d4:decide (nodes<=node)=false:=aD ap;have d5:decide ((t:Int)<0)=false:=aD ap;have d6:decide ((1099511627776:Int)<(t:Int))=false:=aD ap;have hw:IntKind.i64.wrap ((t:Int)+1)=((t+1:Nat):Int):=by rw[IntKind.wrap_i64];omega
 go_in;go_wp2_with fail;refine hr.mono ?_;rintro e w1 ⟨rfl,rfl⟩;go_wp2_with fail;go_loopw [7] (λu wr=>∃k:Nat,u=J k∧t<k∧k<=abm∧w=wr) (λu _=>abm-(intOf u).toNat);case atStart=>exact⟨t+1,rfl,by omega,by omega,rfl⟩
 case round=>
  obtain⟨k,rfl,iP,ip,rfl⟩:=hrel;have hm:(k:Int) % (nodes:Int)=((k % nodes:Nat):Int):=by simp
  by_cases N:k=abm
  ·subst N
   have dk:((k:Int) % (nodes:Int) != (node:Int))=false:=by rw[hm,f1];simp
   clear hm;go_wp2;go_ret;exact⟨rfl,rfl⟩
  ·have dk:((k:Int) % (nodes:Int) != (node:Int))=true:=by
    have:=f4 k iP ap;rw[hm];simp;omega
   clear hm
   have sC:IntKind.i64.wrap ((k:Int)+1)=((k+1:Nat):Int):=by rw[IntKind.wrap_i64];omega
   go_wp2_with fail
   exact⟨⟨k+1,rfl,by omega,by omega,trivial⟩,by simp only[intOf];omega⟩
theorem Sx(w:X)(D:aV)(g:Nat)(v:Vt)(hv:v.Ok):Lw W D 120 #[g] [.o (fJ g v)] (λ(x:Option dA×Nat×List El)e=>e=b5 (Z x.1 x.2.2.length x.2.1)∧x.2.2.map El.e=v.best∧x.2.2.length<=x.2.1∧x.2.1<=dG) (λx=>[.o (fT x.1 x.2.2),.o (fJ g v)]) w:=by intro V hM hV;have hS:=St.begin_ hM (λb hb=>(hV b hb).1) ⟨fJ.framed _ _,trivial⟩;obtain⟨A0,c0,q0,yU,hS⟩:=yh hS;have hB:=WL hS 0 hv rfl;have c19:=hB.c19;obtain⟨U,hE,_⟩:=hS.own.see 1 rfl;have hC:=mQ w U A0 c0 q0 hE (by have:=hv.len;rw[<-yU.1,bj] at this;omega);go_in;go_wp2_with fail;refine hC.mono ?_;rintro e w3 ⟨u,rfl,⟨A1,c1,q1,rfl,Md,o3,zn,zG⟩,-,ib⟩;go_wp2;go_ret;have eO:=nE (((hS.join (fT.framed A1 q1) ib (U:=New w w3) Md (λb hb=>hb)).front 1 rfl).perm (List.Perm.cons _ (List.Perm.swap _ _ _))) yU;obtain⟨r1,r2⟩:=(eO.front 1 rfl).fin;exact⟨(A1,c1,q1),⟨rfl,o3.trans yU.1,zn,zG⟩,r1,r2⟩
def jH(g:Nat):Option Vt->K
 | none => .pointer none
 | some _ => .pointer (some ⟨g,0,none⟩)
def WM(g:Nat):Option Vt->List Bl
 | none=>[]
 | some v=>[.o (fJ g v)]
theorem OE(g:Nat):∀v,pF (WM g v)
 | none=>trivial
 | some _=>⟨fJ.framed _ _,trivial⟩
def dP(p:pj)(g:Nat)(x:Rp):List Bl := .c p.r 118 (iu p x.node x.nodes x.commit (jH g x.v) x.leads x.own)::.o (gR p.m x.m)::.o (qP p.s p.x p.d x.s)::WM g x.v
theorem eL(p:pj)(g:Nat)(x:Rp):pF (dP p g x):=⟨trivial,gR.framed _ _,gG.framed _ _ _ _ _ _ _ _,OE _ _⟩
structure Rp.Ok(x:Rp):Prop where
 s:x.s.Ok
 m:AL (8*x.commit) x.m
 v:∀v,x.v=some v->v.Ok∧v.nodes=x.nodes
 node:x.node<x.nodes∧x.nodes<=8
 commit:x.commit<=128
 lv:x.leads=true->∃v,x.v=some v
theorem fz{n:Nat}(i:Nat)(hS:S w)(h:wpAnyH P .any ops abo S n (abn.setIfInBounds i true) a' w)
 (hi:ops[i]?=some o:=by rfl) (hy:∀w,S w->∀(R:Value->Act->Prop),R v a'->ze R a o w ((execOp a.eval o).run P w):=by intro w1 E R T;obtain⟨⟨kM,lV⟩,sy,q_,C9,kU⟩:=E;go_simp;exact T)
 (hs:Region.noSelect ops=true:=by kernel_rfl) (hf:Region.free .any ops abn i=true:=by kernel_rfl) (hr:(Region.ready .any ops abn).contains i=true:=by kernel_rfl)
 (hQ:∀c a w,abo (.panic c) (a.put o.dst v) w->abo (.panic c) a w:=by exact λ_ _ _ h=>h) (hw:Region.wanted o (yielded ops a.tmps)=true:=by kernel_rfl):wpAnyH P .any ops abo S (n+1) abn a w:=held i hi hS hy h hs hf hr hQ hw
theorem gL{n:Nat}(i:Nat)(hS:S w)(h:wpAnyH P .any ops abo S n (abn.setIfInBounds i true) a' w)
 (hi:ops[i]?=some o:=by rfl) (hy:∀w,S w->∀(R:Value->Act->Prop),R v a'->ze R a o w ((execOp a.eval o).run P w):=by intro w1 E R T;obtain⟨⟨kM,lV⟩,sy,q_⟩:=E;go_simp;exact T)
 (hs:Region.noSelect ops=true:=by kernel_rfl) (hf:Region.free .any ops abn i=true:=by kernel_rfl) (hr:(Region.ready .any ops abn).contains i=true:=by kernel_rfl)
 (hQ:∀c a w,abo (.panic c) (a.put o.dst v) w->abo (.panic c) a w:=by exact λ_ _ _ h=>h) (hw:Region.wanted o (yielded ops a.tmps)=true:=by kernel_rfl):wpAnyH P .any ops abo S (n+1) abn a w:=held i hi hS hy h hs hf hr hQ hw
theorem f9{n:Nat}(i:Nat)(hS:S w)(h:wpAnyH P .any ops abo S n (abn.setIfInBounds i true) a' w)
 (hi:ops[i]?=some o:=by rfl) (hy:∀w,S w->∀(R:Value->Act->Prop),R v a'->ze R a o w ((execOp a.eval o).run P w):=by intro w1 E R T;obtain⟨kM,lV,sy,q_,C9⟩:=E;go_simp;exact T)
 (hs:Region.noSelect ops=true:=by kernel_rfl) (hf:Region.free .any ops abn i=true:=by kernel_rfl) (hr:(Region.ready .any ops abn).contains i=true:=by kernel_rfl)
 (hQ:∀c a w,abo (.panic c) (a.put o.dst v) w->abo (.panic c) a w:=by exact λ_ _ _ h=>h) (hw:Region.wanted o (yielded ops a.tmps)=true:=by kernel_rfl):wpAnyH P .any ops abo S (n+1) abn a w:=held i hi hS hy h hs hf hr hQ hw
theorem gw{n:Nat}(i:Nat)(hS:S w)(h:wpAnyH P .any ops abo S n (abn.setIfInBounds i true) a' w)
 (hi:ops[i]?=some o:=by rfl) (hy:∀w,S w->∀(R:Value->Act->Prop),R v a'->ze R a o w ((execOp a.eval o).run P w):=by intro w1 E R T;obtain⟨kM,lV⟩:=E;go_simp;exact T)
 (hs:Region.noSelect ops=true:=by kernel_rfl) (hf:Region.free .any ops abn i=true:=by kernel_rfl) (hr:(Region.ready .any ops abn).contains i=true:=by kernel_rfl)
 (hQ:∀c a w,abo (.panic c) (a.put o.dst v) w->abo (.panic c) a w:=by exact λ_ _ _ h=>h) (hw:Region.wanted o (yielded ops a.tmps)=true:=by kernel_rfl):wpAnyH P .any ops abo S (n+1) abn a w:=held i hi hS hy h hs hf hr hQ hw
theorem fL{n:Nat}(i:Nat)(hS:S w)(h:wpAnyH P .any ops abo S n (abn.setIfInBounds i true) a' w)
 (hi:ops[i]?=some o:=by rfl) (hy:∀w,S w->∀(R:Value->Act->Prop),R v a'->ze R a o w ((execOp a.eval o).run P w):=by intro w1 E R T;go_simp;exact T)
 (hs:Region.noSelect ops=true:=by kernel_rfl) (hf:Region.free .any ops abn i=true:=by kernel_rfl) (hr:(Region.ready .any ops abn).contains i=true:=by kernel_rfl)
 (hQ:∀c a w,abo (.panic c) (a.put o.dst v) w->abo (.panic c) a w:=by exact λ_ _ _ h=>h) (hw:Region.wanted o (yielded ops a.tmps)=true:=by kernel_rfl):wpAnyH P .any ops abo S (n+1) abn a w:=held i hi hS hy h hs hf hr hQ hw
theorem fA{n:Nat}(i:Nat)(hS:S w)(h:wpAnyH P .any ops abo S n (abn.setIfInBounds i true) a' w)
 (hi:ops[i]?=some o:=by rfl) (hy:∀w,S w->∀(R:Value->Act->Prop),R v a'->ze R a o w ((execOp a.eval o).run P w):=by intro w1 E R T;simp only[ec,iu] at E;go_simp;exact T)
 (hs:Region.noSelect ops=true:=by kernel_rfl) (hf:Region.free .any ops abn i=true:=by kernel_rfl) (hr:(Region.ready .any ops abn).contains i=true:=by kernel_rfl)
 (hQ:∀c a w,abo (.panic c) (a.put o.dst v) w->abo (.panic c) a w:=by exact λ_ _ _ h=>h) (hw:Region.wanted o (yielded ops a.tmps)=true:=by kernel_rfl):wpAnyH P .any ops abo S (n+1) abn a w:=held i hi hS hy h hs hf hr hQ hw
def eS(q:List Sd):Sends:=q.map Sd.fn
theorem qi(w:X)(p:pj)(g:Nat)(x:Rp)(Y:x.Ok):Lw W (λ_=>False) 122 #[.pointer (some ⟨p.r,0,none⟩)] (dP p g x) (λ(i:K×List Sd)e=>e=b5 i.1∧eS i.2=x.accepts) (λi => .o (dS i.1 i.2)::dP p g x) w:=by
 intro V hM hV;have hS:=(St.begin_ hM (λb hb=>(hV b hb).1) (eL _ _ _)).grow (Grow.refl _).drew;have kM:∀w1,Grow w.drew w1->ec [.c p.r 118 (iu p x.node x.nodes x.commit (jH g x.v) x.leads x.own)] w1:=λw1 H=>by have h:=(hS.grow H).facts;simp only[dP,ec] at h;exact⟨h.1,trivial⟩
 have hen:x.s.c.es.length<=128:=Y.s.c.len;go_in;go_wp2_with fail;refine dJ rfl ?_;have eA:=kM w.drew (Grow.refl _);refine gi (ec [.c p.r 118 (iu p x.node x.nodes x.commit (jH g x.v) x.leads x.own)]) 18 rfl ?_;refine fA 0 eA ?_;refine fA 1 eA ?_;refine fA 2 eA ?_;refine fA 3 eA ?_;refine fA 4 eA ?_;refine fA 6 eA ?_;refine fA 7 eA ?_;refine fA 8 eA ?_;refine fA 9 eA ?_;refine fA 11 eA ?_;refine fA 12 eA ?_;refine fA 13 eA ?_;refine fA 14 eA ?_;refine dY 5 rfl ?_;obtain⟨U,hE,_⟩:=hS.own.see 2 rfl;go_wp2_with fail;refine (AE w.drew p.s p.x p.d _ _ _ _ _ U hE).mono ?_;rintro e O ⟨rfl,rfl⟩;go_wp2_with fail;refine⟨eA,?_⟩;refine dY 10 rfl ?_;go_wp2_with fail;refine (qd w.drew p.s p.x p.d _ _ _ _ _ U hE ap).mono ?_;rintro e w1 ⟨u,rfl,⟨A,c,q,rfl,hq,kZ,Z2,iO⟩,-,eD⟩;go_wp2_with fail;have eA:=kM _ eD;refine⟨eA,?_⟩;refine fA 15 eA ?_;have ej:=(hS.join (fT.framed A q) eD (U:=New w.drew w1) hq (λb hb=>hb)).front 1 rfl;have wK:Hid (q.length=x.s.c.es.length):=Q (by rw[<-kZ,bj]);have hCA:=St.D1 (a:=[.c p.r 118 (iu p x.node x.nodes x.commit (jH g x.v) x.leads x.own)]) (x := .o (fT A q)) (b := .o (gR p.m x.m)::.o (qP p.s p.x p.d x.s)::WM g x.v) ej
  (a':=λi:K×List Sd=>[.o (dS i.1 i.2),.c p.r 118 (iu p x.node x.nodes x.commit (jH g x.v) x.leads x.own)]) (λi=>⟨dS.framed _ _,trivial,trivial⟩)
  (λU hU jR=>AP w1 U p x.node x.nodes Y.node.2 x.commit (jH g x.v) x.leads x.own (kR x.s.c.t x.s.c.es x.commit) none 0 A c q (nD w1 U 0 0 0 0).e hU kZ (by rw[wK.out];omega) jR)
 have jQ:((kR x.s.c.t x.s.c.es x.commit).cells none 0 A c)=[J 5,(),(),(),(),(),ay,"",(),(),(),(),ae ah 0,J x.s.c.t,(),Z A q.length c,J x.commit,()]:=by rw[wK.out];rfl
 rw[jQ] at hCA;refine dY 16 rfl ?_;go_wp2_with fail;refine hCA.mono ?_;rintro e w2 ⟨⟨v,qs⟩,⟨rfl,Uu⟩,dV⟩;go_wp2_with fail;have dV:=dV.dO 2 rfl;have eA:ec [.c p.r 118 (iu p x.node x.nodes x.commit (jH g x.v) x.leads x.own)] w2:=by have h:=dV.facts;exact⟨h.1,trivial⟩
 refine⟨eA,?_⟩;refine fL 17 eA ?_;refine eU ?_;go_wp2;go_ret;obtain⟨r1,r2⟩:=dV.fin;exact⟨(v,qs),⟨rfl,Uu⟩,r1,r2⟩
end Go.Proofs.YtpeepcmdehhbgaaGreatDoor
section
namespace Go.Hop
open Go.RowKit
theorem Lw.frame{P:dD}{f:FuncId}{args:aP}{a:List Bl}{ι:Type}{C:ι->Ending->Prop}{a':ι->List Bl}{w:X}(h:Lw P (λ_=>False) f args a C a' w)(ha:pF a)(TS:∀i,pF (a' i)){b:List Bl}(hb:pF b):Lw P (λ_=>False) f args (a++b) C (λi=>a' i++b) w:=λV hM hV=>by have hS:=St.begin_ hM (λx Y=>(hV x Y).1) (lz ha hb);exact (St.call hS TS (λ_ h=>h.elim) h).mono λe O ⟨i,hC,yP⟩=>⟨i,hC,yP.fin.1,yP.fin.2⟩
end Go.Hop
namespace Go.Proofs.YtpeepcmdehhbgaaGreatDoor
open Go.RowKit Go.Hop V
theorem Ef(w:X)(D:aV)(g:Nat)(v:Vt)(hv:v.Ok)(i:Nat)(hi:i<v.nodes)(m:Nat):Lw W D 128 #[g,J i,J m] [.o (fJ g v)] (λ(_:Unit)e=>e=b5 (J (v.accepted i m).1)) (λ_=>[.o (fJ g (v.told i m))]) w:=λV hM hV=>by have hS:=St.begin_ hM (λb hb=>(hV b hb).1) ⟨fJ.framed _ _,trivial⟩;obtain⟨A0,c0,q0,yU,hS⟩:=yh hS;refine (DI (λb=>b=g) rfl (WL hS 0 hv rfl) i hi hv.nodes.2 m).mono λe O ⟨I,G,L⟩=>?_;have dV:=hS.turned 0 rfl L G.b;obtain⟨r1,r2⟩:=(nE (v:=v.told i m) dV yU).fin;exact⟨(),I,r1,r2⟩
theorem qQ(w:X)(D:aV)(g:Nat)(v:Vt)(hv:v.Ok):Lw W D 68 #[g] [.o (fJ g v)] (λ(_:Unit)e=>e=b5 (J v.t)) (λ_=>[.o (fJ g v)]) w:=λV hM hV=>by have hS:=St.begin_ hM (λb hb=>(hV b hb).1) ⟨fJ.framed _ _,trivial⟩;obtain⟨A0,c0,q0,yU,hS⟩:=yh hS;refine (RO (WL hS 0 hv rfl)).mono λe O ⟨I,G⟩=>?_;subst G;obtain⟨r1,r2⟩:=(nE hS yU).fin;exact⟨(),I,r1,r2⟩
theorem AU(w:X)(p:pj)(g:Nat)(x:Rp)(Y:x.Ok)(abp:Nat):Lw W (λ_=>False) 127 #[.pointer (some ⟨p.r,0,none⟩),J abp] (dP p g x) (λ(i:K×List Sd)e=>e=b5 i.1∧eS i.2=(x.apply abp).2) (λi => .o (dS i.1 i.2)::dP p g (x.apply abp).1) w:=by have fj:=Y.s.c.len;have iO:=Y.commit;have h:=(Ed w p x.node x.nodes x.commit (jH g x.v) x.leads x.own x.s.c.t x.s.c.h x.s.c.es x.s.ws.length x.s.bs x.m abp Y.s.c.es fj Y.m ap).frame (GR _ _ _ _ _ _ _ _ _ _ _ _ _) (λu=>⟨dS.framed _ _,GR _ _ _ _ _ _ _ _ _ _ _ _ _⟩) (OE g x.v);intro V hM hV;refine (h V hM hV).mono λe O ⟨u,I,G,L⟩=>⟨(u,_),⟨I,rfl⟩,G,L⟩
theorem qj(w:X)(p:pj)(g:Nat)(x:Rp)(Y:x.Ok)(v:Vt)(hv:x.v=some v)(i:Nat)(hi:i<x.nodes)(n:Nat):Lw W (λ_=>False) 71 #[.pointer (some ⟨p.r,0,none⟩),J i,J n] (dP p g x) (λ(j:K×List Sd)e=>e=b5 j.1∧eS j.2=(x.counted v i n).2) (λj => .o (dS j.1 j.2)::dP p g (x.counted v i n).1) w:=by
 obtain⟨R,HR⟩:=az (x.counted v i n);rw[<-HR.out];intro V hM hV;obtain⟨yW,zf⟩:=Y.v v hv;have hS:=St.begin_ hM (λb hb=>(hV b hb).1) (eL _ _ _);unfold dP at hS;rw[hv] at hS;have E:=hS.facts;simp only[WM,jH,ec,iu] at E;go_in;go_wp2_with fail;refine (hS.at_ 3 rfl (λ_=>fJ.framed _ _) (D:=λ_=>False) (λ_ h=>h.elim) (Ef w _ g v yW i (by rw[zf];exact hi) n)).mono ?_;rintro e w1 ⟨_,rfl,ej⟩;clear E;have hnn:0<=(v.accepted i n).1:=Ss (yW.told i n).nn;obtain⟨abp,hN⟩:∃abp:Nat,(v.accepted i n).1=(abp:Int):=⟨(v.accepted i n).1.toNat,by omega⟩;rw[hN];have lw:(Rp.Ok { x with v:=some (v.told i n) }):=⟨Y.s,Y.m,λv' h'=>by cases h';exact⟨yW.told i n,zf⟩,Y.node,Y.commit,λ_=>⟨_,rfl⟩⟩;have hA:=AU w1 p g { x with v:=some (v.told i n) } lw abp;have T:R=Rp.apply { x with v:=some (v.told i n) } abp:=by rw[HR.out];unfold Rp.counted;rw[hN];rfl
 clear HR;replace T:=Q T;go_wp2_with fail;refine (St.call (a:=dP p g { x with v:=some (v.told i n) }) (b:=[]) (a':=λj:K×List Sd => .o (dS j.1 j.2)::dP p g (Rp.apply { x with v:=some (v.told i n) } abp).1) ej (λ_=>⟨dS.framed _ _,eL _ _ _⟩) (λ_ h=>h.elim) hA).mono ?_;rintro e w2 ⟨j,⟨rfl,G⟩,dV⟩;go_wp2;go_ret;obtain⟨r1,r2⟩:=dV.fin;rw[T.out];exact⟨j,⟨rfl,G⟩,by simpa using r1,r2⟩
end Go.Proofs.YtpeepcmdehhbgaaGreatDoor
end
