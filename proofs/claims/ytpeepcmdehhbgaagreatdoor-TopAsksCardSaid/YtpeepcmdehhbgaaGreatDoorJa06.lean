import Derived.Test.YtpeepcmdehhbgaaGreatDoorJa05
set_option linter.all false
set_option maxRecDepth 100000
set_option maxHeartbeats 2000000
open Go.Value renaming int->ae,slice->Z,string->aX,bool->aY,agg->aZ,tuple->a_
open Go.Ending renaming returned->b5
open Go.IntKind renaming i64->af,u64->ah
open Go.Proofs.Tryz renaming prog->W,underlying45->bG
open Go.Lib renaming hid->Q
open List renaming length_append->bd,length_map->bj,length_singleton->bv,set_cons_succ->bz,set_cons_zero->bA,length_cons->bD,getElem_mem->bF,flatMap_cons->bJ,mem_of_mem_take->bW,setIfInBounds_toArray->bY,nil_append->ch,cons_append->cD,replicate->cS,length_set->dh,perm_append_comm->bg,length_take->bn,take_succ_eq_append_getElem->br,flatMap_append->bL,length_drop->bO,map_cons->bQ,length_nil->cx,mem_of_mem_drop->cX,length_filter_le->c_,length_range->da,take_length->dq
open Nat renaming le_of_ble_eq_true->bf,le_refl->bh,zero_le->bo,lt_of_lt_of_le->bw,le_trans->bB
open Bool renaming eq_false_or_eq_true->bC,and_eq_true->bU,false_ne_true->cB
open Go renaming Value->K,World->X,Calls->dz,Addr->dA,Program->dD,Oper->dE,Act->dF,maxLen->dG
open Go (J az aE aA aB aC aD ay aj am ap aw aL aK aJ aI aH aV aU aT aR aQ aP aO aN)
section
open Go.Hop (Bl)
open Go.Proofs.YtpeepcmdehhbgaaGreatDoor (El)
variable{P:dD}{ops:Array dE}{abo:Go.Exit->dF->X->Prop}{S:X->Prop}{a a':dF}{w:X}{abn:Array Bool}{o:dE}{v:K}{V:aV}{w0:X}{l:List Bl}{A:aU}{q:List El}{s x d nodes:Nat}
namespace Go.Proofs.YtpeepcmdehhbgaaGreatDoor
open RowKit Hop V
structure Wo where
 (t h:Nat) (es:List En)
def Wo.zero:Wo:=⟨0,0,[]⟩
def Wo.B(x:Wo):List UInt8:=nC x.t x.h x.es
structure Wo.Ok(x:Wo):Prop where
 t:x.t<=9223372036854775807
 h:x.h<=9223372036854775807
 es:∀e∈x.es,e.Ok
 len:x.es.length<=128
theorem Wo.Ok.zero:Wo.zero.Ok:=⟨by decide,by decide,λ_ h=>by simp[Wo.zero] at h,by decide⟩
def ye(l:List Wo):List UInt8:=l.flatMap λx=>frame x.B
theorem qh(l:List Wo)(x:Wo):ye (l++[x])=ye l++frame x.B:=by simp[ye]
def room(bs b:aT):Bool:=decide (b.length<=65536)&&decide (bs.length+(frame b).length<=1048576)
theorem oB{bs b:aT}:room bs b=true↔Room bs b:=by simp[room,Room]
structure Vs where
 ws:List Wo
def Vs.c(x:Vs):Wo:=x.ws.getLast?.getD Wo.zero
def Vs.bs(x:Vs):List UInt8:=ye x.ws
def Vs.keep(x:Vs)(y:Wo):Option Vs:=if room x.bs y.B then some ⟨x.ws++[y]⟩ else none
structure Vs.Ok(x:Vs):Prop where
 ws:∀y∈x.ws,y.Ok
 bs:x.bs.length<=1048576
theorem Vs.Ok.c{x:Vs}(h:x.Ok):x.c.Ok:=by
 unfold Vs.c;cases e:x.ws.getLast? with
 | none=>exact Wo.Ok.zero
 | some y=>exact h.ws y (List.mem_of_getLast? e)
theorem Vs.m7(l:List Wo)(y:Wo):(Vs.mk (l++[y])).c=y:=by simp[Vs.c]
theorem Vs.Ok.keep{x x':Vs}{y:Wo}(h:x.Ok)(hy:y.Ok)(e:x.keep y=some x'):x'.Ok∧x'.c=y:=by
 unfold Vs.keep at e;split at e
 ·rename_i hr
  cases e;refine⟨⟨λz hz=>?_,?_⟩,Vs.m7 _ _⟩
  ·rcases List.mem_append.1 hz with hz|hz
   ·exact h.ws z hz
   ·rw[List.mem_singleton.1 hz];exact hy
  ·unfold Vs.bs
   rw[qh,bd];exact (oB.1 hr).2
 ·cases e
theorem Lq(b:aT):1<=(frame b).length:=by rw[jB];omega
theorem Jn:∀l:List Wo,l.length<=(ye l).length
 | []=>bh _
 | x::l=>by
   have:=Jn l;have:=Lq x.B;simp only[ye,bJ,bd,bD] at *;omega
def Vs.promise(x:Vs)(t:Nat):Option Vs:=if x.c.t<t then x.keep ⟨t,x.c.h,x.c.es⟩ else none
def Vs.next(x:Vs)(t:Nat)(l:List En):Wo:=if x.c.h<t∨x.c.es.length<l.length then ⟨t,t,l⟩ else ⟨t,x.c.h,x.c.es⟩
def Vs.accept(x:Vs)(t:Nat)(l:List En):Option Vs:=
 if t<x.c.t∨t<1∨128<l.length then none else
 if ¬ (x.c.h<t∨x.c.es.length<l.length)∧t=x.c.t then some x else x.keep (x.next t l)
structure Vt where
 (t nodes:Nat) (pr:List Bool) (ac:aN) (had:Nat) (best:List En) (n:Nat)
structure Vt.Ok(v:Vt):Prop where
 t:v.t<=9223372036854775807
 nodes:1<=v.nodes∧v.nodes<=8
 pr:v.pr.length=8
 ac:v.ac.length=8
 had:v.had<=9223372036854775807
 best:∀e∈v.best,e.Ok
 len:v.best.length<=128
 n:v.n=v.pr.count true
 nn:∀a∈v.ac,0<=a
def Vt.new(t nodes:Nat):Vt:=⟨t,nodes,cS 8 false,cS 8 0,0,[],0⟩
theorem Vt.Ok.new{t nodes:Nat}(ht:t<=9223372036854775807)(hn:1<=nodes∧nodes<=8):(Vt.new t nodes).Ok:=⟨ht,hn,rfl,rfl,bo _,λ_ h=>by simp[Vt.new] at h,bo _,rfl,λa h=>by rw[List.eq_of_mem_replicate (show a∈cS 8 0 from h)];exact Int.le_refl _⟩
theorem Vt.Ok.few{v:Vt}(h:v.Ok):v.n<=8:=by rw[h.n,<-h.pr];exact List.count_le_length
def Vt.won(v:Vt):Bool:=decide (v.nodes<2*v.n)
def Vt.counts(v:Vt)(had:Nat)(l:List En):Bool:=decide (v.n=0)||(decide (v.had<had)||(decide (had=v.had)&&decide (v.best.length<l.length)))
def Vt.heard(v:Vt)(i:Nat):Vt:={ v with pr:=v.pr.set i true,n:=v.n+1 }
def Vt.promise(v:Vt)(i had:Nat)(l:List En):Bool×Vt:=
 if v.pr.getD i false=true then (false,v) else
 if v.won=true then (false,v.heard i) else
 if v.counts had l=true then ((v.heard i).won,{ v.heard i with had:=had,best:=l }) else ((v.heard i).won,v.heard i)
theorem count_set:∀(l:List Bool)(i:Nat),i<l.length->l.getD i false=false->(l.set i true).count true=l.count true+1
 | [],i,h,_=>absurd h (by simp)
 | b::l,0,_,G=>by
   simp only[List.getD_cons_zero] at G;subst G;simp
 | b::l,i+1,h,G=>by
   have ih:=count_set l i (by simpa using h) (by simpa using G);simp only[bz,List.count_cons,ih];omega
theorem Vt.Ok.promise{v:Vt}(h:v.Ok){i had:Nat}{l:List En}(hi:i<8)(hh:had<=9223372036854775807)(hl:∀e∈l,e.Ok)(hn:l.length<=128):(v.promise i had l).2.Ok:=by
 unfold Vt.promise;by_cases I:v.pr.getD i false=true;·rw[aA I];exact h
 ·have G:(v.heard i).Ok:=⟨h.t,h.nodes,by simp[Vt.heard,h.pr],h.ac,h.had,h.best,h.len,by
   show v.n+1=_;rw[h.n];exact (count_set v.pr i (by rw[h.pr];exact hi) (by simpa using I)).symm,h.nn⟩
  rw[aB I]
  split
  ·exact G
  ·split
   ·exact⟨G.t,G.nodes,G.pr,G.ac,hh,hl,hn,G.n,G.nn⟩
   ·exact G
def Vt.told(v:Vt)(i n:Nat):Vt:={ v with ac:=v.ac.set i (max (v.ac.getD i 0) (n:Int)) }
def Vt.accepted(v:Vt)(i n:Nat):Int×Vt:=(most v.nodes (v.told i n).ac,v.told i n)
theorem Vt.Ok.told{v:Vt}(h:v.Ok)(i n:Nat):(v.told i n).Ok:=⟨h.t,h.nodes,h.pr,by simp[Vt.told,h.ac],h.had,h.best,h.len,h.n,λa ha=>by
 rcases List.mem_or_eq_of_mem_set ha with ha|rfl
 ·exact h.nn a ha
 ·omega⟩
theorem Ss{ac:aN}(h:∀a∈ac,0<=a):0<=most nodes ac:=by
 unfold most;rw[List.getD_eq_getElem?_getD];cases e:(pB (ac.take nodes))[(nodes-1) / 2]? with
 | none=>exact Int.le_refl _
 | some a=>exact h a (bW ((xq _).mem_iff.1 (List.mem_of_getElem? e)))
def Ms.zero:Ms:=⟨0,En.zero,0,0,0,0,0,[],0,0⟩
def fx(tag code:Int)(n:Nat):Ms:={ Ms.zero with k:=2,tag:=tag,code:=code,n:=n }
def jX(t:Nat):Ms:={ Ms.zero with k:=3,term:=t }
def i9(t h:Nat)(l:List En):Ms:={ Ms.zero with k:=4,term:=t,had:=h,log:=l }
def kR(t:Nat)(l:List En)(c:Nat):Ms:={ Ms.zero with k:=5,term:=t,log:=l,commit:=c }
def m8(t n:Nat):Ms:={ Ms.zero with k:=6,term:=t,len:=n }
structure Rp where
 (node nodes:Nat) (s:Vs) (m:j4) (commit:Nat) (v:Option Vt) (leads:Bool) (own:Nat)
abbrev Sends:=List (Int×Ms)
def Rp.down(x:Rp):Rp:={ x with leads:=false,v:=none }
def Rp.accepts(x:Rp):Sends:=tD x.node x.nodes (kR x.s.c.t x.s.c.es x.commit)
def Rp.apply(x:Rp)(abp:Nat):Rp×Sends:=({ x with m:=(CJ x.leads x.own ((x.s.c.es.take abp).drop x.commit) x.commit x.m []).1,commit:=max x.commit (min abp x.s.c.es.length) },(CJ x.leads x.own ((x.s.c.es.take abp).drop x.commit) x.commit x.m []).2.map Sd.fn)
def Rp.counted(x:Rp)(v:Vt)(i n:Nat):Rp×Sends:=Rp.apply { x with v:=some (v.told i n) } (v.accepted i n).1.toNat
def Rp.told(x:Rp)(v:Vt):Rp×Sends:=((x.counted v x.node x.s.c.es.length).1,(x.counted v x.node x.s.c.es.length).2++(x.counted v x.node x.s.c.es.length).1.accepts)
def Rp.won(x:Rp)(v:Vt):Rp×Sends:=
 match x.s.accept v.t v.best with
 | none=>(x.down,[])
 | some s=>Rp.told { x with s:=s,leads:=true,own:=s.c.es.length } v
def lM(t node nodes:Nat):Nat:=t+1+(node+nodes-(t+1) % nodes) % nodes
def Rp.lead(x:Rp):Rp×Sends:=
 if x.s.c.t > 1099511627776 then (x,[]) else
 match x.s.promise (lM x.s.c.t x.node x.nodes) with
 | none=>(x,[])
 | some s=>
   let r:=(Vt.new s.c.t x.nodes).promise x.node s.c.h s.c.es
   if r.1=true then Rp.won { x with s:=s,leads:=false,v:=some r.2 } r.2 else ({ x with s:=s,leads:=false,v:=some r.2 },tD x.node x.nodes (jX s.c.t))
def Rp.ask(x:Rp)(from_:Int)(e:En):Rp×Sends:=
 match x.leads,x.v with
 | true,some v=>
   if 128<=x.s.c.es.length∨¬ (0<=from_∧from_<8) then (x,[(from_,fx e.tg 7 0)]) else
   match x.s.accept v.t (x.s.c.es++[{ e with fr:=from_ }]) with
   | none=>(x,[(from_,fx e.tg 7 0)])
   | some s=>Rp.told { x with s:=s } v
 | _,_=>(x,[(from_,fx e.tg 6 0)])
def Rp.prepare(x:Rp)(from_:Int)(t:Nat):Rp×Sends:=
 match x.s.promise t with
 | none=>(x,[])
 | some s=>({ x with s:=s }.down,[(from_,i9 t s.c.h s.c.es)])
def Rp.accept(x:Rp)(from_:Int)(t:Nat)(l:List En)(commit:Nat):Rp×Sends:=
 match x.s.accept t l with
 | none=>(x,[])
 | some s=>
   let y:Rp:=if (x.v.any λv=>decide (v.t≠t))=true then { x with s:=s }.down else { x with s:=s }
   ((y.apply commit).1,[(from_,m8 t s.c.es.length)])
theorem mG(l b:aT):(room l b=true->i6 l b=0∧zg l b=l++frame b)∧(room l b=false->(i6 l b == 0)=false∧zg l b=l):=by unfold i6 zg room Bv R7 V.fits;by_cases I:b.length<=65536<;>by_cases G:l.length+(frame b).length<=1048576<;>simp[I,G]
def yf(x d n:Nat)(l b:aT)(r:Bool):dW:=if r=true then eC x d (n+1:Nat) (l++frame b) (l++frame b).length else eC x d n l l.length
theorem yf.framed(x d n:Nat)(l b:aT)(r:Bool):eu (yf x d n l b r):=by unfold yf;split<;>exact eC.framed _ _ _ _ _
theorem OC(w:X)(D:aV)(x d n:Nat)(l b:aT)(u:K)(hb:eM b u w)(hn:n<=1099511627776):Lw W D 183 #[x,u] [.o (eC x d n l l.length)] (λ(abl:Unit×Int)e=>e=b5 (J abl.2)∧(room l b=true->abl.2=0)∧(room l b=false->(abl.2 == 0)=false)) (λ_=>[.o (yf x d n l b (room l b))]) w:=by
 intro V hM hV;obtain⟨r1,r2⟩:=mG l b;have hS:=St.begin_ hM (λb hb=>(hV b hb).1) ⟨eC.framed _ _ _ _ _,trivial⟩;obtain⟨A,m,c,rfl,K8,_⟩:=hb;have hA:=hS.at_ 0 rfl (λ_=>eC.framed _ _ _ _ _) (D:=λ_=>False) (λ_ h=>h.elim) (Lw.turns (va w x d n l l.length A m c b K8 ap));obtain⟨abm,HT⟩:=az (yf x d n l b (room l b));rw[<-HT.out];rcases bC (room l b) with h|h
 ·obtain⟨hz,hr⟩:=r1 h
  clear r1 r2;rw[hz,aA rfl,hr] at hA;have HT:abm=eC x d (n+1:Nat) (l++frame b) (l++frame b).length:=by rw[HT.out,h];rfl
  rw[h];replace HT:=Q HT;clear hz hr h;go_in;go_wp2_with fail;refine hA.mono ?_;rintro e w1 ⟨_,rfl,ej⟩;go_wp2_with fail;refine (ej.at_ 0 rfl (λ_=>eC.framed _ _ _ _ _) (D:=λ_=>False) (λ_ h=>h.elim) (Lw.turns (um w1 x d ((n:Int)+1) (l++frame b) l.length))).mono ?_;rintro e w2 ⟨_,rfl,dV⟩;go_wp2;go_ret;obtain⟨k1,k2⟩:=dV.fin;exact⟨((),0),⟨rfl,λ_=>rfl,λh=>absurd h (by simp)⟩,by rw[HT.out];exact k1,k2⟩
 ·obtain⟨hz,hr⟩:=r2 h
  clear r1 r2;rw[aB (by simpa using hz),hr] at hA;have HT:abm=eC x d n l l.length:=by rw[HT.out,h];rfl
  rw[h];replace HT:=Q HT;obtain⟨abl,HE⟩:=az (i6 l b);rw[<-HE.out] at hz hA;clear hr h;go_in;go_wp2_with fail;refine hA.mono ?_;rintro e w1 ⟨_,rfl,ej⟩;go_wp2;go_ret;obtain⟨k1,k2⟩:=ej.fin;exact⟨((),abl),⟨rfl,λh=>absurd h (by simp),λ_=>hz⟩,by rw[HT.out];exact k1,k2⟩
def sf(s x d n:Nat)(l b:aT)(cs cs':aP)(r:Bool):List Bl:=[.c s 206 (if r=true then cs' else cs),.o (yf x d n l b r)]
theorem GV(w:X)(D:aV)(s x d:Nat)(t0 h0:Int)(sl0:K)(n:Nat)(bs:aT)(TE HA:Nat)(A:aU)(c:Nat)(q:List El)(K9:TE<=9223372036854775807)(hha:HA<=9223372036854775807)
 (hq:jO w D A q) (j6:∀b,D b->b<(w:Nat)) (gC:∀x∈q,x.e.Ok) (hn:q.length<=128) (y_:n<=1099511627776) (WB:aT) (hWB:WB=nC TE HA (q.map El.e)):Lw W D 117 #[s,aZ #[J TE,J HA,Z A q.length c]] [.c s 206 (lY t0 h0 sl0 x),.o (eC x d n bs bs.length)] (λ(_:Unit)e=>e=b5 (aY (room bs WB)))
  (λ_=>sf s x d n bs WB (lY t0 h0 sl0 x) (lY TE HA (Z A q.length c) x) (room bs WB)) w:=by
 obtain⟨F,HF⟩:=aE (sf s x d n bs WB (lY t0 h0 sl0 x) (lY TE HA (Z A q.length c) x) (room bs WB):List Bl)
 rw[<-HF]
 intro V hM hV
 have kV:∀x,D x->x<(w:Nat)∧¬ V x:=λx Y=>⟨j6 x Y,λh=>(hV x h).2 Y⟩
 have hS:=St.begin_ hM (λb hb=>(hV b hb).1) ⟨trivial,eC.framed _ _ _ _ _,trivial⟩
 have hwd:WB=enc TE++enc HA++enc q.length++r_ (q.map El.e):=by rw[hWB];unfold nC;rw[bj]
 replace hWB:=Q hWB
 have wT:IntKind.u64.wrap (TE:Int)=(TE:Int):=by rw[wrap_u64];omega
 have wH:IntKind.u64.wrap (HA:Int)=(HA:Int):=by rw[wrap_u64];omega
 have eT:=eE (n:=TE) ap
 have eH:=eE (n:=HA) ap
 obtain⟨y,wa,HY,lZ,hS⟩:=hS.new' #[J TE,J HA,Z A q.length c] 204
 go_in
 go_wp2_with fail
 rw[<-lZ.out,<-HY.out]
 have eW:=hS.grow (Grow.refl _).drew
 have oN:∀w1,Grow wa.drew w1->ec [.c y 204 #[J TE,J HA,Z A q.length c]] w1:=λw1 H=>(((eW.grow H).dO 2 rfl).dO 1 rfl).facts
 refine dJ rfl ?_
 have eA:=oN _ (Grow.refl _)
 refine gi (ec [.c y 204 #[J TE,J HA,Z A q.length c]]) 12 rfl ?_
 refine held 0 rfl eA (λw1 E R T=>by simp only[ec] at E;go_simp;exact T) ?_
 refine held 1 rfl eA (λw1 E R T=>by simp only[ec] at E;go_simp;exact T) ?_
 refine held 2 rfl eA (λw1 E R T=>by simp only[ec] at E;go_simp;exact T) ?_
 refine held 4 rfl eA (λw1 E R T=>by simp only[ec] at E;go_simp;exact T) ?_
 refine held 5 rfl eA (λw1 E R T=>by simp only[ec] at E;go_simp;exact T) ?_
 refine held 6 rfl eA (λw1 E R T=>by simp only[ec] at E;go_simp;exact T) ?_
 refine held 8 rfl eA (λw1 E R T=>by simp only[ec] at E;go_simp;exact T) ?_
 refine held 9 rfl eA (λw1 E R T=>by simp only[ec] at E;go_simp;exact T) ?_
 refine dY 3 rfl ?_
 go_wp2_with fail
 refine (ic _ _ [] TE (ve _) (by simp) ap).mono ?_
 rintro en u1 ⟨v9,rfl,eD,lU⟩
 rw[ch] at lU
 go_wp2_with fail
 refine⟨oN _ eD,?_⟩
 refine dY 7 rfl ?_
 go_wp2_with fail
 refine (ic u1 v9 _ HA lU ap ap).mono ?_
 rintro en u2 ⟨v13,rfl,fk,lA⟩
 replace fk:=eD.trans fk
 go_wp2_with fail
 refine⟨oN _ fk,?_⟩
 refine dY 10 rfl ?_
 go_wp2_with fail
 refine (xM u2 v13 _ D A c q lA (by rw[bd];omega) (fT.framed A q w u2 D hq λb hb=>(eW.grow fk).keep kV b hb) gC ap).mono ?_
 rintro en w1 ⟨v16,rfl,H,hE⟩
 replace H:=fk.trans H
 go_wp2_with fail
 refine⟨oN _ H,?_⟩
 refine held 11 rfl (oN _ H) (λw1 E=>aM) ?_
 refine eU ?_
 rw[<-hwd] at hE
 have ej:=eW.grow H
 clear oN eW hS eA eD fk lU lA
 have E:=ej.facts
 simp only[ec,lY] at E
 go_wp2_with fail
 refine (ej.at_ 2 rfl (λ_=>yf.framed _ _ _ _ _ _) (D:=λ_=>False) (λ_ h=>h.elim) (OC w1 _ x d n bs WB v16 hE y_)).mono ?_
 rintro e w2 ⟨⟨_,abl⟩,⟨rfl,g1,g2⟩,dV⟩
 have dV:St V w [.c y 204 #[J TE,J HA,Z A q.length c],.c s 206 #[J t0,J h0,sl0,x],.o (yf x d n bs WB (room bs WB))] w2:=dV
 clear E ej
 have E:=dV.facts
 simp only[ec] at E
 rcases bC (room bs WB) with hr|hr
 ·obtain rfl:abl=0:=g1 hr
  rw[hr] at dV HF
  replace HF:=Q HF
  clear g1 g2
  replace hr:=Q hr
  go_wp2_with (refine d_ dV 1 rfl 204 _ _ rfl 0 rfl [J TE,J HA,Z A q.length c] rfl (bf rfl) rfl aw (lY TE HA (Z A q.length c) x) rfl rfl ?_;clear dV E;intro w3 dX;refine stay ?_)
  refine dI ?_
  go_wp2
  go_ret
  obtain⟨k1,k2⟩:=(dX.dO 0 rfl).fin
  exact⟨(),by rw[hr.out];rfl,by rw[HF.out];exact k1,k2⟩
 ·have g2:=g2 hr
  rw[hr] at dV HF
  replace HF:=Q HF
  clear g1
  replace hr:=Q hr
  go_wp2
  go_ret
  obtain⟨k1,k2⟩:=(dV.dO 0 rfl).fin
  exact⟨(),by rw[hr.out];rfl,by rw[HF.out];exact k1,k2⟩
def ik(s x d:Nat)(y:Vs)(A:aU)(c:Nat)(q:List El):List Bl:=[.c s 206 (lY y.c.t y.c.h (Z A q.length c) x),.o (eC x d y.ws.length y.bs y.bs.length),.o (fT A q)]
abbrev qP(s x d:Nat)(y:Vs):dW:=gG s x d y.c.t y.c.h y.c.es y.ws.length y.bs
section
variable{w:X}{y:Vs}
theorem GX(h:St V w0 (.o (qP s x d y)::l) w):∃(A:aU)(c:Nat)(q:List El),(q.map El.e=y.c.es∧q.length<=c∧c<=dG)∧St V w0 (ik s x d y A c q++l) w:=by
 obtain⟨⟨⟨A,c,q⟩,I⟩,G⟩:=St.opn (κ:={ x:Option dA×Nat×List El // x.2.2.map El.e=y.c.es∧x.2.2.length<=x.2.1∧x.2.1<=dG }) (o:=λz=>[.o (fT z.1.1 z.1.2.2),.c s 206 (lY y.c.t y.c.h (Z z.1.1 z.1.2.2.length z.1.2.1) x),.o (eC x d y.ws.length y.bs y.bs.length)]) h λ_ hU=>by obtain⟨A,c,q,I,G,L,h4⟩:=hU;exact⟨⟨(A,c,q),I,G,L⟩,h4,fT.framed _ _,trivial,eC.framed _ _ _ _ _,trivial⟩
 exact⟨A,c,q,I,G.perm ((List.Perm.swap _ _ _).trans (List.Perm.cons _ (List.Perm.swap _ _ _)))⟩
theorem kJ{c:Nat}(h:St V w0 (ik s x d y A c q++l) w)(hq:q.map El.e=y.c.es∧q.length<=c∧c<=dG):St V w0 (.o (qP s x d y)::l) w:=St.cls (a:=[.o (fT A q),.c s 206 (lY y.c.t y.c.h (Z A q.length c) x),.o (eC x d y.ws.length y.bs y.bs.length)]) (h.perm (((List.Perm.cons _ (List.Perm.swap _ _ _)).trans (List.Perm.swap _ _ _)))) (gG.framed _ _ _ _ _ _ _ _) λU hU=>⟨A,c,q,hq.1,hq.2.1,hq.2.2,hU⟩
end
theorem Vs.Ok.n{y:Vs}(h:y.Ok):y.ws.length<=1099511627776:=by have:=Jn y.ws;have:=h.bs;unfold Vs.bs at this;omega
theorem uI{y:Vs}{z:Wo}(h:room y.bs z.B=true):y.keep z=some ⟨y.ws++[z]⟩:=by unfold Vs.keep;rw[aA h]
theorem uJ{y:Vs}{z:Wo}(h:room y.bs z.B=false):y.keep z=none:=by unfold Vs.keep;rw[aB (by rw[h];exact cB)]
theorem yg(w:X)(D:aV)(s x d:Nat)(y:Vs)(hy:y.Ok)(TE:Nat)(K9:TE<=9223372036854775807):Lw W D 57 #[s,J TE] [.o (qP s x d y)] (λ(_:Unit)e=>e=b5 (aY (y.promise TE).isSome)) (λ_=>[.o (qP s x d ((y.promise TE).getD y))]) w:=by
 obtain⟨R,HR⟩:=aE (y.promise TE);rw[<-HR];intro V hM hV;have hS:=St.begin_ hM (λb hb=>(hV b hb).1) ⟨gG.framed _ _ _ _ _ _ _ _,trivial⟩;obtain⟨A,c,q,hq,hS⟩:=GX hS;have fN:=hS;have hS:=hS.grow (Grow.refl _).drew;have E:=hS.facts;simp only[ik,cD,ch,ec,lY] at E;unfold Vs.promise at HR;by_cases ht:y.c.t<TE
 ·rw[aA ht] at HR
  have fj:=hy.c.len;rw[<-hq.1,bj] at fj;have gC:∀x∈q,x.e.Ok:=λx Y=>hy.c.es _ (by rw[<-hq.1];exact List.mem_map.2 ⟨x,Y,rfl⟩);have hCK:=St.D1 (a:=[.c s 206 (lY y.c.t y.c.h (Z A q.length c) x),.o (eC x d y.ws.length y.bs y.bs.length)]) (x := .o (fT A q)) (b:=[])
   (a':=λ_=>sf s x d y.ws.length y.bs (Wo.B ⟨TE,y.c.h,y.c.es⟩) (lY y.c.t y.c.h (Z A q.length c) x) (lY TE y.c.h (Z A q.length c) x) (room y.bs (Wo.B ⟨TE,y.c.h,y.c.es⟩))) hS (λ_=>⟨trivial,yf.framed _ _ _ _ _ _,trivial⟩) (λU hU jR=>GV w.drew U s x d y.c.t y.c.h (Z A q.length c) y.ws.length y.bs TE y.c.h A c q K9 hy.c.h hU jR gC fj hy.n (Wo.B ⟨TE,y.c.h,y.c.es⟩) (by rw[hq.1];rfl))
  go_in;go_wp2_with fail;go_still_tail 21,(by kernel_rfl);change wpList _ _ _ _ _ w.drew;go_wp2_with fail;refine hCK.mono ?_;rintro e w1 ⟨_,rfl,ej⟩;go_wp2_with fail;rcases bC (room y.bs (Wo.B ⟨TE,y.c.h,y.c.es⟩)) with hr|hr
  ·rw[uI hr] at HR
   subst HR;rw[hr] at ej ⊢;go_wp2;go_ret;obtain⟨r1,r2⟩:=(kJ (l:=[]) (y:=⟨y.ws++[⟨TE,y.c.h,y.c.es⟩]⟩) (s:=s) (x:=x) (d:=d) (A:=A) (c:=c) (q:=q) (by unfold ik;rw[Vs.m7];have e:(Vs.mk (y.ws++[⟨TE,y.c.h,y.c.es⟩])).bs=y.bs++frame (Wo.B ⟨TE,y.c.h,y.c.es⟩):=qh _ _;rw[e];rw[show (y.ws++[(⟨TE,y.c.h,y.c.es⟩:Wo)]).length=y.ws.length+1 by rw[bd,bv]];exact ej) (by rw[Vs.m7];exact hq)).fin
   first|exact⟨(),rfl,r1,r2⟩|exact⟨rfl,r1,r2⟩
  ·rw[uJ hr] at HR
   subst HR;rw[hr] at ej ⊢;go_wp2;go_ret;obtain⟨r1,r2⟩:=(kJ (l:=[]) (A:=A) (c:=c) (q:=q) ej hq).fin;first|exact⟨(),rfl,r1,r2⟩|exact⟨rfl,r1,r2⟩
 ·rw[aB ht] at HR
  go_in;go_wp2_with fail;have k0:∀w1,Grow w w1->w1.cell? ⟨s,0,none⟩=some (J y.c.t):=λw1 H=>(fN.grow H).facts.1.1 0;have kd:decide ((y.c.t:Int)<(TE:Int))=false:=aD ap;refine fh ?_;intro w1 H;have hS:=fN.grow H;clear k0 kd E;go_wp2;go_ret;subst HR;obtain⟨r1,r2⟩:=(kJ (l:=[]) hS hq).fin;first|exact⟨(),rfl,r1,r2⟩|exact⟨rfl,r1,r2⟩
theorem Sv{w:X}{y:Vs}{z:Wo}{A':aU}{c c':Nat}{q':List El}(hq:q.map El.e=y.c.es∧q.length<=c∧c<=dG)(My:q'.map El.e=z.es∧q'.length<=c'∧c'<=dG)
 (h:St V w0 (sf s x d y.ws.length y.bs z.B (lY y.c.t y.c.h (Z A q.length c) x) (lY z.t z.h (Z A' q'.length c') x) (room y.bs z.B) ++ .o (fT A' q')::.o (fT A q)::l) w):room y.bs z.B=(y.keep z).isSome∧St V w0 (.o (qP s x d ((y.keep z).getD y))::l) w:=by
 rcases bC (room y.bs z.B) with hr|hr
 ·rw[uI hr]
  refine⟨hr,?_⟩;rw[hr] at h;refine kJ (y:=⟨y.ws++[z]⟩) (A:=A') (c:=c') (q:=q') ?_ (by rw[Vs.m7];exact My);unfold ik;rw[Vs.m7,show (Vs.mk (y.ws++[z])).bs=y.bs++frame z.B from qh _ _,show (y.ws++[z]).length=y.ws.length+1 by rw[bd,bv]];exact h.dO 3 rfl
 ·rw[uJ hr]
  refine⟨hr,?_⟩;rw[hr] at h;exact kJ (A:=A) (c:=c) (q:=q) (h.dO 2 rfl) hq
theorem WJ{w:X}{y:Vs}{z:Wo}{c:Nat}(hz:z.es=y.c.es)(hq:q.map El.e=y.c.es∧q.length<=c∧c<=dG)
 (h:St V w0 (sf s x d y.ws.length y.bs z.B (lY y.c.t y.c.h (Z A q.length c) x) (lY z.t z.h (Z A q.length c) x) (room y.bs z.B) ++ .o (fT A q)::l) w):room y.bs z.B=(y.keep z).isSome∧St V w0 (.o (qP s x d ((y.keep z).getD y))::l) w:=by
 rcases bC (room y.bs z.B) with hr|hr
 ·rw[uI hr]
  refine⟨hr,?_⟩;rw[hr] at h;refine kJ (y:=⟨y.ws++[z]⟩) (A:=A) (c:=c) (q:=q) ?_ (by rw[Vs.m7,hz];exact hq);unfold ik;rw[Vs.m7,show (Vs.mk (y.ws++[z])).bs=y.bs++frame z.B from qh _ _,show (y.ws++[z]).length=y.ws.length+1 by rw[bd,bv]];exact h
 ·rw[uJ hr]
  refine⟨hr,?_⟩;rw[hr] at h;exact kJ (A:=A) (c:=c) (q:=q) h hq
theorem uK(w:X)(D:aV)(s x d:Nat)(y:Vs)(hy:y.Ok)(TE:Nat)(K9:TE<=9223372036854775807)(A9:aU)(c9:Nat)(q9:List El)(hq9:jO w D A9 q9)(j6:∀b,D b->b<(w:Nat))(a0d:∀x∈q9,x.e.Ok)(hn9:q9.length<=128):Lw W D 121 #[s,J TE,Z A9 q9.length c9] [.o (qP s x d y)] (λ(_:Unit)e=>e=b5 (aY (y.accept TE (q9.map El.e)).isSome)) (λ_=>[.o (qP s x d ((y.accept TE (q9.map El.e)).getD y))]) w:=by
 obtain⟨R,HR⟩:=aE (y.accept TE (q9.map El.e));rw[<-HR];intro V hM hV;have kV:∀x,D x->x<(w:Nat)∧¬ V x:=λx Y=>⟨j6 x Y,λh=>(hV x h).2 Y⟩;have hS:=St.begin_ hM (λb hb=>(hV b hb).1) ⟨gG.framed _ _ _ _ _ _ _ _,trivial⟩;obtain⟨A,c,q,hq,hS⟩:=GX hS;have E:=hS.facts;simp only[ik,cD,ch,ec,lY] at E;unfold Vs.accept at HR;obtain⟨m,HM⟩:=az (q9.length);rw[bj,<-HM.out] at HR;have a0e:m<=128:=by rw[HM.out];exact hn9
 have d3:decide ((m:Int) > 128)=false:=aD ap;have d3':decide ((128:Int)<(m:Int))=false:=aD ap;rw[<-HM.out];by_cases kh:TE<y.c.t∨TE<1
 ·rw[aA ap] at HR
  replace HR:=Q HR;have hX:decide (TE<y.c.t)=true∨(decide (TE<y.c.t)=false∧decide ((TE:Int)<1)=true):=by simp only[decide_eq_true_eq,decide_eq_false_iff_not];omega
  clear kh;rcases hX with I|⟨I,G⟩
  all_goals
   go_in
   go_wp2
   go_ret
   have HR:=HR.out
   subst HR
   obtain⟨r1,r2⟩:=(kJ (l:=[]) hS hq).fin
   first|exact⟨(),rfl,r1,r2⟩|exact⟨rfl,r1,r2⟩
 rw[aB ap] at HR;have d1:decide (TE<y.c.t)=false:=aD ap;have d2:decide ((TE:Int)<1)=false:=aD ap;replace HR:=Q HR;replace kh:=Q kh;go_in;go_wp2_with fail;clear E;go_loopw [29] (λi wr=>∃k:Nat,k<=m∧i=J k∧Grow w wr) (λi _=>m-(intOf i).toNat);case atStart=>exact⟨0,by omega,rfl,Grow.refl _⟩
 case round=>
  obtain⟨k,oL,rfl,gP⟩:=hrel;by_cases N:k<m
  ·have ip:k<q9.length:=by have:=HM.out;omega
   have Iy:=hq9.grow gP;obtain⟨ad,vo,rfl,hVk,S3,e0,e1⟩:=Iy.1.mr ap pf ip;have jE:=Iy.2 _ (bF vo);have re:=a0d _ (bF vo);generalize q9[k]=b at jE e0 e1 re;have m6:=λw1(eD:Grow wr w1)=>ju w1 b.e D b.A b.c re (In.grow jE.1 eD);obtain⟨⟨bk,ag,sh,sq,ep,ds,se,fr,tg⟩,Ab,cb⟩:=b;dsimp only[El.cells,En.agg] at e0 e1 m6;have e1:=e1 0 _ rfl;have e0:=e0 _ rfl;have fu:=dT wr (.cells #[J bk,J ag,J sh,J sq,J ep,Z Ab ds.length cb,aX se,J fr,J tg] 40);have m6:=m6 _ fu;clear jE re Iy;go_wp2_with fail;refine m6.mono ?_;rintro e w2 ⟨rfl,fk⟩;go_wp2_with fail;exact⟨⟨k+1,by omega,by go_num,gP.trans (fu.trans fk)⟩,by simp[intOf];omega⟩
  ·obtain rfl:k=m:=by omega
   have ej:=(hS.grow gP).grow (Grow.refl _).drew;have oN:∀w1,Grow wr.drew w1->ec (ik s x d y A c q) w1:=λw1 H=>(ej.grow H).facts;go_wp2_with fail;refine dJ rfl ?_;have eA:=oN _ (Grow.refl _);refine gi (ec (ik s x d y A c q)) 14 rfl ?_;refine held 0 rfl eA (λw1 E R T=>by simp only[ik,ec,lY] at E;go_simp;exact T) ?_;refine held 1 rfl eA (λw1 E R T=>by simp only[ik,ec,lY] at E;go_simp;exact T) ?_;refine held 2 rfl eA (λw1 E R T=>by simp only[ik,ec,lY] at E;go_simp;exact T) ?_;refine held 3 rfl eA (λw1 E R T=>by simp only[ik,ec,lY] at E;go_simp;exact T) ?_;refine held 4 rfl eA (λw1 E R T=>by simp only[ik,ec,lY] at E;go_simp;exact T) ?_;refine held 5 rfl eA (λw1 E R T=>by simp only[ik,ec,lY] at E;go_simp;exact T) ?_;refine held 6 rfl eA (λw1 E R T=>by simp only[ik,ec,lY] at E;go_simp;exact T) ?_;refine held 7 rfl eA (λw1 E R T=>by simp only[ik,ec,lY] at E;go_simp;exact T) ?_;refine held 8 rfl eA (λw1 E R T=>by simp only[ik,ec,lY] at E;go_simp;exact T) ?_;refine held 9 rfl eA (λw1 E R T=>by simp only[ik,ec,lY] at E;go_simp;exact T) ?_;refine held 10 rfl eA (λw1 E R T=>by simp only[ik,ec,lY] at E;go_simp;exact T) ?_;refine held 11 rfl eA (λw1 E R T=>by simp only[ik,ec,lY] at E;go_simp;exact T) ?_;refine dY 12 rfl ?_;obtain⟨z,wb,HZ,HB,dV⟩:=(hS.grow gP).new' aL 204;go_wp2_with fail;rw[<-HB.out,<-HZ.out];have dV:=dV.grow (Grow.refl _).drew;refine⟨(dV.dO 0 rfl).facts,?_⟩;refine dY 13 rfl ?_;clear oN ej eA;refine d_ dV 0 rfl 204 _ _ rfl 0 rfl [J TE,J y.c.h,Z A q.length c] rfl (bf rfl) rfl aw #[J TE,J y.c.h,Z A q.length c] rfl rfl ?_;clear dV;intro w3 dX;refine wpList_nil ?_;refine⟨(dX.dO 0 rfl).facts,?_⟩;refine eU ?_;have dX:St V w [.c z 204 #[J TE,J y.c.h,Z A q.length c],.c s 206 (lY y.c.t y.c.h (Z A q.length c) x),.o (eC x d y.ws.length y.bs y.bs.length),.o (fT A q)] w3:=dX;have wK:q.length=y.c.es.length:=by rw[<-hq.1,bj]
   have fj:q.length<=128:=by rw[wK];exact hy.c.len
   have gC:∀x∈q,x.e.Ok:=λx Y=>hy.c.es _ (by rw[<-hq.1];exact List.mem_map.2 ⟨x,Y,rfl⟩);clear N gP;have hC:=mQ w3 D A9 c9 q9 (fT.framed A9 q9 w w3 D hq9 λb hb=>dX.keep kV b hb) ap;have E:=dX.facts;simp only[ec,lY] at E;by_cases yT:y.c.h<TE∨y.c.es.length<k
   ·have HR:=HR.out
    rw[aB (by intro h;exact h.1 yT),show y.next TE (q9.map El.e)=⟨TE,TE,q9.map El.e⟩ by unfold Vs.next;rw[bj,<-HM.out,aA yT]] at HR;replace HR:=Q HR;have hX:decide (y.c.h<TE)=true∨(decide (y.c.h<TE)=false∧decide (q.length<k)=true):=by simp only[decide_eq_true_eq,decide_eq_false_iff_not];omega
    replace wK:=Q wK;clear yT;rw[<-HM.out] at hC;rcases hX with I|⟨I,G⟩
    all_goals
     go_wp2_with fail
     refine hC.mono ?_
     rintro e w4 ⟨u,rfl,⟨A1,c1,q1,rfl,Md,o3,zn,zG⟩,-,Bi⟩
     have eO:=dX.join (fT.framed A1 q1) Bi (U:=New w3 w4) Md (λb hb=>hb)
     have WK:q1.length=k:=by rw[<-bj (f:=El.e),o3,bj,HM.out]
     have a6r:∀x∈q1,x.e.Ok:=λx Y=>by
      have L:x.e∈q9.map El.e:=by rw[<-o3];exact List.mem_map.2 ⟨x,Y,rfl⟩
      obtain⟨x',hx',e'⟩:=List.mem_map.1 L;rw[<-e'];exact a0d x' hx'
     replace WK:=Q WK
     clear E dX
     go_wp2_with (refine fv eO 1 rfl 2 _ _ rfl 1 rfl (J TE) rfl (bf rfl) rfl aw rfl ?_;clear eO;intro w5 eF;refine stay ?_)
     refine dI ?_
     go_wp2_with (refine fv eF 1 rfl 43 _ _ rfl 2 rfl (Z A1 q1.length c1) rfl (bf rfl) rfl aw rfl ?_;clear eF;intro w6 eN;refine stay ?_)
     refine dI ?_
     simp only[bY,bz,bA] at eN
     have E:=eN.facts
     simp only[ec,lY] at E
     go_wp2_with fail
     have fH:=(eN.dO 1 rfl).perm ((List.Perm.swap _ _ _).trans (List.Perm.cons _ (List.Perm.swap _ _ _)))
     have hCK:=St.D1 (a:=[.c s 206 (lY y.c.t y.c.h (Z A q.length c) x),.o (eC x d y.ws.length y.bs y.bs.length)]) (x := .o (fT A1 q1)) (b:=[.o (fT A q)])
      (a':=λ_=>sf s x d y.ws.length y.bs (Wo.B ⟨TE,TE,q9.map El.e⟩) (lY y.c.t y.c.h (Z A q.length c) x) (lY TE TE (Z A1 q1.length c1) x) (room y.bs (Wo.B ⟨TE,TE,q9.map El.e⟩))) fH (λ_=>⟨trivial,yf.framed _ _ _ _ _ _,trivial⟩) (λU hU jR=>GV w6 U s x d y.c.t y.c.h (Z A q.length c) y.ws.length y.bs TE TE A1 c1 q1 K9 K9 hU jR a6r (by rw[WK.out];exact a0e) hy.n (Wo.B ⟨TE,TE,q9.map El.e⟩) (by rw[o3];rfl))
     refine hCK.mono ?_
     rintro e w8 ⟨_,rfl,fD⟩
     obtain⟨hr,gy⟩:=Sv (z:=⟨TE,TE,q9.map El.e⟩) hq ⟨o3,zn,zG⟩ fD
     rw[hr]
     obtain⟨b,Hb⟩:=az ((y.keep ⟨TE,TE,q9.map El.e⟩).isSome)
     rw[<-Hb.out]
     clear E
     go_wp2
     go_ret
     have HR:=HR.out
     rw[HR]
     obtain⟨r1,r2⟩:=gy.fin
     first|exact⟨(),by rw[Hb.out];rfl,r1,r2⟩|exact⟨by rw[Hb.out];rfl,r1,r2⟩
   ·have I:decide (y.c.h<TE)=false:=aD ap
    have G:decide (q.length<k)=false:=aD ap;have Fy:y.next TE (q9.map El.e)=⟨TE,y.c.h,y.c.es⟩:=by unfold Vs.next;rw[bj,<-HM.out,aB yT]
    rw[Fy] at HR;clear hC Fy;replace wK:=Q wK;replace yT:=Q yT;by_cases ht:TE=y.c.t
    ·have L:((TE:Int) == (y.c.t:Int))=true:=by rw[ht];simp
     have HR:=HR.out;rw[aA ⟨yT.out,ht⟩] at HR;replace HR:=Q HR;replace ht:=Q ht;go_wp2;go_ret;have HR:=HR.out;rw[HR];obtain⟨r1,r2⟩:=(kJ (l:=[]) (dX.dO 0 rfl) hq).fin;first|exact⟨(),rfl,r1,r2⟩|exact⟨rfl,r1,r2⟩
    ·have L:((TE:Int) == (y.c.t:Int))=false:=by simp;omega
     have HR:=HR.out;rw[aB (by intro h;exact ht h.2)] at HR;replace HR:=Q HR;replace ht:=Q ht;go_wp2_with fail;have hCK:=St.D1 (a:=[.c s 206 (lY y.c.t y.c.h (Z A q.length c) x),.o (eC x d y.ws.length y.bs y.bs.length)]) (x := .o (fT A q)) (b:=[])
      (a':=λ_=>sf s x d y.ws.length y.bs (Wo.B ⟨TE,y.c.h,y.c.es⟩) (lY y.c.t y.c.h (Z A q.length c) x) (lY TE y.c.h (Z A q.length c) x) (room y.bs (Wo.B ⟨TE,y.c.h,y.c.es⟩))) (dX.dO 0 rfl) (λ_=>⟨trivial,yf.framed _ _ _ _ _ _,trivial⟩) (λU hU jR=>GV w3 U s x d y.c.t y.c.h (Z A q.length c) y.ws.length y.bs TE y.c.h A c q K9 hy.c.h hU jR gC fj hy.n (Wo.B ⟨TE,y.c.h,y.c.es⟩) (by rw[hq.1];rfl))
     refine hCK.mono ?_;rintro e w8 ⟨_,rfl,fD⟩;obtain⟨hr,gy⟩:=WJ (z:=⟨TE,y.c.h,y.c.es⟩) rfl hq fD;rw[hr];obtain⟨b,Hb⟩:=az ((y.keep ⟨TE,y.c.h,y.c.es⟩).isSome);rw[<-Hb.out];clear E;go_wp2;go_ret;have HR:=HR.out;rw[HR];obtain⟨r1,r2⟩:=gy.fin;first|exact⟨(),by rw[Hb.out];rfl,r1,r2⟩|exact⟨by rw[Hb.out];rfl,r1,r2⟩
def C8(g:Nat)(v:Vt)(A:aU)(c:Nat)(q:List El):List Bl:=[.c g 213 (nX v.t v.nodes v.pr v.ac v.had (Z A q.length c) v.n),.o (fT A q)]
def fJ(g:Nat)(v:Vt):dW:=λw V=>∃(A:aU)(c:Nat)(q:List El),(q.map El.e=v.best∧q.length<=c∧c<=dG)∧dN (px (C8 g v A c q)) w V
theorem AQ(g:Nat)(v:Vt)(A:aU)(c:Nat)(q:List El):pF (C8 g v A c q):=⟨trivial,fT.framed _ _,trivial⟩
theorem fJ.framed(g:Nat)(v:Vt):eu (fJ g v):=λw O V ⟨A,c,q,I,G⟩ N=>⟨A,c,q,I,dN.framed _ (fP (AQ g v A c q)) w O V G N⟩
section
variable{w:X}{g:Nat}{v:Vt}
theorem yh(h:St V w0 (.o (fJ g v)::l) w):∃(A:aU)(c:Nat)(q:List El),(q.map El.e=v.best∧q.length<=c∧c<=dG)∧St V w0 (.c g 213 (nX v.t v.nodes v.pr v.ac v.had (Z A q.length c) v.n)::.o (fT A q)::l) w:=by
 obtain⟨⟨⟨A,c,q⟩,I⟩,G⟩:=St.opn (κ:={ x:Option dA×Nat×List El // x.2.2.map El.e=v.best∧x.2.2.length<=x.2.1∧x.2.1<=dG }) (o:=λx=>C8 g v x.1.1 x.1.2.1 x.1.2.2) h λ_ hU=>by obtain⟨A,c,q,I,G⟩:=hU;exact⟨⟨(A,c,q),I⟩,G,AQ _ _ _ _ _⟩
 exact⟨A,c,q,I,G⟩
theorem nE{c:Nat}(h:St V w0 (.c g 213 (nX v.t v.nodes v.pr v.ac v.had (Z A q.length c) v.n)::.o (fT A q)::l) w)(hq:q.map El.e=v.best∧q.length<=c∧c<=dG):St V w0 (.o (fJ g v)::l) w:=St.cls (a:=C8 g v A c q) h (fJ.framed g v) λU hU=>⟨A,c,q,hq,hU⟩
theorem WL{best:K}(h:St V w0 l w)(i:Nat)(hv:v.Ok)(hi:l[i]?=some (.c g 213 (nX v.t v.nodes v.pr v.ac v.had best v.n))):vb w g v.t v.nodes v.pr v.ac v.had best v.n:=⟨h.blk i hi,hv.pr,hv.ac⟩
end
theorem yi(w:X)(D:aV)(g:Nat)(v:Vt)(hv:v.Ok)(i had:Nat)(hi:i<v.nodes)(A:aU)(c:Nat)(q:List El)(hq:jO w D A q)(ig:q.length<=128)(OD:had<=9223372036854775807)(j6:∀b,D b->b<(w:Nat))(vv:∀x∈q,x.e.Ok):Lw W D 60 #[g,J i,J had,Z A q.length c] [.o (fJ g v)] (λ(_:Unit)e=>e=b5 (aY (v.promise i had (q.map El.e)).1)) (λ_=>[.o (fJ g (v.promise i had (q.map El.e)).2)]) w:=by
 obtain⟨R,HR⟩:=az (v.promise i had (q.map El.e));have gC:R.2.Ok:=by rw[HR.out];exact hv.promise (by have:=hv.nodes;omega) OD (λe he=>by obtain⟨x,Y,rfl⟩:=List.mem_map.1 he;exact vv x Y) (by rw[bj];exact ig)
 rw[<-HR.out];intro V hM hV;obtain⟨oK,Ux⟩:=hv.nodes;have a0f:=hv.few;have Yw:i<8:=by omega
 have a4g:(i:Int)<8:=by omega
 have kV:∀x,D x->x<(w:Nat)∧¬ V x:=λx Y=>⟨j6 x Y,λh=>(hV x h).2 Y⟩;have hS:=St.begin_ hM (λb hb=>(hV b hb).1) ⟨fJ.framed _ _,trivial⟩;obtain⟨A0,c0,q0,yU,hS⟩:=yh hS;have hB:=WL hS 0 hv rfl;have ci:=hB.cp Yw;have hN:=Af hB i hi;have hW:=BQ hB a0f;go_in;go_wp2_with fail;refine hN.mono ?_;rintro e w1 ⟨rfl,rfl⟩;rcases bC (v.pr.getD i false) with hp|hp
 ·have T:R=(false,v):=by rw[HR.out];unfold Vt.promise;rw[aA hp]
  rw[hp] at ci;go_wp2;go_ret;subst T;obtain⟨r1,r2⟩:=(nE hS yU).fin;exact⟨(),rfl,r1,r2⟩
 rw[hp] at ci;have T:R=if v.won=true then (false,v.heard i) else if v.counts had (q.map El.e)=true then ((v.heard i).won,{ v.heard i with had:=had,best:=q.map El.e }) else ((v.heard i).won,v.heard i):=by rw[HR.out];unfold Vt.promise;rw[aB (by rw[hp];exact cB)]
 clear HR;replace T:=Q T;go_wp2_with fail;refine hW.mono ?_;rintro e w1 ⟨rfl,eD⟩;have ej:=hS.grow eD;clear ci hN hW hB hM;have hh:(v.pr.set i true).length=8:=by rw[dh];exact hv.pr
 have z6:2+i<(nX v.t v.nodes v.pr v.ac v.had (Z A0 q0.length c0) v.n).size:=by rw[sY hv.pr hv.ac];omega
 have sC:IntKind.i64.wrap ((v.n:Int)+1)=(v.n:Int)+1:=by rw[IntKind.wrap_i64];omega
 go_wp2_with (refine fv ej 0 rfl 4 _ _ rfl (2+i) rfl (aY true) rfl z6 rfl aw rfl ?_;intro wa mh;refine stay ?_);refine dI ?_;simp only[bA,W0 hv.pr Yw] at mh;have c20:=(show vb _ g v.t v.nodes (v.pr.set i true) v.ac v.had (Z A0 q0.length c0) v.n from ⟨mh.blk 0 rfl,hh,hv.ac⟩).c20;have Mb:20<(nX v.t v.nodes (v.pr.set i true) v.ac v.had (Z A0 q0.length c0) v.n).size:=by rw[sY hh hv.ac];omega
 go_wp2_with (refine fv mh 0 rfl 3 _ _ rfl 20 rfl (J ((v.n+1:Nat):Int)) rfl Mb rfl aw rfl ?_;intro w2 dX;refine stay ?_);refine dI ?_;simp only[bA,RN hh hv.ac] at dX;clear mh c20 Mb z6;have rK:(v.heard i).Ok:=⟨hv.t,hv.nodes,hh,hv.ac,hv.had,hv.best,hv.len,by show v.n+1=_;rw[hv.n];exact (count_set v.pr i (by rw[hv.pr];exact Yw) hp).symm,hv.nn⟩
 have dX:St V w [.c g 213 (nX (v.heard i).t (v.heard i).nodes (v.heard i).pr (v.heard i).ac (v.heard i).had (Z A0 q0.length c0) (v.heard i).n),.o (fT A0 q0)] w2:=dX;rcases bC (decide (v.nodes<2*v.n)) with hw|hw
 ·have T:R=(false,v.heard i):=by rw[T.out,aA (show v.won=true from hw)]
  rw[hw];go_wp2;go_ret;subst T;obtain⟨r1,r2⟩:=(nE dX yU).fin;exact⟨(),rfl,r1,r2⟩
 have F9:=WL dX 0 rK rfl;have k18:=F9.c18;have k19:=F9.c19;have k20:=F9.c20;rw[hw];have a4S:v.won=false:=hw;have T:=T.out;rw[a4S,aB cB] at T;have e1:(v.heard i).n=v.n+1:=rfl;have e2:(v.heard i).had=v.had:=rfl;have e3:q0.length=v.best.length:=by rw[<-yU.1,bj]
 have hC:=mQ w2 D A c q (fT.framed A q w w2 D hq λb hb=>dX.keep kV b hb) ap;by_cases Fh:v.counts had (q.map El.e)=true
 ·rw[aA Fh] at T
  have hX:(((((v.heard i).n:Nat):Int) == 1)=true)∨((((((v.heard i).n:Nat):Int) == 1)=false)∧decide ((v.heard i).had<had)=true)∨((((((v.heard i).n:Nat):Int) == 1)=false)∧decide ((v.heard i).had<had)=false∧(((had:Nat):Int) == (((v.heard i).had:Nat):Int))=true∧decide (q0.length<q.length)=true):=by unfold Vt.counts at Fh;simp only[Bool.or_eq_true,bU,decide_eq_true_eq,bj] at Fh;simp only[beq_iff_eq,beq_eq_false_iff_ne,decide_eq_true_eq,decide_eq_false_iff_not,e1,e2,e3];omega
  clear Fh;have hX:=hX;rcases hX with I|⟨I,G⟩|⟨I,G,L,h4⟩
  all_goals clear e1 e2 e3
  all_goals go_wp2_with fail
  all_goals
   refine hC.mono ?_
   rintro e w3 ⟨u,rfl,⟨A1,c1,q1,rfl,Md,o3,zn,zG⟩,-,ib⟩
   have eO:=dX.join (fT.framed A1 q1) ib (U:=New w2 w3) Md (λb hb=>hb)
   clear hX hC k18 k19 k20
   go_wp2_with (refine fv eO 1 rfl 2 _ _ rfl 18 rfl (J had) rfl (by rw[sY rK.pr rK.ac];omega) rfl aw rfl ?_;intro wa mh;refine stay ?_)
   refine dI ?_
   simp only[bz,bA,RJ rK.pr rK.ac] at mh
   go_wp2_with (refine fv mh 1 rfl 43 _ _ rfl 19 rfl (Z A1 q1.length c1) rfl (by rw[sY rK.pr rK.ac];omega) rfl aw rfl ?_;intro wb yV;refine stay ?_)
   refine dI ?_
   simp only[bz,bA,RL rK.pr rK.ac] at yV
   have yV:=(yV.front 1 rfl).dO 2 rfl
   have yV:St V w [.c g 213 (nX R.2.t R.2.nodes R.2.pr R.2.ac R.2.had (Z A1 q1.length c1) R.2.n),.o (fT A1 q1)] wb:=by rw[T];exact yV
   have hv3:R.2.Ok:=gC
   have hW:=BQ (WL yV 0 hv3 rfl) hv3.few
   go_wp2_with fail
   refine hW.mono ?_
   rintro e w6 ⟨rfl,tW⟩
   go_wp2
   go_ret
   obtain⟨r1,r2⟩:=(nE (yV.grow tW) ⟨by rw[o3,T],zn,zG⟩).fin
   exact⟨(),by rw[T];rfl,r1,r2⟩
 ·rw[aB Fh] at T
  have hX:((((v.heard i).n:Nat):Int) == 1)=false∧decide ((v.heard i).had<had)=false∧((((had:Nat):Int) == (((v.heard i).had:Nat):Int))=false∨((((had:Nat):Int) == (((v.heard i).had:Nat):Int))=true∧decide (q0.length<q.length)=false)):=by unfold Vt.counts at Fh;simp only[Bool.or_eq_true,bU,decide_eq_true_eq,bj] at Fh;simp only[beq_iff_eq,beq_eq_false_iff_ne,decide_eq_false_iff_not,e1,e2,e3];omega
  clear Fh;obtain⟨I,G,hX⟩:=hX;rcases hX with L|⟨L,h4⟩
  all_goals clear e1 e2 e3
  all_goals go_wp2_with fail
  all_goals
   refine (BQ F9 rK.few).mono ?_
   rintro e w6 ⟨rfl,tW⟩
   go_wp2
   go_ret
   subst T
   obtain⟨r1,r2⟩:=(nE (dX.grow tW) yU).fin
   exact⟨(),rfl,r1,r2⟩
theorem Ee(t:Nat){node:Nat}(I:node<nodes)(h8:nodes<=8):lM t node nodes % nodes=node∧t<lM t node nodes∧lM t node nodes<=t+nodes∧∀k,t<k->k<lM t node nodes->k % nodes≠node:=by
 unfold lM;have h:nodes=1∨nodes=2∨nodes=3∨nodes=4∨nodes=5∨nodes=6∨nodes=7∨nodes=8:=by omega
 rcases h with rfl|rfl|rfl|rfl|rfl|rfl|rfl|rfl
 all_goals refine⟨by omega,by omega,by omega,λk G L=>by omega⟩
theorem Sw(w:X)(t node nodes:Nat)(I:node<nodes)(h8:nodes<=8)(ht:t<=1099511627776):dz W 55 #[J t,J node,J nodes] w λe O=>e=b5 (J (lM t node nodes:Nat))∧w=O:=by
 obtain⟨f1,f2,f3,f4⟩:=Ee t I h8;obtain⟨abm,HT⟩:=az (lM t node nodes);rw[<-HT.out] at f1 f2 f3 f4 ⊢;have d1:decide ((nodes:Int) >= 1)=true:=aC ap;have d2:decide ((nodes:Int)<=8)=true:=aC ap;have hr:dz W 116 #[J nodes] w λe O=>e=b5 (aY true)∧w=O:=by go_in;go_wp2;go_ret;trivial
 have d3:decide ((node:Int)<0)=false:=aD ap;have d4:decide (nodes<=node)=false:=aD ap;have d5:decide ((t:Int)<0)=false:=aD ap;have d6:decide ((1099511627776:Int)<(t:Int))=false:=aD ap;have hw:IntKind.i64.wrap ((t:Int)+1)=((t+1:Nat):Int):=by rw[IntKind.wrap_i64];omega
 go_in;go_wp2_with fail;refine hr.mono ?_;rintro e w1 ⟨rfl,rfl⟩;go_wp2_with fail;go_loopw [7] (λu wr=>∃k:Nat,u=J k∧t<k∧k<=abm∧w=wr) (λu _=>abm-(intOf u).toNat);case atStart=>exact⟨t+1,rfl,by omega,by omega,rfl⟩
 case round=>
  obtain⟨k,rfl,iP,ip,rfl⟩:=hrel;have hm:(k:Int) % (nodes:Int)=((k % nodes:Nat):Int):=by simp
  by_cases N:k=abm
  ·subst N
   have dk:((k:Int) % (nodes:Int) != (node:Int))=false:=by rw[hm,f1];simp
   clear hm;go_wp2;go_ret;exact⟨rfl,rfl⟩
  ·have dk:((k:Int) % (nodes:Int) != (node:Int))=true:=by
    have:=f4 k iP ap;rw[hm];simp;omega
   clear hm
   have sC:IntKind.i64.wrap ((k:Int)+1)=((k+1:Nat):Int):=by rw[IntKind.wrap_i64];omega
   go_wp2_with fail
   exact⟨⟨k+1,rfl,by omega,by omega,trivial⟩,by simp only[intOf];omega⟩
theorem Sx(w:X)(D:aV)(g:Nat)(v:Vt)(hv:v.Ok):Lw W D 120 #[g] [.o (fJ g v)] (λ(x:Option dA×Nat×List El)e=>e=b5 (Z x.1 x.2.2.length x.2.1)∧x.2.2.map El.e=v.best∧x.2.2.length<=x.2.1∧x.2.1<=dG) (λx=>[.o (fT x.1 x.2.2),.o (fJ g v)]) w:=by intro V hM hV;have hS:=St.begin_ hM (λb hb=>(hV b hb).1) ⟨fJ.framed _ _,trivial⟩;obtain⟨A0,c0,q0,yU,hS⟩:=yh hS;have hB:=WL hS 0 hv rfl;have c19:=hB.c19;obtain⟨U,hE,_⟩:=hS.own.see 1 rfl;have hC:=mQ w U A0 c0 q0 hE (by have:=hv.len;rw[<-yU.1,bj] at this;omega);go_in;go_wp2_with fail;refine hC.mono ?_;rintro e w3 ⟨u,rfl,⟨A1,c1,q1,rfl,Md,o3,zn,zG⟩,-,ib⟩;go_wp2;go_ret;have eO:=nE (((hS.join (fT.framed A1 q1) ib (U:=New w w3) Md (λb hb=>hb)).front 1 rfl).perm (List.Perm.cons _ (List.Perm.swap _ _ _))) yU;obtain⟨r1,r2⟩:=(eO.front 1 rfl).fin;exact⟨(A1,c1,q1),⟨rfl,o3.trans yU.1,zn,zG⟩,r1,r2⟩
def jH(g:Nat):Option Vt->K
 | none => .pointer none
 | some _ => .pointer (some ⟨g,0,none⟩)
def WM(g:Nat):Option Vt->List Bl
 | none=>[]
 | some v=>[.o (fJ g v)]
theorem OE(g:Nat):∀v,pF (WM g v)
 | none=>trivial
 | some _=>⟨fJ.framed _ _,trivial⟩
def dP(p:pj)(g:Nat)(x:Rp):List Bl := .c p.r 118 (iu p x.node x.nodes x.commit (jH g x.v) x.leads x.own)::.o (gR p.m x.m)::.o (qP p.s p.x p.d x.s)::WM g x.v
theorem eL(p:pj)(g:Nat)(x:Rp):pF (dP p g x):=⟨trivial,gR.framed _ _,gG.framed _ _ _ _ _ _ _ _,OE _ _⟩
structure Rp.Ok(x:Rp):Prop where
 s:x.s.Ok
 m:AL (8*x.commit) x.m
 v:∀v,x.v=some v->v.Ok∧v.nodes=x.nodes
 node:x.node<x.nodes∧x.nodes<=8
 commit:x.commit<=128
 lv:x.leads=true->∃v,x.v=some v
theorem fz{n:Nat}(i:Nat)(hS:S w)(h:wpAnyH P .any ops abo S n (abn.setIfInBounds i true) a' w)
 (hi:ops[i]?=some o:=by rfl) (hy:∀w,S w->∀(R:Value->Act->Prop),R v a'->ze R a o w ((execOp a.eval o).run P w):=by intro w1 E R T;obtain⟨⟨kM,lV⟩,sy,q_,C9,kU⟩:=E;go_simp;exact T)
 (hs:Region.noSelect ops=true:=by kernel_rfl) (hf:Region.free .any ops abn i=true:=by kernel_rfl) (hr:(Region.ready .any ops abn).contains i=true:=by kernel_rfl)
 (hQ:∀c a w,abo (.panic c) (a.put o.dst v) w->abo (.panic c) a w:=by exact λ_ _ _ h=>h) (hw:Region.wanted o (yielded ops a.tmps)=true:=by kernel_rfl):wpAnyH P .any ops abo S (n+1) abn a w:=held i hi hS hy h hs hf hr hQ hw
theorem gL{n:Nat}(i:Nat)(hS:S w)(h:wpAnyH P .any ops abo S n (abn.setIfInBounds i true) a' w)
 (hi:ops[i]?=some o:=by rfl) (hy:∀w,S w->∀(R:Value->Act->Prop),R v a'->ze R a o w ((execOp a.eval o).run P w):=by intro w1 E R T;obtain⟨⟨kM,lV⟩,sy,q_⟩:=E;go_simp;exact T)
 (hs:Region.noSelect ops=true:=by kernel_rfl) (hf:Region.free .any ops abn i=true:=by kernel_rfl) (hr:(Region.ready .any ops abn).contains i=true:=by kernel_rfl)
 (hQ:∀c a w,abo (.panic c) (a.put o.dst v) w->abo (.panic c) a w:=by exact λ_ _ _ h=>h) (hw:Region.wanted o (yielded ops a.tmps)=true:=by kernel_rfl):wpAnyH P .any ops abo S (n+1) abn a w:=held i hi hS hy h hs hf hr hQ hw
theorem f9{n:Nat}(i:Nat)(hS:S w)(h:wpAnyH P .any ops abo S n (abn.setIfInBounds i true) a' w)
 (hi:ops[i]?=some o:=by rfl) (hy:∀w,S w->∀(R:Value->Act->Prop),R v a'->ze R a o w ((execOp a.eval o).run P w):=by intro w1 E R T;obtain⟨kM,lV,sy,q_,C9⟩:=E;go_simp;exact T)
 (hs:Region.noSelect ops=true:=by kernel_rfl) (hf:Region.free .any ops abn i=true:=by kernel_rfl) (hr:(Region.ready .any ops abn).contains i=true:=by kernel_rfl)
 (hQ:∀c a w,abo (.panic c) (a.put o.dst v) w->abo (.panic c) a w:=by exact λ_ _ _ h=>h) (hw:Region.wanted o (yielded ops a.tmps)=true:=by kernel_rfl):wpAnyH P .any ops abo S (n+1) abn a w:=held i hi hS hy h hs hf hr hQ hw
theorem gw{n:Nat}(i:Nat)(hS:S w)(h:wpAnyH P .any ops abo S n (abn.setIfInBounds i true) a' w)
 (hi:ops[i]?=some o:=by rfl) (hy:∀w,S w->∀(R:Value->Act->Prop),R v a'->ze R a o w ((execOp a.eval o).run P w):=by intro w1 E R T;obtain⟨kM,lV⟩:=E;go_simp;exact T)
 (hs:Region.noSelect ops=true:=by kernel_rfl) (hf:Region.free .any ops abn i=true:=by kernel_rfl) (hr:(Region.ready .any ops abn).contains i=true:=by kernel_rfl)
 (hQ:∀c a w,abo (.panic c) (a.put o.dst v) w->abo (.panic c) a w:=by exact λ_ _ _ h=>h) (hw:Region.wanted o (yielded ops a.tmps)=true:=by kernel_rfl):wpAnyH P .any ops abo S (n+1) abn a w:=held i hi hS hy h hs hf hr hQ hw
theorem fL{n:Nat}(i:Nat)(hS:S w)(h:wpAnyH P .any ops abo S n (abn.setIfInBounds i true) a' w)
 (hi:ops[i]?=some o:=by rfl) (hy:∀w,S w->∀(R:Value->Act->Prop),R v a'->ze R a o w ((execOp a.eval o).run P w):=by intro w1 E R T;go_simp;exact T)
 (hs:Region.noSelect ops=true:=by kernel_rfl) (hf:Region.free .any ops abn i=true:=by kernel_rfl) (hr:(Region.ready .any ops abn).contains i=true:=by kernel_rfl)
 (hQ:∀c a w,abo (.panic c) (a.put o.dst v) w->abo (.panic c) a w:=by exact λ_ _ _ h=>h) (hw:Region.wanted o (yielded ops a.tmps)=true:=by kernel_rfl):wpAnyH P .any ops abo S (n+1) abn a w:=held i hi hS hy h hs hf hr hQ hw
theorem fA{n:Nat}(i:Nat)(hS:S w)(h:wpAnyH P .any ops abo S n (abn.setIfInBounds i true) a' w)
 (hi:ops[i]?=some o:=by rfl) (hy:∀w,S w->∀(R:Value->Act->Prop),R v a'->ze R a o w ((execOp a.eval o).run P w):=by intro w1 E R T;simp only[ec,iu] at E;go_simp;exact T)
 (hs:Region.noSelect ops=true:=by kernel_rfl) (hf:Region.free .any ops abn i=true:=by kernel_rfl) (hr:(Region.ready .any ops abn).contains i=true:=by kernel_rfl)
 (hQ:∀c a w,abo (.panic c) (a.put o.dst v) w->abo (.panic c) a w:=by exact λ_ _ _ h=>h) (hw:Region.wanted o (yielded ops a.tmps)=true:=by kernel_rfl):wpAnyH P .any ops abo S (n+1) abn a w:=held i hi hS hy h hs hf hr hQ hw
def eS(q:List Sd):Sends:=q.map Sd.fn
theorem qi(w:X)(p:pj)(g:Nat)(x:Rp)(Y:x.Ok):Lw W (λ_=>False) 122 #[.pointer (some ⟨p.r,0,none⟩)] (dP p g x) (λ(i:K×List Sd)e=>e=b5 i.1∧eS i.2=x.accepts) (λi => .o (dS i.1 i.2)::dP p g x) w:=by
 intro V hM hV;have hS:=(St.begin_ hM (λb hb=>(hV b hb).1) (eL _ _ _)).grow (Grow.refl _).drew;have kM:∀w1,Grow w.drew w1->ec [.c p.r 118 (iu p x.node x.nodes x.commit (jH g x.v) x.leads x.own)] w1:=λw1 H=>by have h:=(hS.grow H).facts;simp only[dP,ec] at h;exact⟨h.1,trivial⟩
 have hen:x.s.c.es.length<=128:=Y.s.c.len;go_in;go_wp2_with fail;refine dJ rfl ?_;have eA:=kM w.drew (Grow.refl _);refine gi (ec [.c p.r 118 (iu p x.node x.nodes x.commit (jH g x.v) x.leads x.own)]) 18 rfl ?_;refine fA 0 eA ?_;refine fA 1 eA ?_;refine fA 2 eA ?_;refine fA 3 eA ?_;refine fA 4 eA ?_;refine fA 6 eA ?_;refine fA 7 eA ?_;refine fA 8 eA ?_;refine fA 9 eA ?_;refine fA 11 eA ?_;refine fA 12 eA ?_;refine fA 13 eA ?_;refine fA 14 eA ?_;refine dY 5 rfl ?_;obtain⟨U,hE,_⟩:=hS.own.see 2 rfl;go_wp2_with fail;refine (AE w.drew p.s p.x p.d _ _ _ _ _ U hE).mono ?_;rintro e O ⟨rfl,rfl⟩;go_wp2_with fail;refine⟨eA,?_⟩;refine dY 10 rfl ?_;go_wp2_with fail;refine (qd w.drew p.s p.x p.d _ _ _ _ _ U hE ap).mono ?_;rintro e w1 ⟨u,rfl,⟨A,c,q,rfl,hq,kZ,Z2,iO⟩,-,eD⟩;go_wp2_with fail;have eA:=kM _ eD;refine⟨eA,?_⟩;refine fA 15 eA ?_;have ej:=(hS.join (fT.framed A q) eD (U:=New w.drew w1) hq (λb hb=>hb)).front 1 rfl;have wK:Hid (q.length=x.s.c.es.length):=Q (by rw[<-kZ,bj]);have hCA:=St.D1 (a:=[.c p.r 118 (iu p x.node x.nodes x.commit (jH g x.v) x.leads x.own)]) (x := .o (fT A q)) (b := .o (gR p.m x.m)::.o (qP p.s p.x p.d x.s)::WM g x.v) ej
  (a':=λi:K×List Sd=>[.o (dS i.1 i.2),.c p.r 118 (iu p x.node x.nodes x.commit (jH g x.v) x.leads x.own)]) (λi=>⟨dS.framed _ _,trivial,trivial⟩)
  (λU hU jR=>AP w1 U p x.node x.nodes Y.node.2 x.commit (jH g x.v) x.leads x.own (kR x.s.c.t x.s.c.es x.commit) none 0 A c q (nD w1 U 0 0 0 0).e hU kZ (by rw[wK.out];omega) jR)
 have jQ:((kR x.s.c.t x.s.c.es x.commit).cells none 0 A c)=[J 5,(),(),(),(),(),ay,"",(),(),(),(),ae ah 0,J x.s.c.t,(),Z A q.length c,J x.commit,()]:=by rw[wK.out];rfl
 rw[jQ] at hCA;refine dY 16 rfl ?_;go_wp2_with fail;refine hCA.mono ?_;rintro e w2 ⟨⟨v,qs⟩,⟨rfl,Uu⟩,dV⟩;go_wp2_with fail;have dV:=dV.dO 2 rfl;have eA:ec [.c p.r 118 (iu p x.node x.nodes x.commit (jH g x.v) x.leads x.own)] w2:=by have h:=dV.facts;exact⟨h.1,trivial⟩
 refine⟨eA,?_⟩;refine fL 17 eA ?_;refine eU ?_;go_wp2;go_ret;obtain⟨r1,r2⟩:=dV.fin;exact⟨(v,qs),⟨rfl,Uu⟩,r1,r2⟩
end Go.Proofs.YtpeepcmdehhbgaaGreatDoor
section
namespace Go.Hop
open Go.RowKit
theorem Lw.frame{P:dD}{f:FuncId}{args:aP}{a:List Bl}{ι:Type}{C:ι->Ending->Prop}{a':ι->List Bl}{w:X}(h:Lw P (λ_=>False) f args a C a' w)(ha:pF a)(TS:∀i,pF (a' i)){b:List Bl}(hb:pF b):Lw P (λ_=>False) f args (a++b) C (λi=>a' i++b) w:=λV hM hV=>by have hS:=St.begin_ hM (λx Y=>(hV x Y).1) (lz ha hb);exact (St.call hS TS (λ_ h=>h.elim) h).mono λe O ⟨i,hC,yP⟩=>⟨i,hC,yP.fin.1,yP.fin.2⟩
end Go.Hop
namespace Go.Proofs.YtpeepcmdehhbgaaGreatDoor
open Go.RowKit Go.Hop V
theorem Ef(w:X)(D:aV)(g:Nat)(v:Vt)(hv:v.Ok)(i:Nat)(hi:i<v.nodes)(m:Nat):Lw W D 128 #[g,J i,J m] [.o (fJ g v)] (λ(_:Unit)e=>e=b5 (J (v.accepted i m).1)) (λ_=>[.o (fJ g (v.told i m))]) w:=λV hM hV=>by have hS:=St.begin_ hM (λb hb=>(hV b hb).1) ⟨fJ.framed _ _,trivial⟩;obtain⟨A0,c0,q0,yU,hS⟩:=yh hS;refine (DI (λb=>b=g) rfl (WL hS 0 hv rfl) i hi hv.nodes.2 m).mono λe O ⟨I,G,L⟩=>?_;have dV:=hS.turned 0 rfl L G.b;obtain⟨r1,r2⟩:=(nE (v:=v.told i m) dV yU).fin;exact⟨(),I,r1,r2⟩
theorem qQ(w:X)(D:aV)(g:Nat)(v:Vt)(hv:v.Ok):Lw W D 68 #[g] [.o (fJ g v)] (λ(_:Unit)e=>e=b5 (J v.t)) (λ_=>[.o (fJ g v)]) w:=λV hM hV=>by have hS:=St.begin_ hM (λb hb=>(hV b hb).1) ⟨fJ.framed _ _,trivial⟩;obtain⟨A0,c0,q0,yU,hS⟩:=yh hS;refine (RO (WL hS 0 hv rfl)).mono λe O ⟨I,G⟩=>?_;subst G;obtain⟨r1,r2⟩:=(nE hS yU).fin;exact⟨(),I,r1,r2⟩
theorem AU(w:X)(p:pj)(g:Nat)(x:Rp)(Y:x.Ok)(abp:Nat):Lw W (λ_=>False) 127 #[.pointer (some ⟨p.r,0,none⟩),J abp] (dP p g x) (λ(i:K×List Sd)e=>e=b5 i.1∧eS i.2=(x.apply abp).2) (λi => .o (dS i.1 i.2)::dP p g (x.apply abp).1) w:=by have fj:=Y.s.c.len;have iO:=Y.commit;have h:=(Ed w p x.node x.nodes x.commit (jH g x.v) x.leads x.own x.s.c.t x.s.c.h x.s.c.es x.s.ws.length x.s.bs x.m abp Y.s.c.es fj Y.m ap).frame (GR _ _ _ _ _ _ _ _ _ _ _ _ _) (λu=>⟨dS.framed _ _,GR _ _ _ _ _ _ _ _ _ _ _ _ _⟩) (OE g x.v);intro V hM hV;refine (h V hM hV).mono λe O ⟨u,I,G,L⟩=>⟨(u,_),⟨I,rfl⟩,G,L⟩
theorem qj(w:X)(p:pj)(g:Nat)(x:Rp)(Y:x.Ok)(v:Vt)(hv:x.v=some v)(i:Nat)(hi:i<x.nodes)(n:Nat):Lw W (λ_=>False) 71 #[.pointer (some ⟨p.r,0,none⟩),J i,J n] (dP p g x) (λ(j:K×List Sd)e=>e=b5 j.1∧eS j.2=(x.counted v i n).2) (λj => .o (dS j.1 j.2)::dP p g (x.counted v i n).1) w:=by
 obtain⟨R,HR⟩:=az (x.counted v i n);rw[<-HR.out];intro V hM hV;obtain⟨yW,zf⟩:=Y.v v hv;have hS:=St.begin_ hM (λb hb=>(hV b hb).1) (eL _ _ _);unfold dP at hS;rw[hv] at hS;have E:=hS.facts;simp only[WM,jH,ec,iu] at E;go_in;go_wp2_with fail;refine (hS.at_ 3 rfl (λ_=>fJ.framed _ _) (D:=λ_=>False) (λ_ h=>h.elim) (Ef w _ g v yW i (by rw[zf];exact hi) n)).mono ?_;rintro e w1 ⟨_,rfl,ej⟩;clear E;have hnn:0<=(v.accepted i n).1:=Ss (yW.told i n).nn;obtain⟨abp,hN⟩:∃abp:Nat,(v.accepted i n).1=(abp:Int):=⟨(v.accepted i n).1.toNat,by omega⟩;rw[hN];have lw:(Rp.Ok { x with v:=some (v.told i n) }):=⟨Y.s,Y.m,λv' h'=>by cases h';exact⟨yW.told i n,zf⟩,Y.node,Y.commit,λ_=>⟨_,rfl⟩⟩;have hA:=AU w1 p g { x with v:=some (v.told i n) } lw abp;have T:R=Rp.apply { x with v:=some (v.told i n) } abp:=by rw[HR.out];unfold Rp.counted;rw[hN];rfl
 clear HR;replace T:=Q T;go_wp2_with fail;refine (St.call (a:=dP p g { x with v:=some (v.told i n) }) (b:=[]) (a':=λj:K×List Sd => .o (dS j.1 j.2)::dP p g (Rp.apply { x with v:=some (v.told i n) } abp).1) ej (λ_=>⟨dS.framed _ _,eL _ _ _⟩) (λ_ h=>h.elim) hA).mono ?_;rintro e w2 ⟨j,⟨rfl,G⟩,dV⟩;go_wp2;go_ret;obtain⟨r1,r2⟩:=dV.fin;rw[T.out];exact⟨j,⟨rfl,G⟩,by simpa using r1,r2⟩
end Go.Proofs.YtpeepcmdehhbgaaGreatDoor
end
end
section
variable{w0 w:X}{sl:K}
namespace Go.Proofs.YtpeepcmdehhbgaaGreatDoor
open RowKit Hop V
theorem OG(leads:Bool)(own:Nat):∀(l:List En)(k:Nat)(x:j4)(out:List Sd),(∀e∈l,e.Ok)->AL (8*k) x->AL (8*(k+l.length)) (CJ leads own l k x out).1
 | [],_,_,_,_,h=>h
 | e::l,k,x,out,he,h=>by
   obtain⟨h8,pi⟩:=Oz (he e (by simp));have:=OG leads own l (k+1) (ei x e).2.2 (if leads&&decide (own<=k) then out++[rk e.fr e.tg (ei x e).1 (ei x e).2.1] else out) (λe' h'=>he e' (by simp[h'])) ((h.step e pi).more ap);rw[show k+(e::l).length=k+1+l.length by simp;omega];exact this
namespace Rp
variable{x:Rp}
theorem Ok.apply(h:x.Ok)(abp:Nat):(x.apply abp).1.Ok:=by have E:=h.commit;refine⟨h.s,?_,h.v,h.node,by have:=h.s.c.len;show max x.commit (min abp x.s.c.es.length)<=128;omega,h.lv⟩;have I:=OG x.leads x.own ((x.s.c.es.take abp).drop x.commit) x.commit x.m [] (λe he=>h.s.c.es e (bW (cX he))) h.m;rw[bO,bn] at I;exact I.more (by show 8*_<=8*max x.commit (min abp x.s.c.es.length);omega)
theorem Ok.down(h:x.Ok):x.down.Ok:=⟨h.s,h.m,λ_ h'=>(by cases h'),h.node,h.commit,λh'=>by cases h'⟩
theorem Ok.vote(h:x.Ok){v:Vt}(hv:v.Ok)(hn:v.nodes=x.nodes):Rp.Ok { x with v:=some v }:=⟨h.s,h.m,λv' h'=>by cases h';exact⟨hv,hn⟩,h.node,h.commit,λ_=>⟨_,rfl⟩⟩
theorem Ok.counted(h:x.Ok){v:Vt}(hv:x.v=some v)(i n:Nat):(x.counted v i n).1.Ok:=by obtain⟨I,G⟩:=h.v v hv;exact (h.vote (I.told i n) G).apply _
theorem Ok.word(h:x.Ok){s:Vs}(hs:s.Ok)(l:Bool)(o:Nat)(hl:l=true->∃v,x.v=some v):Rp.Ok { x with s:=s,leads:=l,own:=o }:=⟨hs,h.m,h.v,h.node,h.commit,hl⟩
end Rp
theorem Jo(leads:Bool)(own:Nat):∀(l:List En)(k:Nat)(x:j4)(out:List Sd),(CJ leads own l k x out).2.length<=out.length+l.length
 | [],_,_,_=>by simp[CJ]
 | e::l,k,x,out=>by
   have:=Jo leads own l (k+1) (ei x e).2.2 (if leads&&decide (own<=k) then out++[rk e.fr e.tg (ei x e).1 (ei x e).2.1] else out);simp only[CJ,bD];split at this;·rename_i hh;rw[aA hh];rw[bd,bv] at this;omega
   ·rename_i hh;rw[aB hh];omega
theorem nF(x:Rp)(Y:x.Ok)(v:Vt)(i n:Nat):(x.counted v i n).2.length<=128:=by unfold Rp.counted Rp.apply;rw[bj];refine bB (Jo _ _ _ _ _ _) ?_;have I:=Y.s.c.len;simp only[cx,bO,bn];omega
theorem nG(x:Rp)(Y:x.Ok):x.accepts.length<=8:=by unfold Rp.accepts tD;rw[bj];refine bB (c_ _ _) ?_;rw[da];exact Y.node.2
theorem Vs.kp{s s':Vs}(h:s.Ok){t:Nat}{l:List En}(ht:t<=9223372036854775807)(hl:∀e∈l,e.Ok)(he:s.accept t l=some s'):s'.Ok:=by
 unfold Vs.accept at he;split at he;·cases he
 ·rename_i I
  split at he;·cases he;exact h
  ·refine (Vs.Ok.keep h ?_ he).1
   unfold Vs.next;split;·exact⟨ht,ht,hl,by show l.length<=128;omega⟩
   ·exact⟨ht,h.c.h,h.c.es,h.c.len⟩
theorem GY(w:X)(D:aV)(s x d:Nat)(y:Vs)(TE:Nat)(A9:aU)(c9:Nat)(q9:List El)(hq9:jO w D A9 q9)(j6:∀b,D b->b<(w:Nat))(X_:∀x∈q9,x.e.Rt)(kh:∃x∈q9,¬ x.e.Ok)(hn9:q9.length<=128):Lw W D 121 #[s,J TE,Z A9 q9.length c9] [.o (qP s x d y)] (λ(_:Unit)e=>e=b5 (aY false)) (λ_=>[.o (qP s x d y)]) w:=by
 intro V hM hV;have hS:=St.begin_ hM (λb hb=>(hV b hb).1) ⟨gG.framed _ _ _ _ _ _ _ _,trivial⟩;obtain⟨A,c,q,hq,hS⟩:=GX hS;have E:=hS.facts;simp only[ik,cD,ch,ec,lY] at E;obtain⟨m,HM⟩:=az (q9.length);have a0e:m<=128:=by rw[HM.out];exact hn9
 have d3:decide ((m:Int) > 128)=false:=aD ap;have d3':decide ((128:Int)<(m:Int))=false:=aD ap;rw[<-HM.out];have fin:∀O,Grow w O->dN (px [.o (qP s x d y)]) O (iY V w O)∧dM V w O:=λO H=>(kJ (l:=[]) (hS.grow H) hq).fin;by_cases Vi:TE<y.c.t∨TE<1
 ·have hX:decide (TE<y.c.t)=true∨(decide (TE<y.c.t)=false∧decide ((TE:Int)<1)=true):=by
   simp only[decide_eq_true_eq,decide_eq_false_iff_not];omega
  clear Vi
  rcases hX with I|⟨I,G⟩
  all_goals
   go_in
   go_wp2
   go_ret
   obtain⟨r1,r2⟩:=fin _ (Grow.refl _)
   first|exact⟨(),rfl,r1,r2⟩|exact⟨rfl,r1,r2⟩
 have d1:decide (TE<y.c.t)=false:=aD ap;have d2:decide ((TE:Int)<1)=false:=aD ap;replace Vi:=Q Vi;go_in;go_wp2_with fail;clear E;go_loopw [29] (λi wr=>∃k:Nat,k<=m∧i=J k∧(∀x∈q9.take k,x.e.Ok)∧Grow w wr) (λi _=>m-(intOf i).toNat);case atStart=>exact⟨0,by omega,rfl,by simp,Grow.refl _⟩
 case round=>
  obtain⟨k,oL,rfl,fS,gP⟩:=hrel;by_cases N:k<m
  ·have ip:k<q9.length:=by have:=HM.out;omega
   have Iy:=hq9.grow gP;obtain⟨ad,vo,rfl,hVk,S3,e0,e1⟩:=Iy.1.mr ap pf ip;have jE:=Iy.2 _ (bF vo);have WN:=X_ _ (bF vo);have j9:q9[k].e.Ok->∀x∈q9.take (k+1),x.e.Ok:=λho x Y=>by
    rw[br vo] at Y;rcases List.mem_append.1 Y with Y|Y
    ·exact fS x Y
    ·rw[List.mem_singleton.1 Y];exact ho
   generalize q9[k]=b at jE e0 e1 WN j9;have m6:=λw1(eD:Grow wr w1)=>oy w1 b.e D b.A b.c WN (In.grow jE.1 eD);obtain⟨abq,HW⟩:=az (b.e.Ok);rw[<-HW.out] at m6 j9;clear WN;obtain⟨⟨bk,ag,sh,sq,ep,ds,se,fr,tg⟩,Ab,cb⟩:=b;dsimp only[El.cells,En.agg] at e0 e1 m6;have e1:=e1 0 _ rfl;have e0:=e0 _ rfl;have fu:=dT wr (.cells #[J bk,J ag,J sh,J sq,J ep,Z Ab ds.length cb,aX se,J fr,J tg] 40);have m6:=m6 _ fu;replace fS:=Q fS;replace j9:=Q j9;clear jE Iy;go_wp2_with fail;refine m6.mono ?_;rintro e w2 ⟨⟨abl,rfl,hE⟩,fk⟩;replace hE:=Q hE;by_cases h0:abl=0
   ·subst h0
    go_wp2_with fail;exact⟨⟨k+1,by omega,by go_num,j9.out (hE.out.1 (by trivial)),gP.trans (fu.trans fk)⟩,by simp[intOf];omega⟩
   ·have I:(abl != 0)=true:=by simp[h0]
    replace h0:=Q h0;go_wp2;go_ret;obtain⟨r1,r2⟩:=fin _ (gP.trans (fu.trans fk));first|exact⟨(),rfl,r1,r2⟩|exact⟨rfl,r1,r2⟩
  ·obtain rfl:k=m:=by omega
   rw[HM.out,dq] at fS;obtain⟨x,Y,h⟩:=kh;exact absurd (fS x Y) h
def kW(e:En):Ms:={ Ms.zero with k:=1,e:=e }
inductive Ms.Gd:Ms->Prop
 | ask (e:En) (h:e.Ok):Gd (kW e)
 | ans (tag code n:Nat) (I:tag<=9223372036854775807) (G:code<=255) (L:n<18446744073709551616):Gd (fx tag code n)
 | vD (t:Nat) (h:t<=9223372036854775807):Gd (jX t)
 | prom (t h:Nat) (l:List En) (I:t<=9223372036854775807) (G:h<=9223372036854775807) (L:∀e∈l,e.Ok) (h4:l.length<=128):Gd (i9 t h l)
 | acc (t:Nat) (l:List En) (c:Nat) (I:t<=9223372036854775807) (G:c<=128) (L:∀e∈l,e.Ok) (h4:l.length<=128):Gd (kR t l c)
 | Mq (t n:Nat) (I:t<=9223372036854775807) (G:n<=128):Gd (m8 t n)
def mH(m:Ms)(A:aU)(c:Nat)(A2:aU)(c2:Nat):Array K:=(m.cells A c A2 c2).toArray
def OH(m:Ms)(A:aU)(c:Nat)(A2:aU)(c2:Nat):Prop:=∀w,dz W 124 #[aZ (mH m A c A2 c2)] w λen O=>en=b5 (aY true)∧Grow w O
theorem oC(w:X)(D:aV)(m:Ms)(A:aU)(c:Nat)(A2:aU)(c2:Nat)(q:List El)(hZ:OH m A c A2 c2)(N:2<=m.k∧m.k<=6)(hr:0<=m.tag∧0<=m.term∧0<=m.had∧0<=m.commit∧0<=m.len∧0<=m.code∧m.code<=255∧m.commit<=128∧m.len<=128)
 (hq:jO w D A2 q) (kZ:q.map El.e=m.log) (gC:∀x∈q,x.e.Ok) (hl:q.length<=128):dz W 65 #[aZ (mH m A c A2 c2)] w λen O=>en=b5 (J 0)∧Grow w O:=by
 have hZ:=λ(w1:X)=>hZ w1;obtain⟨r1,r2,r3,r4,r5,r6,r7,r8,r9⟩:=hr;have d1:=aD (show ¬ m.k<1 by omega);have d2:=aD (show ¬ 6<m.k by omega);have d3:(m.k == 1)=false:=beq_eq_false_iff_ne.2 ap;have e1:=aD (show ¬ m.tag<0 by omega);have e2:=aD (show ¬ m.term<0 by omega);have e3:=aD (show ¬ m.had<0 by omega);have e4:=aD (show ¬ m.commit<0 by omega);have e5:=aD (show ¬ m.len<0 by omega);have e6:=aD (show ¬ m.code<0 by omega);have e7:=aD (show ¬ 255<m.code by omega);have e8:=aD (show ¬ 128<m.commit by omega);have e9:=aD (show ¬ 128<m.len by omega);clear r1 r2 r3 r4 r5 r6 r7 r8 r9 N;obtain⟨k,⟨ek,ag,sh,sq,ep,ds,se,fr,tg⟩,tag,code,n,term,had,log,commit,len⟩:=m;unfold mH Ms.cells at *;dsimp only at *;have wu:log.length=q.length:=by rw[<-kZ,bj]
 rw[wu] at hZ ⊢;clear kZ wu;obtain⟨abp,HN⟩:=az (q.length);have hl':abp<=128:=by rw[HN.out];exact hl
 have d4:decide ((128:Int)<(abp:Int))=false:=aD ap;rw[<-HN.out] at hZ ⊢;have hX:=eJ.made w 45 #[J k,J ek,J ag,J sh,J sq,J ep,Z A ds.length c,aX se,J fr,J tg,J tag,J code,ae ah n,J term,J had,Z A2 abp c2,J commit,J len];obtain⟨x,HX⟩:=az ((w:Nat):Nat);go_in;go_wp2_with (refine dU rfl 45 _ rfl _ rfl (hX) bG aw ?_);refine (hZ _).mono ?_;rintro e w1 ⟨rfl,H⟩;have jV:=hX.grow H;have fu:=(dT w _).trans H;rw[<-HX.out] at jV ⊢;have c0:=jV.cell 0;have c10:=jV.cell 10;have c11:=jV.cell 11;have c13:=jV.cell 13;have c14:=jV.cell 14;have c15:=jV.cell 15;have c16:=jV.cell 16;have c17:=jV.cell 17;clear hX hZ;go_wp2_with fail;clear c0 c10 c11 c13 c14 c15 c16 c17 jV;go_loopw [79] (λi wr=>∃k:Nat,k<=abp∧i=J k∧Grow w1 wr) (λi _=>abp-(intOf i).toNat);case atStart=>exact⟨0,by omega,rfl,Grow.refl _⟩
 case round=>
  obtain⟨j,Cw,rfl,gP⟩:=hrel;by_cases hj:j<abp
  ·have k7:j<q.length:=by have:=HN.out;omega
   have Iy:=hq.grow (fu.trans gP);obtain⟨ad,vo,rfl,hVk,S3,f0,f1⟩:=Iy.1.mr ap pf k7;have jE:=Iy.2 _ (bF vo);have re:=gC _ (bF vo);generalize q[j]=b at jE f0 f1 re;have m6:=λw1(eD:Grow wr w1)=>ju w1 b.e D b.A b.c re (In.grow jE.1 eD);obtain⟨⟨bk,ag,sh,sq,ep,ds,se,fr,tg⟩,Ab,cb⟩:=b;dsimp only[El.cells,En.agg] at f0 f1 m6;have g2:=f1 1 _ rfl;have g3:=f1 2 _ rfl;have g4:=f1 3 _ rfl;have g5:=f1 4 _ rfl;have g6:=f1 5 _ rfl;have g7:=f1 6 _ rfl;have g8:=f1 7 _ rfl;have g1:=f1 0 _ rfl;have g0:=f0 _ rfl;have mK:=dT wr (.cells #[J bk,J ag,J sh,J sq,J ep,Z Ab ds.length cb,aX se,J fr,J tg] 40);have m6:=m6 _ mK;clear jE re Iy f0 f1;go_wp2_with fail;refine m6.mono ?_;rintro e w2 ⟨rfl,fk⟩;go_wp2_with fail;exact⟨⟨j+1,by omega,by go_num,gP.trans (mK.trans fk)⟩,by simp[intOf];omega⟩
  ·obtain rfl:j=abp:=by omega
   go_wp2;go_ret;exact⟨rfl,fu.trans gP⟩
set_option maxRecDepth 100000
set_option maxHeartbeats 1000000
theorem OI(w:X)(A:aU)(c:Nat):dz W 100 #[Z A 0 c,ay] w λe O=>e=b5 (aY true)∧Grow w O:=by
 go_in;go_wp2_with fail;go_loopw [13] (λi wr=>i=J 0∧Grow w wr) (λ_ _=>0);case atStart=>exact⟨rfl,Grow.refl _⟩
 case round=>
  obtain⟨rfl,H⟩:=hrel;go_wp2;go_ret;exact⟨rfl,H⟩
theorem Eg(w:X)(A:aU)(c:Nat):dz W 223 #[Z A 0 c,ay,.func (.func 224) #[] #[]] w λe O=>e=b5 (aY true)∧Grow w O:=by
 go_in;go_wp2_with fail;go_loopw [17] (λi wr=>i=J 0∧Grow w wr) (λ_ _=>0);case atStart=>exact⟨rfl,Grow.refl _⟩
 case round=>
  obtain⟨rfl,H⟩:=hrel;go_wp2;go_ret;exact⟨rfl,H⟩
theorem WO(w:X)(A:aU)(c:Nat):dz W 162 #[Z A 0 c,ay] w λe O=>e=b5 (aY true)∧Grow w O:=by have hE:=Eg w A c;go_in;go_wp2_with fail;refine hE.mono ?_;rintro e w1 ⟨rfl,H⟩;go_wp2;go_ret;exact⟨rfl,H⟩
theorem WQ(w:X)(A:aU)(c:Nat):dz W 224 #[aZ #[(),(),(),(),(),Z A 0 c,"",(),()],aZ aK] w λe O=>e=b5 (aY true)∧Grow w O:=by have hE:=λw=>OI w A c;have fu:=(dT w (.cells #[(),(),(),(),(),Z A 0 c,"",(),()] 40)).trans (dT _ (.cells aK 40));have Y:=eJ.made w 40 #[(),(),(),(),(),Z A 0 c,"",(),()];have hy:=eJ.made (w.alloc (.cells #[(),(),(),(),(),Z A 0 c,"",(),()] 40)) 40 aK;have Y:=Y.alloc (.cells aK 40);rw[fp] at hy;go_in;go_wp2_with fail;refine (hE _).mono ?_;rintro e w1 ⟨rfl,H⟩;have rI:=Y.grow H;have vw:=hy.grow H;have a6:=rI.cell 6;have a7:=rI.cell 7;have a8:=rI.cell 8;have b6:=vw.cell 6;have b7:=vw.cell 7;have b8:=vw.cell 8;go_wp2;go_ret;exact⟨rfl,fu.trans H⟩
theorem wm(w:X)(A:aU)(c:Nat)(A2:aU)(c2:Nat):dz W 184 #[aZ #[(),(),(),(),(),(),Z A 0 c,"",(),(),(),(),ae ah 0,(),(),Z A2 0 c2,(),()],aZ aJ] w λe O=>e=b5 (aY true)∧Grow w O:=by have fu:=(dT w (.cells #[(),(),(),(),(),(),Z A 0 c,"",(),(),(),(),ae ah 0,(),(),Z A2 0 c2,(),()] 45)).trans (dT _ (.cells aJ 45));have Y:=(eJ.made w 45 #[(),(),(),(),(),(),Z A 0 c,"",(),(),(),(),ae ah 0,(),(),Z A2 0 c2,(),()]).alloc (.cells aJ 45);have hy:=eJ.made (w.alloc (.cells #[(),(),(),(),(),(),Z A 0 c,"",(),(),(),(),ae ah 0,(),(),Z A2 0 c2,(),()] 45)) 45 aJ;rw[fp] at hy;go_in;go_wp2_with fail;refine (WQ _ A c).mono ?_;rintro e w1 ⟨rfl,H⟩;have rI:=Y.grow H;have vw:=hy.grow H;have a0:=rI.cell 0;have a10:=rI.cell 10;have a11:=rI.cell 11;have a12:=rI.cell 12;have a13:=rI.cell 13;have a14:=rI.cell 14;have a15:=rI.cell 15;have a16:=rI.cell 16;have a17:=rI.cell 17;have b0:=vw.cell 0;have b10:=vw.cell 10;have b11:=vw.cell 11;have b12:=vw.cell 12;have b13:=vw.cell 13;have b14:=vw.cell 14;have b15:=vw.cell 15;have b16:=vw.cell 16;have b17:=vw.cell 17;go_wp2_with fail;refine (WO _ A2 c2).mono ?_;rintro e w2 ⟨rfl,fk⟩;have lw:=rI.grow fk;have vr:=vw.grow fk;clear a0 b0 a10 b10 a11 b11 a12 b12 a13 b13 a14 b14 a15 b15 a16 b16 a17 b17;have a0:=lw.cell 0;have a10:=lw.cell 10;have a11:=lw.cell 11;have a12:=lw.cell 12;have a13:=lw.cell 13;have a14:=lw.cell 14;have a15:=lw.cell 15;have a16:=lw.cell 16;have a17:=lw.cell 17;have b0:=vr.cell 0;have b10:=vr.cell 10;have b11:=vr.cell 11;have b12:=vr.cell 12;have b13:=vr.cell 13;have b14:=vr.cell 14;have b15:=vr.cell 15;have b16:=vr.cell 16;have b17:=vr.cell 17;go_wp2;go_ret;exact⟨rfl,fu.trans (H.trans fk)⟩
theorem OJ{m:Ms}(h:m.Gd)(A:aU)(c:Nat)(A2:aU)(c2:Nat):OH m A c A2 c2:=by
 intro w;unfold mH Ms.cells;cases h;case ask e _=>
  obtain⟨k,ag,sh,sq,ep,ds,se,fr,tg⟩:=e;dsimp only[kW,Ms.zero,En.zero,cx];go_in;go_wp2_with (refine dU rfl 45 _ rfl _ rfl (eJ.made w 45 _) bG aw ?_);refine (wm _ none 0 A2 c2).mono ?_;rintro e w1 ⟨rfl,H⟩;go_wp2;go_ret;exact⟨rfl,Below.trans (dT w _) (H.mono (by rw[fp];omega))⟩
 case ans|vD|Mq=>
  all_goals
   dsimp only[fx,jX,i9,kR,m8,Ms.zero,En.zero,cx]
   go_in
   go_wp2_with (refine dU rfl 45 _ rfl _ rfl (eJ.made w 45 _) bG aw ?_)
   refine (wm _ A c A2 c2).mono ?_
   rintro e w1 ⟨rfl,H⟩
   go_wp2
   go_ret
   exact⟨rfl,Below.trans (dT w _) (H.mono (by rw[fp];omega))⟩
 case prom|acc=>
  all_goals
   dsimp only[fx,jX,i9,kR,m8,Ms.zero,En.zero,cx]
   go_in
   go_wp2_with (refine dU rfl 45 _ rfl _ rfl (eJ.made w 45 _) bG aw ?_)
   refine (wm _ A c none 0).mono ?_
   rintro e w1 ⟨rfl,H⟩
   go_wp2
   go_ret
   exact⟨rfl,Below.trans (dT w _) (H.mono (by rw[fp];omega))⟩
theorem vj(w:X)(e:En)(V:aV)(A:aU)(c:Nat)(A2:aU)(cc2:Nat)(gC:e.Ok)(hd:jM w V A e.ds.length e.ds):dz W 65 #[aZ (mH (kW e) A c A2 cc2)] w λen O=>en=b5 (J 0)∧Grow w O:=by have T:=λ(w1:X)(H:Grow w w1)=>ju w1 e V A c gC (In.grow hd H);have hZ:=λ(w1:X)=>OJ (.ask e gC) A c A2 cc2 w1;unfold mH Ms.cells kW Ms.zero at hZ ⊢;obtain⟨k,ag,sh,sq,ep,ds,se,fr,tg⟩:=e;unfold En.agg at T;dsimp only[cx] at hZ T ⊢;have hX:=eJ.made w 45 #[J 1,J k,J ag,J sh,J sq,J ep,Z A ds.length c,aX se,J fr,J tg,(),(),ae ah 0,(),(),Z A2 0 cc2,(),()];obtain⟨x,HX⟩:=az ((w:Nat):Nat);go_in;go_wp2_with (refine dU rfl 45 _ rfl _ rfl (hX) bG aw ?_);refine (hZ _).mono ?_;rintro e w1 ⟨rfl,H⟩;have jV:=hX.grow H;have fu:=(dT w _).trans H;rw[<-HX.out] at jV ⊢;have c0:=jV.cell 0;have c1:=jV.cell 1;have c2:=jV.cell 2;have c3:=jV.cell 3;have c4:=jV.cell 4;have c5:=jV.cell 5;have c6:=jV.cell 6;have c7:=jV.cell 7;have c8:=jV.cell 8;have c9:=jV.cell 9;have c10:=jV.cell 10;have c11:=jV.cell 11;have c13:=jV.cell 13;have c14:=jV.cell 14;have c15:=jV.cell 15;have c16:=jV.cell 16;have c17:=jV.cell 17;have T:=T w1 fu;clear hX hZ gC hd;go_wp2_with fail;refine T.mono ?_;rintro e w2 ⟨rfl,fk⟩;go_wp2;go_ret;exact⟨rfl,fu.trans fk⟩
theorem Eh(w:X)(D:aV)(m:Ms)(A:aU)(c:Nat)(A2:aU)(c2:Nat)(q:List El)(h:m.Gd)(he:jM w D A m.e.ds.length m.e.ds)(hq:jO w D A2 q)(kZ:q.map El.e=m.log):dz W 65 #[aZ (mH m A c A2 c2)] w λen O=>en=b5 (J 0)∧Grow w O:=by
 have hZ:=OJ h A c A2 c2;have fj:q.length=m.log.length:=by rw[<-kZ,bj]
 have m9:∀x∈q,x.e∈m.log:=λx Y=>by rw[<-kZ];exact List.mem_map.2 ⟨x,Y,rfl⟩
 cases h with
 | ask e h=>
   exact vj w e D A c A2 c2 h he
 | ans tag code n I G L=>
   exact oC w D _ A c A2 c2 q hZ (by simp[fx]) (by simp[fx,Ms.zero];omega) hq kZ (λx Y=>absurd (m9 x Y) (by simp[fx,Ms.zero])) (by rw[fj];simp[fx,Ms.zero])
 | vD t h=>exact oC w D _ A c A2 c2 q hZ (by simp[jX]) (by simp[jX,Ms.zero]) hq kZ (λx Y=>absurd (m9 x Y) (by simp[jX,Ms.zero])) (by rw[fj];simp[jX,Ms.zero])
 | prom t h l I G L h4=>exact oC w D _ A c A2 c2 q hZ (by simp[i9]) (by simp[i9,Ms.zero]) hq kZ (λx Y=>L _ (m9 x Y)) (by rw[fj];exact h4)
 | acc t l cm I G L h4=>exact oC w D _ A c A2 c2 q hZ (by simp[kR]) (by simp[kR,Ms.zero];omega) hq kZ (λx Y=>L _ (m9 x Y)) (by rw[fj];exact h4)
 | Mq t n I G=>exact oC w D _ A c A2 c2 q hZ (by simp[m8]) (by simp[m8,Ms.zero];omega) hq kZ (λx Y=>absurd (m9 x Y) (by simp[m8,Ms.zero])) (by rw[fj];simp[m8,Ms.zero])
theorem ln(w:X)(D:aV)(m:Ms)(A:aU)(c:Nat)(A2:aU)(c2:Nat)(q:List El)(h:m.Gd)(_:m.k≠1->A=none∧c=0)(_:m.k≠4->m.k≠5->A2=none∧c2=0)(he:jM w D A m.e.ds.length m.e.ds)(hq:jO w D A2 q)(kZ:q.map El.e=m.log):dz W 65 #[aZ (mH m A c A2 c2)] w λen O=>en=b5 (J 0)∧Grow w O:=Eh w D m A c A2 c2 q h he hq kZ
theorem GZ(w:X)(e:En)(V:aV)(A:aU)(c:Nat)(gC:e.Ok)(hd:jM w V A e.ds.length e.ds):dz W 65 #[aZ (S5 e A c)] w λen O=>en=b5 (J 0)∧Grow w O:=vj w e V A c none 0 gC hd
theorem OL(w:X)(tag code:Int)(n:Nat):OH (fx tag code n) none 0 none 0:=by intro w;show dz W 124 #[aZ (jc tag code n)] w _;unfold jc;go_in;go_wp2_with (refine dU rfl 45 _ rfl _ rfl (eJ.made w 45 _) bG aw ?_);refine (wm _ none 0 none 0).mono ?_;rintro e w1 ⟨rfl,H⟩;go_wp2;go_ret;exact⟨rfl,Below.trans (dT w _) (H.mono (by rw[fp];omega))⟩
theorem yj(w:X)(tag code:Int)(n:Nat)(ht:0<=tag)(E:0<=code∧code<=255):dz W 65 #[aZ (jc tag code n)] w λen O=>en=b5 (J 0)∧Grow w O:=oC w (λ_=>False) (fx tag code n) none 0 none 0 [] (OL w tag code n) (by simp[fx]) (by simp[fx,Ms.zero];omega) jO.nil rfl (by simp) (by simp)
def CL(u:K)(xs:List (List UInt8)):dW:=λw V=>∃(A:aU)(c:Nat)(q:List Bx),u=Z A q.length c∧IR w V V A q.length q∧q.map Bx.bs=xs∧q.length<=c∧c<=dG
theorem CL.framed(u:K)(xs:List (List UInt8)):eu (CL u xs):=λw O V ⟨A,c,q,I,G,L⟩ N=>⟨A,c,q,I,⟨In.keep G.row λb hb _=>N b hb,λb hb=>⟨In.keep (G.all b hb).bs λx Y _=>N x Y,(G.all b hb).le,(G.all b hb).max⟩⟩,L⟩
def jK(d:Nat)(l:aT)(k:Nat):dW:=g9 120 d l k
theorem jK.framed(d:Nat)(l:aT)(k:Nat):eu (jK d l k):=g9.framed _ _ _ _
structure OpI where
 (x:Nat) (u:K) (xs:List (List UInt8)) (j:Nat)
theorem OM(w:X)(D:aV)(d k:Nat)(l:aT):Lw W D 113 #[d] [.o (jK d l k)] (λ(i:OpI)e=>l8 l i.xs i.j∧e=b5 (a_ #[.pointer (some ⟨i.x,0,none⟩),i.u])) (λi=>[.o (eC i.x d (i.xs.length:Int) (l.take i.j) i.j),.o (CL i.u i.xs)]) w:=by
 intro V hM hV;have hS:=St.begin_ hM (λb hb=>(hV b hb).1) ⟨jK.framed _ _ _,trivial⟩;obtain⟨U,hU,_⟩:=hS.own.see 0 rfl;have hl:l.length<=1048576:=(show g9 120 d l k w U from hU).2.2.1;have a0h:=vU w d l k U hU;go_in;go_wp2_with fail;refine a0h.mono ?_;rintro e w1 ⟨v1,rfl,kv,eD⟩;obtain⟨A1,c1,rfl,lT,oK,ry⟩:=kv.reads;have ej:=hS.grow eD;go_wp2_with fail;refine (Ni w1 A1 l.length c1 l lT oK ry ap).mono ?_;rintro e w2 ⟨xs,j,u,hs,rfl,hX,fk⟩;have Ix:j<=l.length:=by rw[hs.2.1,<-hs.1,bd];omega
 obtain⟨A2,c2,q,rfl,lS,hq,Z2,iO⟩:=hX;have dV:=ej.join (CL.framed (Z A2 q.length c2) xs) fk (U:=New w1 w2) ⟨A2,c2,q,rfl,lS,hq,Z2,iO⟩ (λb hb=>hb);clear kv lT a0h;go_wp2_with fail;refine (dV.Fo 1 rfl (λ_=>jK.framed d (l.take j) j) dV.no (λU' _ _=>Lw.turns (IJ w2 d l k j Ix))).mono ?_;rintro e w3 ⟨_,rfl,dX⟩;go_wp2;go_ret2;have eO:=dX.new #[d,J q.length] 278;have eF:St V w ([.c (w3:Nat) 278 #[d,J q.length],.o (jK d (l.take j) j)]++[.o (CL (Z A2 q.length c2) xs)]) _:=eO.perm (.cons _ (.swap _ _ _));have eN:=eF.cls (eC.framed (w3:Nat) d (xs.length:Int) (l.take j) j) (λU' Va=>by obtain⟨U1,U2,⟨I,G⟩,L,k1,k2,k3⟩:=Va;obtain⟨U3,U4,h4,_,k4,_⟩:=L;refine⟨k1 _ I,?_,g9.wide h4 λb hb=>⟨k2 b (k4 b hb),λe=>k3 b (e▸I) (k4 b hb)⟩⟩;rw[<-hq,bj];exact G)
 obtain⟨r1,r2⟩:=eN.fin;exact⟨⟨(w3:Nat),_,xs,j⟩,⟨hs,rfl⟩,r1,r2⟩
end Go.Proofs.YtpeepcmdehhbgaaGreatDoor
section
namespace Go.Hop
open Go.RowKit
section
variable{κ α:Type}[DecidableEq κ]
def qR(q:List (κ×α))(k:κ):Option α:=(q.find? λp=>decide (p.1=k)).map (·.2)
def si(q:List (κ×α))(k:κ)(v:α):List (κ×α):=if k∈q.map Prod.fst then q.map (λp=>if p.1=k then (k,v) else p) else q++[(k,v)]
def gV(q:List (κ×α))(k:κ):List (κ×α):=q.filter λp=>decide (p.1≠k)
def gB(f:α->K)(q:List (κ×α)):List (κ×K):=q.map λp=>(p.1,f p.2)
theorem yk(f:α->K)(q:List (κ×α)):(gB f q).map Prod.fst=q.map Prod.fst:=by unfold gB;rw[List.map_map];rfl
theorem tE(f:α->K)(q:List (κ×α))(k:κ):uk (gB f q) k=(qR q k).map f:=by
 unfold uk qR gB;induction q with
 | nil=>rfl
 | cons p q ih=>
   simp only[bQ,List.find?_cons];cases h:decide (p.1=k);·exact ih
   ·rfl
theorem uL(f:α->K)(q:List (κ×α))(k:κ)(v:α):l9 (gB f q) k (f v)=gB f (si q k v):=by
 unfold l9 si;rw[yk];split
 ·unfold gB
  rw[List.map_map,List.map_map];congr 1;funext p;simp only[Function.comp];split<;>rfl
 ·unfold gB;simp
theorem mI(f:α->K)(q:List (κ×α))(k:κ):lD (gB f q) k=gB f (gV q k):=by unfold lD gV gB;rw[List.filter_map];rfl
end
end Go.Hop
namespace Go.Proofs.YtpeepcmdehhbgaaGreatDoor
open Go.RowKit Go.Hop V
abbrev lp:=Int×Int×Int
structure Ag where
 (node eX:Nat) (b:Bk) (now tag last:Nat) (tr:List (lp×(Nat×Nat))) (ask:List (Int×lp)) (rs:List Rc) (k:Nat)
def rm(rs:List Rc):List UInt8:=rs.flatMap λr=>frame r.B
theorem oD(rs:List Rc)(r:Rc):rm (rs++[r])=rm rs++frame r.B:=by simp[rm]
def Ag.bs(x:Ag):List UInt8:=rm x.rs
def rn(t:Nat×Nat):K := aZ #[J t.1,J t.2]
structure vE where
 (a st x d bT bK:Nat) (z:aQ)
def qm(p:vE)(x:Ag):Array K:=#[J x.node,J x.eX,.pointer (some ⟨p.x,0,none⟩),.pointer (some ⟨p.st,0,none⟩),J x.now,J x.tag,J x.last,.map (some p.bT),.map (some p.bK)]
def dR(p:vE)(x:Ag):List Bl:=[.c p.a 192 (qm p x),.o (iq p.st p.z x.b),.o (eC p.x p.d x.rs.length x.bs x.k),.o (eI o0 p.bK (gB iK x.ask)),.o (eI iK p.bT (gB rn x.tr))]
theorem fB(p:vE)(x:Ag):pF (dR p x):=⟨trivial,iq.framed _ _ _,eC.framed _ _ _ _ _,eI.framed _ _,eI.framed _ _,trivial⟩
structure Ag.Ok(x:Ag):Prop where
 node:x.node<8
 eX:1<=x.eX∧x.eX<=8
 last:x.last<x.eX
 b:x.b.Lm x.rs.length
 sh:1<=x.b.sh∧x.b.sh<=4
 bs:x.bs.length<=1048576
 rs:∀r∈x.rs,r.Ok
 qk:∀k,0<=(x.b.qu k).k∧(x.b.qu k).k<=9223372036854775807
theorem Ca:∀l:List Rc,5*l.length<=(rm l).length
 | []=>bh _
 | x::l=>by
   have:=Ca l;have:=oW x.B;simp only[rm,bJ,bd,bD] at *;omega
theorem Ag.Ok.few{x:Ag}(h:x.Ok):x.rs.length<=209715:=by have I:=Ca x.rs;have G:=h.bs;unfold Ag.bs at G;omega
def Ag.sync(x:Ag):Ag:={ x with k:=x.bs.length }
def Ag.i6(x:Ag)(r:Rc):Int:=V.i6 x.bs r.B
theorem qS(w:X)(D:aV)(x d n k:Nat)(l b:aT)(u:K)(hb:eM b u w)(hn:n<=1099511627776):Lw W D 241 #[x,u] [.o (eC x d n l k)] (λ(_:Unit)e=>e=b5 (J (V.i6 l b))) (λ_=>[.o (eC x d (if V.i6 l b=0 then n+1 else n:Nat) (V.zg l b) k)]) w:=by obtain⟨A,m,c,rfl,K8,_⟩:=hb;have h:=Lw.turns (D:=D) (va w x d n l k A m c b K8 ap);rw[show ((if V.i6 l b=0 then n+1 else n:Nat):Int)=if V.i6 l b=0 then (n:Int)+1 else (n:Int) by split<;>simp];exact h
theorem mJ{l b:aT}(h:V.i6 l b=0):V.zg l b=l++frame b∧room l b=true:=by
 rcases bC (room l b) with I|I
 ·exact⟨((mG l b).1 I).2,I⟩
 ·have:=((mG l b).2 I).1
  rw[h] at this;cases this
theorem tF{l b:aT}(h:V.i6 l b≠0):V.zg l b=l∧room l b=false:=by
 rcases bC (room l b) with I|I
 ·exact absurd ((mG l b).1 I).1 h
 ·exact⟨((mG l b).2 I).2,I⟩
theorem Jp(w:X)(D:aV)(p:vE)(x:Ag):Lw W D 221 #[.pointer (some ⟨p.a,0,none⟩)] (dR p x) (λ(_:Unit)e=>e=b5 (a_ #[])) (λ_=>dR p x.sync) w:=by intro V hM hV;have hS:=St.begin_ hM (λb hb=>(hV b hb).1) (fB _ _);have E:=hS.facts.1;simp only[qm] at E;go_in;go_wp2_with fail;refine (hS.Fo 2 rfl (λ_=>eC.framed _ _ _ _ _) hS.no (λU _ _=>Lw.turns (um w p.x p.d _ x.bs x.k))).mono ?_;rintro e w1 ⟨_,rfl,ej⟩;go_wp2;go_end0;obtain⟨r1,r2⟩:=ej.fin;exact⟨(),rfl,r1,r2⟩
end Go.Proofs.YtpeepcmdehhbgaaGreatDoor
end
namespace Go.Proofs.YtpeepcmdehhbgaaGreatDoor
open RowKit Hop V
theorem _root_.Go.Hop.St.cast{V:aV}{l l':List Bl}(h:St V w0 l w)(e:l=l'):St V w0 l' w:=e▸h
section
variable{V:aV}{O:X}{l:List Bl}{st:Nat}{z:aQ}{b:Bk}
theorem iq.nH(h:St V w0 l w)(i:Nat)(hi:l[i]?=some (.o (iq st z b))):(z.length=4∧b.q.length=4)∧∃sl cu,St V w0 (l.eraseIdx i++gQ st z sl cu b) w:=by obtain⟨I,sl,cu,G⟩:=iq.opn (h.front i hi);exact⟨I,sl,cu,G.perm bg⟩
theorem iq.yl{cu:K}(hz:z.length=4∧b.q.length=4)(h:St V w0 (l++gQ st z sl cu b) w):St V w0 (.o (iq st z b)::l) w:=iq.cls hz (h.perm bg)
theorem WR{U:aV}(h:iq st z b w U)(hl:b.ZT)(s:aR)(x:Nat)(hs:s.size<=1000000)(Y:x<=18446744073709551615):dz W 278 #[st,aZ #[aX s,ae ah x]] w λe O=>e=b5 (J (iV b.eP (s,x)))∧Grow w O:=by obtain⟨_,sl,cu,hM⟩:=h;obtain⟨_,hB⟩:=xe hM 0 rfl;obtain⟨U',T,_⟩:=nV hM 1 rfl;obtain⟨A,c,rfl,hI,_⟩:=Row.jL (show Row w U' 147 2 sl b.eP.length (fm b.eP) from T);exact NZ w st A b.eP.length c b.eP U' hI (hB.cell 1) hB.lt (by have:=hl.eP;omega) hl.u64 s x hs Y
end
def Ag.fX(x:Ag)(d:Dl):Ag×Int:=if iV x.b.eP d≠0 then (x,iV x.b.eP d) else if x.i6 (.eP d)≠0 then (x,x.i6 (.eP d)) else ({ x with b:={ x.b with eP:=x.b.eP++[d] },rs:=x.rs++[.eP d] },0)
theorem Ls(w:X)(D:aV)(p:vE)(x:Ag)(Y:x.Ok)(s:aR)(n:Nat)(hs:s.size<=1000000)(hn:n<=18446744073709551615):Lw W D 217 #[.pointer (some ⟨p.a,0,none⟩),aX s,ae ah n] (dR p x) (λ(_:Unit)e=>e=b5 (J (x.fX (s,n)).2)) (λ_=>dR p (x.fX (s,n)).1) w:=by
 obtain⟨R,HR⟩:=az (x.fX (s,n));rw[<-HR.out];intro V hM hV;have Uc:=Y.b.lim (by have:=Y.few;omega);obtain⟨y,wa,HY,HA,hS⟩:=(St.begin_ hM (λb hb=>(hV b hb).1) (fB _ _)).new' #[aX s,ae ah n] 147;have gD:∀b O,St V w (.c y 147 #[aX s,ae ah n]::.c p.a 192 (qm p x)::b) O->O.cell? ⟨p.a,3,none⟩=some (.pointer (some ⟨p.st,0,none⟩))∧O.cell? ⟨p.a,2,none⟩=some (.pointer (some ⟨p.x,0,none⟩))∧O.cell? ⟨y,0,none⟩=some (aX s)∧O.cell? ⟨y,1,none⟩=some (ae ah n):=λb O h=>
  ⟨h.facts.2.1.1 3,h.facts.2.1.1 2,h.facts.1.1 0,h.facts.1.1 1⟩
 go_in;go_wp2_with fail;rw[<-HA.out,<-HY.out];have eW:=hS.grow (Grow.refl _).drew;have eA:=gD _ _ eW;refine dJ rfl ?_;refine fC (λO=>O.cell? ⟨p.a,3,none⟩=some (.pointer (some ⟨p.st,0,none⟩))∧O.cell? ⟨p.a,2,none⟩=some (.pointer (some ⟨p.x,0,none⟩))∧O.cell? ⟨y,0,none⟩=some (aX s)∧O.cell? ⟨y,1,none⟩=some (ae ah n)) [] 7 rfl [0,1,2,3,4] ?_;iterate 5 (refine eV rfl eA (λw1 ⟨I,G,L,h4⟩=>aM) ?_)
 refine eZ 5 [6] rfl ?_;obtain⟨U,hU,_⟩:=eW.own.see 2 rfl;have YC:=WR hU Uc s n hs hn;obtain⟨abl,HE⟩:=az (iV x.b.eP (s,n));rw[<-HE.out] at YC;have jJ:R=if abl≠0 then (x,abl) else if x.i6 (.eP (s,n))≠0 then (x,x.i6 (.eP (s,n))) else ({ x with b:={ x.b with eP:=x.b.eP++[(s,n)] },rs:=x.rs++[.eP (s,n)] },0):=by rw[HR.out,HE.out];rfl
 clear HR;go_wp2_with fail;refine YC.mono ?_;rintro e w1 ⟨rfl,eD⟩;have ej:=eW.grow eD;have kM:=gD _ _ ej;clear eW hS eA hU YC;go_wp2_with fail;refine⟨λ_=>kM,?_⟩;refine eV rfl kM (λw1 ⟨I,G,L,h4⟩=>aM) ?_;refine gj ?_;by_cases h0:abl=0;case neg=>
  rw[aA h0] at jJ;have Mc:(abl != 0)=true:=by simp[h0]
  replace h0:=Q h0;replace jJ:=Q jJ;go_wp2;go_ret;rw[jJ.out];obtain⟨r1,r2⟩:=(ej.dO 0 rfl).fin;exact⟨(),rfl,r1,r2⟩
 case pos=>
 rw[aB (by simp[h0])] at jJ;have a0i:jh (s,n):=by
  have I:=(wi (HE.out.symm.trans h0)).2;have G:abn.fW s=0:=by simp[gZ] at I;exact I.1
  exact⟨I,jt G,by show n<_;omega⟩
 have hl31:=(wi (HE.out.symm.trans h0)).1;subst h0;clear HE;replace jJ:=Q jJ;go_wp2_with fail;have eW:=ej.grow (Grow.refl _).drew;have lV:=gD _ _ eW;refine dJ rfl ?_;refine fC (λO=>O.cell? ⟨p.a,3,none⟩=some (.pointer (some ⟨p.st,0,none⟩))∧O.cell? ⟨p.a,2,none⟩=some (.pointer (some ⟨p.x,0,none⟩))∧O.cell? ⟨y,0,none⟩=some (aX s)∧O.cell? ⟨y,1,none⟩=some (ae ah n)) [] 8 rfl [0,1,2,3,4] ?_;iterate 5 (refine eV rfl lV (λw1 ⟨I,G,L,h4⟩=>aM) ?_)
 refine eZ 5 [] rfl ?_;have hSm:=D_ w1.drew s n a0i.2;go_wp2_with fail;refine hSm.mono ?_;rintro e w2 ⟨u,rfl,fk,vz⟩;have dV:=eW.grow fk;have lV:=gD _ _ dV;obtain⟨Au,mu,cu,rfl,ON⟩:=id vz;go_wp2_with fail;refine⟨λ_=>lV,?_⟩;refine eZ 6 [7] rfl ?_;go_wp2_with fail;refine (dV.Fo 3 rfl (λ_=>eC.framed _ _ _ _ _) dV.no (λU _ _=>qS w2 _ p.x p.d x.rs.length x.k x.bs (Rc.eP (s,n)).B _ vz (by have:=Y.few;omega))).mono ?_;rintro e w3 ⟨_,rfl,dX⟩;obtain⟨E2,HE2⟩:=az (x.i6 (.eP (s,n)));have Ff:i6 x.bs (Rc.eP (s,n)).B=E2:=HE2.out.symm;rw[Ff] at dX ⊢;have jJ:=jJ.out;rw[<-HE2.out] at jJ;simp only[bz,bA,dR] at dX;have sy:=gD _ _ dX;clear eW dV ej lV kM;by_cases I:E2=0;case neg=>
  rw[aA I] at jJ;rw[(tF (by rw[Ff];exact I)).1,aB I] at dX;have Mc:(E2 != 0)=true:=by simp[I]
  replace I:=Q I;replace jJ:=Q jJ;clear Ff HE2;go_wp2_with fail;refine⟨λ_=>sy,?_⟩;refine eV rfl sy (λw1 ⟨I,G,L,h4⟩=>aM) ?_;refine gj ?_;go_wp2;go_ret;rw[jJ.out];obtain⟨r1,r2⟩:=(dX.dO 0 rfl).fin;exact⟨(),rfl,r1,r2⟩
 case pos=>
 rw[aB (by simp[I])] at jJ;rw[(mJ (Ff.trans I)).1,aA I] at dX;subst I;replace jJ:=Q jJ;clear Ff HE2;go_wp2_with fail;refine⟨λ_=>sy,?_⟩;refine eV rfl sy (λw1 ⟨I,G,L,h4⟩=>aM) ?_;refine gj ?_;obtain⟨hz,sl,cu2,eO⟩:=iq.nH dX 2 rfl;obtain⟨A1,c1,rfl,_,_⟩:=fK.nW eO 6 rfl;go_wp2_with fail;have eW:=eO.grow (Grow.refl _).drew;have hcT:∀r b O,St V w (.c y 147 #[aX s,ae ah n]::.c p.a 192 (qm p x)::r) O->St V w (.c p.st 186 (Fp p.z (Z A1 x.b.eP.length c1) cu2 x.b)::b) O->(O.cell? ⟨p.a,3,none⟩=some (.pointer (some ⟨p.st,0,none⟩))∧O.cell? ⟨p.st,1,none⟩=some (Z A1 x.b.eP.length c1)∧O.cell? ⟨y,0,none⟩=some (aX s)∧O.cell? ⟨y,1,none⟩=some (ae ah n)):=λr b O h G=>⟨h.facts.2.1.1 3,G.facts.1.1 1,h.facts.1.1 0,h.facts.1.1 1⟩;have q_:=hcT _ _ _ eW (eW.front 5 rfl);refine dJ rfl ?_;refine fC (λO=>O.cell? ⟨p.a,3,none⟩=some (.pointer (some ⟨p.st,0,none⟩))∧O.cell? ⟨p.st,1,none⟩=some (Z A1 x.b.eP.length c1)∧O.cell? ⟨y,0,none⟩=some (aX s)∧O.cell? ⟨y,1,none⟩=some (ae ah n)) [14,15,16] 17 rfl [0,1,2,3,4,5,6,7,8,9,10,11] ?_;iterate 12 (refine eV rfl q_ (λw1 ⟨I,G,L,h4⟩=>aM) ?_)
 refine eZ 12 [] rfl ?_;obtain⟨y2,wb,xL,HB,eF⟩:=eO.new' #[aX s,ae ah n] 147;go_wp2_with fail;rw[<-HB.out,<-xL.out];have eN:=eF.grow (Grow.refl _).drew;refine⟨λ_=>hcT _ _ _ (eN.dO 0 rfl) (eN.front 6 rfl),?_⟩;refine eZ 13 [] rfl ?_;refine g_ oQ rfl (.tmp 42) (.tmp 44) rfl rfl (eN.front 7 rfl) (A:=some ⟨y2,0,none⟩) (m:=1) (c:=1) (news:=[aX s,ae ah n]) rfl (In.reads ((eN.blk 0 rfl).jL (size:=2) (n:=1) rfl)) (by simp[Value.oneCell']) ap ?_;intro v' w8 fD;obtain⟨A8,c8,rfl,hc8,hm8⟩:=fK.nW fD 0 rfl;refine wpList_nil ⟨λ_=>hcT _ _ _ ((fD.dO 0 rfl).dO 0 rfl) (fD.front 7 rfl),?_⟩;refine fY 14 rfl aw ?_;have hf8:=(fD.front 7 rfl).facts.1;simp only[Fp] at hf8;go_wp2_with fail;have gy:=(((fD.put 7 rfl 1 (Z A8 (x.b.eP.length+1) c8)).dO 1 rfl).dO 1 rfl);go_ret;rw[jJ.out];have iA:=iq.yl (b:={ x.b with eP:=x.b.eP++[(s,n)] }) (sl := Z A8 (x.b.eP.length+1) c8) (cu:=cu2) (l:=[.c p.a 192 (qm p x),.o (eC p.x p.d (x.rs.length+1:Nat) (x.bs++frame (Rc.eP (s,n)).B) x.k),.o (eI o0 p.bK (gB iK x.ask)),.o (eI iK p.bT (gB rn x.tr))]) hz (by unfold gQ fm;dsimp only;rw[bd,bL];exact gy.back 5)
 have kQ:=(iA.back 1).cast (l':=dR p { x with b:={ x.b with eP:=x.b.eP++[(s,n)] },rs:=x.rs++[.eP (s,n)] }) (by unfold dR Ag.bs;dsimp only;rw[oD,bd];rfl)
 obtain⟨r1,r2⟩:=kQ.fin;exact⟨(),rfl,r1,r2⟩
def G_(x d n k:Nat)(l b:aT)(abl:Int):dW:=if abl=0 then eC x d (n+1:Nat) (l++frame b) (l++frame b).length else eC x d n l k
theorem Ei(x d n k:Nat)(l b:aT)(abl:Int):eu (G_ x d n k l b abl):=by unfold G_;split<;>exact eC.framed _ _ _ _ _
theorem OO(w:X)(D:aV)(x d n k:Nat)(l b:aT)(u:K)(hb:eM b u w)(hn:n<=1099511627776):Lw W D 183 #[x,u] [.o (eC x d n l k)] (λ(_:Unit)e=>e=b5 (J (i6 l b))) (λ_=>[.o (G_ x d n k l b (i6 l b))]) w:=by
 intro V hM hV;have hS:=St.begin_ hM (λb hb=>(hV b hb).1) ⟨eC.framed _ _ _ _ _,trivial⟩;have hA:=hS.Fo 0 rfl (λ_=>eC.framed _ _ _ _ _) hS.no (λU _ _=>qS w _ x d n k l b u hb hn);obtain⟨Au,mu,cu,rfl,_⟩:=hb;have r0:=@mJ l b;have r1:=@tF l b;obtain⟨abl,HE⟩:=az (i6 l b);rw[<-HE.out] at hA r0 r1 ⊢;obtain⟨abm,HT⟩:=az (G_ x d n k l b abl);rw[<-HT.out];clear HE;go_in;go_wp2_with fail;refine hA.mono ?_;rintro e w1 ⟨_,rfl,ej⟩;by_cases h:abl=0
 ·rw[aA h,(r0 h).1] at ej
  have hT:abm=eC x d (n+1:Nat) (l++frame b) (l++frame b).length:=by rw[HT.out];unfold G_;rw[aA h]
  clear r0 r1 hA HT;subst h;replace hT:=Q hT;go_wp2_with fail;refine (ej.Fo 0 rfl (λ_=>eC.framed _ _ _ _ _) ej.no (λU _ _=>Lw.turns (um w1 x d ((n+1:Nat):Int) (l++frame b) k))).mono ?_;rintro e w2 ⟨_,rfl,dV⟩;go_wp2;go_ret;obtain⟨k1,k2⟩:=dV.fin;exact⟨(),rfl,by rw[hT.out];exact k1,k2⟩
 ·rw[aB h,(r1 h).1] at ej
  have hT:abm=eC x d n l k:=by rw[HT.out];unfold G_;rw[aB h]
  have hE:(abl == 0)=false:=beq_eq_false_iff_ne.2 h;clear r0 r1 hA HT;replace hT:=Q hT;replace h:=Q h;go_wp2;go_ret;obtain⟨k1,k2⟩:=ej.fin;exact⟨(),rfl,by rw[hT.out];exact k1,k2⟩
def Ag.next(x:Ag)(i:lp):Ag:={ x with tag:=x.tag+1,ask:=si x.ask ((x.tag+1:Nat):Int) i }
theorem Jq(w:X)(D:aV)(p:vE)(x:Ag)(ht:x.tag<=4611686018427387904)(i:lp):Lw W D 285 #[.pointer (some ⟨p.a,0,none⟩),iK i] (dR p x) (λ(_:Unit)e=>e=b5 (J ((x.tag+1:Nat):Int))) (λ_=>dR p (x.next i)) w:=by
 obtain⟨R,HR⟩:=az (x.next i);rw[<-HR.out];obtain⟨k0,k1,k2⟩:=i;intro V hM hV;have fN:=St.begin_ hM (λb hb=>(hV b hb).1) (fB _ _);have E:=(fN.new #[J k0,J k1,J k2] 37).facts.2.1;simp only[qm] at E;obtain⟨y,wa,HY,HA,hS⟩:=fN.new' #[J k0,J k1,J k2] 37;unfold iK;obtain⟨abm,HT⟩:=az (x.tag+1:Nat);have hT:IntKind.i64.wrap ((x.tag:Int)+1)=(abm:Int):=by rw[HT.out,IntKind.wrap_i64];omega
 go_in;go_wp2_with fail;rw[<-HA.out,<-HY.out];have ej:=hS.put 1 rfl 5 (J abm);generalize wa.setCell ⟨p.a,5,none⟩ (J abm)=w1 at ej;clear E HA HY hT;have eW:=ej.grow (Grow.refl _).drew;have eA:w1.drew.cell? ⟨p.a,8,none⟩=some (.map (some p.bK))∧w1.drew.cell? ⟨p.a,5,none⟩=some (J abm)∧w1.drew.cell? ⟨y,0,none⟩=some (J k0)∧w1.drew.cell? ⟨y,1,none⟩=some (J k1)∧w1.drew.cell? ⟨y,2,none⟩=some (J k2):=by have hf:=eW.facts;exact⟨hf.2.1.1 8,hf.2.1.1 5,hf.1.1 0,hf.1.1 1,hf.1.1 2⟩
 refine dJ rfl ?_;refine fC (λO=>O.cell? ⟨p.a,8,none⟩=some (.map (some p.bK))∧O.cell? ⟨p.a,5,none⟩=some (J abm)∧O.cell? ⟨y,0,none⟩=some (J k0)∧O.cell? ⟨y,1,none⟩=some (J k1)∧O.cell? ⟨y,2,none⟩=some (J k2)) [9] 10 rfl [0,1,2,3,4,5,6,7,8] ?_;iterate 9 (refine eV rfl eA (λw1 ⟨I,G,L,h4,h5⟩=>aM) ?_)
 refine fY 9 rfl aw ?_;obtain⟨w2,eR,dV⟩:=eW.VR Og Tryz.underlying190 4 rfl (abm:Int) (iK (k0,k1,k2));unfold o0 iK at eR;clear eA;have C9:w2.cell? ⟨p.a,5,none⟩=some (J abm):=dV.facts.2.1.1 5;go_wp2;go_ret;have dX:=(dV.dO 0 rfl).cast (l':=dR p R) (by rw[HR.out];unfold dR Ag.next qm;dsimp only;rw[<-uL,HT.out];rfl)
 obtain⟨r1,r2⟩:=dX.fin;first|exact⟨(),by rw[HT.out];rfl,r1,r2⟩|exact⟨by rw[HT.out];rfl,r1,r2⟩
def Ag.pH(x:Ag)(k:Nat)(ds:List Dl):Rc := .pH k ((x.b.qu k).k+1).toNat ds
def Ag.kx(x:Ag)(k:Nat)(ds:List Dl):Option Ag:=if 16<=(x.b.qu k).l.length∨(x.b.qu k).k=9223372036854775807∨x.i6 (x.pH k ds)≠0 then none else some { x with b:=x.b.add k ((x.b.qu k).k+1) ds,rs:=x.rs++[x.pH k ds] }
def zo(p:vE)(y:Nat)(sq:Int)(sl:K)(w:X):Prop:=(w.cell? ⟨p.a,2,none⟩=some (.pointer (some ⟨p.x,0,none⟩))∧w.cell? ⟨p.a,3,none⟩=some (.pointer (some ⟨p.st,0,none⟩)))∧w.cell? ⟨y,0,none⟩=some (J sq)∧w.cell? ⟨y,1,none⟩=some sl
theorem zo.of{V:aV}{p:vE}{x:Ag}{y:Nat}{sq:Int}{l:List Bl}(h:St V w0 (.c y 196 #[J sq,sl]::.c p.a 192 (qm p x)::l) w):zo p y sq sl w:=⟨⟨h.facts.2.1.1 2,h.facts.2.1.1 3⟩,h.facts.1.1 0,h.facts.1.1 1⟩
theorem WT(w:X)(D:aV)(p:vE)(x:Ag)(Y:x.Ok)(k:Nat)(N:k<4)(ds:List Dl)(A:aU)(c:Nat)(hd:jM w D A ds.length ds)(vt:ds.length<=c)(iO:c<=dG)(tS:ds.length<=8)(sB:∀d∈ds,Small d)(j6:∀b,D b->b<(w:Nat)):Lw W D 282 #[.pointer (some ⟨p.a,0,none⟩),J k,Z A ds.length c] (dR p x) (λ(_:Unit)e=>e=b5 (aY (x.kx k ds).isSome)) (λ_=>dR p ((x.kx k ds).getD x)) w:=by
 obtain⟨R,HR⟩:=az (x.kx k ds);rw[<-HR.out];intro V hM hV;have kV:∀x,D x->x<(w:Nat)∧¬ V x:=λx Y=>⟨j6 x Y,λh=>(hV x h).2 Y⟩;have hS:=St.begin_ hM (λb hb=>(hV b hb).1) (fB _ _);obtain⟨hz,sl,cu,ej⟩:=iq.nH hS 1 rfl;obtain⟨g,Hg⟩:=az (p.z.getD k 0);obtain⟨ql,qk,Hq⟩:∃ql qk,Hid (x.b.qu k=⟨ql,qk⟩):=⟨_,_,Q rfl⟩;have hqu:(n_ p.z x.b.q)[k]?=some (.o (abo.eh g ql qk)):=by rw[lh hz.1 hz.2 N,Hg.out];have:=Hq.out;unfold Bk.qu at this;rw[this]
 have Iy:0<=qk∧qk<=9223372036854775807:=by have:=Y.qk k;rw[Hq.out] at this;exact this
 have a4W:x.pH k ds=.pH k (qk+1).toNat ds:=by unfold Ag.pH;rw[Hq.out]
 have K5:(Fp p.z sl cu x.b)[3+k]?=some ((g:K)):=by
  have h4:k=0∨k=1∨k=2∨k=3:=by omega
  rw[Hg.out];rcases h4 with rfl|rfl|rfl|rfl<;>rfl
 have hca:w.cell? ⟨p.a,3,none⟩=some (.pointer (some ⟨p.st,0,none⟩)):=hS.facts.1.1 3;have jQ:w.cell? ⟨p.st,3+k,none⟩=some ((g:K)):=((ej.front 4 rfl).facts.1.1 (3+k)).trans K5;have jJ:R=if 16<=ql.length∨qk=9223372036854775807∨x.i6 (.pH k (qk+1).toNat ds)≠0 then none else some { x with b:=x.b.add k (qk+1) ds,rs:=x.rs++[.pH k (qk+1).toNat ds] }:=by rw[HR.out];unfold Ag.kx;rw[a4W,Hq.out]
 obtain⟨U,hQ,_⟩:=ej.own.see (k+7) (iD (show (_:List Bl)[k+7]?=some (.o (abo.eh g ql qk)) from hqu));have UP:=uG w g ql qk U hQ;obtain⟨sq,HSQ⟩:=az (IntKind.i64.wrap (qk+1):Int);obtain⟨y,wa,HY,HA,dV⟩:=ej.new' #[J sq,Z A ds.length c] 196;have YU:=zo.of dV;clear hQ;go_in;go_wp2_with fail;refine UP.mono ?_;rintro e w1 ⟨rfl,rfl⟩;replace jJ:=Q jJ;have a4X:IntKind.i64.wrap (qk+1)=sq:=HSQ.out.symm;go_wp2_with fail;rw[<-HA.out,<-HY.out];clear hca jQ UP;have eW:=dV.grow (Grow.refl _).drew;have eA:=zo.of eW;obtain⟨U,hQ,_⟩:=eW.own.see (k+8) (iD (show (_:List Bl)[k+8]?=some (.o (abo.eh g ql qk)) from hqu));have Me:=abo.Rs wa.drew g ql qk U hQ;have UP:=uG wa.drew g ql qk U hQ;clear hQ;have fin:∀O,St V w (.c y 196 #[J sq,Z A ds.length c]::.c p.a 192 (qm p x)::.o (eC p.x p.d x.rs.length x.bs x.k)::.o (eI o0 p.bK (gB iK x.ask))::.o (eI iK p.bT (gB rn x.tr))::gQ p.st p.z sl cu x.b) O->dN (px (dR p x)) O (iY V w O)∧dM V w O:=λO h=>
  (((iq.yl (l:=[.c y 196 #[J sq,Z A ds.length c],.c p.a 192 (qm p x),.o (eC p.x p.d x.rs.length x.bs x.k),.o (eI o0 p.bK (gB iK x.ask)),.o (eI iK p.bT (gB rn x.tr))]) hz h).dO 1 rfl).back 1).fin
 refine dJ rfl ?_;refine fC (zo p y sq (Z A ds.length c)) [] 19 rfl [0] ?_;refine eV rfl eA (λw1 h=>aM) ?_;refine eZ 1 [2,3] rfl ?_;go_wp2_with fail;refine Me.mono ?_;rintro e w1 ⟨rfl,rfl⟩;go_wp2_with fail;refine⟨λ_=>eA,?_⟩;by_cases h16:16<=ql.length
 ·have d16:decide ((ql.length:Int) >= 16)=true:=aC ap
  have hR0:Hid (R=none):=Q (by rw[jJ.out,aA (.inl h16)]);iterate 2 (refine eV rfl eA (λw1 h=>aM) ?_)
  refine vX [4,5,6,7,8,9,10,11,12,13,14,15,16,17,18] ?_;iterate 3 (refine Ru rfl eA ?_)
  iterate 2 (refine eV rfl eA (λw1 h=>aM) ?_)
  iterate 9 (refine Ru rfl eA ?_)
  refine eV rfl eA (λw1 h=>aM) ?_;refine gj ?_;go_wp2;go_ret;rw[hR0.out];obtain⟨r1,r2⟩:=fin _ eW;first|exact⟨(),rfl,r1,r2⟩|exact⟨rfl,r1,r2⟩
 have d16:decide ((ql.length:Int) >= 16)=false:=aD ap;iterate 2 (refine eV rfl eA (λw1 h=>aM) ?_)
 refine vX [4] ?_;refine eV rfl eA (λw1 h=>aM) ?_;refine eZ 5 [6,7,8] rfl ?_;go_wp2_with fail;refine UP.mono ?_;rintro e w1 ⟨rfl,rfl⟩;go_wp2_with fail;refine⟨λ_=>eA,?_⟩;by_cases Bb:qk=9223372036854775807
 ·have hR0:Hid (R=none):=Q (by rw[jJ.out,aA (.inr (.inl Bb))])
  have dmx:(qk == 9223372036854775807)=true:=by rw[Bb];rfl
  replace Bb:=Q Bb;iterate 3 (refine eV rfl eA (λw1 h=>aM) ?_)
  refine vX [9,10,11,12,13,14,15,16,17,18] ?_;iterate 9 (refine Ru rfl eA ?_)
  refine eV rfl eA (λw1 h=>aM) ?_;refine gj ?_;go_wp2;go_ret;rw[hR0.out];obtain⟨r1,r2⟩:=fin _ eW;first|exact⟨(),rfl,r1,r2⟩|exact⟨rfl,r1,r2⟩
 have dmx:(qk == 9223372036854775807)=false:=beq_eq_false_iff_ne.2 Bb;obtain⟨s',rfl,vQ,z6⟩:∃s':Nat,sq=(s':Int)∧s'<=9223372036854775807∧qk+1=(s':Int):=⟨(qk+1).toNat,by rw[HSQ.out,IntKind.wrap_i64];omega,by omega,by omega⟩;have jJ:Hid (R=if x.i6 (.pH k s' ds)≠0 then none else some { x with b:=x.b.add k s' ds,rs:=x.rs++[.pH k s' ds] }):=Q (by
  rw[jJ.out,z6,show ((s':Int)).toNat=s' by omega];by_cases he:x.i6 (.pH k s' ds)=0;·rw[aB (by simp[h16,Bb,he]),aB (by simp[he])]
  ·rw[aA (.inr (.inr he)),aA he])
 clear a4X;replace Bb:=Q Bb;iterate 3 (refine eV rfl eA (λw1 h=>aM) ?_)
 refine vX [9,10,11,12,13,14] ?_;iterate 6 (refine eV rfl eA (λw1 ⟨⟨I,G⟩,L,h4⟩=>aM) ?_)
 refine eZ 15 [] rfl ?_;have hB:=Gy wa.drew k s' A ds.length c ds D (In.keep hd λb hb _=>eW.keep kV b hb) tS ap vQ sB;go_wp2_with fail;refine hB.mono ?_;rintro e w2 ⟨u,rfl,fk,vz⟩;have dX:=eW.grow fk;obtain⟨Au,mu,cu2,rfl,ON⟩:=id vz;go_wp2_with fail;refine⟨λ_=>zo.of dX,?_⟩;refine eZ 16 [17,18] rfl ?_;go_wp2_with fail;refine (dX.Fo 2 rfl (λ_=>eC.framed _ _ _ _ _) dX.no (λU _ _=>qS w2 _ p.x p.d x.rs.length x.k x.bs (Rc.pH k s' ds).B _ vz (by have:=Y.few;omega))).mono ?_;rintro e w3 ⟨_,rfl,eO⟩;obtain⟨E2,HE2⟩:=az (x.i6 (.pH k s' ds));have Ff:i6 x.bs (Rc.pH k s' ds).B=E2:=HE2.out.symm;rw[Ff] at eO ⊢;have jJ:=jJ.out;rw[<-HE2.out] at jJ;simp only[bz,bA] at eO;have q_:=zo.of eO;clear eW dX eA Me UP;by_cases I:E2=0;case neg=>
  rw[aA I] at jJ;rw[(tF (by rw[Ff];exact I)).1,aB I] at eO;have Mc:(E2 != 0)=true:=by simp[I]
  replace I:=Q I;replace jJ:=Q jJ;clear Ff HE2;go_wp2_with fail;refine⟨λ_=>q_,?_⟩;iterate 2 (refine eV rfl q_ (λw1 h=>aM) ?_)
  refine gj ?_;go_wp2;go_ret;rw[jJ.out];obtain⟨r1,r2⟩:=fin _ eO;first|exact⟨(),rfl,r1,r2⟩|exact⟨rfl,r1,r2⟩
 case pos=>
 rw[aB (by simp[I])] at jJ;rw[(mJ (Ff.trans I)).1,aA I] at eO;subst I;replace jJ:=Q jJ;clear Ff HE2 fin;go_wp2_with fail;refine⟨λ_=>q_,?_⟩;iterate 2 (refine eV rfl q_ (λw1 h=>aM) ?_)
 refine gj ?_;have eF:=(iq.yl (l:=[.c y 196 #[J s',Z A ds.length c],.c p.a 192 (qm p x),.o (eC p.x p.d (x.rs.length+1:Nat) (x.bs++frame (Rc.pH k s' ds).B) x.k),.o (eI o0 p.bK (gB iK x.ask)),.o (eI iK p.bT (gB rn x.tr))]) hz eO).back 2;have eW:=eF.grow (Grow.refl _).drew;have C9:=zo.of eW;go_wp2_with fail;refine dJ rfl ?_;refine fC (zo p y s' (Z A ds.length c)) [] 7 rfl [0,1,2,3,4,5] ?_;iterate 6 (refine eV rfl C9 (λw1 ⟨⟨I,G⟩,L,h4⟩=>aM) ?_)
 refine eZ 6 [] rfl ?_;have Uc:=Y.b.lim (by have:=Y.few;omega);go_wp2_with fail;refine (eW.Fo 2 rfl (λ_=>iq.framed _ _ _) (St.far kV) (λU _ jR=>O2 _ (λz=>U z∨D z) p.st p.z x.b k N (s':Int) ds A c (In.mono (In.keep hd λb hb _=>eW.keep kV b hb) λ_ h => .inr h) vt iO ap (λz hz=>hz.elim (jR z) λh=>bw (j6 z h) eW.size) (by have:=Uc.eP;omega) (by have:=Uc.cuts;omega))).mono ?_;rintro e w6 ⟨_,rfl,eN⟩;go_wp2_with fail;refine⟨λ_=>zo.of eN,?_⟩;refine gj ?_;go_wp2;go_ret;rw[jJ.out];have fH:=(eN.dO 0 rfl).cast (l':=dR p { x with b:=x.b.add k s' ds,rs:=x.rs++[.pH k s' ds] }) (by unfold dR Ag.bs;dsimp only;rw[oD,show (x.rs++[Rc.pH k s' ds]).length=x.rs.length+1 by simp];rfl)
 obtain⟨r1,r2⟩:=fH.fin;first|exact⟨(),rfl,r1,r2⟩|exact⟨rfl,r1,r2⟩
end Go.Proofs.YtpeepcmdehhbgaaGreatDoor
end
