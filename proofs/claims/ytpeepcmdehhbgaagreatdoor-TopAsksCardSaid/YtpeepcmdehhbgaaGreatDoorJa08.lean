import Derived.Test.YtpeepcmdehhbgaaGreatDoorJa07
set_option linter.all false
set_option maxRecDepth 100000
set_option maxHeartbeats 2000000
open Go.Value renaming int->ae,slice->Z,string->aX,bool->aY,agg->aZ,tuple->a_
open Go.Ending renaming returned->b5
open Go.IntKind renaming i64->af,u64->ah
open Go.Proofs.Tryz renaming prog->W,underlying45->bG,underlying9->cW,underlying23->d9,underlying5->dm
open Go.Lib renaming hid->Q
open List renaming length_append->bd,length_map->bj,append_nil->bm,length_singleton->bv,set_cons_succ->bz,set_cons_zero->bA,setIfInBounds_toArray->bY,length_nil->cx,size_toArray->cy,perm_append_comm->bg,length_take->bn,take_succ_eq_append_getElem->br,eq_nil_of_length_eq_zero->bu,getElem_mem->bF,take_of_length_le->bH,flatMap_append->bL,length_drop->bO,drop_eq_getElem_cons->bP,range->bV,mem_of_mem_take->bW,drop_of_length_le->cH,mem_of_mem_drop->cX,length_filter_le->c_,length_set->dh,take_length->dq
open Nat renaming le_of_ble_eq_true->bf,le_refl->bh,zero_le->bo,lt_of_lt_of_le->bw,le_trans->bB,min_eq_left->cz
open Bool renaming eq_false_or_eq_true->bC,false_ne_true->cB
open Array renaming length_toList->bZ
open Go renaming Value->K,World->X,Calls->dz,Addr->dA,TypeId->dC,maxLen->dG
open Go (J az aE aA aB aC aD ay aj am ap aw aL aK aJ aI aH aV aU aT aR aQ aP aO aN)
section
variable{w0 w:X}{r:Nat}{cs:aP}
namespace Go.Proofs.YtpeepcmdehhbgaaGreatDoor
open RowKit Hop V
theorem X1(w:X)(D:aV)(g:Nat)(v:Vt)(hv:v.Ok):Lw W D 69 #[g] [.o (fJ g v)] (λ(_:Unit)e=>e=b5 (aY v.won)) (λ_=>[.o (fJ g v)]) w:=λV hM hV=>by have hS:=St.begin_ hM (λb hb=>(hV b hb).1) ⟨fJ.framed _ _,trivial⟩;obtain⟨A0,c0,q0,yU,hS⟩:=yh hS;refine (BQ (WL hS 0 hv rfl) hv.few).mono λe O ⟨I,G⟩=>?_;obtain⟨r1,r2⟩:=(nE (hS.grow G) yU).fin;exact⟨(),I,r1,r2⟩
theorem ym(v:Vt)(i had:Nat)(l:List En):(v.promise i had l).2.nodes=v.nodes:=by
 unfold Vt.promise;split;·rfl
 ·split
  ·rfl
  ·split<;>rfl
instance(t h:Nat)(B:Option dA)(n d:Nat):CoeDep (Nat×Nat×Option dA×Nat×Nat) (t,h,B,n,d) (Array K):=⟨#[J 4,(),(),(),(),(),ay,"",(),(),(),(),ae ah 0,J t,J h,Z B n d,(),()]⟩
theorem LC(w:X)(D:aV)(p:pj)(g:Nat)(x:Rp)(Y:x.Ok)(f:Int)(hf:x.hears f)(t had:Nat)(ht:t<=9223372036854775807)(OD:had<=9223372036854775807)(A2:aU)(c2:Nat)(q:List El)(hq:jO w D A2 q)(gC:∀z∈q,z.e.Ok)(hl:q.length<=128)(j6:∀b,D b->b<(w:Nat)):Lw W D 19 #[.pointer (some ⟨p.r,0,none⟩),J f,aZ (t,had,A2,q.length,c2)] (dP p g x) (λ(j:K×List Sd)en=>en=b5 j.1∧eS j.2=(ji x f.toNat t had (q.map El.e)).2) (λj => .o (dS j.1 j.2)::dP p g (ji x f.toNat t had (q.map El.e)).1) w:=by
 have jQ:mH (i9 t had (q.map El.e)) none 0 A2 c2=(t,had,A2,q.length,c2):=by unfold mH Ms.cells;first|rfl|(dsimp only[i9,kR];rw[bj];rfl)
 obtain⟨R,HR⟩:=az (ji x f.toNat t had (q.map El.e));rw[<-HR.out];intro V hM hV;have kV:∀x,D x->x<(w:Nat)∧¬ V x:=λx Y=>⟨j6 x Y,λh=>(hV x h).2 Y⟩;have hS:=St.begin_ hM (λb hb=>(hV b hb).1) (eL _ _ _);obtain⟨y,wa,HY,HA,hS⟩:=hS.new' (t,had,A2,q.length,c2) 45;have gl:Grow w wa:=by rw[HA.out];exact fb w _
 have yX:jO wa D A2 q:=fT.framed A2 q w wa D hq λb hb=>gl.block b (j6 b hb);have T:=ln wa D (i9 t had (q.map El.e)) none 0 A2 c2 q (.prom t had (q.map El.e) ht OD (λe he=>by obtain⟨z,hz,rfl⟩:=List.mem_map.1 he;exact gC z hz) (by rw[bj];exact hl)) (λ_=>⟨rfl,rfl⟩) (λh _=>absurd rfl h) In.nil yX rfl;rw[jQ] at T;clear jQ;go_in;go_wp2_with (refine dU rfl 45 _ rfl _ rfl (HA.out▸HY.out▸hS.blk 0 rfl) bG aw ?_);rw[<-HA.out];refine T.mono ?_;rintro en w1 ⟨rfl,eD⟩;rw[<-HY.out];have AY:=hS.grow eD;have jV:=AY.blk 0 rfl;have c0:=jV.cell 0;have ej:=AY.dO 0 rfl;clear T;have y_:w1.cell? ⟨p.r,0,none⟩=some (J x.node):=ej.facts.1.1 0;have oK:w1.cell? ⟨p.r,1,none⟩=some (J x.nodes):=ej.facts.1.1 1;obtain⟨F,rfl,ME,hF2⟩:∃F:Nat,f=(F:Int)∧F<x.nodes∧F≠x.node:=by obtain⟨I,G,L⟩:=hf;exact⟨f.toNat,by omega,by omega,by omega⟩
 clear hf;have e1:decide ((F:Int)<0)=false:=aD ap;have e2:decide (x.nodes<=F)=false:=aD ap;have e3:((F:Int) == (x.node:Int))=false:=beq_eq_false_iff_ne.2 ap;clear jV;have dX:=AY.grow (Grow.refl _).drew;have N:=rcS (l:=[]) (t:=t) (had:=had) (sl:=(Z A2 q.length c2)) (by rw[bm];exact dX) rfl rfl rfl;go_wp2_with fail;refine dJ rfl ?_;clear y_ oK;rcases qE:x.v with _|v
 ·rw[qE] at N
  simp only[jH] at N;have hN:R=vF x:=by rw[HR.out];unfold ji;rw[qE];rfl
  clear HR;have HR:=Q hN;clear hN;replace qE:=Q qE;refine gi (W_ p y t had (Z A2 q.length c2) (.pointer none) x.leads) 35 rfl ?_;refine f9 0 N ?_;refine f9 1 N ?_;refine f9 2 N ?_;refine f9 3 N ?_;refine f9 4 N ?_;refine f9 5 N ?_;refine dQ 6 rfl N ?_;refine dQ 7 rfl N ?_;refine dQ 8 rfl N ?_;refine dQ 9 rfl N ?_;refine dQ 10 rfl N ?_;refine dQ 11 rfl N ?_;refine dQ 12 rfl N ?_;refine dQ 13 rfl N ?_;refine fL 14 N ?_;refine fL 15 N ?_;refine dQ 16 rfl N ?_;refine dQ 17 rfl N ?_;refine dQ 18 rfl N ?_;refine dQ 19 rfl N ?_;refine dQ 20 rfl N ?_;refine dQ 21 rfl N ?_;refine fL 22 N ?_;refine fL 23 N ?_;refine dQ 24 rfl N ?_;refine dQ 25 rfl N ?_;refine dQ 26 rfl N ?_;refine dQ 27 rfl N ?_;refine dQ 28 rfl N ?_;refine dQ 29 rfl N ?_;refine dQ 30 rfl N ?_;refine dQ 31 rfl N ?_;refine dQ 32 rfl N ?_;refine dQ 33 rfl N ?_;refine fL 34 N ?_;refine eU ?_;go_wp2;go_ret;obtain⟨r1,r2⟩:=nI (dX.dO 0 rfl);rw[HR.out];first|exact⟨(Z none 0 0,[]),⟨rfl,rfl⟩,r1,r2⟩|exact⟨Z none 0 0,[],⟨rfl,rfl⟩,r1,r2⟩
 ·obtain⟨yW,zf⟩:=Y.v v qE
  rw[qE] at N;simp only[jH] at N;have hvr:∀O,St V w [.c y 45 (t,had,A2,q.length,c2),.c p.r 118 (iu p x.node x.nodes x.commit ((g:K)) x.leads x.own),.o (gR p.m x.m),.o (qP p.s p.x p.d x.s),.o (fJ g v)] O->St V w (.c y 45 (t,had,A2,q.length,c2)::dP p g x) O:=λO h=>by unfold dP;rw[qE];exact h
  have Fz:∀O,St V w [.c y 45 (t,had,A2,q.length,c2),.c p.r 118 (iu p x.node x.nodes x.commit ((g:K)) x.leads x.own),.o (gR p.m x.m),.o (qP p.s p.x p.d x.s),.o (fJ g v)] O->W_ p y t had (Z A2 q.length c2) ((g:K)) x.leads O:=λO h=>⟨(h.facts.1.1 13).trans rfl,(h.facts.1.1 14).trans rfl,(h.facts.1.1 15).trans rfl,h.facts.2.1.1 5,h.facts.2.1.1 6⟩;have P0:St V w [.c y 45 (t,had,A2,q.length,c2),.c p.r 118 (iu p x.node x.nodes x.commit ((g:K)) x.leads x.own),.o (gR p.m x.m),.o (qP p.s p.x p.d x.s),.o (fJ g v)] w1.drew:=by have h:=dX;unfold dP at h;rw[qE] at h;exact h
  refine gi (W_ p y t had (Z A2 q.length c2) ((g:K)) x.leads) 35 rfl ?_;refine f9 0 N ?_;refine f9 1 N ?_;refine f9 2 N ?_;refine f9 3 N ?_;refine f9 4 N ?_;refine f9 5 N ?_;refine f9 6 N ?_;refine f9 7 N ?_;refine f9 8 N ?_;refine f9 9 N ?_;refine f9 11 N ?_;refine f9 12 N ?_;refine dY 10 rfl ?_;go_wp2_with fail;refine (P0.at_ 4 rfl (λ_=>fJ.framed _ _) (D:=λ_=>False) (λ_ h=>h.elim) (qQ w1.drew _ g v yW)).mono ?_;rintro en w3 ⟨_,rfl,eO⟩;have eO:St V w [.c y 45 (t,had,A2,q.length,c2),.c p.r 118 (iu p x.node x.nodes x.commit ((g:K)) x.leads x.own),.o (gR p.m x.m),.o (qP p.s p.x p.d x.s),.o (fJ g v)] w3:=eO;have j5:=Fz _ eO;clear N P0 dX;go_wp2_with fail;refine⟨j5,?_⟩;by_cases zp:v.t=t
  ·have OT:((v.t:Int) == (t:Int))=true:=by rw[zp];simp
   have a57:=Q zp;clear zp;refine f9 13 j5 ?_;refine fL 14 j5 ?_;refine fL 15 j5 ?_;refine f9 16 j5 ?_;refine f9 17 j5 ?_;refine f9 18 j5 ?_;refine f9 19 j5 ?_;refine dY 20 rfl ?_;go_wp2_with fail;refine (eO.at_ 4 rfl (λ_=>fJ.framed _ _) (D:=λ_=>False) (λ_ h=>h.elim) (X1 w3 _ g v yW)).mono ?_;rintro en w5 ⟨_,rfl,eF⟩;have eF:St V w [.c y 45 (t,had,A2,q.length,c2),.c p.r 118 (iu p x.node x.nodes x.commit ((g:K)) x.leads x.own),.o (gR p.m x.m),.o (qP p.s p.x p.d x.s),.o (fJ g v)] w5:=eF;have nS:=Fz _ eF;clear j5 eO;go_wp2_with fail;refine⟨nS,?_⟩;rcases bC v.won with hw|hw
   ·rw[hw]
    have hN:R=vF x:=by rw[HR.out];unfold ji;rw[qE];simp only[];rw[aB (by rw[hw];intro h;cases h.2)];rfl
    clear HR;have HR:=Q hN;clear hN;replace hw:=Q hw;have eN:=hvr _ eF;replace qE:=Q qE;refine fL 21 nS ?_;refine fL 22 nS ?_;refine fL 23 nS ?_;refine dQ 24 rfl nS ?_;refine dQ 25 rfl nS ?_;refine dQ 26 rfl nS ?_;refine dQ 27 rfl nS ?_;refine dQ 28 rfl nS ?_;refine dQ 29 rfl nS ?_;refine dQ 30 rfl nS ?_;refine dQ 31 rfl nS ?_;refine dQ 32 rfl nS ?_;refine dQ 33 rfl nS ?_;refine fL 34 nS ?_;refine eU ?_;go_wp2;go_ret;obtain⟨r1,r2⟩:=nI (eN.dO 0 rfl);rw[HR.out];first|exact⟨(Z none 0 0,[]),⟨rfl,rfl⟩,r1,r2⟩|exact⟨Z none 0 0,[],⟨rfl,rfl⟩,r1,r2⟩
   ·rw[hw]
    have hN:R=(if (v.promise F had (q.map El.e)).1=true then Rp.won { x with v:=some (v.promise F had (q.map El.e)).2 } (v.promise F had (q.map El.e)).2 else ({ x with v:=some (v.promise F had (q.map El.e)).2 },[])):=by rw[HR.out];unfold ji;rw[qE];simp only[];rw[aA ⟨a57.out,hw⟩];rfl
    clear HR;replace hw:=Q hw;obtain⟨r,Hr⟩:=az (v.promise F had (q.map El.e));rw[<-Hr.out] at hN;have HR:=Q hN;clear hN;have vv:∀z∈q,z.e.Ok:=gC;have SG:=eF.at_ 4 rfl (λ_=>fJ.framed _ _) (D:=D) (St.far kV) (yi w5 D g v yW F had (by rw[zf];exact ME) A2 c2 q (fT.framed A2 q w w5 D hq λb hb=>eF.keep kV b hb) hl OD (λb hb=>bw (j6 b hb) eF.size) vv);rw[<-Hr.out] at SG;refine fL 21 nS ?_;refine fL 22 nS ?_;refine fL 23 nS ?_;refine f9 24 nS ?_;refine f9 25 nS ?_;refine f9 26 nS ?_;refine f9 27 nS ?_;refine f9 28 nS ?_;refine f9 29 nS ?_;refine f9 30 nS ?_;refine f9 31 nS ?_;refine f9 32 nS ?_;refine dY 33 rfl ?_;go_wp2_with fail;refine SG.mono ?_;rintro en w7 ⟨_,rfl,fH⟩;clear SG nS;have hro:r.2.Ok:=by rw[Hr.out];exact yW.promise (by have:=Y.node;omega) OD (λe he=>by obtain⟨z,hz,rfl⟩:=List.mem_map.1 he;exact gC z hz) (by rw[bj];exact hl)
    have Z5:r.2.nodes=x.nodes:=by rw[Hr.out,ym];exact zf
    obtain⟨X2,jS⟩:=aE ({ x with v:=some r.2 }:Rp);have lw:X2.Ok:=by rw[jS];exact Y.vote hro Z5
    have rK:X2.v=some r.2:=by rw[jS]
    have fD:St V w (.c y 45 (t,had,A2,q.length,c2)::dP p g X2) w7:=by rw[jS];exact fH
    have SJ:=rcS (l:=[]) (t:=t) (had:=had) (sl:=(Z A2 q.length c2)) (by rw[bm];exact fD) rfl rfl rfl;rw[rK] at SJ;simp only[jH] at SJ;have SJ:W_ p y t had (Z A2 q.length c2) ((g:K)) x.leads w7:=by rw[jS] at SJ;exact SJ
    rw[<-jS] at HR;replace jS:=Q jS;replace rK:=Q rK;clear fH eF;go_wp2_with fail;refine⟨SJ,?_⟩;rcases bC r.1 with hr|hr
    ·rw[hr] at HR ⊢
     refine fL 34 SJ ?_;refine eU ?_;clear SJ;go_wp2_with fail;refine (St.call (a:=dP p g X2) (b:=[]) (a':=λj:K×List Sd => .o (dS j.1 j.2)::dP p g (X2.won r.2).1) (by rw[bm];exact fD.dO 0 rfl) (λ_=>⟨dS.framed _ _,eL _ _ _⟩) (D:=λ_=>False) (λ_ h=>h.elim) (Jt w7 p g X2 lw r.2 rK.out)).mono ?_;rintro en w8 ⟨j,⟨rfl,hj⟩,gy⟩;rw[bm] at gy;go_wp2;go_ret;obtain⟨r1,r2⟩:=gy.fin;have HR:=HR.out;first|rw[aA rfl] at HR|rw[aA trivial] at HR
     rw[HR];first|exact⟨j,⟨rfl,hj⟩,r1,r2⟩|exact⟨j.1,j.2,⟨rfl,hj⟩,r1,r2⟩
    ·rw[hr] at HR ⊢
     have HR:=HR.out;first|rw[aB cB] at HR|rw[aB not_false] at HR
     replace HR:=Q HR;refine fL 34 SJ ?_;refine eU ?_;go_wp2;go_ret;obtain⟨r1,r2⟩:=nI (fD.dO 0 rfl);rw[HR.out];first|exact⟨(Z none 0 0,[]),⟨rfl,rfl⟩,r1,r2⟩|exact⟨Z none 0 0,[],⟨rfl,rfl⟩,r1,r2⟩
  ·have OT:((v.t:Int) == (t:Int))=false:=by simp;omega
   have hN:R=vF x:=by rw[HR.out];unfold ji;rw[qE];simp only[];rw[aB (by intro h;exact zp h.1)];rfl
   clear HR;have HR:=Q hN;clear hN;have eN:=hvr _ eO;replace zp:=Q zp;replace qE:=Q qE;refine f9 13 j5 ?_;refine fL 14 j5 ?_;refine fL 15 j5 ?_;refine dQ 16 rfl j5 ?_;refine dQ 17 rfl j5 ?_;refine dQ 18 rfl j5 ?_;refine dQ 19 rfl j5 ?_;refine dQ 20 rfl j5 ?_;refine dQ 21 rfl j5 ?_;refine fL 22 j5 ?_;refine fL 23 j5 ?_;refine dQ 24 rfl j5 ?_;refine dQ 25 rfl j5 ?_;refine dQ 26 rfl j5 ?_;refine dQ 27 rfl j5 ?_;refine dQ 28 rfl j5 ?_;refine dQ 29 rfl j5 ?_;refine dQ 30 rfl j5 ?_;refine dQ 31 rfl j5 ?_;refine dQ 32 rfl j5 ?_;refine dQ 33 rfl j5 ?_;refine fL 34 j5 ?_;refine eU ?_;go_wp2;go_ret;obtain⟨r1,r2⟩:=nI (eN.dO 0 rfl);rw[HR.out];first|exact⟨(Z none 0 0,[]),⟨rfl,rfl⟩,r1,r2⟩|exact⟨Z none 0 0,[],⟨rfl,rfl⟩,r1,r2⟩
section
variable{V:aV}{O:X}{l l':List Bl}{B abp:Nat}{s:RS}
theorem gX(hS:St V w0 l w)(i:Nat)(hi:l[i]?=some (.c r 237 cs))(h:km r B abp s O)(ho:fI r w O):∃cs',St V w0 (l.set i (.c r 237 cs')) O:=by obtain⟨_,A,n,c,l1,b,_,hB,_⟩:=h;exact⟨_,hS.turned i hi (dM.jA ho rfl) hB⟩
theorem gx(vG:∀b,b<B->b<(w0:Nat)∧¬ V b)(h:km r B abp s w)(hS:St V w0 l w)(yP:St V w0 l' O)(i i':Nat)(hi:l[i]?=some (.c r 237 cs))(tR:l'[i']?=some (.c r 237 cs)):km r B abp s O:=by
 obtain⟨h0,A,n,c,l1,b,I,hB,G,L⟩:=h;have e:#[Z A n c,aY b]=cs:=by have h4:=hB.symm.trans (hS.blk i hi);injection h4 with h4;injection h4
 have N:∀b,b<B->O.heap[b]?=w.heap[b]?:=λb hb=>(yP.keep (D:=λb=>b<B) vG b hb).trans (hS.keep (D:=λb=>b<B) vG b hb).symm;exact⟨h0,A,n,c,l1,b,I,e▸yP.blk i' tR,Reads.keep G λp hp=>World.cell?_of_block (N _ hp),L⟩
end
theorem vk:lE kP:=λw O D x h N=>yb.framed x w O D h N
def LD(u:K)(q:List El):dW:=h_ 40 9 El.cells kP u q
theorem LD.framed(u:K)(q:List El):eu (LD u q):=h_.framed vk u q
def oE:Nat->RS->List En->RS->Prop
 | 0,s,q,s'=>q=[]∧s'=s
 | n+1,s,q,s'=>∃e q1,q=e::q1∧(gn s).2≠none∧C5 (gn s).1 e∧oE n (gn s).2 q1 s'
def qo(s:RS)(q:List En)(s':RS):Prop:=oE (gb 128 s).1 (gb 128 s).2 q s'∧s'≠none
theorem C5.one{l:aT}{e e':En}(h:C5 l e)(h':C5 l e'):e=e':=(Prod.mk.inj (h.1.symm.trans h'.1)).1
def a0q(s:RS)(w O:X)(en:Ending)(s':RS):Prop:=∃(A:aU)(c:Nat)(q:List El)(b:Bool),en=b5 (a_ #[Z A q.length c,aY b])∧jO O (New w O) A q∧(q.length<=c∧c<=dG)∧(∀x∈q,x.e.Ok)∧q.length<=128∧(b=true->qo s (q.map El.e) s')∧(b=false->∀abo S,¬ qo s abo S)
set_option maxRecDepth 100000
set_option maxHeartbeats 1000000
theorem H5(w:X)(r B abp:Nat)(s0:RS)(h:km r B abp s0 w)(hN:abp<=1000000)(Mw:B<=(w:Nat)):dz W 142 #[r] w λen O=>∃s',a0q s0 w O en s'∧km r B abp s' O∧dM (λb=>b=r) w O:=by
 have uW:B<=r:=h.1;have Y7:=h.lt;have vG:∀b,b<B->b<(w:Nat)∧¬ b=r:=λb hb=>⟨by omega,by omega⟩;obtain⟨cs0,hS⟩:∃cs0,St (λb=>b=r) w [.c r 237 cs0] w:=by obtain⟨_,A,n,c,l1,b,_,hB,_⟩:=id h;exact⟨_,St.begin_ (l:=[.c r 237 _]) (xX (S:=Cell r 237 _) ⟨rfl,hB⟩) (λb hb=>by rw[show b=r from hb];exact Y7) ⟨trivial,trivial⟩⟩
 go_in;go_wp2_with fail;refine (lK w r B abp 128 _ h).mono ?_;rintro e w1 ⟨m,s1,q1,hm,rfl,lT,yQ⟩;obtain⟨cs1,ej⟩:=gX hS 0 rfl lT yQ;clear hS;go_wp2_with fail;go_loopw [4,9] (λu i wr=>∃(k:Nat)(q:List El)(cs:aP)(s2:RS),k<=m∧i=J k∧q.length=k∧((∀x∈q,x.e.Ok)∧Hid (∀abo S,oE m s1 abo S↔∃q2,abo=q.map El.e++q2∧oE (m-k) s2 q2 S)∧Hid (k=0∨s2≠none))∧St (λb=>b=r) w [.o (LD u q),.c r 237 cs] wr∧km r B abp s2 wr) (λ_ i _=>m-(intOf i).toNat);case atStart=>exact⟨0,[],cs1,s1,by omega,rfl,rfl,⟨λx Y=>absurd Y (by simp),Q (λabo S=>⟨λh=>⟨abo,rfl,h⟩,λ⟨q2,I,G⟩=>by rw[I];exact G⟩),Q (.inl rfl)⟩,St.join ej (LD.framed _ _) (Grow.refl _) (U:=λ_=>False) (h_.nil _ _) (λ_ h=>h.elim),lT⟩
 case round=>
  obtain⟨k,q,cs,s2,Iw,rfl,ig,⟨vv,QG,ja⟩,dV,gS⟩:=hrel;obtain⟨Au,cu,rfl,hcu1,hcu2⟩:=St.sl (e:=40) (size:=9) (cells:=El.cells) (good:=kP) dV;replace ig:=Q ig;replace vv:=Q vv;by_cases N:k<m
  ·have dk:decide ((k:Int)<(m:Int))=true:=aC ap
   go_wp2_with fail;refine (BV wr r B abp _ gS).mono ?_;rintro e w3 ⟨x,s3,q3,hs,rfl,jN,oM⟩;obtain⟨s,Hs⟩:=az (⟨x.toArray⟩:ByteArray);have Yd:s.size<=abp:=by rw[Hs.out];show x.toArray.size<=abp;rw[cy];exact hs
   have hsx:s.data.toList=x:=by rw[Hs.out]
   rw[<-Hs.out];have iB:Hid (∀q2 S,oE (m-k) s2 q2 S↔∃e q3,q2=e::q3∧s3≠none∧C5 x e∧oE (m-(k+1)) s3 q3 S):=Q (λq2 S=>by rw[show m-k=(m-(k+1))+1 by omega];show (∃e q1,q2=e::q1∧(gn s2).2≠none∧C5 (gn s2).1 e∧oE (m-(k+1)) (gn s2).2 q1 S)↔_;rw[q3.out])
   obtain⟨Ju,dX⟩:=gX dV 1 rfl jN oM;clear dV gS;have hcv:=Lib.run_convert_string_bytes (P:=W) w3 9 23 5 s (u := .string) cW d9 dm;have pO:=pD w3 5 s;obtain⟨Ac,nc,cc,sA,Yk,X5,X6⟩:=rG w3 5 s ap;rw[sA] at hcv;clear sA;obtain⟨wc,HC⟩:=az (Lib.bytesWorld w3 5 s);rw[<-HC.out] at hcv pO Yk;have eO:=dX.grow pO;have om:=jN.grow pO;have hE:=Jl wc Ac nc cc abp s.data.toList Yk (by have e:s.data.toList.length=s.size:=bZ;omega) hN X5 X6;rw[hsx] at hE;clear Yk;go_wp2_with fail;refine hE.mono ?_;rintro en w5 ⟨hP,ng⟩;have eF:=eO.grow ng;have qM:=om.grow ng;have nil:∀O,(∀e,¬ (s3≠none∧C5 x e))->St (λb=>b=r) w [.o (LD (Z Au q.length cu) q),.c r 237 Ju] O->km r B abp s3 O->(∃s',a0q s0 w O (b5 (a_ #[ay,aY false])) s'∧km r B abp s' O∧dM (λb=>b=r) w O):=λO h0 I G=>⟨s3,⟨none,0,[],false,rfl,⟨⟨by simp,λh=>by simp at h⟩,λx Y=>absurd Y (by simp)⟩,⟨bh _,bo _⟩,λx Y=>absurd Y (by simp),by simp,(λh=>by cases h),λ_ abo S h=>by have L:=h.1;rw[q1.out] at L;obtain⟨q2,_,h4⟩:=(QG.out abo S).1 L;obtain⟨e,q5,_,h5,h6,_⟩:=(iB.out q2 S).1 h4;exact h0 e ⟨h5,h6⟩⟩,G,I.fin.2⟩
   rcases hP with ⟨abl,Ae,ce,rfl,LF,hEl⟩|⟨abl,Mc,rfl,a58⟩
   ·have gC:=LF.2
    obtain⟨E1,X7⟩:=az abl;rw[<-X7.out] at LF;replace LF:=Q LF;obtain⟨ek,ag,sh,sq,ep,ds,se,fr,tg⟩:=abl;unfold En.agg at *;dsimp only at *;obtain⟨y,w6,HY,H6,eN⟩:=eF.new' #[J ek,J ag,J sh,J sq,J ep,Z Ae ds.length ce,aX se,J fr,J tg] 40;have tW:Grow w5 w6:=by rw[H6.out];exact fb _ _
    have vC:=qM.grow tW;have E:=eN.facts;simp only[ec] at E;go_wp2_with fail;rw[<-H6.out,<-HY.out];refine (Gf w6 r B abp _ vC).mono ?_;rintro e w7 ⟨rfl,rfl⟩;obtain⟨b,Hb⟩:=az (s3.isNone);rw[<-Hb.out];have a5a:kP w6 (New wc w6) ⟨⟨ek,ag,sh,sq,ep,ds,se,fr,tg⟩,Ae,ce⟩:=jg _ _ _ _ (yb.framed _ w5 w6 _ hEl λb hb=>tW.block _ hb.2) λb hb=>⟨hb.1,bw hb.2 tW.size⟩;rcases bC b with K8|K8
    ·subst K8
     go_wp2;go_ret2;exact nil _ (λe h=>h.1 (by have:=Hb.out;cases s3 with|none=>rfl|some _=>cases this)) (eF.grow tW) vC
    ·subst K8
     go_wp2_with (at_builtin;refine stay ?_);refine dI ?_;refine lb Gs vk jg pf Gq rfl (.tmp 24) (.tmp 26) rfl rfl eO (ng.trans tW) (b:=⟨⟨ek,ag,sh,sq,ep,ds,se,fr,tg⟩,Ae,ce⟩) a5a (by have:=ig.out;omega) 1 rfl ?_;intro v' O yP;have yP:St (λb=>b=r) w [.o (LD v' (q++[⟨⟨ek,ag,sh,sq,ep,ds,se,fr,tg⟩,Ae,ce⟩])),.c r 237 Ju] O:=yP;have wI:=gx vG om eO yP 1 1 rfl rfl;clear E eO eF eN om qM vC;go_wp2_with fail;exact⟨⟨k+1,q++[⟨⟨ek,ag,sh,sq,ep,ds,se,fr,tg⟩,Ae,ce⟩],Ju,s3,by omega,rfl,by rw[bd,bv,ig.out],⟨λx Y=>(List.mem_append.1 Y).elim (vv.out x) λh=>by rw[List.mem_singleton.1 h];exact gC,Q (λabo S=>by
      rw[QG.out abo S];refine⟨λ⟨q2,I,G⟩=>?_,λ⟨q2,I,G⟩=>?_⟩
      ·obtain⟨e,q5,L,h4,h5,h6⟩:=(iB.out q2 S).1 G
       refine⟨q5,?_,h6⟩;rw[I,L,h5.one LF.out,X7.out];simp
      ·refine⟨_::q2,by rw[I];simp,(iB.out _ S).2 ⟨_,q2,rfl,?_,X7.out▸LF.out,G⟩⟩
       have:=Hb.out;cases s3 with|none=>cases this|some _=>exact λh=>by cases h),Q (.inr (by
      have:=Hb.out;cases s3 with|none=>cases this|some _=>exact λh=>by cases h))⟩,yP,wI⟩,by simp only[intOf];omega⟩
   ·have ME:(abl != 0)=true:=by simp[Mc]
    replace Mc:=Q Mc;obtain⟨y,w6,HY,H6,eN⟩:=eF.new' aK 40;have tW:Grow w5 w6:=by rw[H6.out];exact fb _ _
    have vC:=qM.grow tW;unfold En.agg at *;dsimp only[En.zero,cx] at *;go_wp2_with fail;rw[<-H6.out];refine (Gf w6 r B abp _ vC).mono ?_;rintro e w7 ⟨rfl,rfl⟩;obtain⟨b,Hb⟩:=az (s3.isNone);rw[<-Hb.out];rcases bC b with K8|K8
    all_goals
     subst K8
     go_wp2
     go_ret2
     exact nil _ (λe h=>a58 e h.2) (eF.grow tW) vC
  ·obtain rfl:k=m:=by omega
   have dk:decide ((k:Int)<(k:Int))=false:=aD ap;go_wp2_with fail;refine (Gf wr r B abp _ gS).mono ?_;rintro e w9 ⟨rfl,rfl⟩;obtain⟨b,Hb⟩:=az (s2.isNone);rw[<-Hb.out];go_wp2;go_ret2;have yU:=ig.out;obtain⟨V1,hM,hV1⟩:=dV.own.2;obtain⟨U1,U2,kN,rJ,k1,k2,k3⟩:=hM;obtain⟨A',c',he,Mf,tT,g1,g2⟩:=h_.jL jg kN;injection he with K0 he2 he3;subst K0;subst he3;obtain⟨U3,U4,hcr,_,j1,_,_⟩:=rJ;have YF:∀b,U1 b->New w wr b:=λb hb=>by
    have h9:=hV1 b (k1 b hb);refine⟨?_,h9.2⟩;rcases h9.1 with h8|h8
    ·have h8:b=r:=h8
     exact absurd (k2 r (j1 r hcr.1)) (λ_=>k3 b hb (by rw[h8];exact j1 r hcr.1))
    ·exact h8
   refine⟨s2,⟨_,_,q,!b,rfl,⟨In.mono Mf YF,λx Y=>jg _ _ _ _ (tT x Y) YF⟩,⟨g1,g2⟩,vv.out,by omega,λh=>?_,λh abo S hq=>?_⟩,gS,dV.fin.2⟩
   ·refine⟨by rw[q1.out];exact (QG.out _ _).2 ⟨[],by simp,by rw[Nat.sub_self];exact⟨rfl,rfl⟩⟩,λe=>?_⟩
    have:=Hb.out;subst e;rw[show b=true from this] at h;cases h
   ·have L:=hq.1
    rw[q1.out] at L;obtain⟨q2,_,h4⟩:=(QG.out abo S).1 L;rw[Nat.sub_self] at h4;have:=Hb.out;apply hq.2;rw[h4.2];cases s2 with
    | none=>rfl
    | some _=>rw[show b=false from this] at h;cases h
def H7(k:Nat)(s:RS)(m:Ms)(s':RS):Prop:=
 if k=1 then ∃e,C5 (gn s).1 e∧m=kW e∧s'=(gn s).2
 else if k=2 then m=fx ((gu s).1:Int) ((gb 255 (gu s).2).1:Int) (kO (gb 255 (gu s).2).2).1∧s'=(kO (gb 255 (gu s).2).2).2
 else if k=4 then ∃q,qo (gu (gu s).2).2 q s'∧m=i9 (gu s).1 (gu (gu s).2).1 q
 else if k=5 then ∃q,qo (gb 128 (gu s).2).2 q s'∧m=kR (gu s).1 q (gb 128 (gu s).2).1
 else if k=6 then m=m8 (gu s).1 (gb 128 (gu s).2).1∧s'=(gb 128 (gu s).2).2
 else m={ Ms.zero with k:=(k:Int),term:=((gu s).1:Int) }∧s'=(gu s).2
def X8(k:Nat)(s:RS)(w O:X)(en:Ending)(s':RS):Prop:=∃(m:Ms)(A:aU)(c:Nat)(A2:aU)(c2:Nat)(q:List El)(ok:Bool),en=b5 (a_ #[aZ (mH m A c A2 c2),aY ok])∧Sd.In O (New w O) ⟨0,m,A,c,A2,q,c2⟩∧(ok=true->(m.Gd∨m.k<1∨6<m.k)∧H7 k s m s')∧(ok=false->∀M S,¬ H7 k s M S)∧(m.k≠1->A=none∧c=0)∧(m.k≠4->m.k≠5->A2=none∧c2=0)
theorem H8{l:List Bl}{b:Bl}{t:dC}(hS:St (λb=>b=r) w0 l w)(i j:Nat)(hi:l[i]?=some b)(hj:(l.eraseIdx i)[j]?=some (.c r t cs)):∃U:aV,b.th w U∧∀x,U x->New w0 w x:=by
 obtain⟨_,V1,hM,hV⟩:=(hS.front i hi).own;obtain⟨U1,U2,hb,T,k1,k2,k3⟩:=hM;have wI:=dN.perm ((mM hj).map Bl.th) T;obtain⟨U3,U4,E,_,j1,_,_⟩:=wI;refine⟨U1,hb,λx Y=>⟨?_,(hV x (k1 x Y)).2⟩⟩;rcases (hV x (k1 x Y)).1 with h8|h8
 ·exact absurd (j1 r E.1) (by rw[<-show x=r from h8];exact k3 x Y)
 ·exact h8
theorem elz(w:X)(D:aV):kP w D ⟨En.zero,none,0⟩:=⟨⟨by simp[En.zero,fm],λh=>by simp[En.zero] at h⟩,bh _,bo _,bo _⟩
theorem Cd(w:X)(D:aV)(m:Ms)(he:m.e=En.zero)(hl:m.log=[]):Sd.In w D ⟨0,m,none,0,none,[],0⟩:=⟨by show kP w D ⟨m.e,none,0⟩;rw[he];exact elz w D,jO.nil,hl.symm,bh _,bo _⟩
set_option maxRecDepth 100000
set_option maxHeartbeats 4000000
theorem SK(w:X)(r B abp k:Nat)(s0:RS)(h:km r B abp s0 w)(hN:abp<=1000000)(Mw:B<=(w:Nat))(N:k<=255):dz W 78 #[r,J k] w λen O=>∃s',X8 k s0 w O en s'∧km r B abp s' O∧dM (λb=>b=r) w O:=by
 have uW:B<=r:=h.1;have Y7:=h.lt;have vG:∀b,b<B->b<(w:Nat)∧¬ b=r:=λb hb=>⟨by omega,by omega⟩;obtain⟨cs0,hS⟩:∃cs0,St (λb=>b=r) w [.c r 237 cs0] w:=by obtain⟨_,A,n,c,l1,b,_,hB,_⟩:=id h;exact⟨_,St.begin_ (l:=[.c r 237 _]) (xX (S:=Cell r 237 _) ⟨rfl,hB⟩) (λb hb=>by rw[show b=r from hb];exact Y7) ⟨trivial,trivial⟩⟩
 have ej:=(hS.new aJ 45).new aJ 45;rw[fp] at ej;obtain⟨x,HX⟩:=az ((w:Nat));obtain⟨y,HY⟩:=az ((w:Nat)+1);have xL:Hid (y=x+1):=Q (by rw[HY.out,HX.out]);go_in;go_wp2_with (refine d_ ej 0 rfl 45 _ _ rfl 0 rfl [J k,(),(),(),(),(),ay,"",(),(),(),(),ae ah 0,(),(),ay,(),()] rfl (bf rfl) rfl aw #[J k,(),(),(),(),(),ay,"",(),(),(),(),ae ah 0,(),(),ay,(),()] rfl rfl ?_;intro wb dV;refine stay ?_);refine dI ?_;rw[<-HX.out,<-xL.out];rw[<-HX.out,<-xL.out] at dV;have dV:St (λb=>b=r) w [.c y 45 #[J k,(),(),(),(),(),ay,"",(),(),(),(),ae ah 0,(),(),ay,(),()],.c x 45 aJ,.c r 237 cs0] wb:=dV;have gS:=gx vG h hS dV 0 2 rfl rfl;clear hS ej h;by_cases ip:k=2
 ·have qY:=ip
  have d1:((k:Int) == 1)=false:=by simp;omega
  have d2:((k:Int) == 2)=true:=by simp;omega
  replace qY:=Q qY;go_wp2_with fail;clear ip;go_wp2_with fail;refine (mO wb r B abp _ gS).mono ?_;rintro e w3 ⟨tg,s3,q3,KS,rfl,jN,oM⟩;obtain⟨Ju,dX⟩:=gX dV 2 rfl jN oM;clear gS dV;go_wp2_with fail;refine (lK w3 r B abp 255 _ jN).mono ?_;rintro e w4 ⟨co,s4,q4,hco,rfl,om,S4⟩;obtain⟨cs4,eO⟩:=gX dX 2 rfl om S4;clear jN dX;go_wp2_with fail;refine (KD w4 r B abp _ om).mono ?_;rintro e w5 ⟨nn,s5,q5,hnn,rfl,qM,Sp⟩;obtain⟨cs5,eF⟩:=gX eO 2 rfl qM Sp;clear om eO;go_wp2_with (refine fv eF 0 rfl 2 _ _ rfl 10 rfl (J tg) rfl (bf rfl) rfl aw rfl ?_;intro w6 eN;refine stay ?_);refine dI ?_;have vC:=gx vG qM eF eN 2 2 rfl rfl;clear qM eF;go_wp2_with (refine fv eN 0 rfl 3 _ _ rfl 11 rfl (J co) rfl (bf rfl) rfl aw rfl ?_;intro w7 fH;refine stay ?_);refine dI ?_;have yd:=gx vG vC eN fH 2 2 rfl rfl;clear vC eN;go_wp2_with (refine fv fH 0 rfl 42 _ _ rfl 12 rfl (ae ah nn) rfl (bf rfl) rfl aw rfl ?_;intro w8 fD;refine stay ?_);refine dI ?_;have Lp:=gx vG yd fH fD 2 2 rfl rfl;clear yd fH;simp only[bY,bz,bA] at fD;obtain rfl:=qY.out;go_wp2_with (refine kG fD 0 rfl 45 _ rfl rfl bG aw rfl ?_;refine stay ?_);refine dI ?_;go_wp2_with (refine d_ fD 1 rfl 45 _ _ rfl 0 rfl [J ((2:Nat):Int),(),(),(),(),(),ay,"",(),(),J tg,J co,ae ah nn,(),(),ay,(),()] rfl (bf rfl) rfl aw #[J ((2:Nat):Int),(),(),(),(),(),ay,"",(),(),J tg,J co,ae ah nn,(),(),ay,(),()] rfl rfl ?_;intro wz k_;refine stay ?_);refine dI ?_;have P2:=gx vG Lp fD k_ 2 2 rfl rfl;go_wp2;refine bodyPost_ret (dZ rfl _ x rfl (k_.blk 1 rfl) bG aw) rfl ?_;exact⟨s5,⟨fx tg co nn,none,0,none,0,[],true,rfl,Cd _ _ _ rfl rfl,λ_=>⟨.inl (.ans tg co nn KS hco ap),by show fx (tg:Int) (co:Int) nn=fx ((gu s0).1:Int) ((gb 255 (gu s0).2).1:Int) (kO (gb 255 (gu s0).2).2).1∧s5=(kO (gb 255 (gu s0).2).2).2;rw[q3.out];dsimp only;rw[q4.out];dsimp only;rw[q5.out];exact⟨rfl,rfl⟩⟩,(λh=>by cases h),λ_=>⟨rfl,rfl⟩,λ_ _=>⟨rfl,rfl⟩⟩,P2,k_.fin.2⟩
 by_cases iP:k=1
 ·have qY:=iP
  have d1:((k:Int) == 1)=true:=by simp;omega
  replace qY:=Q qY;go_wp2_with fail;clear iP;go_wp2_with fail;refine (BV wb r B abp _ gS).mono ?_;rintro e w3 ⟨xt,s3,q3,hs,rfl,jN,oM⟩;obtain⟨s,Hs⟩:=az (⟨xt.toArray⟩:ByteArray);have Yd:s.size<=abp:=by rw[Hs.out];show xt.toArray.size<=abp;rw[cy];exact hs
  have hsx:s.data.toList=xt:=by rw[Hs.out]
  rw[<-Hs.out];obtain⟨Ju,dX⟩:=gX dV 2 rfl jN oM;clear gS dV;have hcv:=Lib.run_convert_string_bytes (P:=W) w3 9 23 5 s (u := .string) cW d9 dm;have pO:=pD w3 5 s;obtain⟨Ac,nc,cc,sA,Yk,X5,X6⟩:=rG w3 5 s ap;rw[sA] at hcv;clear sA;obtain⟨wc,HC⟩:=az (Lib.bytesWorld w3 5 s);rw[<-HC.out] at hcv pO Yk;have eO:=dX.grow pO;have om:=jN.grow pO;have hE:=Jl wc Ac nc cc abp s.data.toList Yk (by have e:s.data.toList.length=s.size:=bZ;omega) hN X5 X6;rw[hsx] at hE;clear Yk;go_wp2_with fail;refine hE.mono ?_;rintro en w5 ⟨hP,ng⟩;clear hE;have qM:=om.grow ng;obtain⟨abl,Ae,ce,F,rfl,hEl,hF⟩:∃(abl:En)(A:aU)(c:Nat)(F:Int),en=b5 (a_ #[aZ (abl.agg A c),J F])∧kP w5 (New wc w5) ⟨abl,A,c⟩∧(F=0->C5 xt abl)∧(F≠0->∀e,¬ C5 xt e):=by
   rcases hP with ⟨abl,Ae,ce,rfl,gC,hEl⟩|⟨F,hF,rfl,kh⟩
   ·exact⟨abl,Ae,ce,0,rfl,hEl,λ_=>gC,λh=>absurd rfl h⟩
   ·exact⟨En.zero,none,0,F,rfl,elz _ _,λh=>absurd h hF,λ_=>kh⟩
  have eF:=St.join eO (yb.framed ⟨abl,Ae,ce⟩) ng (U:=New wc w5) hEl λb hb=>hb;clear dX eO jN om pO;obtain⟨E1,X7⟩:=az abl;rw[<-X7.out] at hF;replace hF:=Q hF;obtain⟨ek,ag,sh,sq,ep,ds,se,fr,tg⟩:=abl;unfold En.agg at *;dsimp only at *;obtain⟨z,w6,HZ,H6,eN⟩:=eF.new' #[J ek,J ag,J sh,J sq,J ep,Z Ae ds.length ce,aX se,J fr,J tg] 40;have eN:St (λb=>b=r) w [.c z 40 #[J ek,J ag,J sh,J sq,J ep,Z Ae ds.length ce,aX se,J fr,J tg],.o (yb ⟨⟨ek,ag,sh,sq,ep,ds,se,fr,tg⟩,Ae,ce⟩),.c y 45 #[J k,(),(),(),(),(),ay,"",(),(),(),(),ae ah 0,(),(),ay,(),()],.c x 45 aJ,.c r 237 Ju] w6:=eN;have tW:Grow w5 w6:=by rw[H6.out];exact fb _ _
  have vC:=qM.grow tW;clear eF qM;rcases (inferInstance:Decidable (F=0)) with Jm|Jm
  case' isTrue=>have Oo:(F == 0)=true:=beq_iff_eq.2 Jm
  case' isFalse=>have Oo:(F == 0)=false:=beq_eq_false_iff_ne.2 Jm
  all_goals
   replace Jm:=Q Jm
   go_wp2_with (first|(rw[<-H6.out,<-HZ.out];refine kG eN 0 rfl 40 _ rfl rfl Tryz.underlying40 aw rfl ?_;refine stay ?_))
   refine dI ?_
   go_wp2_with (refine d_ eN 2 rfl 40 _ _ rfl 1 rfl [J ek,J ag,J sh,J sq,J ep,Z Ae ds.length ce,aX se,J fr,J tg] rfl (bf rfl) rfl aw #[J k,J ek,J ag,J sh,J sq,J ep,Z Ae ds.length ce,aX se,J fr,J tg,(),(),ae ah 0,(),(),ay,(),()] rfl rfl ?_;intro w7 fH;refine stay ?_)
   refine dI ?_
   have yd:=gx vG vC eN fH 4 4 rfl rfl
   clear eN vC
   obtain rfl:=qY.out
   go_wp2_with (refine kG fH 2 rfl 45 _ rfl rfl bG aw rfl ?_;refine stay ?_)
   refine dI ?_
   go_wp2_with (refine d_ fH 3 rfl 45 _ _ rfl 0 rfl [J ((1:Nat):Int),J ek,J ag,J sh,J sq,J ep,Z Ae ds.length ce,aX se,J fr,J tg,(),(),ae ah 0,(),(),ay,(),()] rfl (bf rfl) rfl aw #[J ((1:Nat):Int),J ek,J ag,J sh,J sq,J ep,Z Ae ds.length ce,aX se,J fr,J tg,(),(),ae ah 0,(),(),ay,(),()] rfl rfl ?_;intro wz k_;refine stay ?_)
   refine dI ?_
   have P2:=gx vG yd fH k_ 4 4 rfl rfl
   go_wp2
   refine bodyPost_ret (dZ rfl _ x rfl (k_.blk 3 rfl) bG aw) rfl ?_
   obtain⟨U1,I,j1⟩:=H8 k_ 1 3 rfl rfl
   have HIN:Sd.In wz (New w wz) ⟨0,kW ⟨ek,ag,sh,sq,ep,ds,se,fr,tg⟩,Ae,ce,none,[],0⟩:=⟨jg _ _ _ _ (show kP wz U1 ⟨⟨ek,ag,sh,sq,ep,ds,se,fr,tg⟩,Ae,ce⟩ from I) j1,jO.nil,rfl,bh _,bo _⟩
   have L:∀e,C5 xt e->H7 1 s0 (kW e) s3:=λe he=>by show ∃e',C5 (gn s0).1 e'∧kW e=kW e'∧s3=(gn s0).2;rw[q3.out];exact⟨e,he,rfl,rfl⟩
   have h4:(∀e,¬ C5 xt e)->∀M S,¬ H7 1 s0 M S:=λhe M S h=>by obtain⟨e',h5,_⟩:=(show ∃e',C5 (gn s0).1 e'∧M=kW e'∧S=(gn s0).2 from h);rw[q3.out] at h5;exact he e' h5
   refine⟨s3,⟨kW ⟨ek,ag,sh,sq,ep,ds,se,fr,tg⟩,Ae,ce,none,0,[],_,rfl,HIN,λME=>?_,λME=>?_,λh=>absurd rfl h,λ_ _=>⟨rfl,rfl⟩⟩,P2,k_.fin.2⟩
   ·first|exact⟨.inl (.ask _ (X7.out▸(hF.out.1 Jm.out).2)),X7.out▸L _ (hF.out.1 Jm.out)⟩|exact absurd ME am
   ·first|exact h4 (hF.out.2 Jm.out)|exact absurd ME am
 by_cases j5:k=4
 ·have qY:=j5
  have d1:((k:Int) == 1)=false:=by simp;omega
  have d2:((k:Int) == 2)=false:=by simp;omega
  have d4:((k:Int) == 4)=true:=by simp;omega
  replace qY:=Q qY;go_wp2_with fail;clear j5;go_wp2_with fail;refine (mO wb r B abp _ gS).mono ?_;rintro e w3 ⟨te,s3,q3,K9,rfl,jN,oM⟩;obtain⟨Ju,dX⟩:=gX dV 2 rfl jN oM;clear gS dV;go_wp2_with (refine fv dX 0 rfl 2 _ _ rfl 13 rfl (J te) rfl (bf rfl) rfl aw rfl ?_;intro w4 eO;refine stay ?_);refine dI ?_;have om:=gx vG jN dX eO 2 2 rfl rfl;clear jN dX;go_wp2_with fail;refine (mO w4 r B abp _ om).mono ?_;rintro e w5 ⟨ha,s5,q5,hha,rfl,qM,Sp⟩;obtain⟨cs5,eF⟩:=gX eO 2 rfl qM Sp;clear om eO;go_wp2_with (refine fv eF 0 rfl 2 _ _ rfl 14 rfl (J ha) rfl (bf rfl) rfl aw rfl ?_;intro w6 eN;refine stay ?_);refine dI ?_;have vC:=gx vG qM eF eN 2 2 rfl rfl;clear qM eF;go_wp2_with fail;refine (H5 w6 r B abp _ vC hN (bB Mw eN.size)).mono ?_;rintro en w7 ⟨s7,⟨Aq,cq,q,bq,rfl,Fj,⟨X9,Xa⟩,vv,ig,qF,kh⟩,yd,WA⟩;replace qF:=Q qF;replace kh:=Q kh;obtain⟨_,A',n',c',l',b',_,hB7,_⟩:=id yd;have fH:=(eN.front 2 rfl).qg WA hB7 (fT.framed Aq q) Fj λb hb=>hb;have P3:=yd;clear eN vC hB7 Fj WA yd;replace vv:=Q vv;replace ig:=Q ig;have yd:=P3;clear P3;go_wp2_with (refine fv fH 2 rfl 43 _ _ rfl 15 rfl (Z Aq q.length cq) rfl (bf rfl) rfl aw rfl ?_;intro w8 fD;refine stay ?_);refine dI ?_;have Lp:=gx vG yd fH fD 1 1 rfl rfl;clear yd fH;simp only[bY,bz,bA] at fD;obtain rfl:=qY.out;go_wp2_with (refine kG fD 2 rfl 45 _ rfl rfl bG aw rfl ?_;refine stay ?_);refine dI ?_;go_wp2_with (refine d_ fD 3 rfl 45 _ _ rfl 0 rfl [J ((4:Nat):Int),(),(),(),(),(),ay,"",(),(),(),(),ae ah 0,J te,J ha,Z Aq q.length cq,(),()] rfl (bf rfl) rfl aw #[J ((4:Nat):Int),(),(),(),(),(),ay,"",(),(),(),(),ae ah 0,J te,J ha,Z Aq q.length cq,(),()] rfl rfl ?_;intro wz k_;refine stay ?_);refine dI ?_;have P2:=gx vG Lp fD k_ 1 1 rfl rfl;go_wp2;refine bodyPost_ret (dZ rfl _ x rfl (k_.blk 3 rfl) bG aw) rfl ?_;obtain⟨U1,I,j1⟩:=H8 k_ 0 0 rfl rfl;have Fv:(q.map El.e).length=q.length:=bj ..;have HIN:Sd.In wz (New w wz) ⟨0,i9 te ha (q.map El.e),none,0,Aq,q,cq⟩:=⟨elz _ _,jO.mono (show jO wz U1 Aq q from I) j1,rfl,X9,Xa⟩;have P4:∀M S,H7 4 s0 M S↔∃abo,qo s5 abo S∧M=i9 te ha abo:=λM S=>by show (∃q,qo (gu (gu s0).2).2 q S∧M=i9 (gu s0).1 (gu (gu s0).2).1 q)↔_;rw[q3.out];dsimp only;rw[q5.out]
  refine⟨s7,⟨i9 te ha (q.map El.e),none,0,Aq,cq,q,bq,?_,HIN,λhb=>⟨.inl (.prom te ha _ K9 hha (λe he=>by obtain⟨x,Y,rfl⟩:=List.mem_map.1 he;exact vv.out x Y) (by rw[Fv];exact ig.out)),(P4 _ _).2 ⟨_,qF.out hb,rfl⟩⟩,λhb M S h=>by obtain⟨abo,h5,_⟩:=(P4 M S).1 h;exact kh.out hb abo S h5,λ_=>⟨rfl,rfl⟩,λI G=>absurd rfl I⟩,P2,k_.fin.2⟩;unfold mH Ms.cells i9 Ms.zero;dsimp only;rw[Fv];rfl
 by_cases nS:k=5
 ·have qY:=nS
  have d1:((k:Int) == 1)=false:=by simp;omega
  have d2:((k:Int) == 2)=false:=by simp;omega
  have d4:((k:Int) == 4)=false:=by simp;omega
  have d5:((k:Int) == 5)=true:=by simp;omega
  replace qY:=Q qY;go_wp2_with fail;clear nS;go_wp2_with fail;refine (mO wb r B abp _ gS).mono ?_;rintro e w3 ⟨te,s3,q3,K9,rfl,jN,oM⟩;obtain⟨Ju,dX⟩:=gX dV 2 rfl jN oM;clear gS dV;go_wp2_with (refine fv dX 0 rfl 2 _ _ rfl 13 rfl (J te) rfl (bf rfl) rfl aw rfl ?_;intro w4 eO;refine stay ?_);refine dI ?_;have om:=gx vG jN dX eO 2 2 rfl rfl;clear jN dX;go_wp2_with fail;refine (lK w4 r B abp 128 _ om).mono ?_;rintro e w5 ⟨ct,s5,q5,Yl,rfl,qM,Sp⟩;obtain⟨cs5,eF⟩:=gX eO 2 rfl qM Sp;clear om eO;go_wp2_with (refine fv eF 0 rfl 3 _ _ rfl 16 rfl (J ct) rfl (bf rfl) rfl aw rfl ?_;intro w6 eN;refine stay ?_);refine dI ?_;have vC:=gx vG qM eF eN 2 2 rfl rfl;clear qM eF;go_wp2_with fail;refine (H5 w6 r B abp _ vC hN (bB Mw eN.size)).mono ?_;rintro en w7 ⟨s7,⟨Aq,cq,q,bq,rfl,Fj,⟨X9,Xa⟩,vv,ig,qF,kh⟩,yd,WA⟩;replace qF:=Q qF;replace kh:=Q kh;obtain⟨_,A',n',c',l',b',_,hB7,_⟩:=id yd;have fH:=(eN.front 2 rfl).qg WA hB7 (fT.framed Aq q) Fj λb hb=>hb;have P3:=yd;clear eN vC hB7 Fj WA yd;replace vv:=Q vv;replace ig:=Q ig;have yd:=P3;clear P3;go_wp2_with (refine fv fH 2 rfl 43 _ _ rfl 15 rfl (Z Aq q.length cq) rfl (bf rfl) rfl aw rfl ?_;intro w8 fD;refine stay ?_);refine dI ?_;have Lp:=gx vG yd fH fD 1 1 rfl rfl;clear yd fH;simp only[bY,bz,bA] at fD;obtain rfl:=qY.out;go_wp2_with (refine kG fD 2 rfl 45 _ rfl rfl bG aw rfl ?_;refine stay ?_);refine dI ?_;go_wp2_with (refine d_ fD 3 rfl 45 _ _ rfl 0 rfl [J ((5:Nat):Int),(),(),(),(),(),ay,"",(),(),(),(),ae ah 0,J te,(),Z Aq q.length cq,J ct,()] rfl (bf rfl) rfl aw #[J ((5:Nat):Int),(),(),(),(),(),ay,"",(),(),(),(),ae ah 0,J te,(),Z Aq q.length cq,J ct,()] rfl rfl ?_;intro wz k_;refine stay ?_);refine dI ?_;have P2:=gx vG Lp fD k_ 1 1 rfl rfl;go_wp2;refine bodyPost_ret (dZ rfl _ x rfl (k_.blk 3 rfl) bG aw) rfl ?_;obtain⟨U1,I,j1⟩:=H8 k_ 0 0 rfl rfl;have Fv:(q.map El.e).length=q.length:=bj ..;have HIN:Sd.In wz (New w wz) ⟨0,kR te (q.map El.e) ct,none,0,Aq,q,cq⟩:=⟨elz _ _,jO.mono (show jO wz U1 Aq q from I) j1,rfl,X9,Xa⟩;have P4:∀M S,H7 5 s0 M S↔∃abo,qo s5 abo S∧M=kR te abo ct:=λM S=>by show (∃q,qo (gb 128 (gu s0).2).2 q S∧M=kR (gu s0).1 q (gb 128 (gu s0).2).1)↔_;rw[q3.out];dsimp only;rw[q5.out]
  refine⟨s7,⟨kR te (q.map El.e) ct,none,0,Aq,cq,q,bq,?_,HIN,λhb=>⟨.inl (.acc te _ ct K9 Yl (λe he=>by obtain⟨x,Y,rfl⟩:=List.mem_map.1 he;exact vv.out x Y) (by rw[Fv];exact ig.out)),(P4 _ _).2 ⟨_,qF.out hb,rfl⟩⟩,λhb M S h=>by obtain⟨abo,h5,_⟩:=(P4 M S).1 h;exact kh.out hb abo S h5,λ_=>⟨rfl,rfl⟩,λI G=>absurd rfl G⟩,P2,k_.fin.2⟩;unfold mH Ms.cells kR Ms.zero;dsimp only;rw[Fv];rfl
 by_cases UR:k=6
 ·have qY:=UR
  have d1:((k:Int) == 1)=false:=by simp;omega
  have d2:((k:Int) == 2)=false:=by simp;omega
  have d4:((k:Int) == 4)=false:=by simp;omega
  have d5:((k:Int) == 5)=false:=by simp;omega
  have d6:((k:Int) == 6)=true:=by simp;omega
  replace qY:=Q qY;go_wp2_with fail;clear UR;go_wp2_with fail;refine (mO wb r B abp _ gS).mono ?_;rintro e w3 ⟨te,s3,q3,K9,rfl,jN,oM⟩;obtain⟨Ju,dX⟩:=gX dV 2 rfl jN oM;clear gS dV;go_wp2_with (refine fv dX 0 rfl 2 _ _ rfl 13 rfl (J te) rfl (bf rfl) rfl aw rfl ?_;intro w4 eO;refine stay ?_);refine dI ?_;have om:=gx vG jN dX eO 2 2 rfl rfl;clear jN dX;go_wp2_with fail;refine (lK w4 r B abp 128 _ om).mono ?_;rintro e w5 ⟨ct,s5,q5,Yl,rfl,qM,Sp⟩;obtain⟨cs5,eF⟩:=gX eO 2 rfl qM Sp;clear om eO;go_wp2_with (refine fv eF 0 rfl 3 _ _ rfl 17 rfl (J ct) rfl (bf rfl) rfl aw rfl ?_;intro w6 eN;refine stay ?_);refine dI ?_;have vC:=gx vG qM eF eN 2 2 rfl rfl;clear qM eF;simp only[bY,bz,bA] at eN;obtain rfl:=qY.out;go_wp2_with (refine kG eN 0 rfl 45 _ rfl rfl bG aw rfl ?_;refine stay ?_);refine dI ?_;go_wp2_with (refine d_ eN 1 rfl 45 _ _ rfl 0 rfl [J ((6:Nat):Int),(),(),(),(),(),ay,"",(),(),(),(),ae ah 0,J te,(),ay,(),J ct] rfl (bf rfl) rfl aw #[J ((6:Nat):Int),(),(),(),(),(),ay,"",(),(),(),(),ae ah 0,J te,(),ay,(),J ct] rfl rfl ?_;intro wz k_;refine stay ?_);refine dI ?_;have P2:=gx vG vC eN k_ 2 2 rfl rfl;go_wp2;refine bodyPost_ret (dZ rfl _ x rfl (k_.blk 1 rfl) bG aw) rfl ?_;exact⟨s5,⟨m8 te ct,none,0,none,0,[],true,rfl,Cd _ _ _ rfl rfl,λ_=>⟨.inl (.Mq te ct K9 Yl),by show m8 te ct=m8 (gu s0).1 (gb 128 (gu s0).2).1∧s5=(gb 128 (gu s0).2).2;rw[q3.out];dsimp only;rw[q5.out];exact⟨rfl,rfl⟩⟩,(λh=>by cases h),λ_=>⟨rfl,rfl⟩,λ_ _=>⟨rfl,rfl⟩⟩,P2,k_.fin.2⟩
 ·have qY:k≠1∧k≠2∧k≠4∧k≠5∧k≠6:=by omega
  have d1:((k:Int) == 1)=false:=by simp;omega
  have d2:((k:Int) == 2)=false:=by simp;omega
  have d4:((k:Int) == 4)=false:=by simp;omega
  have d5:((k:Int) == 5)=false:=by simp;omega
  have d6:((k:Int) == 6)=false:=by simp;omega
  clear iP ip j5 nS UR;replace qY:=Q qY;go_wp2_with fail;refine (mO wb r B abp _ gS).mono ?_;rintro e w3 ⟨te,s3,q3,K9,rfl,jN,oM⟩;obtain⟨Ju,dX⟩:=gX dV 2 rfl jN oM;clear gS dV;go_wp2_with (refine fv dX 0 rfl 2 _ _ rfl 13 rfl (J te) rfl (bf rfl) rfl aw rfl ?_;intro w4 eO;refine stay ?_);refine dI ?_;have om:=gx vG jN dX eO 2 2 rfl rfl;clear jN dX;simp only[bY,bz,bA] at eO;go_wp2_with (refine kG eO 0 rfl 45 _ rfl rfl bG aw rfl ?_;refine stay ?_);refine dI ?_;go_wp2_with (refine d_ eO 1 rfl 45 _ _ rfl 0 rfl [J k,(),(),(),(),(),ay,"",(),(),(),(),ae ah 0,J te,(),ay,(),()] rfl (bf rfl) rfl aw #[J k,(),(),(),(),(),ay,"",(),(),(),(),ae ah 0,J te,(),ay,(),()] rfl rfl ?_;intro wz k_;refine stay ?_);refine dI ?_;have P2:=gx vG om eO k_ 2 2 rfl rfl;go_wp2;refine bodyPost_ret (dZ rfl _ x rfl (k_.blk 1 rfl) bG aw) rfl ?_;have HG:Ms.Gd { Ms.zero with k:=(k:Int),term:=(te:Int) }∨(k:Int)<1∨6<(k:Int):=by
   by_cases L:k=3;·subst L;exact .inl (.vD te K9)
   ·have:=qY.out;exact .inr ap
  exact⟨s3,⟨{ Ms.zero with k:=k,term:=te },none,0,none,0,[],true,rfl,Cd _ _ _ rfl rfl,λ_=>⟨HG,by unfold H7;obtain⟨g1,g2,g4,g5,g6⟩:=qY.out;rw[aB g1,aB g2,aB g4,aB g5,aB g6,q3.out];exact⟨rfl,rfl⟩⟩,(λh=>by cases h),λ_=>⟨rfl,rfl⟩,λ_ _=>⟨rfl,rfl⟩⟩,P2,k_.fin.2⟩
end Go.Proofs.YtpeepcmdehhbgaaGreatDoor
end
section
open Go.Proofs.YtpeepcmdehhbgaaGreatDoor (Ag Dl)
variable{k f:Nat}{y x:Ag}{l:List Dl}{w:X}{U:aV}{A:aU}{ks:aQ}{out jv:List (Nat×Int)}
namespace Go.Proofs.YtpeepcmdehhbgaaGreatDoor
open RowKit Hop V
def Ag.to(x:Ag)(n:Nat):Nat:=(x.last+n) % x.eX
def Ag.tI(x:Ag)(i:lp)(ds:List Dl):En:=⟨1,i.1,i.2.1,i.2.2,x.b.ep,ds,⟨#[]⟩,(x.node:Int),((x.tag+1:Nat):Int)⟩
def Ag.send(x:Ag)(i:lp)(t:Nat×Nat):Ag:={ x.next i with tr:=si x.tr i (t.1+1,x.now+rD (x.tag+1) t.1) }
theorem Jv(w:X)(D:aV)(p:vE)(x:Ag)(Y:x.Ok)(i:lp)(t:Nat×Nat)(sq:Int)(A:aU)(c:Nat)(ds:List Dl)(hd:jM w D A ds.length ds)(vt:ds.length<=c)(iO:c<=dG)(tS:ds.length<=1048576)(j6:∀b,D b->b<(w:Nat))(ht:x.tag<=1152921504606846976)(hn:x.now<=1152921504606846976)(ht1:t.1<=1152921504606846976)(Ka:t.2<=4611686018427387904):Lw W D 272 #[.pointer (some ⟨p.a,0,none⟩),iK i,rn t,aZ #[J sq,Z A ds.length c]] (dR p x) (λ(B:aU)e=>e=b5 (o4 (x.to t.1) (x.tI i ds) B ds.length).val) (λB => .o (yb ⟨x.tI i ds,B,ds.length⟩)::dR p (x.send i t)) w:=by
 obtain⟨to,Hto⟩:=az (x.to t.1);obtain⟨abl,HE⟩:=az (x.tI i ds);obtain⟨R,HR⟩:=az (x.send i t);rw[<-Hto.out,<-HE.out,<-HR.out];obtain⟨tg,X0⟩:=az (x.tag+1);have hN:∀(O:X)(U:aV),Lw W U 285 #[.pointer (some ⟨p.a,0,none⟩),iK i] (dR p x) (λ(_:Unit)e=>e=b5 (J tg)) (λ_=>dR p (x.next i)) O:=λO U=>by rw[X0.out];exact Jq O _ p x ap i
 have htg1:tg<=2305843009213693952:=by rw[X0.out];omega
 obtain⟨i0,i1,i2⟩:=i;obtain⟨t1,t2⟩:=t;dsimp only at ht1 Ka;obtain⟨n,Hn⟩:=az (ds.length);rw[<-Hn.out] at hd vt tS ⊢;intro V hM hV;have kV:∀x,D x->x<(w:Nat)∧¬ V x:=λx Y=>⟨j6 x Y,λh=>(hV x h).2 Y⟩;have fN:=St.begin_ hM (λb hb=>(hV b hb).1) (fB _ _);have z1:(w.alloc (.cells #[J i0,J i1,J i2] 37)).heap.size=(w:Nat)+1:=by simp
 obtain⟨y1,wA,HY1,HA,ej⟩:=fN.new' #[J i0,J i1,J i2] 37;rw[<-HA.out,<-HY1.out] at z1;have z2:(wA.alloc (.cells #[J t1,J t2] 364)).heap.size=(wA:Nat)+1:=by simp
 obtain⟨y2,wB,xL,HB,dV⟩:=ej.new' #[J t1,J t2] 364;rw[<-HB.out,<-xL.out] at z2;obtain⟨y3,wC,US,HC,dX⟩:=dV.new' #[J sq,Z A n c] 196;have e2:y2=y1+1:=by rw[xL.out,z1]
 have e3:y3=y1+1+1:=by rw[US.out,z2,e2]
 unfold iK rn at *;go_in;go_wp2_with (refine kf rfl (xV _ _ _ rfl) ?_;intro y4 wD b4 g4 hy4 hz4;refine stay ?_);refine dI ?_;rw[<-HA.out,<-HB.out,<-HC.out] at g4 hy4;rw[<-HY1.out,<-e3,<-e2];have eO:=dX.made g4 b4 ap;clear e2 e3 z1 z2 hy4 hz4 HA HB HC HY1 xL US dX dV ej b4 g4 fN;have hf:=eO.facts;have c0:=hf.2.2.2.1.1 0;have c1:=hf.2.2.2.1.1 1;have c2:=hf.2.2.2.1.1 2;simp at c0 c1 c2;clear hf;have eF:St V w (dR p x++[.c y4 218 nJ.cells.toArray,.c y3 196 #[J sq,Z A n c],.c y2 364 #[J t1,J t2],.c y1 37 #[J i0,J i1,J i2]]) wD:=eO.perm (bg (l₁:=[_,_,_,_]));have gD:∀O,St V w (dR p (x.next (i0,i1,i2))++[.c y4 218 nJ.cells.toArray,.c y3 196 #[J sq,Z A n c],.c y2 364 #[J t1,J t2],.c y1 37 #[J i0,J i1,J i2]]) O->(eJ O y1 37 #[J i0,J i1,J i2]∧O.cell? ⟨p.a,3,none⟩=some (.pointer (some ⟨p.st,0,none⟩))∧O.cell? ⟨p.st,0,none⟩=some (J x.b.ep))∧O.cell? ⟨y3,1,none⟩=some (Z A n c)∧O.cell? ⟨p.a,0,none⟩=some (J x.node):=λO h=>by obtain⟨_,_,_,I⟩:=iq.nH h 1 rfl;exact⟨⟨h.blk 8 rfl,h.facts.1.1 3,(I.front 8 rfl).facts.1.1 0⟩,(h.front 6 rfl).facts.1.1 1,h.facts.1.1 0⟩
 go_wp2_with fail;refine (St.py eF (D:=λ_=>False) (a':=λ_=>dR p (x.next (i0,i1,i2))) (λ_=>fB _ _) eF.no (λU _ _=>hN _ _)).mono ?_;rintro e w1 ⟨_,rfl,eN⟩;clear c0 c1 c2 eF eO hN;go_wp2_with fail;have eW:=eN.grow (Grow.refl _).drew;have eA:=gD _ eW;refine dJ rfl ?_;refine fC (λO=>(eJ O y1 37 #[J i0,J i1,J i2]∧O.cell? ⟨p.a,3,none⟩=some (.pointer (some ⟨p.st,0,none⟩))∧O.cell? ⟨p.st,0,none⟩=some (J x.b.ep))∧O.cell? ⟨y3,1,none⟩=some (Z A n c)∧O.cell? ⟨p.a,0,none⟩=some (J x.node)) [17] 18 rfl [0,1,2,3,4,5,6,7,8,9,10,11,12,13,14,15] ?_;refine eV rfl eA (λw1 ⟨⟨I,G,L⟩,h4,h5⟩ R T=>by have c0:=I.cell 0;have c1:=I.cell 1;have c2:=I.cell 2;go_simp;exact T) ?_
 iterate 14 (refine eV rfl eA (λw1 ⟨⟨I,G,L⟩,h4,h5⟩=>aM) ?_)
 refine eV rfl eA (v := aZ #[J 1,J i0,J i1,J i2,J x.b.ep,Z A n c,"",J x.node,J tg]) (λw1 ⟨⟨I,G,L⟩,h4,h5⟩=>aM) ?_;refine eZ 16 [] rfl ?_;obtain⟨y5,w3,Lz,H3,fH⟩:=eN.new' tU 40;unfold tU at H3;go_wp2_with fail;rw[<-H3.out,<-Lz.out];have fD:=fH.grow (Grow.refl _).drew;refine⟨λ_=>gD _ (fD.dO 0 rfl),?_⟩;refine fY 17 rfl aw ?_;refine d_ fD 0 rfl 40 (.tmp 10) (.tmp 29) rfl 0 rfl [J 1,J i0,J i1,J i2,J x.b.ep,Z A n c,"",J x.node,J tg] rfl (bf rfl) rfl aw #[J 1,J i0,J i1,J i2,J x.b.ep,Z A n c,"",J x.node,J tg] rfl rfl ?_;intro w4 gy;have gy:St V w (.c y5 40 #[J 1,J i0,J i1,J i2,J x.b.ep,Z A n c,"",J x.node,J tg]::(dR p (x.next (i0,i1,i2))++[.c y4 218 nJ.cells.toArray,.c y3 196 #[J sq,Z A n c],.c y2 364 #[J t1,J t2],.c y1 37 #[J i0,J i1,J i2]])) w4:=gy;clear fD fH eW eN gD eA Lz H3;go_wp2_with fail;have eW:=gy.grow (Grow.refl _).drew;have eA:(eJ w4.drew y1 37 #[J i0,J i1,J i2]∧w4.drew.cell? ⟨p.a,7,none⟩=some (.map (some p.bT)))∧w4.drew.cell? ⟨y2,0,none⟩=some (J t1)∧w4.drew.cell? ⟨p.a,4,none⟩=some (J x.now):=⟨⟨eW.blk 9 rfl,eW.facts.2.1.1 7⟩,(eW.front 8 rfl).facts.1.1 0,eW.facts.2.1.1 4⟩;have hW:=VG w4.drew tg t1 ap;have hwl:=xf tg t1;obtain⟨v,Hv⟩:=az (rD tg t1);rw[<-Hv.out] at hW hwl;have Yf:IntKind.i64.wrap ((x.now:Int)+(v:Int))=((x.now+v:Nat):Int):=by rw[IntKind.wrap_i64];omega
 obtain⟨nv,Hnv⟩:=az (x.now+v);rw[<-Hnv.out] at Yf;refine dJ rfl ?_;refine fC (λO=>(eJ O y1 37 #[J i0,J i1,J i2]∧O.cell? ⟨p.a,7,none⟩=some (.map (some p.bT)))∧O.cell? ⟨y2,0,none⟩=some (J t1)∧O.cell? ⟨p.a,4,none⟩=some (J x.now)) [19] 20 rfl [0,1,2,3,4,5,6,7,8,9,10,11,12,13,14,15] ?_;iterate 4 (refine eV rfl eA (λw1 ⟨⟨I,G⟩,h4,h5⟩=>aM) ?_)
 refine eV rfl eA (λw1 ⟨⟨I,G⟩,h4,h5⟩ R T=>by have c0:=I.cell 0;have c1:=I.cell 1;have c2:=I.cell 2;go_simp;exact T) ?_
 iterate 11 (refine eV rfl eA (λw1 ⟨⟨I,G⟩,h4,h5⟩=>aM) ?_)
 refine eZ 16 [17,18] rfl ?_;go_wp2_with fail;refine hW.mono ?_;rintro e w5 ⟨rfl,rfl⟩;go_wp2_with fail;refine⟨λ_=>eA,?_⟩;iterate 2 (refine eV rfl eA (λw1 ⟨⟨I,G⟩,h4,h5⟩=>aM) ?_)
 refine fY 19 rfl aw ?_;obtain⟨w6,eR,iA⟩:=eW.VR Oh Tryz.underlying189 5 rfl (i0,i1,i2) (aZ #[J ((t1:Int)+1),J nv]);unfold iK at eR;have iA:St V w (.c y5 40 #[J 1,J i0,J i1,J i2,J x.b.ep,Z A n c,"",J x.node,J tg]::.c p.a 192 (qm p (x.next (i0,i1,i2)))::.o (iq p.st p.z x.b)::.o (eC p.x p.d x.rs.length x.bs x.k)::.o (eI o0 p.bK (gB iK (x.next (i0,i1,i2)).ask))::.o (eI iK p.bT (l9 (gB rn x.tr) (i0,i1,i2) (aZ #[J ((t1:Int)+1),J nv])))::[.c y4 218 nJ.cells.toArray,.c y3 196 #[J sq,Z A n c],.c y2 364 #[J t1,J t2],.c y1 37 #[J i0,J i1,J i2]]) w6:=iA;clear eW eA gy Yf hW;go_wp2_with fail;have eW:=iA.grow (Grow.refl _).drew;have Fu:to=(x.last+t1) % x.eX:=Hto.out;replace Fu:=Q Fu;clear Hto;have QH:=Y.last;have XY:=Y.eX;obtain⟨la,Hla⟩:=az (x.last);obtain⟨rp,Hrp⟩:=az (x.eX);have gD:∀O,St V w (.c y5 40 #[J 1,J i0,J i1,J i2,J x.b.ep,Z A n c,"",J x.node,J tg]::.c p.a 192 (qm p (x.next (i0,i1,i2)))::.o (iq p.st p.z x.b)::.o (eC p.x p.d x.rs.length x.bs x.k)::.o (eI o0 p.bK (gB iK (x.next (i0,i1,i2)).ask))::.o (eI iK p.bT (l9 (gB rn x.tr) (i0,i1,i2) (aZ #[J ((t1:Int)+1),J nv])))::[.c y4 218 nJ.cells.toArray,.c y3 196 #[J sq,Z A n c],.c y2 364 #[J t1,J t2],.c y1 37 #[J i0,J i1,J i2]]) O->(eJ O y5 40 #[J 1,J i0,J i1,J i2,J x.b.ep,Z A n c,"",J x.node,J tg]∧O.cell? ⟨p.a,6,none⟩=some (J la))∧O.cell? ⟨y2,0,none⟩=some (J t1)∧O.cell? ⟨p.a,1,none⟩=some (J rp):=λO h=>by rw[Hla.out,Hrp.out];exact⟨⟨h.blk 0 rfl,h.facts.2.1.1 6⟩,(h.front 8 rfl).facts.1.1 0,h.facts.2.1.1 1⟩
 rw[<-Hla.out,<-Hrp.out] at Fu QH;rw[<-Hrp.out] at XY;have eA:=gD _ eW;have Ot:=t7 w6.drew D ⟨⟨1,i0,i1,i2,x.b.ep,ds,⟨#[]⟩,(x.node:Int),(tg:Int)⟩,A,c⟩ ⟨by rw[<-Hn.out];exact In.keep hd λb hb _=>eW.keep kV b hb,by rw[<-Hn.out];exact vt,iO,by rw[<-Hn.out];omega⟩;unfold En.agg at Ot;dsimp only at Ot;rw[<-Hn.out] at Ot;refine dJ rfl ?_;refine fC (λO=>(eJ O y5 40 #[J 1,J i0,J i1,J i2,J x.b.ep,Z A n c,"",J x.node,J tg]∧O.cell? ⟨p.a,6,none⟩=some (J la))∧O.cell? ⟨y2,0,none⟩=some (J t1)∧O.cell? ⟨p.a,1,none⟩=some (J rp)) [16] 17 rfl [0,1,2,3,4,5,6,7,8,9,10,11,12] ?_;iterate 11 (refine eV rfl eA (λw1 ⟨⟨I,G⟩,h4,h5⟩=>aM) ?_)
 have V8:¬ rp=0:=by omega
 have hr2:IntKind.i64.wrap ((la:Int)+(t1:Int))=(la:Int)+(t1:Int):=by rw[IntKind.wrap_i64];omega
 have Z1:((la:Int)+(t1:Int)).tmod (rp:Int)=(to:Int):=by rw[Fu.out];exact Int.tmod_eq_emod_of_nonneg ap
 refine eV rfl eA (v := J to) (λw1 ⟨⟨I,G⟩,h4,h5⟩ R T=>by go_simp;first|exact T|(rw[aB V8];go_simp;exact T)) ?_;refine eV rfl eA (λw1 ⟨⟨I,G⟩,h4,h5⟩ R T=>by have c0:=I.cell 0;have c1:=I.cell 1;have c2:=I.cell 2;have c3:=I.cell 3;have c4:=I.cell 4;have c5:=I.cell 5;have c6:=I.cell 6;have c7:=I.cell 7;have c8:=I.cell 8;go_simp;exact T) ?_
 refine eZ 13 [14,15] rfl ?_;go_wp2_with fail;refine Ot.mono ?_;rintro e w7 ⟨A7,rfl,hI7,YG⟩;go_wp2_with fail;have kQ:=eW.join (yb.framed ⟨⟨1,i0,i1,i2,x.b.ep,ds,⟨#[]⟩,(x.node:Int),(tg:Int)⟩,A7,n⟩) YG (U:=New w6.drew w7) hI7 (λb hb=>hb);have kM:=gD _ (eW.grow YG);refine⟨λ_=>kM,?_⟩;iterate 2 (refine eV rfl kM (λw1 ⟨⟨I,G⟩,h4,h5⟩=>aM) ?_)
 refine fY 16 rfl aw ?_;refine d_ kQ 7 rfl 218 (.tmp 8) (.tmp 64) rfl 0 rfl [J to,J 1,J 1,J i0,J i1,J i2,J x.b.ep,Z A7 n n,"",J x.node,J tg,(),(),ae ah 0,(),(),ay,(),()] rfl (bf rfl) rfl aw #[J to,J 1,J 1,J i0,J i1,J i2,J x.b.ep,Z A7 n n,"",J x.node,J tg,(),(),ae ah 0,(),(),ay,(),()] rfl rfl ?_;intro w8 ll;go_wp2;refine bodyPost_ret (fy rfl _ y4 rfl (ll.blk 7 rfl) Tryz.underlying218 aw) rfl ?_;have hEe:abl=⟨1,i0,i1,i2,x.b.ep,ds,⟨#[]⟩,(x.node:Int),(tg:Int)⟩:=by rw[HE.out,X0.out];rfl
 have nm:=(((((ll.dO 10 rfl).dO 9 rfl).dO 8 rfl).dO 7 rfl).dO 1 rfl).cast (l' := .o (yb ⟨abl,A7,n⟩)::dR p R) (by rw[HR.out,hEe];unfold dR Ag.send;rw[<-uL];unfold rn;dsimp only;rw[<-X0.out,<-Hv.out,<-Hnv.out];rfl)
 obtain⟨r1,r2⟩:=nm.fin;refine⟨A7,?_,r1,r2⟩;rw[hEe,Hn.out];rfl
def idC(node:Nat)(c:Nat×Int):List K:=[J node,J c.1,J c.2]
def mW(node:Nat)(u:K)(out:List (Nat×Int)):dW:=fK 37 3 u out.length (out.flatMap (idC node))
theorem mW.framed(node:Nat)(u:K)(out:List (Nat×Int)):eu (mW node u out):=fK.framed _ _ _ _ _
def yY(y:Ag)(k j:Nat):List Dl:=(y.b.eP.take j).filter λd=>decide (abn.lX d.1 y.b.sh=k)
theorem P5{j:Nat}(hj:j<y.b.eP.length):yY y k (j+1)=if abn.lX y.b.eP[j].1 y.b.sh=k then yY y k j++[y.b.eP[j]] else yY y k j:=by
 unfold yY;rw[br hj,List.filter_append];split;·rename_i h;simp[h]
 ·rename_i h;simp[h]
def UT(v:K):Nat:=match v with | .slice _ n _=>n|_=>0
theorem jM.take8(h:jM w U A l.length l):jM w U A (l.take 8).length (l.take 8):=by
 have I:=In.take h (k:=(l.take 8).length) (by rw[bn];exact Nat.min_le_right _ _);rw[fm,ki mN 2 iH] at I;have e:l.take (l.take 8).length=l.take 8:=by
  rw[bn];rcases Nat.le_total 8 l.length with h|h
  ·rw[cz h]
  ·rw[Nat.min_eq_right h,dq,bH h]
 rw[e] at I;exact I
theorem jM.a0t{c:Nat}(h:jM w U A l.length l)(E:l.length<=c):jM w U (if c=(l.take 8).length then A else A.map (·.add ((l.take 8).length*2))) (l.drop 8).length (l.drop 8):=by
 have I:=In.cut h (k:=(l.take 8).length) (by rw[bn];exact Nat.min_le_right _ _) E;rw[fm,ob mN 2 iH] at I;have e:l.drop (l.take 8).length=l.drop 8:=by
  rw[bn];rcases Nat.le_total 8 l.length with h|h
  ·rw[cz h]
  ·rw[Nat.min_eq_right h,List.drop_length,cH h]
 rw[e,show l.length-(l.take 8).length=(l.drop 8).length by rw[bn,bO];omega] at I;exact I
def yn(k:Nat)(out:List (Nat×Int))(r:Ag×List Int×Bool):Ag×List (Nat×Int)×Bool:=(r.1,out++r.2.1.map (k,·),r.2.2)
theorem P6(k f:Nat)(x:Ag):x.kb k f []=(x,[],true):=by cases f<;>rfl
theorem LG(hl:l≠[])(h:x.kx k (l.take 8)=none):x.kb k (f+1) l=(x,[],false):=by unfold Ag.kb;rw[aB hl,h]
theorem LH(hl:l≠[])(h:x.kx k (l.take 8)=some y)(out:List (Nat×Int)):yn k out (x.kb k (f+1) l)=yn k (out++[(k,(y.b.qu k).k)]) (y.kb k f (l.drop 8)):=by rw[Ag.kb,aB hl,h];simp[yn]
theorem Er{y2:Ag}(h:yn k out (y.kg k)=(y2,jv,true)):((y.ey (k::ks)).1,out++(y.ey (k::ks)).2)=((y2.ey ks).1,jv++(y2.ey ks).2):=by unfold yn at h;injection h with I G;injection G with G L;have e:y.ey (k::ks)=if (y.kg k).2.2=true then (((y.kg k).1.ey ks).1,(y.kg k).2.1.map (k,·)++((y.kg k).1.ey ks).2) else ((y.kg k).1,(y.kg k).2.1.map (k,·)):=rfl;rw[e,aA L,I,<-G];simp
theorem Es{y2:Ag}(h:yn k out (y.kg k)=(y2,jv,false)):((y.ey (k::ks)).1,out++(y.ey (k::ks)).2)=(y2,jv):=by unfold yn at h;injection h with I G;injection G with G L;have e:y.ey (k::ks)=if (y.kg k).2.2=true then (((y.kg k).1.ey ks).1,(y.kg k).2.1.map (k,·)++((y.kg k).1.ey ks).2) else ((y.kg k).1,(y.kg k).2.1.map (k,·)):=rfl;rw[e,aB (by rw[L];simp),I,<-G]
theorem yo{sh:Nat}(N:k<sh):(bV sh).drop k=k::(bV sh).drop (k+1):=by rw[bP (by simpa using N),List.getElem_range]
theorem Xb(w:X)(D:aV)(p:vE)(x:Ag)(Y:x.Ok):Lw W D 218 #[.pointer (some ⟨p.a,0,none⟩)] (dR p x) (λ(u:K)e=>e=b5 u) (λu => .o (mW x.node u x.cut.2)::dR p x.cut.1) w:=by
 obtain⟨R,HR⟩:=az (x.cut);rw[<-HR.out];obtain⟨abm,HT⟩:=az (x.ey (bV x.b.sh));have jJ:R=if abm.2=[] then abm else (abm.1.sync,abm.2):=by rw[HR.out,HT.out];rfl
 intro V hM hV;have fN:=St.begin_ hM (λb hb=>(hV b hb).1) (fB _ _);obtain⟨_,_,_,ej⟩:=iq.nH fN 1 rfl;have UU:w.cell? ⟨p.a,3,none⟩=some (.pointer (some ⟨p.st,0,none⟩)):=fN.facts.1.1 3;have z6:w.cell? ⟨p.st,2,none⟩=some (J x.b.sh):=(ej.front 4 rfl).facts.1.1 2;clear ej;obtain⟨sh,Hsh⟩:=az (x.b.sh);rw[<-Hsh.out] at z6;replace jJ:=Q jJ;go_in;go_wp2_with fail;go_step3;go_wp2_with fail;go_step3;go_wp2_with fail;clear UU z6;go_loopw [3,16] (λu i wr=>∃(k:Nat)(y:Ag)(out:List (Nat×Int)),i=J k∧(k<=sh∧out.length<=32*k)∧((y.ey ((bV sh).drop k)).1,out++(y.ey ((bV sh).drop k)).2)=abm∧(y.Ok∧y.node=x.node∧y.b.sh=sh)∧St V w (.o (mW x.node u out)::dR p y) wr) (λ_ i _=>sh-(intOf i).toNat);case atStart=>exact⟨0,x,[],rfl,⟨by omega,bo _⟩,by rw[HT.out,Hsh.out];rfl,⟨Y,rfl,Hsh.out.symm⟩,fN.join (mW.framed _ _ _) (Grow.refl _) (U:=λ_=>False) Row.nil (λ_ h=>h.elim)⟩
 case round=>
  obtain⟨k,y,out,rfl,⟨hksh,hol⟩,hT,⟨hy,hyn,P7⟩,hS⟩:=hrel;by_cases N:k<sh
  ·have dk:decide (k<sh)=true:=aC N
   have j5:k<4:=by have:=Y.sh;have:=Hsh.out;omega
   obtain⟨hz,sl,cu,ej⟩:=iq.nH hS 2 rfl;obtain⟨As,cs,rfl,jQ,hms⟩:=fK.nW ej 6 rfl;have UU:wr.cell? ⟨p.a,3,none⟩=some (.pointer (some ⟨p.st,0,none⟩)):=ej.facts.1.1 3;have QI:wr.cell? ⟨p.st,1,none⟩=some (Z As y.b.eP.length cs):=(ej.front 5 rfl).facts.1.1 1;replace hT:=Q hT;obtain⟨n,Hn⟩:=az (y.b.eP.length);rw[<-Hn.out] at QI jQ;have hn32:n<=32:=by rw[Hn.out];exact hy.b.eP
   go_wp2_with fail;clear UU QI;have dV:=ej.join (fK.framed 147 2 (Z none 0 0) 0 []) (Grow.refl _) (U:=λ_=>False) Row.nil (λ_ h=>h.elim);go_loopw [5,27] (λv i wq=>∃j:Nat,i=J j∧j<=n∧St V w (.o (fK 147 2 v (yY y k j).length (fm (yY y k j)))::.o (mW x.node u3 out)::.c p.a 192 (qm p y)::.o (eC p.x p.d y.rs.length y.bs y.k)::.o (eI o0 p.bK (gB iK y.ask))::.o (eI iK p.bT (gB rn y.tr))::gQ p.st p.z (Z As y.b.eP.length cs) cu y.b) wq) (λ_ i _=>n-(intOf i).toNat);case atStart=>exact⟨0,rfl,by omega,dV⟩
   case round=>
    obtain⟨j,rfl,Cw,YH⟩:=hrel;obtain⟨Aq,cq,rfl,hcq,hmq⟩:=fK.sl YH;have RV:(yY y k j).length<=32:=by have I:(yY y k j).length<=(y.b.eP.take j).length:=c_ _ _;have G:=hy.b.eP;rw[bn] at I;omega
    by_cases hj:j<n
    ·have Ix:j<y.b.eP.length:=by rw[<-Hn.out];exact hj
     obtain⟨U,hU,_⟩:=YH.own.see 7 rfl;obtain⟨As',cs',e6,Se,_⟩:=Row.jL (show Row _ U 147 2 (Z As y.b.eP.length cs) y.b.eP.length (fm y.b.eP) from hU);injection e6 with e6 _ e7;subst e6 e7;obtain⟨ad,hq,rfl,f0,f1⟩:=kn Se Ix;have e0:=f0 _ (Grow.refl _);have e1:=f1 _ (Grow.refl _);have hsF:=Q (P5 (k:=k) Ix);have YD:=hy.b.fine _ (bF Ix);generalize y.b.eP[j]=d at e0 e1 hsF YD;obtain⟨s,xx⟩:=d;dsimp only at e0 e1 hsF;obtain⟨yy,wa,HY,HA,mh⟩:=YH.new' #[aX s,ae ah xx] 147;clear f0 f1 hU;have dj:decide (j<n)=true:=aC hj;rw[Hn.out] at dj;go_wp2_with fail;rw[<-HA.out,<-HY.out];have hcT:∀O,St V w (.c yy 147 #[aX s,ae ah xx]::.o (fK 147 2 (Z Aq (yY y k j).length cq) (yY y k j).length (fm (yY y k j)))::.o (mW x.node u3 out)::.c p.a 192 (qm p y)::.o (eC p.x p.d y.rs.length y.bs y.k)::.o (eI o0 p.bK (gB iK y.ask))::.o (eI iK p.bT (gB rn y.tr))::gQ p.st p.z (Z (some ad) y.b.eP.length cs) cu y.b) O->O.cell? ⟨yy,0,none⟩=some (aX s)∧O.cell? ⟨p.a,3,none⟩=some (.pointer (some ⟨p.st,0,none⟩))∧O.cell? ⟨p.st,2,none⟩=some (J sh):=λO h=>
      ⟨h.facts.1.1 0,h.facts.2.1.1 3,((h.front 7 rfl).facts.1.1 2).trans (by rw[<-P7];rfl)⟩
     have eW:=mh.grow (Grow.refl _).drew;have eA:=hcT _ eW;refine dJ rfl ?_;refine fC (λO=>O.cell? ⟨yy,0,none⟩=some (aX s)∧O.cell? ⟨p.a,3,none⟩=some (.pointer (some ⟨p.st,0,none⟩))∧O.cell? ⟨p.st,2,none⟩=some (J sh)) [] 12 rfl [0,1,2,3,4,5,6,7,8,10] ?_;iterate 10 (refine eV rfl eA (λw1 ⟨I,G,L⟩=>aM) ?_)
     refine eZ 9 [11] rfl ?_;have hSh:=abn.Ks wa.drew s (sh:Int) (by have I:s.size<=1000000:=(lj YD).1;unfold dG;omega) (by have:=hy.sh;omega);go_wp2_with fail;refine hSh.mono ?_;rintro e w1 ⟨rfl,rfl⟩;go_wp2_with fail;refine⟨λ_=>eA,?_⟩;refine eV rfl eA (λw1 ⟨I,G,L⟩=>aM) ?_;refine gj ?_;by_cases Kb:abn.lX s (sh:Int)=(k:Int)
     ·have Xc:Hid (yY y k (j+1)=yY y k j++[(s,xx)]):=Q (by rw[hsF.out,aA (by rw[P7];exact Kb)])
      obtain⟨y2,wb,xL,HB,yV⟩:=mh.new' #[aX s,ae ah xx] 147;obtain⟨kM,lV,sy⟩:=eA;have q_:wa.drew.cell? ⟨yy,1,none⟩=some (ae ah xx):=eW.facts.1.1 1;have dkk:(abn.lX s (sh:Int) == (k:Int))=true:=by rw[Kb];simp
      replace Kb:=Q Kb;go_wp2_with (at_builtin;refine stay ?_);refine dI ?_;rw[<-HB.out,<-xL.out];have eF:=yV.grow (Grow.refl _).drew;refine g_ oQ rfl (.tmp 43) (.tmp 45) rfl rfl (eF.front 2 rfl) (A:=some ⟨y2,0,none⟩) (m:=1) (c:=1) (news:=[aX s,ae ah xx]) rfl (In.reads ((eF.blk 0 rfl).jL (size:=2) (n:=1) rfl)) (by simp[Value.oneCell']) ap ?_;intro v' w4 eN;have fH:=(eN.dO 1 rfl).dO 1 rfl;clear kM lV sy q_;go_wp2_with fail;refine⟨⟨j+1,by go_num,by omega,?_⟩,by simp[intOf];omega⟩;rw[Xc.out,bd,fm,bL];exact fH
     ·have Xc:Hid (yY y k (j+1)=yY y k j):=Q (by rw[hsF.out,aB (by rw[P7];exact Kb)])
      have dkk:(abn.lX s (sh:Int) == (k:Int))=false:=beq_eq_false_iff_ne.2 Kb;replace Kb:=Q Kb;have fH:=eW.dO 0 rfl;go_wp2_with fail;refine⟨⟨j+1,by go_num,by omega,?_⟩,by simp[intOf];omega⟩;rw[Xc.out];exact fH
    ·have Gu:j=y.b.eP.length:=by rw[<-Hn.out];omega
     have dj:decide (j<n)=false:=aD hj;have tY:pE (yY y k j)=y.jI k:=by unfold Ag.jI yY;rw[Gu,dq]
     obtain⟨U,hU,jR⟩:=YH.own.see 0 rfl;obtain⟨Aq',cq',e6,Se,_⟩:=Row.jL (show Row _ U 147 2 (Z Aq (yY y k j).length cq) (yY y k j).length (fm (yY y k j)) from hU);injection e6 with e6 _ e7;subst e6 e7;have hDe:=L5 _ U Aq (yY y k j).length cq (yY y k j) Se ap (λd hd=>(lj (hy.b.fine d (bW (List.mem_filter.1 hd).1))).2);rw[tY] at hDe;replace Gu:=Q Gu;replace tY:=Q tY;go_wp2_with fail;refine hDe.mono ?_;rintro e w5 ⟨A5,rfl,hI5,ng⟩;have eN:=(YH.join (Mp.framed A5 (y.jI k)) ng (U:=New _ w5) hI5 (λb hb=>hb)).dO 1 rfl;have fH:=((((iq.yl (l:=[.o (Mp A5 (y.jI k)),.o (mW x.node u3 out),.c p.a 192 (qm p y),.o (eC p.x p.d y.rs.length y.bs y.k),.o (eI o0 p.bK (gB iK y.ask)),.o (eI iK p.bT (gB rn y.tr))]) hz eN).back 3).back 6).back 6);have YW:=hy.shard k;obtain⟨abe,HZ⟩:=az (yn k out (y.kg k));clear YH hU Se eN dV ej hDe;go_wp2_with fail;go_loopw [3,5] (λu v wq=>∃(y2:Ag)(jv:List (Nat×Int))(f:Nat)(rest:List Dl)(A6:aU)(c6:Nat),v=Z A6 rest.length c6∧(rest.length<=c6∧c6<=dG)∧rest.length<=f∧(rest.length<=32∧jv.length+rest.length<=32*(k+1))∧(∀d∈rest,jh d)∧yn k jv (y2.kb k f rest)=abe∧(y2.Ok∧y2.node=x.node∧y2.b.sh=sh)∧St V w (dR p y2++[.o (Mp A6 rest),.o (mW x.node u jv)]) wq) (λ_ v _=>UT v);case atStart=>exact⟨y,out,_,_,A5,_,rfl,⟨bh _,by unfold dG;omega⟩,bh _,⟨YW.1,by have:=YW.1;omega⟩,YW.2,by rw[HZ.out];rfl,⟨hy,hyn,P7⟩,fH⟩
     case round=>
      obtain⟨y2,jv,f,rest,A6,c6,rfl,⟨kU,hm6⟩,hrf,⟨hr32,pN⟩,hrF,hZ,⟨vr,Xd,UV⟩,Qv⟩:=hrel;obtain⟨Ao,co,rfl,hco,Y_⟩:=fK.nW Qv 6 rfl;by_cases hr:rest.length=0
      ·obtain rfl:rest=[]:=bu hr
       rw[P6] at hZ;have H9:=hT.out;rw[yo N,Er (y2:=y2) (jv:=jv) (by rw[<-HZ.out,<-hZ];simp[yn])] at H9;replace H9:=Q H9;replace hZ:=Q hZ;have fD:=(Qv.dO 5 rfl).front 5 rfl;go_wp2_with fail;exact⟨⟨k+1,y2,jv,by go_num,⟨by omega,by simpa using pN⟩,H9.out,⟨vr,Xd,UV⟩,fD⟩,by simp[intOf];omega⟩
      ·obtain⟨f',rfl⟩:∃f',f=f'+1:=⟨f-1,by omega⟩
       have LI:rest≠[]:=λe=>hr (by rw[e];rfl);obtain⟨n8,Xe⟩:=az ((rest.take 8).length);have Ux:n8=min 8 rest.length:=by rw[Xe.out,bn]
       have Qf:∀ts t w,(Builtin.min_ ts t #[J rest.length,J 8]).run W w=.ok (J n8) w:=λts t w=>by rw[run_min_int2,Ux];congr 2;split<;>omega
       have hn8l:n8<=rest.length:=by omega
       have h18:1<=n8:=by omega
       have h8:n8<=8:=by omega
       clear Ux;have hCu:=St.py (a:=dR p y2) (b:=[.o (Mp A6 rest),.o (mW x.node (Z Ao jv.length co) jv)]) (D:=λ_=>False) Qv (a':=λ_=>dR p ((y2.kx k (rest.take 8)).getD y2)) (λ_=>fB _ _) Qv.no (λU hU jR=>WT _ _ p y2 vr k j5 (rest.take 8) A6 c6 (by obtain⟨U',I,G⟩:=nV hU 0 rfl;exact In.mono (jM.take8 I) λb hb => .inl (G b hb)) (by rw[<-Xe.out];omega) hm6 (by rw[<-Xe.out];exact h8) (λd hd=>(hrF d (bW hd)).2) (λb hb=>hb.elim (jR b) False.elim));rw[<-Xe.out] at hCu;obtain⟨o,Ho⟩:=az (y2.kx k (rest.take 8));rw[<-Ho.out] at hCu;go_wp2_with fail;refine hCu.mono ?_;rintro e w7 ⟨_,rfl,fD⟩;rcases o with _|y3
       ·rw[LG LI Ho.out.symm] at hZ
        have H9:=hT.out;rw[yo N,Es (y2:=y2) (jv:=jv) (by rw[<-HZ.out,<-hZ];simp[yn])] at H9;have gS:=jJ.out;rw[<-H9] at gS;replace H9:=Q H9;replace hZ:=Q hZ;replace LI:=Q LI;have gy:=fD.dO 5 rfl;rcases jv with _|⟨c2,jv⟩
        ·rw[aA rfl] at gS
         replace gS:=Q gS;go_wp2_with fail;try rw[Exit.noGoto_ret]
         go_ret;rw[gS.out];obtain⟨r1,r2⟩:=(gy.front 5 rfl).fin;exact⟨_,rfl,r1,r2⟩
        ·rw[aB (by simp)] at gS
         replace gS:=Q gS;go_wp2_with fail;refine (St.py (a:=dR p y2) (b:=[.o (mW x.node (Z Ao (c2::jv).length co) (c2::jv))]) (D:=λ_=>False) gy (a':=λ_=>dR p y2.sync) (λ_=>fB _ _) gy.no (λU _ _=>Jp _ _ p y2)).mono ?_;rintro e w8 ⟨_,rfl,iA⟩;go_wp2_with fail;try rw[Exit.noGoto_ret]
         go_ret;rw[gS.out];obtain⟨r1,r2⟩:=(iA.front 5 rfl).fin;exact⟨_,rfl,r1,r2⟩
       ·obtain⟨Vl,a0u,a0v⟩:=vr.kx j5 (by rw[<-Xe.out];exact h8) (λd hd=>hrF d (bW hd)) Ho.out.symm
        rw[LH LI Ho.out.symm] at hZ;obtain⟨hz3,sl3,cu3,gy⟩:=iq.nH (st:=p.st) (z:=p.z) (b:=y3.b) fD 1 rfl;obtain⟨g,Hg⟩:=az (p.z.getD k 0);obtain⟨ql,qk,Hq⟩:∃ql qk,Hid (y3.b.qu k=⟨ql,qk⟩):=⟨_,_,Q rfl⟩;have hqu:(n_ p.z y3.b.q)[k]?=some (.o (abo.eh g ql qk)):=by rw[lh hz3.1 hz3.2 j5,Hg.out];have:=Hq.out;unfold Bk.qu at this;rw[this]
        have K5:(Fp p.z sl3 cu3 y3.b)[3+k]?=some ((g:K)):=by
         have h4:k=0∨k=1∨k=2∨k=3:=by omega
         rw[Hg.out];rcases h4 with rfl|rfl|rfl|rfl<;>rfl
        rw[Hq.out] at hZ;dsimp only at hZ;have gD:∀r O,St V w (.c p.a 192 (qm p y3)::.o (eC p.x p.d y3.rs.length y3.bs y3.k)::.o (eI o0 p.bK (gB iK y3.ask))::.o (eI iK p.bT (gB rn y3.tr))::.o (Mp A6 rest)::r::gQ p.st p.z sl3 cu3 y3.b) O->O.cell? ⟨p.a,0,none⟩=some (J x.node)∧O.cell? ⟨p.a,3,none⟩=some (.pointer (some ⟨p.st,0,none⟩))∧O.cell? ⟨p.st,3+k,none⟩=some ((g:K)):=λr O h=>
         ⟨by rw[<-Xd,<-a0u];exact h.facts.1.1 0,h.facts.1.1 3,((h.front 6 rfl).facts.1.1 (3+k)).trans K5⟩
        replace hZ:=Q hZ;replace LI:=Q LI;go_wp2_with fail;have eW:=gy.grow (Grow.refl _).drew;have eA:=gD _ _ eW;obtain⟨U,hQ,_⟩:=eW.own.see (k+9) (iD (show (_:List Bl)[k+9]?=some (.o (abo.eh g ql qk)) from hqu));have UP:=uG _ g ql qk U hQ;refine dJ rfl ?_;refine fC (λO=>O.cell? ⟨p.a,0,none⟩=some (J x.node)∧O.cell? ⟨p.a,3,none⟩=some (.pointer (some ⟨p.st,0,none⟩))∧O.cell? ⟨p.st,3+k,none⟩=some ((g:K))) [19] 20 rfl [0,1,2,3,4,5,6,7,8,9,10,11,12,13,14] ?_;iterate 15 (refine eV rfl eA (λw1 ⟨I,G,L⟩ R T=>by go_simp;first|exact T|(rw[aA ap];go_simp;exact T)) ?_)
        refine eZ 15 [16] rfl ?_;go_wp2_with fail;refine UP.mono ?_;rintro e w8 ⟨rfl,rfl⟩;go_wp2_with fail;refine⟨λ_=>eA,?_⟩;refine eV rfl eA (λw1 ⟨I,G,L⟩=>aM) ?_;refine eZ 17 [] rfl ?_;obtain⟨y2b,wb,xL,HB,iA⟩:=gy.new' #[J x.node,J k,J qk] 37;go_wp2_with fail;rw[<-HB.out,<-xL.out];have kQ:=iA.grow (Grow.refl _).drew;refine⟨λ_=>gD _ _ (kQ.dO 0 rfl),?_⟩;refine eZ 18 [] rfl ?_;refine g_ Wp rfl (.tmp 63) (.tmp 80) rfl rfl (kQ.front 6 rfl) (A:=some ⟨y2b,0,none⟩) (m:=1) (c:=1) (news:=[J x.node,J k,J qk]) rfl (In.reads ((kQ.blk 0 rfl).jL (size:=3) (n:=1) rfl)) (by simp[Value.oneCell']) ap ?_;intro v' w9 ll;refine wpList_nil ⟨λ_=>gD _ _ ((ll.dO 1 rfl).back 5),?_⟩;refine fY 19 rfl aw ?_;have nm:St V w (.o (fK 37 3 v' (jv.length+1) (jv.flatMap (idC x.node)++[J x.node,J k,J qk]))::.c p.a 192 (qm p y3)::.o (eC p.x p.d y3.rs.length y3.bs y3.k)::.o (eI o0 p.bK (gB iK y3.ask))::.o (eI iK p.bT (gB rn y3.tr))::.o (Mp A6 rest)::gQ p.st p.z sl3 cu3 y3.b) w9:=ll.dO 1 rfl;have C6:=iq.yl (l:=[.o (fK 37 3 v' (jv.length+1) (jv.flatMap (idC x.node)++[J x.node,J k,J qk])),.c p.a 192 (qm p y3),.o (eC p.x p.d y3.rs.length y3.bs y3.k),.o (eI o0 p.bK (gB iK y3.ask)),.o (eI iK p.bT (gB rn y3.tr)),.o (Mp A6 rest)]) hz3 nm;clear Qv fD gy iA kQ ll nm eW UP hQ hCu;go_wp2_with fail;have e8:(rest.drop 8).length=rest.length-n8:=by rw[Xe.out,bn,bO];omega
        have Sq:=St.cls (a:=[.o (Mp A6 rest)]) (C6.front 6 rfl) (Mp.framed (if c6=n8 then A6 else A6.map λx=>x.add (n8*2)) (rest.drop 8)) (λU hU=>by obtain⟨U',I,G⟩:=nV hU 0 rfl;have L:=jM.a0t I kU;rw[<-Xe.out] at L;exact In.mono L λb hb=>G b hb)
        have GU:=(((Sq.front 2 rfl).back 6).back 5).back 1;refine⟨⟨y3,jv++[(k,qk)],f',rest.drop 8,if c6=n8 then A6 else A6.map λx=>x.add (n8*2),c6-n8,by rw[e8],⟨by rw[e8];omega,by omega⟩,by rw[e8];omega,⟨by rw[e8];omega,by rw[e8,bd,bv];omega⟩,λd hd=>hrF d (cX hd),hZ.out,⟨Vl,a0u.trans Xd,a0v.trans UV⟩,GU.cast ?_⟩,by simp only[UT];omega⟩;unfold mW;rw[bd,bL];rfl
  ·have Kb:k=sh:=by omega
   subst Kb;have dk:decide (k<k)=false:=aD (Nat.lt_irrefl k);rw[show (bV k).drop k=[] from cH (by simp)] at hT;replace hT:(y,out)=abm:=by rw[<-hT];simp[Ag.ey]
   obtain⟨Ao,co,rfl,hco,Y_⟩:=fK.nW hS 0 rfl;have UU:wr.cell? ⟨p.a,3,none⟩=some (.pointer (some ⟨p.st,0,none⟩)):=(hS.front 1 rfl).facts.1.1 3;obtain⟨_,_,_,ej⟩:=iq.nH hS 2 rfl;have z6:wr.cell? ⟨p.st,2,none⟩=some (J k):=((ej.front 5 rfl).facts.1.1 2).trans (by rw[<-P7];rfl);clear ej;have gS:=jJ.out;rw[<-hT] at gS;rcases out with _|⟨c2,out⟩
   ·rw[aA rfl] at gS
    replace gS:=Q gS;go_wp2_with fail;try rw[Exit.noGoto_ret]
    go_ret;rw[gS.out];obtain⟨r1,r2⟩:=hS.fin;exact⟨_,rfl,r1,r2⟩
   ·rw[aB (by simp)] at gS
    replace gS:=Q gS;go_wp2_with fail;refine (St.py (a:=dR p y) (b:=[.o (mW x.node (Z Ao (c2::out).length co) (c2::out))]) (D:=λ_=>False) (hS.back 5) (a':=λ_=>dR p y.sync) (λ_=>fB _ _) hS.no (λU _ _=>Jp _ _ p y)).mono ?_;rintro e w8 ⟨_,rfl,iA⟩;go_wp2_with fail;try rw[Exit.noGoto_ret]
    go_ret;rw[gS.out];obtain⟨r1,r2⟩:=(iA.front 5 rfl).fin;exact⟨_,rfl,r1,r2⟩
def vH{κ α:Type}[DecidableEq α](q:List (κ×α))(v:α):List (κ×α):=q.filter λp=>decide (p.2≠v)
def Ag.put(x:Ag)(r:Rc):Ag:=if x.i6 r=0 then { x with rs:=x.rs++[r] } else x
def Ag.fin(x:Ag)(a k s:Nat):Ag:={ x.put (.dn k s) with b:=x.b.done k (s:Int),tr:=gV x.tr ((a:Int),(k:Int),(s:Int)),ask:=vH x.ask ((a:Int),(k:Int),(s:Int)) }
theorem SL(p:vE)(x:Ag)(r:Rc):eC p.x p.d ((if V.i6 x.bs r.B=0 then x.rs.length+1 else x.rs.length:Nat):Int) (V.zg x.bs r.B) x.k=eC p.x p.d ((x.put r).rs.length:Nat) (x.put r).bs x.k:=by
 unfold Ag.put Ag.i6;by_cases h:V.i6 x.bs r.B=0
 ·rw[aA h,aA h,(mJ h).1]
  unfold Ag.bs;rw[oD,bd];rfl
 ·rw[aB h,aB h,(tF h).1]
theorem SN(w:X)(D:aV)(p:vE)(x:Ag)(Y:x.Ok)(a k s:Nat)(N:k<4)(hs:s<=9223372036854775807):Lw W D 273 #[.pointer (some ⟨p.a,0,none⟩),iK ((a:Int),(k:Int),(s:Int))] (dR p x) (λ(_:Unit)e=>e=b5 (a_ #[])) (λ_=>dR p (x.fin a k s)) w:=by
 obtain⟨R,HR⟩:=az (x.fin a k s);rw[<-HR.out];intro V hM hV;have fN:=St.begin_ hM (λb hb=>(hV b hb).1) (fB _ _);obtain⟨y,wa,HY,HA,ej⟩:=fN.new' #[J a,J k,J s] 37;unfold iK;go_in;go_wp2_with fail;rw[<-HA.out,<-HY.out];have eW:=ej.grow (Grow.refl _).drew;have gD:∀l O,St V w (.c y 37 #[J a,J k,J s]::.c p.a 192 (qm p x)::l) O->O.cell? ⟨p.a,2,none⟩=some (.pointer (some ⟨p.x,0,none⟩))∧O.cell? ⟨y,1,none⟩=some (J k)∧O.cell? ⟨y,2,none⟩=some (J s):=λl O h=>⟨h.facts.2.1.1 2,h.facts.1.1 1,h.facts.1.1 2⟩;have eA:=gD _ _ eW;clear HY HA ej fN;have pL:=KT wa.drew k s ap hs;refine dJ rfl ?_;refine fC (λO=>O.cell? ⟨p.a,2,none⟩=some (.pointer (some ⟨p.x,0,none⟩))∧O.cell? ⟨y,1,none⟩=some (J k)∧O.cell? ⟨y,2,none⟩=some (J s)) [] 10 rfl [0,1,2,3,4,5,6,7] ?_;iterate 8 (refine eV rfl eA (λw1 ⟨I,G,L⟩=>aM) ?_)
 refine eZ 8 [] rfl ?_;go_wp2_with fail;refine pL.mono ?_;rintro e w2 ⟨v,rfl,fk,vz⟩;have dV:=eW.grow fk;have lV:=gD _ _ dV;obtain⟨Au,mu,cu,rfl,ON⟩:=id vz;go_wp2_with fail;refine⟨λ_=>lV,?_⟩;refine eZ 9 [] rfl ?_;go_wp2_with fail;refine (dV.Fo 3 rfl (λ_=>eC.framed _ _ _ _ _) dV.no (λU _ _=>qS w2 _ p.x p.d x.rs.length x.k x.bs (Rc.dn k s).B _ vz (by have:=Y.few;omega))).mono ?_;rintro e w3 ⟨_,rfl,dX⟩;rw[SL] at dX;simp only[bz,bA,dR] at dX;have sy:=gD _ _ dX;go_wp2_with fail;refine⟨λ_=>sy,?_⟩;refine gj ?_;go_wp2_with fail;clear eA lV sy gD pL vz ON dV eW;obtain⟨hz,sl,cw,eO⟩:=iq.nH dX 2 rfl;have eO:St V w (.c y 37 #[J a,J k,J s]::.c p.a 192 (qm p x)::.o (eC p.x p.d (x.put (.dn k s)).rs.length (x.put (.dn k s)).bs x.k)::.o (eI o0 p.bK (gB iK x.ask))::.o (eI iK p.bT (gB rn x.tr))::gQ p.st p.z sl cw x.b) w3:=eO;obtain⟨g,Hg⟩:=az (p.z.getD k 0);have K5:(Fp p.z sl cw x.b)[3+k]?=some ((g:K)):=by
  have h4:k=0∨k=1∨k=2∨k=3:=by omega
  rw[Hg.out];rcases h4 with rfl|rfl|rfl|rfl<;>rfl
 have eW:=eO.grow (Grow.refl _).drew;have gD:∀b l O,(Fp p.z sl cw b)[3+k]?=some ((g:K))->St V w (.c y 37 #[J a,J k,J s]::.c p.a 192 (qm p x)::.o (eC p.x p.d (x.put (.dn k s)).rs.length (x.put (.dn k s)).bs x.k)::.o (eI o0 p.bK (gB iK x.ask))::.o (eI iK p.bT (gB rn x.tr))::.c p.st 186 (Fp p.z sl cw b)::l) O->O.cell? ⟨p.a,3,none⟩=some (.pointer (some ⟨p.st,0,none⟩))∧(O.cell? ⟨y,1,none⟩=some (J k)∧O.cell? ⟨y,2,none⟩=some (J s))∧O.cell? ⟨p.st,3+k,none⟩=some ((g:K)):=λb l O K5 h=>⟨h.facts.2.1.1 3,⟨h.facts.1.1 1,h.facts.1.1 2⟩,((h.front 5 rfl).facts.1.1 (3+k)).trans K5⟩;have eA:=gD _ _ _ K5 eW;refine dJ rfl ?_;refine fC (λO=>O.cell? ⟨p.a,3,none⟩=some (.pointer (some ⟨p.st,0,none⟩))∧(O.cell? ⟨y,1,none⟩=some (J k)∧O.cell? ⟨y,2,none⟩=some (J s))∧O.cell? ⟨p.st,3+k,none⟩=some ((g:K))) [] 13 rfl [0,1,2,3,4,5,6,7,8,9,10,11] ?_;iterate 12 (refine eV rfl eA (λw1 ⟨I,⟨G,h4⟩,L⟩ R T=>by go_simp;first|exact T|(rw[aA ap];go_simp;exact T)) ?_)
 refine eZ 12 [] rfl ?_;go_wp2_with fail;have hgg:=Hg.out;subst hgg;refine (eW.Fo (k+8) (S:=abo.eh (p.z.getD k 0) (x.b.qu k).l (x.b.qu k).k) (lh hz.1 hz.2 N) (λ_=>abo.eh.framed _ _ _) eW.no (λU hU jR=>Lw.turns (abo.DG _ _ _ _ (s:Int)))).mono ?_;rintro e w4 ⟨_,rfl,eF⟩;have eN:St V w ([.c y 37 #[J a,J k,J s],.c p.a 192 (qm p x),.o (eC p.x p.d (x.put (.dn k s)).rs.length (x.put (.dn k s)).bs x.k),.o (eI o0 p.bK (gB iK x.ask)),.o (eI iK p.bT (gB rn x.tr))]++gQ p.st p.z sl cw (x.b.done k s)) w4:=by unfold gQ Bk.done;dsimp only;rw[<-rZ hz.1 hz.2 N];exact eF
 have fH:=iq.yl (b:=x.b.done k s) ⟨hz.1,by unfold Bk.done;rw[dh];exact hz.2⟩ eN;go_wp2_with fail;refine⟨λ_=>gD _ _ _ K5 eN,?_⟩;refine gj ?_;go_wp2_with fail;clear gD K5 eA eN eF eW eO dX;have eW:=fH.grow (Grow.refl _).drew;have eA:eJ w4.drew y 37 #[J a,J k,J s]∧w4.drew.cell? ⟨p.a,7,none⟩=some (.map (some p.bT)):=⟨eW.blk 1 rfl,(eW.front 2 rfl).facts.1.1 7⟩;refine dJ rfl ?_;refine fC (λO=>eJ O y 37 #[J a,J k,J s]∧O.cell? ⟨p.a,7,none⟩=some (.map (some p.bT))) [] 6 rfl [0,1,2,3,4] ?_;iterate 4 (refine eV rfl eA (λw1 ⟨I,G⟩=>aM) ?_)
 refine eV rfl eA (λw1 ⟨I,G⟩ R T=>by have c0:=I.cell 0;have c1:=I.cell 1;have c2:=I.cell 2;go_simp;exact T) ?_
 refine eZ 5 [] rfl ?_;obtain⟨w6,eR,fD⟩:=eW.Zu Oh Tryz.underlying189 5 rfl ((a:Int),(k:Int),(s:Int));unfold iK at eR;rw[mI] at fD;have fD:St V w (.o (iq p.st p.z (x.b.done k s))::.c y 37 #[J a,J k,J s]::.c p.a 192 (qm p x)::.o (eC p.x p.d (x.put (.dn k s)).rs.length (x.put (.dn k s)).bs x.k)::.o (eI o0 p.bK (gB iK x.ask))::[.o (eI iK p.bT (gB rn (gV x.tr ((a:Int),(k:Int),(s:Int)))))]) w6:=fD;go_wp2_with fail;refine⟨⟨fD.blk 1 rfl,(fD.front 2 rfl).facts.1.1 7⟩,?_⟩;refine gj ?_;clear eA eW fH eR;have ha8:w6.cell? ⟨p.a,8,none⟩=some (.map (some p.bK)):=(fD.front 2 rfl).facts.1.1 8;obtain⟨w7,WE,gy⟩:=fD.range Tryz.underlying190 4 rfl;go_wp2_with fail;obtain⟨r,Hr⟩:=az ((w6:Nat));rw[<-Hr.out] at gy ⊢;clear fD WE ha8;go_loopw [] (λwr=>∃q td:List (Int×lp),(vH q ((a:Int),(k:Int),(s:Int))=vH x.ask ((a:Int),(k:Int),(s:Int))∧∀e∈q,e ∉ td->e.2≠((a:Int),(k:Int),(s:Int)))∧St V w (.o (iq p.st p.z (x.b.done k s))::.c y 37 #[J a,J k,J s]::.c p.a 192 (qm p x)::.o (eC p.x p.d (x.put (.dn k s)).rs.length (x.put (.dn k s)).bs x.k)::.o (lG o0 p.bK r (gB iK q) (gB iK td))::[.o (eI iK p.bT (gB rn (gV x.tr ((a:Int),(k:Int),(s:Int)))))]) wr) (λwr=>BI p.bK r wr);case atStart=>exact⟨x.ask,x.ask,⟨rfl,λe h G=>absurd h G⟩,gy⟩
 case round=>
  obtain⟨q,td,⟨Fg,CQ⟩,Qv⟩:=hrel;have mn:=Qv.Nw 4 rfl;rcases Qv.Zv 4 rfl 0 with ⟨h0,eR⟩|⟨k',v,O,hm,hmq,eR,a1V,hSn⟩
  ·have K1:td=[]:=by cases td with|nil=>rfl|cons=>simp[gB] at h0
   subst K1;go_wp2_with (refine lH rfl (.tmp 38) rfl rfl eR ?_;refine stay ?_);refine dI ?_;go_wp2;go_end0;have yX:vH q ((a:Int),(k:Int),(s:Int))=q:=List.filter_eq_self.2 λe he=>by simpa using CQ e he (by simp)
   have iA:=(((Qv.rend 4 rfl).dO 1 rfl).back 1).cast (l':=dR p R) (by rw[HR.out];unfold dR Ag.fin;dsimp only;rw[<-Fg,yX];unfold Ag.put;split<;>rfl)
   obtain⟨r1,r2⟩:=iA.fin;exact⟨(),rfl,r1,r2⟩
  ·obtain⟨⟨et,e1,e2,e3⟩,he,I⟩:=List.mem_map.1 hmq
   injection I with I G;subst I G;rw[mI] at hSn;have fS:=Kx hm;rw[mI] at fS;unfold o0 iK at a1V eR;dsimp only at a1V eR hSn fS;have F8:=hSn.new #[J e1,J e2,J e3] 37;have Ud:=(F8.front 2 rfl).facts;have d0:=Ud.1.1 0;have d1:=Ud.1.1 1;have d2:=Ud.1.1 2;simp at d0 d1 d2;have ha8:=(F8.front 3 rfl).facts.1.1 8;simp only[qm] at ha8;simp at ha8;clear Ud;have kh:(e1,e2,e3)≠((a:Int),(k:Int),(s:Int))->∃q' td',(vH q' ((a:Int),(k:Int),(s:Int))=vH x.ask ((a:Int),(k:Int),(s:Int))∧∀e∈q',e ∉ td'->e.2≠((a:Int),(k:Int),(s:Int)))∧St V w [.o (iq p.st p.z (x.b.done k s)),.c y 37 #[J a,J k,J s],.c p.a 192 (qm p x),.o (eC p.x p.d (x.put (.dn k s)).rs.length (x.put (.dn k s)).bs x.k),.o (lG o0 p.bK r (gB iK q') (gB iK td')),.o (eI iK p.bT (gB rn (gV x.tr ((a:Int),(k:Int),(s:Int)))))] (O.alloc (.cells #[J e1,J e2,J e3] 37)):=λjT=>by
    refine⟨q,gV td et,⟨Fg,λe kZ K1=>?_⟩,F8.dO 0 rfl⟩;by_cases h5:e∈td
    ·have h6:e.1=et:=by
      by_cases h7:e.1=et;·exact h7
      ·exact absurd (List.mem_filter.2 ⟨h5,by simpa using h7⟩) K1
     have pJ:=Qv.Nx 4 rfl
     rw[yk] at pJ
     rw[zW pJ kZ he h6];exact jT
    ·exact CQ e kZ h5
   have Xf:=Nat.lt_of_le_of_lt (Nat.le_of_eq (F8.Nw 5 rfl)) (Nat.lt_of_lt_of_eq fS mn.symm);by_cases b1:e1=(a:Int);case neg=>
    go_wp2_with (refine lH rfl (.tmp 38) rfl rfl eR ?_;refine stay ?_);refine dI ?_;go_wp2_with fail;exact⟨kh (by simp[b1]),Xf⟩
   subst b1;by_cases b2:e2=(k:Int);case neg=>
    go_wp2_with (refine lH rfl (.tmp 38) rfl rfl eR ?_;refine stay ?_);refine dI ?_;go_wp2_with fail;exact⟨kh (by simp[b2]),Xf⟩
   subst b2;by_cases b3:e3=(s:Int);case neg=>
    go_wp2_with (refine lH rfl (.tmp 38) rfl rfl eR ?_;refine stay ?_);refine dI ?_;go_wp2_with fail;exact⟨kh (by simp[b3]),Xf⟩
   subst b3;obtain⟨UO,TX,iA⟩:=F8.a3V Og Tryz.underlying190 5 rfl et;unfold o0 at TX;rw[mI,mI] at iA;go_wp2_with (refine lH rfl (.tmp 38) rfl rfl eR ?_;refine stay ?_);refine dI ?_;go_wp2_with fail;refine⟨⟨gV q et,gV (gV td et) et,⟨?_,λe kZ K1=>?_⟩,iA.dO 0 rfl⟩,?_⟩
   ·rw[<-Fg]
    unfold vH gV;rw[List.filter_filter];refine List.filter_congr λe kZ=>?_;by_cases h6:e.1=et
    ·have pJ:=Qv.Nx 4 rfl
     rw[yk] at pJ;rw[zW pJ kZ he h6];simp
    ·simp[h6]
   ·have Xg:=List.mem_filter.1 kZ
    refine CQ e Xg.1 λh5=>K1 (List.mem_filter.2 ⟨List.mem_filter.2 ⟨h5,Xg.2⟩,Xg.2⟩)
   ·rw[mn]
    refine Nat.lt_of_le_of_lt (Nat.le_of_eq (iA.Nw 5 rfl)) (Nat.lt_of_le_of_lt ?_ fS);unfold gB gV;rw[bj,bj];exact c_ _ _
def mX(q:List Sd):dW:=λw V=>∀s∈q,Sd.In w V s
theorem mX.framed(q:List Sd):eu (mX q):=λw O V h N s hs=>pm w O V s (h s hs) N
theorem mX.nil(w:X)(V:aV):mX [] w V:=λ_ h=>absurd h (by simp)
section
variable{V:aV}{w0:X}{l:List Bl}{q:List Sd}{u:K}
theorem St.cnt{x:El}(h:St V w0 (.o (mX q)::.o (yb x)::l) w)(s:Sd)(I:(⟨s.m.e,s.A,s.c⟩:El)=x)(G:s.q=[]∧s.A2=none∧s.m.log=[]∧s.c2=0):St V w0 (.o (mX (q++[s]))::l) w:=by
 refine St.cls (a:=[.o (mX q),.o (yb x)]) h (mX.framed _) λU hM=>?_;obtain⟨U0,a0,b0⟩:=nV hM 0 rfl;obtain⟨U1,a1,b1⟩:=nV hM 1 rfl;intro s' vQ;rcases List.mem_append.1 vQ with vQ|vQ
 ·exact po w U0 U s' (a0 s' vQ) b0
 ·rw[List.mem_singleton] at vQ
  subst vQ;refine⟨by rw[I];exact jg _ _ _ _ a1 b1,?_,by rw[G.1,G.2.2.1];rfl,by rw[G.1,G.2.2.2];exact⟨bh _,bo _⟩⟩;rw[G.1,G.2.1];exact jO.nil
theorem St.a0w(h:St V w0 (.o (fK 218 19 u q.length (q.flatMap Sd.cells))::.o (mX q)::l) w):St V w0 (.o (dS u q)::l) w:=by refine St.cls (a:=[.o (fK 218 19 u q.length (q.flatMap Sd.cells)),.o (mX q)]) h (dS.framed _ _) λU hM=>?_;obtain⟨U0,U1,a0,⟨U2,U3,a2,a3,k4,k5,k6⟩,k1,k2,k3⟩:=hM;exact⟨U0,U2,Row.own (show Row w U0 218 19 u q.length (q.flatMap Sd.cells) from a0),a2,λb hb=>⟨k1 b hb,λG=>k3 b hb (k4 b G)⟩,λb hb=>k2 b (k4 b hb)⟩
end
def gp(e:En):Ms:=⟨1,e,0,0,0,0,0,[],0,0⟩
def Ag.tries(x:Ag)(i:lp):Nat×Nat:=(qR x.tr i).getD (0,0)
def Ag.iX(x:Ag)(k:Nat)(sq:Int):lp:=((x.node:Int),(k:Int),sq)
def Ag.ff(k:Nat):List abo.Ab->Ag->Sends->Ag×Sends
 | [],x,out=>(x,out)
 | b::l,x,out=>
   if (x.tries (x.iX k b.1)).1=0∨(x.tries (x.iX k b.1)).2<=x.now then
    ff k l (x.send (x.iX k b.1) (x.tries (x.iX k b.1))) (out++[(((x.to (x.tries (x.iX k b.1)).1:Nat):Int),gp (x.tI (x.iX k b.1) b.2))])
   else ff k l x out
def Ag.fZ:List Nat->Ag->Sends->Ag×Sends
 | [],x,out=>(x,out)
 | k::ks,x,out=>fZ ks (ff k ((x.b.qu k).l.take 4) x out).1 (ff k ((x.b.qu k).l.take 4) x out).2
def Ag.lN(x:Ag)(out:Sends):Ag×Sends:=fZ (bV 4) { x with now:=x.now+1 } out
def Ag.f_:Nat->Ag->Sends->Ag×Sends
 | 0,x,out=>(x,out)
 | r+1,x,out=>f_ r (x.lN out).1 (x.lN out).2
structure Ag.Tm(x:Ag)(M:Nat):Prop where
 tag:x.tag<=M
 now:x.now<=M
 tr:∀e∈x.tr,e.2.1<=M∧e.2.2<=M+48
theorem yp{κ α:Type}[DecidableEq κ]{q:List (κ×α)}{k:κ}{v:α}{e:κ×α}(h:e∈si q k v):e=(k,v)∨e∈q:=by
 unfold si at h;split at h
 ·obtain⟨p,hp,rfl⟩:=List.mem_map.1 h
  split;·exact .inl rfl
  ·exact .inr hp
 ·rcases List.mem_append.1 h with h|h
  ·exact .inr h
  ·exact .inl (List.mem_singleton.1 h)
theorem Ce{κ α:Type}[DecidableEq κ]{q:List (κ×α)}{k:κ}{v:α}(h:qR q k=some v):∃e∈q,e.2=v:=by
 unfold qR at h;cases hf:q.find? λp=>decide (p.1=k) with
 | none=>rw[hf] at h;cases h
 | some p=>
   rw[hf] at h;injection h with h;exact⟨p,List.mem_of_find?_eq_some hf,h⟩
theorem Ag.Tm.mono{M M':Nat}(h:x.Tm M)(hm:M<=M'):x.Tm M':=⟨bB h.tag hm,bB h.now hm,λe he=>⟨bB (h.tr e he).1 hm,by have:=(h.tr e he).2;omega⟩⟩
theorem Ag.Tm.tries{x:Ag}{M:Nat}(h:x.Tm M)(i:lp):(x.tries i).1<=M∧(x.tries i).2<=M+48:=by
 unfold Ag.tries;cases hf:qR x.tr i with
 | none=>exact⟨bo _,bo _⟩
 | some t=>
   obtain⟨e,he,rfl⟩:=Ce hf;exact h.tr e he
theorem Ag.Tm.send{x:Ag}{M:Nat}(h:x.Tm M)(i:lp){t:Nat×Nat}(ht:t.1<=M):(x.send i t).Tm (M+1):=by
 refine⟨Nat.succ_le_succ h.tag,bB h.now (Nat.le_succ _),λe he=>?_⟩;rcases yp he with rfl|he
 ·have:=xf (x.tag+1) t.1
  have:=h.now;exact⟨by simp;omega,by simp;omega⟩
 ·have:=h.tr e he
  omega
theorem Ag.Ok.send{x:Ag}(h:x.Ok)(i:lp)(t:Nat×Nat):(x.send i t).Ok:=⟨h.node,h.eX,h.last,h.b,h.sh,h.bs,h.rs,h.qk⟩
theorem Ag.Ok.Hc(h:x.Ok)(n:Nat):({ x with now:=n }:Ag).Ok:=⟨h.node,h.eX,h.last,h.b,h.sh,h.bs,h.rs,h.qk⟩
def mj(A:aU)(n:Nat)(q:List abo.iE):dW:=λw V=>abo.lW w V V A n q
theorem mj.framed(A:aU)(n:Nat)(q:List abo.iE):eu (mj A n q):=λw O V h N=>⟨In.keep h.row λb hb _=>N b hb,λb hb=>(h.all b hb).keep λx Y _=>N x Y⟩
end Go.Proofs.YtpeepcmdehhbgaaGreatDoor
end
