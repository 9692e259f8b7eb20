/- Rgi, Rz4, Rz5. -/
import Derived.Test.YtpeepcmdehhbgaaGreatDoorJs34
set_option linter.all false
set_option maxRecDepth 100000
set_option maxHeartbeats 2000000
open Go.Value renaming int->ae,slice->Z,string->aX,bool->aY,agg->aZ,tuple->a_
open Go.Ending renaming returned->b5
open Go.IntKind renaming i64->af,u64->ah
open Go (J az aE aA aB aC aD ay aj am ap aw aL aK aJ aI aH aV aU aT aR aQ aP aO aN)
open Go.Proofs.Tryz renaming prog->W,underlying45->bG,underlying9->cW,underlying23->d9,underlying5->dm
open Go.Lib renaming hid->Q
open List renaming length_append->bd,length_map->bj,append_nil->bm,length_singleton->bv,set_cons_succ->bz,set_cons_zero->bA,setIfInBounds_toArray->bY,length_nil->cx,size_toArray->cy
open Nat renaming le_of_ble_eq_true->bf,le_refl->bh,zero_le->bo,lt_of_lt_of_le->bw,le_trans->bB
open Bool renaming eq_false_or_eq_true->bC,false_ne_true->cB
open Array renaming length_toList->bZ
open Go renaming Value->K,World->X,Calls->dz,Addr->dA,TypeId->dC,maxLen->dG
variable{w0 w:X}{r:Nat}{cs:aP}
namespace Go.Proofs.YtpeepcmdehhbgaaGreatDoor
open RowKit Hop V
theorem X1(w:X)(D:aV)(g:Nat)(v:Vt)(hv:v.Ok):Lw W D 69 #[g] [.o (fJ g v)] (λ(_:Unit)e=>e=b5 (aY v.won)) (λ_=>[.o (fJ g v)]) w:=λV hM hV=>by have hS:=St.begin_ hM (λb hb=>(hV b hb).1) ⟨fJ.framed _ _,trivial⟩;obtain⟨A0,c0,q0,yU,hS⟩:=yh hS;refine (BQ (WL hS 0 hv rfl) hv.few).mono λe O ⟨I,G⟩=>?_;obtain⟨r1,r2⟩:=(nE (hS.grow G) yU).fin;exact⟨(),I,r1,r2⟩
theorem ym(v:Vt)(i had:Nat)(l:List En):(v.promise i had l).2.nodes=v.nodes:=by
 unfold Vt.promise;split;·rfl
 ·split
  ·rfl
  ·split<;>rfl
instance(t h:Nat)(B:Option dA)(n d:Nat):CoeDep (Nat×Nat×Option dA×Nat×Nat) (t,h,B,n,d) (Array K):=⟨#[J 4,(),(),(),(),(),ay,"",(),(),(),(),ae ah 0,J t,J h,Z B n d,(),()]⟩
theorem LC(w:X)(D:aV)(p:pj)(g:Nat)(x:Rp)(Y:x.Ok)(f:Int)(hf:x.hears f)(t had:Nat)(ht:t<=9223372036854775807)(OD:had<=9223372036854775807)(A2:aU)(c2:Nat)(q:List El)(hq:jO w D A2 q)(gC:∀z∈q,z.e.Ok)(hl:q.length<=128)(j6:∀b,D b->b<(w:Nat)):Lw W D 19 #[.pointer (some ⟨p.r,0,none⟩),J f,aZ (t,had,A2,q.length,c2)] (dP p g x) (λ(j:K×List Sd)en=>en=b5 j.1∧eS j.2=(ji x f.toNat t had (q.map El.e)).2) (λj => .o (dS j.1 j.2)::dP p g (ji x f.toNat t had (q.map El.e)).1) w:=by
 have jQ:mH (i9 t had (q.map El.e)) none 0 A2 c2=(t,had,A2,q.length,c2):=by unfold mH Ms.cells;first|rfl|(dsimp only[i9,kR];rw[bj];rfl)
 obtain⟨R,HR⟩:=az (ji x f.toNat t had (q.map El.e));rw[<-HR.out];intro V hM hV;have kV:∀x,D x->x<(w:Nat)∧¬ V x:=λx Y=>⟨j6 x Y,λh=>(hV x h).2 Y⟩;have hS:=St.begin_ hM (λb hb=>(hV b hb).1) (eL _ _ _);obtain⟨y,wa,HY,HA,hS⟩:=hS.new' (t,had,A2,q.length,c2) 45;have gl:Grow w wa:=by rw[HA.out];exact fb w _
 have yX:jO wa D A2 q:=fT.framed A2 q w wa D hq λb hb=>gl.block b (j6 b hb);have T:=ln wa D (i9 t had (q.map El.e)) none 0 A2 c2 q (.prom t had (q.map El.e) ht OD (λe he=>by obtain⟨z,hz,rfl⟩:=List.mem_map.1 he;exact gC z hz) (by rw[bj];exact hl)) (λ_=>⟨rfl,rfl⟩) (λh _=>absurd rfl h) In.nil yX rfl;rw[jQ] at T;clear jQ;go_in;go_wp2_with (refine dU rfl 45 _ rfl _ rfl (HA.out▸HY.out▸hS.blk 0 rfl) bG aw ?_);rw[<-HA.out];refine T.mono ?_;rintro en w1 ⟨rfl,eD⟩;rw[<-HY.out];have AY:=hS.grow eD;have jV:=AY.blk 0 rfl;have c0:=jV.cell 0;have ej:=AY.dO 0 rfl;clear T;have y_:w1.cell? ⟨p.r,0,none⟩=some (J x.node):=ej.facts.1.1 0;have oK:w1.cell? ⟨p.r,1,none⟩=some (J x.nodes):=ej.facts.1.1 1;obtain⟨F,rfl,ME,hF2⟩:∃F:Nat,f=(F:Int)∧F<x.nodes∧F≠x.node:=by obtain⟨I,G,L⟩:=hf;exact⟨f.toNat,by omega,by omega,by omega⟩
 clear hf;have e1:decide ((F:Int)<0)=false:=aD ap;have e2:decide (x.nodes<=F)=false:=aD ap;have e3:((F:Int) == (x.node:Int))=false:=beq_eq_false_iff_ne.2 ap;clear jV;have dX:=AY.grow (Grow.refl _).drew;have N:=rcS (l:=[]) (t:=t) (had:=had) (sl:=(Z A2 q.length c2)) (by rw[bm];exact dX) rfl rfl rfl;go_wp2_with fail;refine dJ rfl ?_;clear y_ oK;rcases qE:x.v with _|v
 ·rw[qE] at N
  simp only[jH] at N;have hN:R=vF x:=by rw[HR.out];unfold ji;rw[qE];rfl
  clear HR;have HR:=Q hN;clear hN;replace qE:=Q qE;refine gi (W_ p y t had (Z A2 q.length c2) (.pointer none) x.leads) 35 rfl ?_;refine f9 0 N ?_;refine f9 1 N ?_;refine f9 2 N ?_;refine f9 3 N ?_;refine f9 4 N ?_;refine f9 5 N ?_;refine dQ 6 rfl N ?_;refine dQ 7 rfl N ?_;refine dQ 8 rfl N ?_;refine dQ 9 rfl N ?_;refine dQ 10 rfl N ?_;refine dQ 11 rfl N ?_;refine dQ 12 rfl N ?_;refine dQ 13 rfl N ?_;refine fL 14 N ?_;refine fL 15 N ?_;refine dQ 16 rfl N ?_;refine dQ 17 rfl N ?_;refine dQ 18 rfl N ?_;refine dQ 19 rfl N ?_;refine dQ 20 rfl N ?_;refine dQ 21 rfl N ?_;refine fL 22 N ?_;refine fL 23 N ?_;refine dQ 24 rfl N ?_;refine dQ 25 rfl N ?_;refine dQ 26 rfl N ?_;refine dQ 27 rfl N ?_;refine dQ 28 rfl N ?_;refine dQ 29 rfl N ?_;refine dQ 30 rfl N ?_;refine dQ 31 rfl N ?_;refine dQ 32 rfl N ?_;refine dQ 33 rfl N ?_;refine fL 34 N ?_;refine eU ?_;go_wp2;go_ret;obtain⟨r1,r2⟩:=nI (dX.dO 0 rfl);rw[HR.out];first|exact⟨(Z none 0 0,[]),⟨rfl,rfl⟩,r1,r2⟩|exact⟨Z none 0 0,[],⟨rfl,rfl⟩,r1,r2⟩
 ·obtain⟨yW,zf⟩:=Y.v v qE
  rw[qE] at N;simp only[jH] at N;have hvr:∀O,St V w [.c y 45 (t,had,A2,q.length,c2),.c p.r 118 (iu p x.node x.nodes x.commit ((g:K)) x.leads x.own),.o (gR p.m x.m),.o (qP p.s p.x p.d x.s),.o (fJ g v)] O->St V w (.c y 45 (t,had,A2,q.length,c2)::dP p g x) O:=λO h=>by unfold dP;rw[qE];exact h
  have Fz:∀O,St V w [.c y 45 (t,had,A2,q.length,c2),.c p.r 118 (iu p x.node x.nodes x.commit ((g:K)) x.leads x.own),.o (gR p.m x.m),.o (qP p.s p.x p.d x.s),.o (fJ g v)] O->W_ p y t had (Z A2 q.length c2) ((g:K)) x.leads O:=λO h=>⟨(h.facts.1.1 13).trans rfl,(h.facts.1.1 14).trans rfl,(h.facts.1.1 15).trans rfl,h.facts.2.1.1 5,h.facts.2.1.1 6⟩;have P0:St V w [.c y 45 (t,had,A2,q.length,c2),.c p.r 118 (iu p x.node x.nodes x.commit ((g:K)) x.leads x.own),.o (gR p.m x.m),.o (qP p.s p.x p.d x.s),.o (fJ g v)] w1.drew:=by have h:=dX;unfold dP at h;rw[qE] at h;exact h
  refine gi (W_ p y t had (Z A2 q.length c2) ((g:K)) x.leads) 35 rfl ?_;refine f9 0 N ?_;refine f9 1 N ?_;refine f9 2 N ?_;refine f9 3 N ?_;refine f9 4 N ?_;refine f9 5 N ?_;refine f9 6 N ?_;refine f9 7 N ?_;refine f9 8 N ?_;refine f9 9 N ?_;refine f9 11 N ?_;refine f9 12 N ?_;refine dY 10 rfl ?_;go_wp2_with fail;refine (P0.at_ 4 rfl (λ_=>fJ.framed _ _) (D:=λ_=>False) (λ_ h=>h.elim) (qQ w1.drew _ g v yW)).mono ?_;rintro en w3 ⟨_,rfl,eO⟩;have eO:St V w [.c y 45 (t,had,A2,q.length,c2),.c p.r 118 (iu p x.node x.nodes x.commit ((g:K)) x.leads x.own),.o (gR p.m x.m),.o (qP p.s p.x p.d x.s),.o (fJ g v)] w3:=eO;have j5:=Fz _ eO;clear N P0 dX;go_wp2_with fail;refine⟨j5,?_⟩;by_cases zp:v.t=t
  ·have OT:((v.t:Int) == (t:Int))=true:=by rw[zp];simp
   have a57:=Q zp;clear zp;refine f9 13 j5 ?_;refine fL 14 j5 ?_;refine fL 15 j5 ?_;refine f9 16 j5 ?_;refine f9 17 j5 ?_;refine f9 18 j5 ?_;refine f9 19 j5 ?_;refine dY 20 rfl ?_;go_wp2_with fail;refine (eO.at_ 4 rfl (λ_=>fJ.framed _ _) (D:=λ_=>False) (λ_ h=>h.elim) (X1 w3 _ g v yW)).mono ?_;rintro en w5 ⟨_,rfl,eF⟩;have eF:St V w [.c y 45 (t,had,A2,q.length,c2),.c p.r 118 (iu p x.node x.nodes x.commit ((g:K)) x.leads x.own),.o (gR p.m x.m),.o (qP p.s p.x p.d x.s),.o (fJ g v)] w5:=eF;have nS:=Fz _ eF;clear j5 eO;go_wp2_with fail;refine⟨nS,?_⟩;rcases bC v.won with hw|hw
   ·rw[hw]
    have hN:R=vF x:=by rw[HR.out];unfold ji;rw[qE];simp only[];rw[aB (by rw[hw];intro h;cases h.2)];rfl
    clear HR;have HR:=Q hN;clear hN;replace hw:=Q hw;have eN:=hvr _ eF;replace qE:=Q qE;refine fL 21 nS ?_;refine fL 22 nS ?_;refine fL 23 nS ?_;refine dQ 24 rfl nS ?_;refine dQ 25 rfl nS ?_;refine dQ 26 rfl nS ?_;refine dQ 27 rfl nS ?_;refine dQ 28 rfl nS ?_;refine dQ 29 rfl nS ?_;refine dQ 30 rfl nS ?_;refine dQ 31 rfl nS ?_;refine dQ 32 rfl nS ?_;refine dQ 33 rfl nS ?_;refine fL 34 nS ?_;refine eU ?_;go_wp2;go_ret;obtain⟨r1,r2⟩:=nI (eN.dO 0 rfl);rw[HR.out];first|exact⟨(Z none 0 0,[]),⟨rfl,rfl⟩,r1,r2⟩|exact⟨Z none 0 0,[],⟨rfl,rfl⟩,r1,r2⟩
   ·rw[hw]
    have hN:R=(if (v.promise F had (q.map El.e)).1=true then Rp.won { x with v:=some (v.promise F had (q.map El.e)).2 } (v.promise F had (q.map El.e)).2 else ({ x with v:=some (v.promise F had (q.map El.e)).2 },[])):=by rw[HR.out];unfold ji;rw[qE];simp only[];rw[aA ⟨a57.out,hw⟩];rfl
    clear HR;replace hw:=Q hw;obtain⟨r,Hr⟩:=az (v.promise F had (q.map El.e));rw[<-Hr.out] at hN;have HR:=Q hN;clear hN;have vv:∀z∈q,z.e.Ok:=gC;have SG:=eF.at_ 4 rfl (λ_=>fJ.framed _ _) (D:=D) (St.far kV) (yi w5 D g v yW F had (by rw[zf];exact ME) A2 c2 q (fT.framed A2 q w w5 D hq λb hb=>eF.keep kV b hb) hl OD (λb hb=>bw (j6 b hb) eF.size) vv);rw[<-Hr.out] at SG;refine fL 21 nS ?_;refine fL 22 nS ?_;refine fL 23 nS ?_;refine f9 24 nS ?_;refine f9 25 nS ?_;refine f9 26 nS ?_;refine f9 27 nS ?_;refine f9 28 nS ?_;refine f9 29 nS ?_;refine f9 30 nS ?_;refine f9 31 nS ?_;refine f9 32 nS ?_;refine dY 33 rfl ?_;go_wp2_with fail;refine SG.mono ?_;rintro en w7 ⟨_,rfl,fH⟩;clear SG nS;have hro:r.2.Ok:=by rw[Hr.out];exact yW.promise (by have:=Y.node;omega) OD (λe he=>by obtain⟨z,hz,rfl⟩:=List.mem_map.1 he;exact gC z hz) (by rw[bj];exact hl)
    have Z5:r.2.nodes=x.nodes:=by rw[Hr.out,ym];exact zf
    obtain⟨X2,jS⟩:=aE ({ x with v:=some r.2 }:Rp);have lw:X2.Ok:=by rw[jS];exact Y.vote hro Z5
    have rK:X2.v=some r.2:=by rw[jS]
    have fD:St V w (.c y 45 (t,had,A2,q.length,c2)::dP p g X2) w7:=by rw[jS];exact fH
    have SJ:=rcS (l:=[]) (t:=t) (had:=had) (sl:=(Z A2 q.length c2)) (by rw[bm];exact fD) rfl rfl rfl;rw[rK] at SJ;simp only[jH] at SJ;have SJ:W_ p y t had (Z A2 q.length c2) ((g:K)) x.leads w7:=by rw[jS] at SJ;exact SJ
    rw[<-jS] at HR;replace jS:=Q jS;replace rK:=Q rK;clear fH eF;go_wp2_with fail;refine⟨SJ,?_⟩;rcases bC r.1 with hr|hr
    ·rw[hr] at HR ⊢
     refine fL 34 SJ ?_;refine eU ?_;clear SJ;go_wp2_with fail;refine (St.call (a:=dP p g X2) (b:=[]) (a':=λj:K×List Sd => .o (dS j.1 j.2)::dP p g (X2.won r.2).1) (by rw[bm];exact fD.dO 0 rfl) (λ_=>⟨dS.framed _ _,eL _ _ _⟩) (D:=λ_=>False) (λ_ h=>h.elim) (Jt w7 p g X2 lw r.2 rK.out)).mono ?_;rintro en w8 ⟨j,⟨rfl,hj⟩,gy⟩;rw[bm] at gy;go_wp2;go_ret;obtain⟨r1,r2⟩:=gy.fin;have HR:=HR.out;first|rw[aA rfl] at HR|rw[aA trivial] at HR
     rw[HR];first|exact⟨j,⟨rfl,hj⟩,r1,r2⟩|exact⟨j.1,j.2,⟨rfl,hj⟩,r1,r2⟩
    ·rw[hr] at HR ⊢
     have HR:=HR.out;first|rw[aB cB] at HR|rw[aB not_false] at HR
     replace HR:=Q HR;refine fL 34 SJ ?_;refine eU ?_;go_wp2;go_ret;obtain⟨r1,r2⟩:=nI (fD.dO 0 rfl);rw[HR.out];first|exact⟨(Z none 0 0,[]),⟨rfl,rfl⟩,r1,r2⟩|exact⟨Z none 0 0,[],⟨rfl,rfl⟩,r1,r2⟩
  ·have OT:((v.t:Int) == (t:Int))=false:=by simp;omega
   have hN:R=vF x:=by rw[HR.out];unfold ji;rw[qE];simp only[];rw[aB (by intro h;exact zp h.1)];rfl
   clear HR;have HR:=Q hN;clear hN;have eN:=hvr _ eO;replace zp:=Q zp;replace qE:=Q qE;refine f9 13 j5 ?_;refine fL 14 j5 ?_;refine fL 15 j5 ?_;refine dQ 16 rfl j5 ?_;refine dQ 17 rfl j5 ?_;refine dQ 18 rfl j5 ?_;refine dQ 19 rfl j5 ?_;refine dQ 20 rfl j5 ?_;refine dQ 21 rfl j5 ?_;refine fL 22 j5 ?_;refine fL 23 j5 ?_;refine dQ 24 rfl j5 ?_;refine dQ 25 rfl j5 ?_;refine dQ 26 rfl j5 ?_;refine dQ 27 rfl j5 ?_;refine dQ 28 rfl j5 ?_;refine dQ 29 rfl j5 ?_;refine dQ 30 rfl j5 ?_;refine dQ 31 rfl j5 ?_;refine dQ 32 rfl j5 ?_;refine dQ 33 rfl j5 ?_;refine fL 34 j5 ?_;refine eU ?_;go_wp2;go_ret;obtain⟨r1,r2⟩:=nI (eN.dO 0 rfl);rw[HR.out];first|exact⟨(Z none 0 0,[]),⟨rfl,rfl⟩,r1,r2⟩|exact⟨Z none 0 0,[],⟨rfl,rfl⟩,r1,r2⟩
theorem P1(w:X)(p:pj)(g:Nat)(x:Rp)(Y:x.Ok):Lw W (λ_=>False) 206 #[.pointer (some ⟨p.r,0,none⟩)] (dP p g x) (λ(j:K×List Sd)en=>en=b5 j.1∧eS j.2=if x.leads=true then x.accepts else []) (λj => .o (dS j.1 j.2)::dP p g x) w:=by
 obtain⟨R,HR⟩:=az (if x.leads=true then x.accepts else []);rw[<-HR.out];intro V hM hV;have hS:=St.begin_ hM (λb hb=>(hV b hb).1) (eL _ _ _);have E:w.cell? ⟨p.r,6,none⟩=some (aY x.leads):=hS.facts.1.1 6;go_in;rcases bC x.leads with hl|hl
 ·have HR:Hid (R=x.accepts):=Q (by rw[HR.out,aA hl])
  rw[hl] at E;replace hl:=Q hl;go_wp2_with fail;refine (St.call (a:=dP p g x) (b:=[]) (a':=λj:K×List Sd => .o (dS j.1 j.2)::dP p g x) (by rw[bm];exact hS) (λ_=>⟨dS.framed _ _,eL _ _ _⟩) (D:=λ_=>False) (λ_ h=>h.elim) (qi w p g x Y)).mono ?_;rintro en w8 ⟨j,⟨rfl,hj⟩,gy⟩;rw[bm] at gy;go_wp2;go_ret;obtain⟨r1,r2⟩:=gy.fin;rw[HR.out];first|exact⟨j,⟨rfl,hj⟩,r1,r2⟩|exact⟨j.1,j.2,⟨rfl,hj⟩,r1,r2⟩
 ·have HR:Hid (R=[]):=Q (by rw[HR.out,aB (by rw[hl];exact cB)])
  rw[hl] at E;replace hl:=Q hl;go_wp2;go_ret;obtain⟨r1,r2⟩:=nI hS;rw[HR.out];first|exact⟨(Z none 0 0,[]),⟨rfl,rfl⟩,r1,r2⟩|exact⟨Z none 0 0,[],⟨rfl,rfl⟩,r1,r2⟩
section
variable{V:aV}{O:X}{l l':List Bl}{B abp:Nat}{s:RS}
theorem gX(hS:St V w0 l w)(i:Nat)(hi:l[i]?=some (.c r 237 cs))(h:km r B abp s O)(ho:fI r w O):∃cs',St V w0 (l.set i (.c r 237 cs')) O:=by obtain⟨_,A,n,c,l1,b,_,hB,_⟩:=h;exact⟨_,hS.turned i hi (dM.jA ho rfl) hB⟩
theorem gx(vG:∀b,b<B->b<(w0:Nat)∧¬ V b)(h:km r B abp s w)(hS:St V w0 l w)(yP:St V w0 l' O)(i i':Nat)(hi:l[i]?=some (.c r 237 cs))(tR:l'[i']?=some (.c r 237 cs)):km r B abp s O:=by
 obtain⟨h0,A,n,c,l1,b,I,hB,G,L⟩:=h;have e:#[Z A n c,aY b]=cs:=by have h4:=hB.symm.trans (hS.blk i hi);injection h4 with h4;injection h4
 have N:∀b,b<B->O.heap[b]?=w.heap[b]?:=λb hb=>(yP.keep (D:=λb=>b<B) vG b hb).trans (hS.keep (D:=λb=>b<B) vG b hb).symm;exact⟨h0,A,n,c,l1,b,I,e▸yP.blk i' tR,Reads.keep G λp hp=>World.cell?_of_block (N _ hp),L⟩
end
theorem vk:lE kP:=λw O D x h N=>yb.framed x w O D h N
def LD(u:K)(q:List El):dW:=h_ 40 9 El.cells kP u q
theorem LD.framed(u:K)(q:List El):eu (LD u q):=h_.framed vk u q
def oE:Nat->RS->List En->RS->Prop
 | 0,s,q,s'=>q=[]∧s'=s
 | n+1,s,q,s'=>∃e q1,q=e::q1∧(gn s).2≠none∧C5 (gn s).1 e∧oE n (gn s).2 q1 s'
def qo(s:RS)(q:List En)(s':RS):Prop:=oE (gb 128 s).1 (gb 128 s).2 q s'∧s'≠none
theorem C5.one{l:aT}{e e':En}(h:C5 l e)(h':C5 l e'):e=e':=(Prod.mk.inj (h.1.symm.trans h'.1)).1
def a0q(s:RS)(w O:X)(en:Ending)(s':RS):Prop:=∃(A:aU)(c:Nat)(q:List El)(b:Bool),en=b5 (a_ #[Z A q.length c,aY b])∧jO O (New w O) A q∧(q.length<=c∧c<=dG)∧(∀x∈q,x.e.Ok)∧q.length<=128∧(b=true->qo s (q.map El.e) s')∧(b=false->∀abo S,¬ qo s abo S)
set_option maxRecDepth 100000
set_option maxHeartbeats 1000000
theorem H5(w:X)(r B abp:Nat)(s0:RS)(h:km r B abp s0 w)(hN:abp<=1000000)(Mw:B<=(w:Nat)):dz W 142 #[r] w λen O=>∃s',a0q s0 w O en s'∧km r B abp s' O∧dM (λb=>b=r) w O:=by
 have uW:B<=r:=h.1;have Y7:=h.lt;have vG:∀b,b<B->b<(w:Nat)∧¬ b=r:=λb hb=>⟨by omega,by omega⟩;obtain⟨cs0,hS⟩:∃cs0,St (λb=>b=r) w [.c r 237 cs0] w:=by obtain⟨_,A,n,c,l1,b,_,hB,_⟩:=id h;exact⟨_,St.begin_ (l:=[.c r 237 _]) (xX (S:=Cell r 237 _) ⟨rfl,hB⟩) (λb hb=>by rw[show b=r from hb];exact Y7) ⟨trivial,trivial⟩⟩
 go_in;go_wp2_with fail;refine (lK w r B abp 128 _ h).mono ?_;rintro e w1 ⟨m,s1,q1,hm,rfl,lT,yQ⟩;obtain⟨cs1,ej⟩:=gX hS 0 rfl lT yQ;clear hS;go_wp2_with fail;go_loopw [4,9] (λu i wr=>∃(k:Nat)(q:List El)(cs:aP)(s2:RS),k<=m∧i=J k∧q.length=k∧((∀x∈q,x.e.Ok)∧Hid (∀abo S,oE m s1 abo S↔∃q2,abo=q.map El.e++q2∧oE (m-k) s2 q2 S)∧Hid (k=0∨s2≠none))∧St (λb=>b=r) w [.o (LD u q),.c r 237 cs] wr∧km r B abp s2 wr) (λ_ i _=>m-(intOf i).toNat);case atStart=>exact⟨0,[],cs1,s1,by omega,rfl,rfl,⟨λx Y=>absurd Y (by simp),Q (λabo S=>⟨λh=>⟨abo,rfl,h⟩,λ⟨q2,I,G⟩=>by rw[I];exact G⟩),Q (.inl rfl)⟩,St.join ej (LD.framed _ _) (Grow.refl _) (U:=λ_=>False) (h_.nil _ _) (λ_ h=>h.elim),lT⟩
 case round=>
  obtain⟨k,q,cs,s2,Iw,rfl,ig,⟨vv,QG,ja⟩,dV,gS⟩:=hrel;obtain⟨Au,cu,rfl,hcu1,hcu2⟩:=St.sl (e:=40) (size:=9) (cells:=El.cells) (good:=kP) dV;replace ig:=Q ig;replace vv:=Q vv;by_cases N:k<m
  ·have dk:decide ((k:Int)<(m:Int))=true:=aC ap
   go_wp2_with fail;refine (BV wr r B abp _ gS).mono ?_;rintro e w3 ⟨x,s3,q3,hs,rfl,jN,oM⟩;obtain⟨s,Hs⟩:=az (⟨x.toArray⟩:ByteArray);have Yd:s.size<=abp:=by rw[Hs.out];show x.toArray.size<=abp;rw[cy];exact hs
   have hsx:s.data.toList=x:=by rw[Hs.out]
   rw[<-Hs.out];have iB:Hid (∀q2 S,oE (m-k) s2 q2 S↔∃e q3,q2=e::q3∧s3≠none∧C5 x e∧oE (m-(k+1)) s3 q3 S):=Q (λq2 S=>by rw[show m-k=(m-(k+1))+1 by omega];show (∃e q1,q2=e::q1∧(gn s2).2≠none∧C5 (gn s2).1 e∧oE (m-(k+1)) (gn s2).2 q1 S)↔_;rw[q3.out])
   obtain⟨Ju,dX⟩:=gX dV 1 rfl jN oM;clear dV gS;have hcv:=Lib.run_convert_string_bytes (P:=W) w3 9 23 5 s (u := .string) cW d9 dm;have pO:=pD w3 5 s;obtain⟨Ac,nc,cc,sA,Yk,X5,X6⟩:=rG w3 5 s ap;rw[sA] at hcv;clear sA;obtain⟨wc,HC⟩:=az (Lib.bytesWorld w3 5 s);rw[<-HC.out] at hcv pO Yk;have eO:=dX.grow pO;have om:=jN.grow pO;have hE:=Jl wc Ac nc cc abp s.data.toList Yk (by have e:s.data.toList.length=s.size:=bZ;omega) hN X5 X6;rw[hsx] at hE;clear Yk;go_wp2_with fail;refine hE.mono ?_;rintro en w5 ⟨hP,ng⟩;have eF:=eO.grow ng;have qM:=om.grow ng;have nil:∀O,(∀e,¬ (s3≠none∧C5 x e))->St (λb=>b=r) w [.o (LD (Z Au q.length cu) q),.c r 237 Ju] O->km r B abp s3 O->(∃s',a0q s0 w O (b5 (a_ #[ay,aY false])) s'∧km r B abp s' O∧dM (λb=>b=r) w O):=λO h0 I G=>⟨s3,⟨none,0,[],false,rfl,⟨⟨by simp,λh=>by simp at h⟩,λx Y=>absurd Y (by simp)⟩,⟨bh _,bo _⟩,λx Y=>absurd Y (by simp),by simp,(λh=>by cases h),λ_ abo S h=>by have L:=h.1;rw[q1.out] at L;obtain⟨q2,_,h4⟩:=(QG.out abo S).1 L;obtain⟨e,q5,_,h5,h6,_⟩:=(iB.out q2 S).1 h4;exact h0 e ⟨h5,h6⟩⟩,G,I.fin.2⟩
   rcases hP with ⟨abl,Ae,ce,rfl,LF,hEl⟩|⟨abl,Mc,rfl,a58⟩
   ·have gC:=LF.2
    obtain⟨E1,X7⟩:=az abl;rw[<-X7.out] at LF;replace LF:=Q LF;obtain⟨ek,ag,sh,sq,ep,ds,se,fr,tg⟩:=abl;unfold En.agg at *;dsimp only at *;obtain⟨y,w6,HY,H6,eN⟩:=eF.new' #[J ek,J ag,J sh,J sq,J ep,Z Ae ds.length ce,aX se,J fr,J tg] 40;have tW:Grow w5 w6:=by rw[H6.out];exact fb _ _
    have vC:=qM.grow tW;have E:=eN.facts;simp only[ec] at E;go_wp2_with fail;rw[<-H6.out,<-HY.out];refine (Gf w6 r B abp _ vC).mono ?_;rintro e w7 ⟨rfl,rfl⟩;obtain⟨b,Hb⟩:=az (s3.isNone);rw[<-Hb.out];have a5a:kP w6 (New wc w6) ⟨⟨ek,ag,sh,sq,ep,ds,se,fr,tg⟩,Ae,ce⟩:=jg _ _ _ _ (yb.framed _ w5 w6 _ hEl λb hb=>tW.block _ hb.2) λb hb=>⟨hb.1,bw hb.2 tW.size⟩;rcases bC b with K8|K8
    ·subst K8
     go_wp2;go_ret2;exact nil _ (λe h=>h.1 (by have:=Hb.out;cases s3 with|none=>rfl|some _=>cases this)) (eF.grow tW) vC
    ·subst K8
     go_wp2_with (at_builtin;refine stay ?_);refine dI ?_;refine lb Gs vk jg pf Gq rfl (.tmp 24) (.tmp 26) rfl rfl eO (ng.trans tW) (b:=⟨⟨ek,ag,sh,sq,ep,ds,se,fr,tg⟩,Ae,ce⟩) a5a (by have:=ig.out;omega) 1 rfl ?_;intro v' O yP;have yP:St (λb=>b=r) w [.o (LD v' (q++[⟨⟨ek,ag,sh,sq,ep,ds,se,fr,tg⟩,Ae,ce⟩])),.c r 237 Ju] O:=yP;have wI:=gx vG om eO yP 1 1 rfl rfl;clear E eO eF eN om qM vC;go_wp2_with fail;exact⟨⟨k+1,q++[⟨⟨ek,ag,sh,sq,ep,ds,se,fr,tg⟩,Ae,ce⟩],Ju,s3,by omega,rfl,by rw[bd,bv,ig.out],⟨λx Y=>(List.mem_append.1 Y).elim (vv.out x) λh=>by rw[List.mem_singleton.1 h];exact gC,Q (λabo S=>by
      rw[QG.out abo S];refine⟨λ⟨q2,I,G⟩=>?_,λ⟨q2,I,G⟩=>?_⟩
      ·obtain⟨e,q5,L,h4,h5,h6⟩:=(iB.out q2 S).1 G
       refine⟨q5,?_,h6⟩;rw[I,L,h5.one LF.out,X7.out];simp
      ·refine⟨_::q2,by rw[I];simp,(iB.out _ S).2 ⟨_,q2,rfl,?_,X7.out▸LF.out,G⟩⟩
       have:=Hb.out;cases s3 with|none=>cases this|some _=>exact λh=>by cases h),Q (.inr (by
      have:=Hb.out;cases s3 with|none=>cases this|some _=>exact λh=>by cases h))⟩,yP,wI⟩,by simp only[intOf];omega⟩
   ·have ME:(abl != 0)=true:=by simp[Mc]
    replace Mc:=Q Mc;obtain⟨y,w6,HY,H6,eN⟩:=eF.new' aK 40;have tW:Grow w5 w6:=by rw[H6.out];exact fb _ _
    have vC:=qM.grow tW;unfold En.agg at *;dsimp only[En.zero,cx] at *;go_wp2_with fail;rw[<-H6.out];refine (Gf w6 r B abp _ vC).mono ?_;rintro e w7 ⟨rfl,rfl⟩;obtain⟨b,Hb⟩:=az (s3.isNone);rw[<-Hb.out];rcases bC b with K8|K8
    all_goals
     subst K8
     go_wp2
     go_ret2
     exact nil _ (λe h=>a58 e h.2) (eF.grow tW) vC
  ·obtain rfl:k=m:=by omega
   have dk:decide ((k:Int)<(k:Int))=false:=aD ap;go_wp2_with fail;refine (Gf wr r B abp _ gS).mono ?_;rintro e w9 ⟨rfl,rfl⟩;obtain⟨b,Hb⟩:=az (s2.isNone);rw[<-Hb.out];go_wp2;go_ret2;have yU:=ig.out;obtain⟨V1,hM,hV1⟩:=dV.own.2;obtain⟨U1,U2,kN,rJ,k1,k2,k3⟩:=hM;obtain⟨A',c',he,Mf,tT,g1,g2⟩:=h_.jL jg kN;injection he with K0 he2 he3;subst K0;subst he3;obtain⟨U3,U4,hcr,_,j1,_,_⟩:=rJ;have YF:∀b,U1 b->New w wr b:=λb hb=>by
    have h9:=hV1 b (k1 b hb);refine⟨?_,h9.2⟩;rcases h9.1 with h8|h8
    ·have h8:b=r:=h8
     exact absurd (k2 r (j1 r hcr.1)) (λ_=>k3 b hb (by rw[h8];exact j1 r hcr.1))
    ·exact h8
   refine⟨s2,⟨_,_,q,!b,rfl,⟨In.mono Mf YF,λx Y=>jg _ _ _ _ (tT x Y) YF⟩,⟨g1,g2⟩,vv.out,by omega,λh=>?_,λh abo S hq=>?_⟩,gS,dV.fin.2⟩
   ·refine⟨by rw[q1.out];exact (QG.out _ _).2 ⟨[],by simp,by rw[Nat.sub_self];exact⟨rfl,rfl⟩⟩,λe=>?_⟩
    have:=Hb.out;subst e;rw[show b=true from this] at h;cases h
   ·have L:=hq.1
    rw[q1.out] at L;obtain⟨q2,_,h4⟩:=(QG.out abo S).1 L;rw[Nat.sub_self] at h4;have:=Hb.out;apply hq.2;rw[h4.2];cases s2 with
    | none=>rfl
    | some _=>rw[show b=false from this] at h;cases h
def H7(k:Nat)(s:RS)(m:Ms)(s':RS):Prop:=
 if k=1 then ∃e,C5 (gn s).1 e∧m=kW e∧s'=(gn s).2
 else if k=2 then m=fx ((gu s).1:Int) ((gb 255 (gu s).2).1:Int) (kO (gb 255 (gu s).2).2).1∧s'=(kO (gb 255 (gu s).2).2).2
 else if k=4 then ∃q,qo (gu (gu s).2).2 q s'∧m=i9 (gu s).1 (gu (gu s).2).1 q
 else if k=5 then ∃q,qo (gb 128 (gu s).2).2 q s'∧m=kR (gu s).1 q (gb 128 (gu s).2).1
 else if k=6 then m=m8 (gu s).1 (gb 128 (gu s).2).1∧s'=(gb 128 (gu s).2).2
 else m={ Ms.zero with k:=(k:Int),term:=((gu s).1:Int) }∧s'=(gu s).2
def X8(k:Nat)(s:RS)(w O:X)(en:Ending)(s':RS):Prop:=∃(m:Ms)(A:aU)(c:Nat)(A2:aU)(c2:Nat)(q:List El)(ok:Bool),en=b5 (a_ #[aZ (mH m A c A2 c2),aY ok])∧Sd.In O (New w O) ⟨0,m,A,c,A2,q,c2⟩∧(ok=true->(m.Gd∨m.k<1∨6<m.k)∧H7 k s m s')∧(ok=false->∀M S,¬ H7 k s M S)∧(m.k≠1->A=none∧c=0)∧(m.k≠4->m.k≠5->A2=none∧c2=0)
theorem H8{l:List Bl}{b:Bl}{t:dC}(hS:St (λb=>b=r) w0 l w)(i j:Nat)(hi:l[i]?=some b)(hj:(l.eraseIdx i)[j]?=some (.c r t cs)):∃U:aV,b.th w U∧∀x,U x->New w0 w x:=by
 obtain⟨_,V1,hM,hV⟩:=(hS.front i hi).own;obtain⟨U1,U2,hb,T,k1,k2,k3⟩:=hM;have wI:=dN.perm ((mM hj).map Bl.th) T;obtain⟨U3,U4,E,_,j1,_,_⟩:=wI;refine⟨U1,hb,λx Y=>⟨?_,(hV x (k1 x Y)).2⟩⟩;rcases (hV x (k1 x Y)).1 with h8|h8
 ·exact absurd (j1 r E.1) (by rw[<-show x=r from h8];exact k3 x Y)
 ·exact h8
theorem elz(w:X)(D:aV):kP w D ⟨En.zero,none,0⟩:=⟨⟨by simp[En.zero,fm],λh=>by simp[En.zero] at h⟩,bh _,bo _,bo _⟩
theorem Cd(w:X)(D:aV)(m:Ms)(he:m.e=En.zero)(hl:m.log=[]):Sd.In w D ⟨0,m,none,0,none,[],0⟩:=⟨by show kP w D ⟨m.e,none,0⟩;rw[he];exact elz w D,jO.nil,hl.symm,bh _,bo _⟩
set_option maxRecDepth 100000
set_option maxHeartbeats 4000000
theorem SK(w:X)(r B abp k:Nat)(s0:RS)(h:km r B abp s0 w)(hN:abp<=1000000)(Mw:B<=(w:Nat))(N:k<=255):dz W 78 #[r,J k] w λen O=>∃s',X8 k s0 w O en s'∧km r B abp s' O∧dM (λb=>b=r) w O:=by
 have uW:B<=r:=h.1;have Y7:=h.lt;have vG:∀b,b<B->b<(w:Nat)∧¬ b=r:=λb hb=>⟨by omega,by omega⟩;obtain⟨cs0,hS⟩:∃cs0,St (λb=>b=r) w [.c r 237 cs0] w:=by obtain⟨_,A,n,c,l1,b,_,hB,_⟩:=id h;exact⟨_,St.begin_ (l:=[.c r 237 _]) (xX (S:=Cell r 237 _) ⟨rfl,hB⟩) (λb hb=>by rw[show b=r from hb];exact Y7) ⟨trivial,trivial⟩⟩
 have ej:=(hS.new aJ 45).new aJ 45;rw[fp] at ej;obtain⟨x,HX⟩:=az ((w:Nat));obtain⟨y,HY⟩:=az ((w:Nat)+1);have xL:Hid (y=x+1):=Q (by rw[HY.out,HX.out]);go_in;go_wp2_with (refine d_ ej 0 rfl 45 _ _ rfl 0 rfl [J k,(),(),(),(),(),ay,"",(),(),(),(),ae ah 0,(),(),ay,(),()] rfl (bf rfl) rfl aw #[J k,(),(),(),(),(),ay,"",(),(),(),(),ae ah 0,(),(),ay,(),()] rfl rfl ?_;intro wb dV;refine stay ?_);refine dI ?_;rw[<-HX.out,<-xL.out];rw[<-HX.out,<-xL.out] at dV;have dV:St (λb=>b=r) w [.c y 45 #[J k,(),(),(),(),(),ay,"",(),(),(),(),ae ah 0,(),(),ay,(),()],.c x 45 aJ,.c r 237 cs0] wb:=dV;have gS:=gx vG h hS dV 0 2 rfl rfl;clear hS ej h;by_cases ip:k=2
 ·have qY:=ip
  have d1:((k:Int) == 1)=false:=by simp;omega
  have d2:((k:Int) == 2)=true:=by simp;omega
  replace qY:=Q qY;go_wp2_with fail;clear ip;go_wp2_with fail;refine (mO wb r B abp _ gS).mono ?_;rintro e w3 ⟨tg,s3,q3,KS,rfl,jN,oM⟩;obtain⟨Ju,dX⟩:=gX dV 2 rfl jN oM;clear gS dV;go_wp2_with fail;refine (lK w3 r B abp 255 _ jN).mono ?_;rintro e w4 ⟨co,s4,q4,hco,rfl,om,S4⟩;obtain⟨cs4,eO⟩:=gX dX 2 rfl om S4;clear jN dX;go_wp2_with fail;refine (KD w4 r B abp _ om).mono ?_;rintro e w5 ⟨nn,s5,q5,hnn,rfl,qM,Sp⟩;obtain⟨cs5,eF⟩:=gX eO 2 rfl qM Sp;clear om eO;go_wp2_with (refine fv eF 0 rfl 2 _ _ rfl 10 rfl (J tg) rfl (bf rfl) rfl aw rfl ?_;intro w6 eN;refine stay ?_);refine dI ?_;have vC:=gx vG qM eF eN 2 2 rfl rfl;clear qM eF;go_wp2_with (refine fv eN 0 rfl 3 _ _ rfl 11 rfl (J co) rfl (bf rfl) rfl aw rfl ?_;intro w7 fH;refine stay ?_);refine dI ?_;have yd:=gx vG vC eN fH 2 2 rfl rfl;clear vC eN;go_wp2_with (refine fv fH 0 rfl 42 _ _ rfl 12 rfl (ae ah nn) rfl (bf rfl) rfl aw rfl ?_;intro w8 fD;refine stay ?_);refine dI ?_;have Lp:=gx vG yd fH fD 2 2 rfl rfl;clear yd fH;simp only[bY,bz,bA] at fD;obtain rfl:=qY.out;go_wp2_with (refine kG fD 0 rfl 45 _ rfl rfl bG aw rfl ?_;refine stay ?_);refine dI ?_;go_wp2_with (refine d_ fD 1 rfl 45 _ _ rfl 0 rfl [J ((2:Nat):Int),(),(),(),(),(),ay,"",(),(),J tg,J co,ae ah nn,(),(),ay,(),()] rfl (bf rfl) rfl aw #[J ((2:Nat):Int),(),(),(),(),(),ay,"",(),(),J tg,J co,ae ah nn,(),(),ay,(),()] rfl rfl ?_;intro wz k_;refine stay ?_);refine dI ?_;have P2:=gx vG Lp fD k_ 2 2 rfl rfl;go_wp2;refine bodyPost_ret (dZ rfl _ x rfl (k_.blk 1 rfl) bG aw) rfl ?_;exact⟨s5,⟨fx tg co nn,none,0,none,0,[],true,rfl,Cd _ _ _ rfl rfl,λ_=>⟨.inl (.ans tg co nn KS hco ap),by show fx (tg:Int) (co:Int) nn=fx ((gu s0).1:Int) ((gb 255 (gu s0).2).1:Int) (kO (gb 255 (gu s0).2).2).1∧s5=(kO (gb 255 (gu s0).2).2).2;rw[q3.out];dsimp only;rw[q4.out];dsimp only;rw[q5.out];exact⟨rfl,rfl⟩⟩,(λh=>by cases h),λ_=>⟨rfl,rfl⟩,λ_ _=>⟨rfl,rfl⟩⟩,P2,k_.fin.2⟩
 by_cases iP:k=1
 ·have qY:=iP
  have d1:((k:Int) == 1)=true:=by simp;omega
  replace qY:=Q qY;go_wp2_with fail;clear iP;go_wp2_with fail;refine (BV wb r B abp _ gS).mono ?_;rintro e w3 ⟨xt,s3,q3,hs,rfl,jN,oM⟩;obtain⟨s,Hs⟩:=az (⟨xt.toArray⟩:ByteArray);have Yd:s.size<=abp:=by rw[Hs.out];show xt.toArray.size<=abp;rw[cy];exact hs
  have hsx:s.data.toList=xt:=by rw[Hs.out]
  rw[<-Hs.out];obtain⟨Ju,dX⟩:=gX dV 2 rfl jN oM;clear gS dV;have hcv:=Lib.run_convert_string_bytes (P:=W) w3 9 23 5 s (u := .string) cW d9 dm;have pO:=pD w3 5 s;obtain⟨Ac,nc,cc,sA,Yk,X5,X6⟩:=rG w3 5 s ap;rw[sA] at hcv;clear sA;obtain⟨wc,HC⟩:=az (Lib.bytesWorld w3 5 s);rw[<-HC.out] at hcv pO Yk;have eO:=dX.grow pO;have om:=jN.grow pO;have hE:=Jl wc Ac nc cc abp s.data.toList Yk (by have e:s.data.toList.length=s.size:=bZ;omega) hN X5 X6;rw[hsx] at hE;clear Yk;go_wp2_with fail;refine hE.mono ?_;rintro en w5 ⟨hP,ng⟩;clear hE;have qM:=om.grow ng;obtain⟨abl,Ae,ce,F,rfl,hEl,hF⟩:∃(abl:En)(A:aU)(c:Nat)(F:Int),en=b5 (a_ #[aZ (abl.agg A c),J F])∧kP w5 (New wc w5) ⟨abl,A,c⟩∧(F=0->C5 xt abl)∧(F≠0->∀e,¬ C5 xt e):=by
   rcases hP with ⟨abl,Ae,ce,rfl,gC,hEl⟩|⟨F,hF,rfl,kh⟩
   ·exact⟨abl,Ae,ce,0,rfl,hEl,λ_=>gC,λh=>absurd rfl h⟩
   ·exact⟨En.zero,none,0,F,rfl,elz _ _,λh=>absurd h hF,λ_=>kh⟩
  have eF:=St.join eO (yb.framed ⟨abl,Ae,ce⟩) ng (U:=New wc w5) hEl λb hb=>hb;clear dX eO jN om pO;obtain⟨E1,X7⟩:=az abl;rw[<-X7.out] at hF;replace hF:=Q hF;obtain⟨ek,ag,sh,sq,ep,ds,se,fr,tg⟩:=abl;unfold En.agg at *;dsimp only at *;obtain⟨z,w6,HZ,H6,eN⟩:=eF.new' #[J ek,J ag,J sh,J sq,J ep,Z Ae ds.length ce,aX se,J fr,J tg] 40;have eN:St (λb=>b=r) w [.c z 40 #[J ek,J ag,J sh,J sq,J ep,Z Ae ds.length ce,aX se,J fr,J tg],.o (yb ⟨⟨ek,ag,sh,sq,ep,ds,se,fr,tg⟩,Ae,ce⟩),.c y 45 #[J k,(),(),(),(),(),ay,"",(),(),(),(),ae ah 0,(),(),ay,(),()],.c x 45 aJ,.c r 237 Ju] w6:=eN;have tW:Grow w5 w6:=by rw[H6.out];exact fb _ _
  have vC:=qM.grow tW;clear eF qM;rcases (inferInstance:Decidable (F=0)) with Jm|Jm
  case' isTrue=>have Oo:(F == 0)=true:=beq_iff_eq.2 Jm
  case' isFalse=>have Oo:(F == 0)=false:=beq_eq_false_iff_ne.2 Jm
  all_goals
   replace Jm:=Q Jm
   go_wp2_with (first|(rw[<-H6.out,<-HZ.out];refine kG eN 0 rfl 40 _ rfl rfl Tryz.underlying40 aw rfl ?_;refine stay ?_))
   refine dI ?_
   go_wp2_with (refine d_ eN 2 rfl 40 _ _ rfl 1 rfl [J ek,J ag,J sh,J sq,J ep,Z Ae ds.length ce,aX se,J fr,J tg] rfl (bf rfl) rfl aw #[J k,J ek,J ag,J sh,J sq,J ep,Z Ae ds.length ce,aX se,J fr,J tg,(),(),ae ah 0,(),(),ay,(),()] rfl rfl ?_;intro w7 fH;refine stay ?_)
   refine dI ?_
   have yd:=gx vG vC eN fH 4 4 rfl rfl
   clear eN vC
   obtain rfl:=qY.out
   go_wp2_with (refine kG fH 2 rfl 45 _ rfl rfl bG aw rfl ?_;refine stay ?_)
   refine dI ?_
   go_wp2_with (refine d_ fH 3 rfl 45 _ _ rfl 0 rfl [J ((1:Nat):Int),J ek,J ag,J sh,J sq,J ep,Z Ae ds.length ce,aX se,J fr,J tg,(),(),ae ah 0,(),(),ay,(),()] rfl (bf rfl) rfl aw #[J ((1:Nat):Int),J ek,J ag,J sh,J sq,J ep,Z Ae ds.length ce,aX se,J fr,J tg,(),(),ae ah 0,(),(),ay,(),()] rfl rfl ?_;intro wz k_;refine stay ?_)
   refine dI ?_
   have P2:=gx vG yd fH k_ 4 4 rfl rfl
   go_wp2
   refine bodyPost_ret (dZ rfl _ x rfl (k_.blk 3 rfl) bG aw) rfl ?_
   obtain⟨U1,I,j1⟩:=H8 k_ 1 3 rfl rfl
   have HIN:Sd.In wz (New w wz) ⟨0,kW ⟨ek,ag,sh,sq,ep,ds,se,fr,tg⟩,Ae,ce,none,[],0⟩:=⟨jg _ _ _ _ (show kP wz U1 ⟨⟨ek,ag,sh,sq,ep,ds,se,fr,tg⟩,Ae,ce⟩ from I) j1,jO.nil,rfl,bh _,bo _⟩
   have L:∀e,C5 xt e->H7 1 s0 (kW e) s3:=λe he=>by show ∃e',C5 (gn s0).1 e'∧kW e=kW e'∧s3=(gn s0).2;rw[q3.out];exact⟨e,he,rfl,rfl⟩
   have h4:(∀e,¬ C5 xt e)->∀M S,¬ H7 1 s0 M S:=λhe M S h=>by obtain⟨e',h5,_⟩:=(show ∃e',C5 (gn s0).1 e'∧M=kW e'∧S=(gn s0).2 from h);rw[q3.out] at h5;exact he e' h5
   refine⟨s3,⟨kW ⟨ek,ag,sh,sq,ep,ds,se,fr,tg⟩,Ae,ce,none,0,[],_,rfl,HIN,λME=>?_,λME=>?_,λh=>absurd rfl h,λ_ _=>⟨rfl,rfl⟩⟩,P2,k_.fin.2⟩
   ·first|exact⟨.inl (.ask _ (X7.out▸(hF.out.1 Jm.out).2)),X7.out▸L _ (hF.out.1 Jm.out)⟩|exact absurd ME am
   ·first|exact h4 (hF.out.2 Jm.out)|exact absurd ME am
 by_cases j5:k=4
 ·have qY:=j5
  have d1:((k:Int) == 1)=false:=by simp;omega
  have d2:((k:Int) == 2)=false:=by simp;omega
  have d4:((k:Int) == 4)=true:=by simp;omega
  replace qY:=Q qY;go_wp2_with fail;clear j5;go_wp2_with fail;refine (mO wb r B abp _ gS).mono ?_;rintro e w3 ⟨te,s3,q3,K9,rfl,jN,oM⟩;obtain⟨Ju,dX⟩:=gX dV 2 rfl jN oM;clear gS dV;go_wp2_with (refine fv dX 0 rfl 2 _ _ rfl 13 rfl (J te) rfl (bf rfl) rfl aw rfl ?_;intro w4 eO;refine stay ?_);refine dI ?_;have om:=gx vG jN dX eO 2 2 rfl rfl;clear jN dX;go_wp2_with fail;refine (mO w4 r B abp _ om).mono ?_;rintro e w5 ⟨ha,s5,q5,hha,rfl,qM,Sp⟩;obtain⟨cs5,eF⟩:=gX eO 2 rfl qM Sp;clear om eO;go_wp2_with (refine fv eF 0 rfl 2 _ _ rfl 14 rfl (J ha) rfl (bf rfl) rfl aw rfl ?_;intro w6 eN;refine stay ?_);refine dI ?_;have vC:=gx vG qM eF eN 2 2 rfl rfl;clear qM eF;go_wp2_with fail;refine (H5 w6 r B abp _ vC hN (bB Mw eN.size)).mono ?_;rintro en w7 ⟨s7,⟨Aq,cq,q,bq,rfl,Fj,⟨X9,Xa⟩,vv,ig,qF,kh⟩,yd,WA⟩;replace qF:=Q qF;replace kh:=Q kh;obtain⟨_,A',n',c',l',b',_,hB7,_⟩:=id yd;have fH:=(eN.front 2 rfl).qg WA hB7 (fT.framed Aq q) Fj λb hb=>hb;have P3:=yd;clear eN vC hB7 Fj WA yd;replace vv:=Q vv;replace ig:=Q ig;have yd:=P3;clear P3;go_wp2_with (refine fv fH 2 rfl 43 _ _ rfl 15 rfl (Z Aq q.length cq) rfl (bf rfl) rfl aw rfl ?_;intro w8 fD;refine stay ?_);refine dI ?_;have Lp:=gx vG yd fH fD 1 1 rfl rfl;clear yd fH;simp only[bY,bz,bA] at fD;obtain rfl:=qY.out;go_wp2_with (refine kG fD 2 rfl 45 _ rfl rfl bG aw rfl ?_;refine stay ?_);refine dI ?_;go_wp2_with (refine d_ fD 3 rfl 45 _ _ rfl 0 rfl [J ((4:Nat):Int),(),(),(),(),(),ay,"",(),(),(),(),ae ah 0,J te,J ha,Z Aq q.length cq,(),()] rfl (bf rfl) rfl aw #[J ((4:Nat):Int),(),(),(),(),(),ay,"",(),(),(),(),ae ah 0,J te,J ha,Z Aq q.length cq,(),()] rfl rfl ?_;intro wz k_;refine stay ?_);refine dI ?_;have P2:=gx vG Lp fD k_ 1 1 rfl rfl;go_wp2;refine bodyPost_ret (dZ rfl _ x rfl (k_.blk 3 rfl) bG aw) rfl ?_;obtain⟨U1,I,j1⟩:=H8 k_ 0 0 rfl rfl;have Fv:(q.map El.e).length=q.length:=bj ..;have HIN:Sd.In wz (New w wz) ⟨0,i9 te ha (q.map El.e),none,0,Aq,q,cq⟩:=⟨elz _ _,jO.mono (show jO wz U1 Aq q from I) j1,rfl,X9,Xa⟩;have P4:∀M S,H7 4 s0 M S↔∃abo,qo s5 abo S∧M=i9 te ha abo:=λM S=>by show (∃q,qo (gu (gu s0).2).2 q S∧M=i9 (gu s0).1 (gu (gu s0).2).1 q)↔_;rw[q3.out];dsimp only;rw[q5.out]
  refine⟨s7,⟨i9 te ha (q.map El.e),none,0,Aq,cq,q,bq,?_,HIN,λhb=>⟨.inl (.prom te ha _ K9 hha (λe he=>by obtain⟨x,Y,rfl⟩:=List.mem_map.1 he;exact vv.out x Y) (by rw[Fv];exact ig.out)),(P4 _ _).2 ⟨_,qF.out hb,rfl⟩⟩,λhb M S h=>by obtain⟨abo,h5,_⟩:=(P4 M S).1 h;exact kh.out hb abo S h5,λ_=>⟨rfl,rfl⟩,λI G=>absurd rfl I⟩,P2,k_.fin.2⟩;unfold mH Ms.cells i9 Ms.zero;dsimp only;rw[Fv];rfl
 by_cases nS:k=5
 ·have qY:=nS
  have d1:((k:Int) == 1)=false:=by simp;omega
  have d2:((k:Int) == 2)=false:=by simp;omega
  have d4:((k:Int) == 4)=false:=by simp;omega
  have d5:((k:Int) == 5)=true:=by simp;omega
  replace qY:=Q qY;go_wp2_with fail;clear nS;go_wp2_with fail;refine (mO wb r B abp _ gS).mono ?_;rintro e w3 ⟨te,s3,q3,K9,rfl,jN,oM⟩;obtain⟨Ju,dX⟩:=gX dV 2 rfl jN oM;clear gS dV;go_wp2_with (refine fv dX 0 rfl 2 _ _ rfl 13 rfl (J te) rfl (bf rfl) rfl aw rfl ?_;intro w4 eO;refine stay ?_);refine dI ?_;have om:=gx vG jN dX eO 2 2 rfl rfl;clear jN dX;go_wp2_with fail;refine (lK w4 r B abp 128 _ om).mono ?_;rintro e w5 ⟨ct,s5,q5,Yl,rfl,qM,Sp⟩;obtain⟨cs5,eF⟩:=gX eO 2 rfl qM Sp;clear om eO;go_wp2_with (refine fv eF 0 rfl 3 _ _ rfl 16 rfl (J ct) rfl (bf rfl) rfl aw rfl ?_;intro w6 eN;refine stay ?_);refine dI ?_;have vC:=gx vG qM eF eN 2 2 rfl rfl;clear qM eF;go_wp2_with fail;refine (H5 w6 r B abp _ vC hN (bB Mw eN.size)).mono ?_;rintro en w7 ⟨s7,⟨Aq,cq,q,bq,rfl,Fj,⟨X9,Xa⟩,vv,ig,qF,kh⟩,yd,WA⟩;replace qF:=Q qF;replace kh:=Q kh;obtain⟨_,A',n',c',l',b',_,hB7,_⟩:=id yd;have fH:=(eN.front 2 rfl).qg WA hB7 (fT.framed Aq q) Fj λb hb=>hb;have P3:=yd;clear eN vC hB7 Fj WA yd;replace vv:=Q vv;replace ig:=Q ig;have yd:=P3;clear P3;go_wp2_with (refine fv fH 2 rfl 43 _ _ rfl 15 rfl (Z Aq q.length cq) rfl (bf rfl) rfl aw rfl ?_;intro w8 fD;refine stay ?_);refine dI ?_;have Lp:=gx vG yd fH fD 1 1 rfl rfl;clear yd fH;simp only[bY,bz,bA] at fD;obtain rfl:=qY.out;go_wp2_with (refine kG fD 2 rfl 45 _ rfl rfl bG aw rfl ?_;refine stay ?_);refine dI ?_;go_wp2_with (refine d_ fD 3 rfl 45 _ _ rfl 0 rfl [J ((5:Nat):Int),(),(),(),(),(),ay,"",(),(),(),(),ae ah 0,J te,(),Z Aq q.length cq,J ct,()] rfl (bf rfl) rfl aw #[J ((5:Nat):Int),(),(),(),(),(),ay,"",(),(),(),(),ae ah 0,J te,(),Z Aq q.length cq,J ct,()] rfl rfl ?_;intro wz k_;refine stay ?_);refine dI ?_;have P2:=gx vG Lp fD k_ 1 1 rfl rfl;go_wp2;refine bodyPost_ret (dZ rfl _ x rfl (k_.blk 3 rfl) bG aw) rfl ?_;obtain⟨U1,I,j1⟩:=H8 k_ 0 0 rfl rfl;have Fv:(q.map El.e).length=q.length:=bj ..;have HIN:Sd.In wz (New w wz) ⟨0,kR te (q.map El.e) ct,none,0,Aq,q,cq⟩:=⟨elz _ _,jO.mono (show jO wz U1 Aq q from I) j1,rfl,X9,Xa⟩;have P4:∀M S,H7 5 s0 M S↔∃abo,qo s5 abo S∧M=kR te abo ct:=λM S=>by show (∃q,qo (gb 128 (gu s0).2).2 q S∧M=kR (gu s0).1 q (gb 128 (gu s0).2).1)↔_;rw[q3.out];dsimp only;rw[q5.out]
  refine⟨s7,⟨kR te (q.map El.e) ct,none,0,Aq,cq,q,bq,?_,HIN,λhb=>⟨.inl (.acc te _ ct K9 Yl (λe he=>by obtain⟨x,Y,rfl⟩:=List.mem_map.1 he;exact vv.out x Y) (by rw[Fv];exact ig.out)),(P4 _ _).2 ⟨_,qF.out hb,rfl⟩⟩,λhb M S h=>by obtain⟨abo,h5,_⟩:=(P4 M S).1 h;exact kh.out hb abo S h5,λ_=>⟨rfl,rfl⟩,λI G=>absurd rfl G⟩,P2,k_.fin.2⟩;unfold mH Ms.cells kR Ms.zero;dsimp only;rw[Fv];rfl
 by_cases UR:k=6
 ·have qY:=UR
  have d1:((k:Int) == 1)=false:=by simp;omega
  have d2:((k:Int) == 2)=false:=by simp;omega
  have d4:((k:Int) == 4)=false:=by simp;omega
  have d5:((k:Int) == 5)=false:=by simp;omega
  have d6:((k:Int) == 6)=true:=by simp;omega
  replace qY:=Q qY;go_wp2_with fail;clear UR;go_wp2_with fail;refine (mO wb r B abp _ gS).mono ?_;rintro e w3 ⟨te,s3,q3,K9,rfl,jN,oM⟩;obtain⟨Ju,dX⟩:=gX dV 2 rfl jN oM;clear gS dV;go_wp2_with (refine fv dX 0 rfl 2 _ _ rfl 13 rfl (J te) rfl (bf rfl) rfl aw rfl ?_;intro w4 eO;refine stay ?_);refine dI ?_;have om:=gx vG jN dX eO 2 2 rfl rfl;clear jN dX;go_wp2_with fail;refine (lK w4 r B abp 128 _ om).mono ?_;rintro e w5 ⟨ct,s5,q5,Yl,rfl,qM,Sp⟩;obtain⟨cs5,eF⟩:=gX eO 2 rfl qM Sp;clear om eO;go_wp2_with (refine fv eF 0 rfl 3 _ _ rfl 17 rfl (J ct) rfl (bf rfl) rfl aw rfl ?_;intro w6 eN;refine stay ?_);refine dI ?_;have vC:=gx vG qM eF eN 2 2 rfl rfl;clear qM eF;simp only[bY,bz,bA] at eN;obtain rfl:=qY.out;go_wp2_with (refine kG eN 0 rfl 45 _ rfl rfl bG aw rfl ?_;refine stay ?_);refine dI ?_;go_wp2_with (refine d_ eN 1 rfl 45 _ _ rfl 0 rfl [J ((6:Nat):Int),(),(),(),(),(),ay,"",(),(),(),(),ae ah 0,J te,(),ay,(),J ct] rfl (bf rfl) rfl aw #[J ((6:Nat):Int),(),(),(),(),(),ay,"",(),(),(),(),ae ah 0,J te,(),ay,(),J ct] rfl rfl ?_;intro wz k_;refine stay ?_);refine dI ?_;have P2:=gx vG vC eN k_ 2 2 rfl rfl;go_wp2;refine bodyPost_ret (dZ rfl _ x rfl (k_.blk 1 rfl) bG aw) rfl ?_;exact⟨s5,⟨m8 te ct,none,0,none,0,[],true,rfl,Cd _ _ _ rfl rfl,λ_=>⟨.inl (.Mq te ct K9 Yl),by show m8 te ct=m8 (gu s0).1 (gb 128 (gu s0).2).1∧s5=(gb 128 (gu s0).2).2;rw[q3.out];dsimp only;rw[q5.out];exact⟨rfl,rfl⟩⟩,(λh=>by cases h),λ_=>⟨rfl,rfl⟩,λ_ _=>⟨rfl,rfl⟩⟩,P2,k_.fin.2⟩
 ·have qY:k≠1∧k≠2∧k≠4∧k≠5∧k≠6:=by omega
  have d1:((k:Int) == 1)=false:=by simp;omega
  have d2:((k:Int) == 2)=false:=by simp;omega
  have d4:((k:Int) == 4)=false:=by simp;omega
  have d5:((k:Int) == 5)=false:=by simp;omega
  have d6:((k:Int) == 6)=false:=by simp;omega
  clear iP ip j5 nS UR;replace qY:=Q qY;go_wp2_with fail;refine (mO wb r B abp _ gS).mono ?_;rintro e w3 ⟨te,s3,q3,K9,rfl,jN,oM⟩;obtain⟨Ju,dX⟩:=gX dV 2 rfl jN oM;clear gS dV;go_wp2_with (refine fv dX 0 rfl 2 _ _ rfl 13 rfl (J te) rfl (bf rfl) rfl aw rfl ?_;intro w4 eO;refine stay ?_);refine dI ?_;have om:=gx vG jN dX eO 2 2 rfl rfl;clear jN dX;simp only[bY,bz,bA] at eO;go_wp2_with (refine kG eO 0 rfl 45 _ rfl rfl bG aw rfl ?_;refine stay ?_);refine dI ?_;go_wp2_with (refine d_ eO 1 rfl 45 _ _ rfl 0 rfl [J k,(),(),(),(),(),ay,"",(),(),(),(),ae ah 0,J te,(),ay,(),()] rfl (bf rfl) rfl aw #[J k,(),(),(),(),(),ay,"",(),(),(),(),ae ah 0,J te,(),ay,(),()] rfl rfl ?_;intro wz k_;refine stay ?_);refine dI ?_;have P2:=gx vG om eO k_ 2 2 rfl rfl;go_wp2;refine bodyPost_ret (dZ rfl _ x rfl (k_.blk 1 rfl) bG aw) rfl ?_;have HG:Ms.Gd { Ms.zero with k:=(k:Int),term:=(te:Int) }∨(k:Int)<1∨6<(k:Int):=by
   by_cases L:k=3;·subst L;exact .inl (.vD te K9)
   ·have:=qY.out;exact .inr ap
  exact⟨s3,⟨{ Ms.zero with k:=k,term:=te },none,0,none,0,[],true,rfl,Cd _ _ _ rfl rfl,λ_=>⟨HG,by unfold H7;obtain⟨g1,g2,g4,g5,g6⟩:=qY.out;rw[aB g1,aB g2,aB g4,aB g5,aB g6,q3.out];exact⟨rfl,rfl⟩⟩,(λh=>by cases h),λ_=>⟨rfl,rfl⟩,λ_ _=>⟨rfl,rfl⟩⟩,P2,k_.fin.2⟩
end Go.Proofs.YtpeepcmdehhbgaaGreatDoor
