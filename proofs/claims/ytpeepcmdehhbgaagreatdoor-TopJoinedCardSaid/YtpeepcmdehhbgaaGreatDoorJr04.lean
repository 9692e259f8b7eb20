/- Rgi, Rz4, Rz5, Rz6, Rz7, Vr1, Vr2, Vr3, Ao2, Ao3, Ao4, Ao5, Ao8, Ao9, Ap1, Ap2, Ap5, Ap6, Ap3, Ao6, Ap4, Aq2, Mb1, Mb2, Wl1, Wl2, Wl3, Wl4. -/
import Derived.Test.YtpeepcmdehhbgaaGreatDoorJr03
import Derived.WalkMore
set_option linter.all false
set_option maxRecDepth 100000
set_option maxHeartbeats 2000000
open Go.Value renaming int->ae,slice->Y,string->aX,bool->aY,agg->aZ,tuple->a_
open Go.Ending renaming returned->b5
open Go.IntKind renaming i64->af,u64->ah
open Go (J az aE aA aB aC aD ay aj am ap aw aL aK aJ aI aH aV aU aT aR aQ aP aO aN)
open Go.Proofs.Tryz renaming prog->N,underlying45->bG,underlying9->c_,underlying23->dh,underlying5->dw
open Go.Lib renaming hid->Q
open List renaming length_append->bd,perm_append_comm->bg,length_map->bj,append_nil->bm,length_take->bn,append_assoc->bp,take_succ_eq_append_getElem->br,eq_nil_of_length_eq_zero->bv,length_singleton->bw,length_cons->bC,getElem_mem->bD,range->bF,take_of_length_le->bH,set_cons_succ->bI,setIfInBounds_toArray->bJ,set_cons_zero->bL,map_append->bM,flatMap_cons->bN,flatMap_append->bO,drop_eq_getElem_cons->bR,length_drop->bU,not_mem_nil->bW,mem_of_mem_take->bY,mem_cons->b_,length_nil->cx,drop_of_length_le->cB,nil_append->cC,size_toArray->cE,cons_append->cH,flatMap_nil->cI,drop_succ_cons->cJ,map_congr_left->cP,map_nil->cS,drop_eq_nil_of_le->cT,mem_map_of_mem->cW,drop_zero->d9,mem_of_mem_drop->da,length_filter_le->df,length_range->di,length_set->dq,getElem_map->dt,take_length->dy
open Nat renaming le_of_ble_eq_true->bf,le_refl->bh,zero_le->bo,lt_of_lt_of_le->bu,le_trans->bA,min_eq_left->cF,mul_le_mul_right->cK,mul_one->cO,le_succ_of_le->dC
open Bool renaming eq_false_or_eq_true->bB,and_eq_true->bP,false_ne_true->cj
open Array renaming length_toList->ch
open Int renaming toNat_natCast->cG,toNat_of_nonneg->cQ
open Go renaming Value->E,World->G,Calls->dF,Addr->dG,TypeId->dH,Program->dI,maxLen->dL
open Go.Proofs.YtpeepcmdehhbgaaGreatDoor (Ag)
open Go.Hop (Bl)
variable{w w0 O:G}{k i j n r c f:Nat}{V U D:aV}{l:List Bl}{x y:Ag}{A:aU}{cs args:aP}{t:dH}{sl u:E}{ks:aQ}{out jP:List (Nat×Int)}
namespace Go.Proofs.YtpeepcmdehhbgaaGreatDoor
open RowKit Hop V
def Zw(w:G)(D:aV)(g:Nat)(v:Vt)(hv:v.Ok):Lw N D 69 #[g] [.o (fS g v)] (λ(_:Unit)e=>e=b5 (aY v.won)) (λ_=>[.o (fS g v)]) w:=λV hM hV=>by have L:=St.begin_ hM (λb hb=>(hV b hb).1) ⟨fS.framed _ _,trivial⟩;obtain⟨A0,c0,q0,AV,L⟩:=zN L;refine (Dx (Zl L 0 hv rfl) hv.few).mono λe O ⟨I,Z⟩=>?_;obtain⟨r1,r2⟩:=(oo (L.grow Z) AV).fin;exact⟨(),I,r1,r2⟩
def zR(v:Vt)(i had:Nat)(l:List En):(v.promise i had l).2.nodes=v.nodes:=by
 unfold Vt.promise;split;·rfl
 ·split
  ·rfl
  ·split<;>rfl
instance(t h:Nat)(B:Option dG)(n d:Nat):CoeDep (Nat×Nat×Option dG×Nat×Nat) (t,h,B,n,d) (Array E):=⟨#[J 4,(),(),(),(),(),ay,"",(),(),(),(),ae ah 0,J t,J h,Y B n d,(),()]⟩
def NW(w:G)(D:aV)(p:qi)(g:Nat)(x:Rp)(X:x.Ok)(f:Int)(hf:x.hears f)(t had:Nat)(ht:t<=9223372036854775807)(Rk:had<=9223372036854775807)(A2:aU)(c2:Nat)(q:List El)(hq:kO w D A2 q)(gS:∀z∈q,z.e.Ok)(hl:q.length<=128)(jv:∀b,D b->b<(w:Nat)):Lw N D 19 #[((p.r,0):E),J f,aZ (t,had,A2,q.length,c2)] (dS p g x) (λ(j:E×List Sd)en=>en=b5 j.1∧eY j.2=(jH x f.toNat t had (q.map El.e)).2) (λj => .o (dY j.1 j.2)::dS p g (jH x f.toNat t had (q.map El.e)).1) w:=by
 have ko:nF (iB t had (q.map El.e)) none 0 A2 c2=(t,had,A2,q.length,c2):=by unfold nF Ms.cells;first|rfl|(dsimp only[iB,lB];rw[bj];rfl)
 obtain⟨R,HR⟩:=az (jH x f.toNat t had (q.map El.e));rw[<-HR.out];intro V hM hV;have lG:∀x,D x->x<(w:Nat)∧¬ V x:=λx X=>⟨jv x X,λh=>(hV x h).2 X⟩;have L:=St.begin_ hM (λb hb=>(hV b hb).1) (eP _ _ _);obtain⟨y,wa,HY,HA,L⟩:=L.new' (t,had,A2,q.length,c2) 45;have gN:Grow w wa:=by rw[HA.out];exact fc w _
 have AZ:kO wa D A2 q:=gg.framed A2 q w wa D hq λb hb=>gN.block b (jv b hb);have W:=lY wa D (iB t had (q.map El.e)) none 0 A2 c2 q (.prom t had (q.map El.e) ht Rk (λe he=>by obtain⟨z,hz,rfl⟩:=List.mem_map.1 he;exact gS z hz) (by rw[bj];exact hl)) (λ_=>⟨rfl,rfl⟩) (λh _=>absurd rfl h) In.nil AZ rfl;rw[ko] at W;clear ko;go_in;go_wp2_with (refine d_ rfl 45 _ rfl _ rfl (HA.out▸HY.out▸L.blk 0 rfl) bG aw ?_);rw[<-HA.out];refine W.mono ?_;rintro en w1 ⟨rfl,eO⟩;rw[<-HY.out];have CS:=L.grow eO;have kv:=CS.blk 0 rfl;have c0:=kv.cell 0;have eC:=CS.dT 0 rfl;clear W;have B4:w1.cell? (p.r,0)=some (J x.node):=eC.facts.1.1 0;have oX:w1.cell? (p.r,1)=some (J x.nodes):=eC.facts.1.1 1;obtain⟨F,rfl,P3,hF2⟩:∃F:Nat,f=(F:Int)∧F<x.nodes∧F≠x.node:=by obtain⟨I,Z,T⟩:=hf;exact⟨f.toNat,by omega,by omega,by omega⟩
 clear hf;have e1:decide ((F:Int)<0)=false:=aD ap;have e2:decide (x.nodes<=F)=false:=aD ap;have e3:((F:Int) == (x.node:Int))=false:=beq_eq_false_iff_ne.2 ap;clear kv;have eh:=CS.grow (Grow.refl _).drew;have K:=rcS (l:=[]) (t:=t) (had:=had) (sl:=(Y A2 q.length c2)) (by rw[bm];exact eh) rfl rfl rfl;go_wp2_with fail;refine dO rfl ?_;clear B4 oX;rcases rM:x.v with _|v
 ·rw[rM] at K
  simp only[ka] at K;have hN:R=xD x:=by rw[HR.out];unfold jH;rw[rM];rfl
  clear HR;have HR:=Q hN;clear hN;replace rM:=Q rM;refine iX (Zv p y t had (Y A2 q.length c2) (.pointer none) x.leads) 35 rfl ?_;refine fk 0 K ?_;refine fk 1 K ?_;refine fk 2 K ?_;refine fk 3 K ?_;refine fk 4 K ?_;refine fk 5 K ?_;refine dW 6 rfl K ?_;refine dW 7 rfl K ?_;refine dW 8 rfl K ?_;refine dW 9 rfl K ?_;refine dW 10 rfl K ?_;refine dW 11 rfl K ?_;refine dW 12 rfl K ?_;refine dW 13 rfl K ?_;refine fU 14 K ?_;refine fU 15 K ?_;refine dW 16 rfl K ?_;refine dW 17 rfl K ?_;refine dW 18 rfl K ?_;refine dW 19 rfl K ?_;refine dW 20 rfl K ?_;refine dW 21 rfl K ?_;refine fU 22 K ?_;refine fU 23 K ?_;refine dW 24 rfl K ?_;refine dW 25 rfl K ?_;refine dW 26 rfl K ?_;refine dW 27 rfl K ?_;refine dW 28 rfl K ?_;refine dW 29 rfl K ?_;refine dW 30 rfl K ?_;refine dW 31 rfl K ?_;refine dW 32 rfl K ?_;refine dW 33 rfl K ?_;refine fU 34 K ?_;refine gb ?_;go_wp2;go_ret;obtain⟨r1,r2⟩:=ou (eh.dT 0 rfl);rw[HR.out];first|exact⟨(Y none 0 0,[]),⟨rfl,rfl⟩,r1,r2⟩|exact⟨Y none 0 0,[],⟨rfl,rfl⟩,r1,r2⟩
 ·obtain⟨AY,Bg⟩:=X.v v rM
  rw[rM] at K;simp only[ka] at K;have hvr:∀O,St V w [.c y 45 (t,had,A2,q.length,c2),.c p.r 118 (kQ p x.node x.nodes x.commit ((g:E)) x.leads x.own),.o (il p.m x.m),.o (rY p.s p.x p.d x.s),.o (fS g v)] O->St V w (.c y 45 (t,had,A2,q.length,c2)::dS p g x) O:=λO h=>by unfold dS;rw[rM];exact h
  have Ix:∀O,St V w [.c y 45 (t,had,A2,q.length,c2),.c p.r 118 (kQ p x.node x.nodes x.commit ((g:E)) x.leads x.own),.o (il p.m x.m),.o (rY p.s p.x p.d x.s),.o (fS g v)] O->Zv p y t had (Y A2 q.length c2) ((g:E)) x.leads O:=λO h=>⟨(h.facts.1.1 13).trans rfl,(h.facts.1.1 14).trans rfl,(h.facts.1.1 15).trans rfl,h.facts.2.1.1 5,h.facts.2.1.1 6⟩;have RF:St V w [.c y 45 (t,had,A2,q.length,c2),.c p.r 118 (kQ p x.node x.nodes x.commit ((g:E)) x.leads x.own),.o (il p.m x.m),.o (rY p.s p.x p.d x.s),.o (fS g v)] w1.drew:=by have h:=eh;unfold dS at h;rw[rM] at h;exact h
  refine iX (Zv p y t had (Y A2 q.length c2) ((g:E)) x.leads) 35 rfl ?_;refine fk 0 K ?_;refine fk 1 K ?_;refine fk 2 K ?_;refine fk 3 K ?_;refine fk 4 K ?_;refine fk 5 K ?_;refine fk 6 K ?_;refine fk 7 K ?_;refine fk 8 K ?_;refine fk 9 K ?_;refine fk 11 K ?_;refine fk 12 K ?_;refine fe 10 rfl ?_;go_wp2_with fail;refine (RF.at_ 4 rfl (λ_=>fS.framed _ _) (D:=λ_=>False) (λ_ h=>h.elim) (rZ w1.drew _ g v AY)).mono ?_;rintro en w3 ⟨_,rfl,eU⟩;have eU:St V w [.c y 45 (t,had,A2,q.length,c2),.c p.r 118 (kQ p x.node x.nodes x.commit ((g:E)) x.leads x.own),.o (il p.m x.m),.o (rY p.s p.x p.d x.s),.o (fS g v)] w3:=eU;have jw:=Ix _ eU;clear K RF eh;go_wp2_with fail;refine⟨jw,?_⟩;by_cases Br:v.t=t
  ·have Rv:((v.t:Int) == (t:Int))=true:=by rw[Br];simp
   have a85:=Q Br;clear Br;refine fk 13 jw ?_;refine fU 14 jw ?_;refine fU 15 jw ?_;refine fk 16 jw ?_;refine fk 17 jw ?_;refine fk 18 jw ?_;refine fk 19 jw ?_;refine fe 20 rfl ?_;go_wp2_with fail;refine (eU.at_ 4 rfl (λ_=>fS.framed _ _) (D:=λ_=>False) (λ_ h=>h.elim) (Zw w3 _ g v AY)).mono ?_;rintro en w5 ⟨_,rfl,eI⟩;have eI:St V w [.c y 45 (t,had,A2,q.length,c2),.c p.r 118 (kQ p x.node x.nodes x.commit ((g:E)) x.leads x.own),.o (il p.m x.m),.o (rY p.s p.x p.d x.s),.o (fS g v)] w5:=eI;have oG:=Ix _ eI;clear jw eU;go_wp2_with fail;refine⟨oG,?_⟩;rcases bB v.won with hw|hw
   ·rw[hw]
    have hN:R=xD x:=by rw[HR.out];unfold jH;rw[rM];simp only[];rw[aB (by rw[hw];intro h;cases h.2)];rfl
    clear HR;have HR:=Q hN;clear hN;replace hw:=Q hw;have eS:=hvr _ eI;replace rM:=Q rM;refine fU 21 oG ?_;refine fU 22 oG ?_;refine fU 23 oG ?_;refine dW 24 rfl oG ?_;refine dW 25 rfl oG ?_;refine dW 26 rfl oG ?_;refine dW 27 rfl oG ?_;refine dW 28 rfl oG ?_;refine dW 29 rfl oG ?_;refine dW 30 rfl oG ?_;refine dW 31 rfl oG ?_;refine dW 32 rfl oG ?_;refine dW 33 rfl oG ?_;refine fU 34 oG ?_;refine gb ?_;go_wp2;go_ret;obtain⟨r1,r2⟩:=ou (eS.dT 0 rfl);rw[HR.out];first|exact⟨(Y none 0 0,[]),⟨rfl,rfl⟩,r1,r2⟩|exact⟨Y none 0 0,[],⟨rfl,rfl⟩,r1,r2⟩
   ·rw[hw]
    have hN:R=(if (v.promise F had (q.map El.e)).1=true then Rp.won { x with v:=some (v.promise F had (q.map El.e)).2 } (v.promise F had (q.map El.e)).2 else ({ x with v:=some (v.promise F had (q.map El.e)).2 },[])):=by rw[HR.out];unfold jH;rw[rM];simp only[];rw[aA ⟨a85.out,hw⟩];rfl
    clear HR;replace hw:=Q hw;obtain⟨r,Hr⟩:=az (v.promise F had (q.map El.e));rw[<-Hr.out] at hN;have HR:=Q hN;clear hN;have xl:∀z∈q,z.e.Ok:=gS;have VB:=eI.at_ 4 rfl (λ_=>fS.framed _ _) (D:=D) (St.far lG) (zO w5 D g v AY F had (by rw[Bg];exact P3) A2 c2 q (gg.framed A2 q w w5 D hq λb hb=>eI.keep lG b hb) hl Rk (λb hb=>bu (jv b hb) eI.size) xl);rw[<-Hr.out] at VB;refine fU 21 oG ?_;refine fU 22 oG ?_;refine fU 23 oG ?_;refine fk 24 oG ?_;refine fk 25 oG ?_;refine fk 26 oG ?_;refine fk 27 oG ?_;refine fk 28 oG ?_;refine fk 29 oG ?_;refine fk 30 oG ?_;refine fk 31 oG ?_;refine fk 32 oG ?_;refine fe 33 rfl ?_;go_wp2_with fail;refine VB.mono ?_;rintro en w7 ⟨_,rfl,fQ⟩;clear VB oG;have hro:r.2.Ok:=by rw[Hr.out];exact AY.promise (by have:=X.node;omega) Rk (λe he=>by obtain⟨z,hz,rfl⟩:=List.mem_map.1 he;exact gS z hz) (by rw[bj];exact hl)
    have hrn:r.2.nodes=x.nodes:=by rw[Hr.out,zR];exact Bg
    obtain⟨X2,kq⟩:=aE ({ x with v:=some r.2 }:Rp);have me:X2.Ok:=by rw[kq];exact X.vote hro hrn
    have sV:X2.v=some r.2:=by rw[kq]
    have fK:St V w (.c y 45 (t,had,A2,q.length,c2)::dS p g X2) w7:=by rw[kq];exact fQ
    have VC:=rcS (l:=[]) (t:=t) (had:=had) (sl:=(Y A2 q.length c2)) (by rw[bm];exact fK) rfl rfl rfl;rw[sV] at VC;simp only[ka] at VC;have VC:Zv p y t had (Y A2 q.length c2) ((g:E)) x.leads w7:=by rw[kq] at VC;exact VC
    rw[<-kq] at HR;replace kq:=Q kq;replace sV:=Q sV;clear fQ eI;go_wp2_with fail;refine⟨VC,?_⟩;rcases bB r.1 with hr|hr
    ·rw[hr] at HR ⊢
     refine fU 34 VC ?_;refine gb ?_;clear VC;go_wp2_with fail;refine (St.call (a:=dS p g X2) (b:=[]) (a':=λj:E×List Sd => .o (dY j.1 j.2)::dS p g (X2.won r.2).1) (by rw[bm];exact fK.dT 0 rfl) (λ_=>⟨dY.framed _ _,eP _ _ _⟩) (D:=λ_=>False) (λ_ h=>h.elim) (LP w7 p g X2 me r.2 sV.out)).mono ?_;rintro en w8 ⟨j,⟨rfl,hj⟩,gM⟩;rw[bm] at gM;go_wp2;go_ret;obtain⟨r1,r2⟩:=gM.fin;have HR:=HR.out;first|rw[aA rfl] at HR|rw[aA trivial] at HR
     rw[HR];first|exact⟨j,⟨rfl,hj⟩,r1,r2⟩|exact⟨j.1,j.2,⟨rfl,hj⟩,r1,r2⟩
    ·rw[hr] at HR ⊢
     have HR:=HR.out;first|rw[aB cj] at HR|rw[aB not_false] at HR
     replace HR:=Q HR;refine fU 34 VC ?_;refine gb ?_;go_wp2;go_ret;obtain⟨r1,r2⟩:=ou (fK.dT 0 rfl);rw[HR.out];first|exact⟨(Y none 0 0,[]),⟨rfl,rfl⟩,r1,r2⟩|exact⟨Y none 0 0,[],⟨rfl,rfl⟩,r1,r2⟩
  ·have Rv:((v.t:Int) == (t:Int))=false:=by simp;omega
   have hN:R=xD x:=by rw[HR.out];unfold jH;rw[rM];simp only[];rw[aB (by intro h;exact Br h.1)];rfl
   clear HR;have HR:=Q hN;clear hN;have eS:=hvr _ eU;replace Br:=Q Br;replace rM:=Q rM;refine fk 13 jw ?_;refine fU 14 jw ?_;refine fU 15 jw ?_;refine dW 16 rfl jw ?_;refine dW 17 rfl jw ?_;refine dW 18 rfl jw ?_;refine dW 19 rfl jw ?_;refine dW 20 rfl jw ?_;refine dW 21 rfl jw ?_;refine fU 22 jw ?_;refine fU 23 jw ?_;refine dW 24 rfl jw ?_;refine dW 25 rfl jw ?_;refine dW 26 rfl jw ?_;refine dW 27 rfl jw ?_;refine dW 28 rfl jw ?_;refine dW 29 rfl jw ?_;refine dW 30 rfl jw ?_;refine dW 31 rfl jw ?_;refine dW 32 rfl jw ?_;refine dW 33 rfl jw ?_;refine fU 34 jw ?_;refine gb ?_;go_wp2;go_ret;obtain⟨r1,r2⟩:=ou (eS.dT 0 rfl);rw[HR.out];first|exact⟨(Y none 0 0,[]),⟨rfl,rfl⟩,r1,r2⟩|exact⟨Y none 0 0,[],⟨rfl,rfl⟩,r1,r2⟩
def RG(w:G)(p:qi)(g:Nat)(x:Rp)(X:x.Ok):Lw N (λ_=>False) 206 #[((p.r,0):E)] (dS p g x) (λ(j:E×List Sd)en=>en=b5 j.1∧eY j.2=if x.leads=true then x.accepts else []) (λj => .o (dY j.1 j.2)::dS p g x) w:=by
 obtain⟨R,HR⟩:=az (if x.leads=true then x.accepts else []);rw[<-HR.out];intro V hM hV;have L:=St.begin_ hM (λb hb=>(hV b hb).1) (eP _ _ _);have hc:w.cell? (p.r,6)=some (aY x.leads):=L.facts.1.1 6;go_in;rcases bB x.leads with hl|hl
 ·have HR:Hid (R=x.accepts):=Q (by rw[HR.out,aA hl])
  rw[hl] at hc;replace hl:=Q hl;go_wp2_with fail;refine (St.call (a:=dS p g x) (b:=[]) (a':=λj:E×List Sd => .o (dY j.1 j.2)::dS p g x) (by rw[bm];exact L) (λ_=>⟨dY.framed _ _,eP _ _ _⟩) (D:=λ_=>False) (λ_ h=>h.elim) (ry w p g x X)).mono ?_;rintro en w8 ⟨j,⟨rfl,hj⟩,gM⟩;rw[bm] at gM;go_wp2;go_ret;obtain⟨r1,r2⟩:=gM.fin;rw[HR.out];first|exact⟨j,⟨rfl,hj⟩,r1,r2⟩|exact⟨j.1,j.2,⟨rfl,hj⟩,r1,r2⟩
 ·have HR:Hid (R=[]):=Q (by rw[HR.out,aB (by rw[hl];exact cj)])
  rw[hl] at hc;replace hl:=Q hl;go_wp2;go_ret;obtain⟨r1,r2⟩:=ou L;rw[HR.out];first|exact⟨(Y none 0 0,[]),⟨rfl,rfl⟩,r1,r2⟩|exact⟨Y none 0 0,[],⟨rfl,rfl⟩,r1,r2⟩
section
variable{l':List Bl}{B aet:Nat}{s:RS}
def im(L:St V w0 l w)(i:Nat)(hi:l[i]?=some (.c r 237 cs))(h:kX r B aet s O)(ho:fX r w O):∃cs',St V w0 (l.set i (.c r 237 cs')) O:=by obtain⟨_,A,n,c,l1,b,_,hB,_⟩:=h;exact⟨_,L.turned i hi (dP.jW ho rfl) hB⟩
def gL(xE:∀b,b<B->b<(w0:Nat)∧¬ V b)(h:kX r B aet s w)(L:St V w0 l w)(AL:St V w0 l' O)(i i':Nat)(hi:l[i]?=some (.c r 237 cs))(va:l'[i']?=some (.c r 237 cs)):kX r B aet s O:=by
 obtain⟨h0,A,n,c,l1,b,I,hB,Z,T⟩:=h;have e:#[Y A n c,aY b]=cs:=by have h4:=hB.symm.trans (L.blk i hi);injection h4 with h4;injection h4
 have K:∀b,b<B->O.heap[b]?=w.heap[b]?:=λb hb=>(AL.keep (D:=λb=>b<B) xE b hb).trans (L.keep (D:=λb=>b<B) xE b hb).symm;exact⟨h0,A,n,c,l1,b,I,e▸AL.blk i' va,Reads.keep Z λp hp=>World.cell?_of_block (K _ hp),T⟩
end
def xc:mr mO:=λw O D x h K=>zG.framed x w O D h K
def NY(u:E)(q:List El):ei:=iG 40 9 El.cells mO u q
theorem NY.framed(u:E)(q:List El):eQ (NY u q):=iG.framed xc u q
def pG:Nat->RS->List En->RS->Prop
 | 0,s,q,s'=>q=[]∧s'=s
 | n+1,s,q,s'=>∃e q1,q=e::q1∧(gG s).2≠none∧Ee (gG s).1 e∧pG n (gG s).2 q1 s'
def rC(s:RS)(q:List En)(s':RS):Prop:=pG (gE 128 s).1 (gE 128 s).2 q s'∧s'≠none
def Ee.one{l:aT}{e e':En}(h:Ee l e)(h':Ee l e'):e=e':=(Prod.mk.inj (h.1.symm.trans h'.1)).1
def a3n(s:RS)(w O:G)(en:Ending)(s':RS):Prop:=∃(A:aU)(c:Nat)(q:List El)(b:Bool),en=b5 (a_ #[Y A q.length c,aY b])∧kO O (New w O) A q∧(q.length<=c∧c<=dL)∧(∀x∈q,x.e.Ok)∧q.length<=128∧(b=true->rC s (q.map El.e) s')∧(b=false->∀aes S,¬ rC s aes S)
set_option maxRecDepth 100000
set_option maxHeartbeats 1000000
def K5(w:G)(r B aet:Nat)(s0:RS)(h:kX r B aet s0 w)(hN:aet<=1000000)(Oz:B<=(w:Nat)):dF N 142 #[r] w λen O=>∃s',a3n s0 w O en s'∧kX r B aet s' O∧dP (λb=>b=r) w O:=by
 have wu:B<=r:=h.1;have hrw:=h.lt;have xE:∀b,b<B->b<(w:Nat)∧¬ b=r:=λb hb=>⟨by omega,by omega⟩;obtain⟨cs0,L⟩:∃cs0,St (λb=>b=r) w [.c r 237 cs0] w:=by obtain⟨_,A,n,c,l1,b,_,hB,_⟩:=id h;exact⟨_,St.begin_ (l:=[.c r 237 _]) (zD (S:=Cell r 237 _) ⟨rfl,hB⟩) (λb hb=>by rw[show b=r from hb];exact hrw) ⟨trivial,trivial⟩⟩
 go_in;go_wp2_with fail;refine (mA w r B aet 128 _ h).mono ?_;rintro e w1 ⟨m,s1,q1,hm,rfl,mK,AO⟩;obtain⟨cs1,eC⟩:=im L 0 rfl mK AO;clear L;go_wp2_with fail;go_loopw [4,9] (λu i wr=>∃(k:Nat)(q:List El)(cs:aP)(s2:RS),k<=m∧i=J k∧q.length=k∧((∀x∈q,x.e.Ok)∧Hid (∀aes S,pG m s1 aes S↔∃q2,aes=q.map El.e++q2∧pG (m-k) s2 q2 S)∧Hid (k=0∨s2≠none))∧St (λb=>b=r) w [.o (NY u q),.c r 237 cs] wr∧kX r B aet s2 wr) (λ_ i _=>m-(intOf i).toNat);case atStart=>exact⟨0,[],cs1,s1,by omega,rfl,rfl,⟨λx X=>absurd X (by simp),Q (λaes S=>⟨λh=>⟨aes,rfl,h⟩,λ⟨q2,I,Z⟩=>by rw[I];exact Z⟩),Q (.inl rfl)⟩,St.join eC (NY.framed _ _) (Grow.refl _) (U:=λ_=>False) (iG.nil _ _) (λ_ h=>h.elim),mK⟩
 case round=>
  obtain⟨k,q,cs,s2,BJ,rfl,iH,⟨xl,TH,jB⟩,ec,ig⟩:=hrel;obtain⟨Au,cu,rfl,hcu1,hcu2⟩:=St.sl (e:=40) (size:=9) (cells:=El.cells) (good:=mO) ec;replace iH:=Q iH;replace xl:=Q xl;by_cases K:k<m
  ·have dk:decide ((k:Int)<(m:Int))=true:=aC ap
   go_wp2_with fail;refine (DY wr r B aet _ ig).mono ?_;rintro e w3 ⟨x,s3,q3,hs,rfl,kj,pM⟩;obtain⟨s,Hs⟩:=az (⟨x.toArray⟩:ByteArray);have hss:s.size<=aet:=by rw[Hs.out];show x.toArray.size<=aet;rw[cE];exact hs
   have hsx:s.data.toList=x:=by rw[Hs.out]
   rw[<-Hs.out];have iD:Hid (∀q2 S,pG (m-k) s2 q2 S↔∃e q3,q2=e::q3∧s3≠none∧Ee x e∧pG (m-(k+1)) s3 q3 S):=Q (λq2 S=>by rw[show m-k=(m-(k+1))+1 by omega];show (∃e q1,q2=e::q1∧(gG s2).2≠none∧Ee (gG s2).1 e∧pG (m-(k+1)) (gG s2).2 q1 S)↔_;rw[q3.out])
   obtain⟨LQ,eh⟩:=im ec 1 rfl kj pM;clear ec ig;have hcv:=Lib.run_convert_string_bytes (P:=N) w3 9 23 5 s (u := .string) c_ dh dw;have vj:=qA w3 5 s;obtain⟨Ac,nc,cc,tQ,hbc,Zx,Zy⟩:=sQ w3 5 s ap;rw[tQ] at hcv;clear tQ;obtain⟨wc,HC⟩:=az (Lib.bytesWorld w3 5 s);rw[<-HC.out] at hcv vj hbc;have eU:=eh.grow vj;have pB:=kj.grow vj;have hE:=LL wc Ac nc cc aet s.data.toList hbc (by have e:s.data.toList.length=s.size:=ch;omega) hN Zx Zy;rw[hsx] at hE;clear hbc;go_wp2_with fail;refine hE.mono ?_;rintro en w5 ⟨hP,sk⟩;have eI:=eU.grow sk;have rV:=pB.grow sk;have nil:∀O,(∀e,¬ (s3≠none∧Ee x e))->St (λb=>b=r) w [.o (NY (Y Au q.length cu) q),.c r 237 LQ] O->kX r B aet s3 O->(∃s',a3n s0 w O (b5 (a_ #[ay,aY false])) s'∧kX r B aet s' O∧dP (λb=>b=r) w O):=λO h0 I Z=>⟨s3,⟨none,0,[],false,rfl,⟨⟨by simp,λh=>by simp at h⟩,λx X=>absurd X (by simp)⟩,⟨bh _,bo _⟩,λx X=>absurd X (by simp),by simp,(λh=>by cases h),λ_ aes S h=>by have T:=h.1;rw[q1.out] at T;obtain⟨q2,_,h4⟩:=(TH.out aes S).1 T;obtain⟨e,q5,_,h5,h6,_⟩:=(iD.out q2 S).1 h4;exact h0 e ⟨h5,h6⟩⟩,Z,I.fin.2⟩
   rcases hP with ⟨aep,Ae,ce,rfl,NZ,hEl⟩|⟨aep,OD,rfl,a86⟩
   ·have gS:=NZ.2
    obtain⟨E1,Zz⟩:=az aep;rw[<-Zz.out] at NZ;replace NZ:=Q NZ;obtain⟨ek,ag,sh,sq,ep,ds,se,fr,tg⟩:=aep;unfold En.agg at *;dsimp only at *;obtain⟨y,w6,HY,H6,eS⟩:=eI.new' #[J ek,J ag,J sh,J sq,J ep,Y Ae ds.length ce,aX se,J fr,J tg] 40;have vg:Grow w5 w6:=by rw[H6.out];exact fc _ _
    have xA:=rV.grow vg;have hc:=eS.facts;simp only[fE] at hc;go_wp2_with fail;rw[<-H6.out,<-HY.out];refine (Jk w6 r B aet _ xA).mono ?_;rintro e w7 ⟨rfl,rfl⟩;obtain⟨b,Hb⟩:=az (s3.isNone);rw[<-Hb.out];have a87:mO w6 (New wc w6) ⟨⟨ek,ag,sh,sq,ep,ds,se,fr,tg⟩,Ae,ce⟩:=jF _ _ _ _ (zG.framed _ w5 w6 _ hEl λb hb=>vg.block _ hb.2) λb hb=>⟨hb.1,bu hb.2 vg.size⟩;rcases bB b with Mx|Mx
    ·subst Mx
     go_wp2;go_ret2;exact nil _ (λe h=>h.1 (by have:=Hb.out;cases s3 with|none=>rfl|some _=>cases this)) (eI.grow vg) xA
    ·subst Mx
     go_wp2_with (at_builtin;refine stay ?_);refine dN ?_;refine lP Jt xc jF pZ Jr rfl (.tmp 24) (.tmp 26) rfl rfl eU (sk.trans vg) (b:=⟨⟨ek,ag,sh,sq,ep,ds,se,fr,tg⟩,Ae,ce⟩) a87 (by have:=iH.out;omega) 1 rfl ?_;intro v' O AL;have AL:St (λb=>b=r) w [.o (NY v' (q++[⟨⟨ek,ag,sh,sq,ep,ds,se,fr,tg⟩,Ae,ce⟩])),.c r 237 LQ] O:=AL;have B7:=gL xE pB eU AL 1 1 rfl rfl;clear hc eU eI eS pB rV xA;go_wp2_with fail;exact⟨⟨k+1,q++[⟨⟨ek,ag,sh,sq,ep,ds,se,fr,tg⟩,Ae,ce⟩],LQ,s3,by omega,rfl,by rw[bd,bw,iH.out],⟨λx X=>(List.mem_append.1 X).elim (xl.out x) λh=>by rw[List.mem_singleton.1 h];exact gS,Q (λaes S=>by
      rw[TH.out aes S];refine⟨λ⟨q2,I,Z⟩=>?_,λ⟨q2,I,Z⟩=>?_⟩
      ·obtain⟨e,q5,T,h4,h5,h6⟩:=(iD.out q2 S).1 Z
       refine⟨q5,?_,h6⟩;rw[I,T,h5.one NZ.out,Zz.out];simp
      ·refine⟨_::q2,by rw[I];simp,(iD.out _ S).2 ⟨_,q2,rfl,?_,Zz.out▸NZ.out,Z⟩⟩
       have:=Hb.out;cases s3 with|none=>cases this|some _=>exact λh=>by cases h),Q (.inr (by
      have:=Hb.out;cases s3 with|none=>cases this|some _=>exact λh=>by cases h))⟩,AL,B7⟩,by simp only[intOf];omega⟩
   ·have P3:(aep != 0)=true:=by simp[OD]
    replace OD:=Q OD;obtain⟨y,w6,HY,H6,eS⟩:=eI.new' aK 40;have vg:Grow w5 w6:=by rw[H6.out];exact fc _ _
    have xA:=rV.grow vg;unfold En.agg at *;dsimp only[En.zero,cx] at *;go_wp2_with fail;rw[<-H6.out];refine (Jk w6 r B aet _ xA).mono ?_;rintro e w7 ⟨rfl,rfl⟩;obtain⟨b,Hb⟩:=az (s3.isNone);rw[<-Hb.out];rcases bB b with Mx|Mx
    all_goals
     subst Mx
     go_wp2
     go_ret2
     exact nil _ (λe h=>a86 e h.2) (eI.grow vg) xA
  ·obtain rfl:k=m:=by omega
   have dk:decide ((k:Int)<(k:Int))=false:=aD ap;go_wp2_with fail;refine (Jk wr r B aet _ ig).mono ?_;rintro e w9 ⟨rfl,rfl⟩;obtain⟨b,Hb⟩:=az (s2.isNone);rw[<-Hb.out];go_wp2;go_ret2;have AV:=iH.out;obtain⟨V1,hM,hV1⟩:=ec.own.2;obtain⟨U1,U2,ly,sW,k1,k2,k3⟩:=hM;obtain⟨A',c',he,OH,vd,g1,g2⟩:=iG.kB jF ly;injection he with Mj he2 he3;subst Mj;subst he3;obtain⟨U3,U4,hcr,_,j1,_,_⟩:=sW;have hU1:∀b,U1 b->New w wr b:=λb hb=>by
    have h9:=hV1 b (k1 b hb);refine⟨?_,h9.2⟩;rcases h9.1 with h8|h8
    ·have h8:b=r:=h8
     exact absurd (k2 r (j1 r hcr.1)) (λ_=>k3 b hb (by rw[h8];exact j1 r hcr.1))
    ·exact h8
   refine⟨s2,⟨_,_,q,!b,rfl,⟨In.mono OH hU1,λx X=>jF _ _ _ _ (vd x X) hU1⟩,⟨g1,g2⟩,xl.out,by omega,λh=>?_,λh aes S hq=>?_⟩,ig,ec.fin.2⟩
   ·refine⟨by rw[q1.out];exact (TH.out _ _).2 ⟨[],by simp,by rw[Nat.sub_self];exact⟨rfl,rfl⟩⟩,λe=>?_⟩
    have:=Hb.out;subst e;rw[show b=true from this] at h;cases h
   ·have T:=hq.1
    rw[q1.out] at T;obtain⟨q2,_,h4⟩:=(TH.out aes S).1 T;rw[Nat.sub_self] at h4;have:=Hb.out;apply hq.2;rw[h4.2];cases s2 with
    | none=>rfl
    | some _=>rw[show b=false from this] at h;cases h
def K6(k:Nat)(s:RS)(m:Ms)(s':RS):Prop:=
 if k=1 then ∃e,Ee (gG s).1 e∧m=lH e∧s'=(gG s).2
 else if k=2 then m=fD ((gI s).1:Int) ((gE 255 (gI s).2).1:Int) (lz (gE 255 (gI s).2).2).1∧s'=(lz (gE 255 (gI s).2).2).2
 else if k=4 then ∃q,rC (gI (gI s).2).2 q s'∧m=iB (gI s).1 (gI (gI s).2).1 q
 else if k=5 then ∃q,rC (gE 128 (gI s).2).2 q s'∧m=lB (gI s).1 q (gE 128 (gI s).2).1
 else if k=6 then m=mS (gI s).1 (gE 128 (gI s).2).1∧s'=(gE 128 (gI s).2).2
 else m={ Ms.zero with k:=(k:Int),term:=((gI s).1:Int) }∧s'=(gI s).2
def ZA(k:Nat)(s:RS)(w O:G)(en:Ending)(s':RS):Prop:=∃(m:Ms)(A:aU)(c:Nat)(A2:aU)(c2:Nat)(q:List El)(ok:Bool),en=b5 (a_ #[aZ (nF m A c A2 c2),aY ok])∧Sd.In O (New w O) ⟨0,m,A,c,A2,q,c2⟩∧(ok=true->(m.Gd∨m.k<1∨6<m.k)∧K6 k s m s')∧(ok=false->∀M S,¬ K6 k s M S)∧(m.k≠1->A=none∧c=0)∧(m.k≠4->m.k≠5->A2=none∧c2=0)
def K7{b:Bl}(L:St (λb=>b=r) w0 l w)(i j:Nat)(hi:l[i]?=some b)(hj:(l.eraseIdx i)[j]?=some (.c r t cs)):∃U:aV,b.th w U∧∀x,U x->New w0 w x:=by
 obtain⟨_,V1,hM,hV⟩:=(L.front i hi).own;obtain⟨U1,U2,hb,W,k1,k2,k3⟩:=hM;have B7:=dU.perm ((nN hj).map Bl.th) W;obtain⟨U3,U4,hc,_,j1,_,_⟩:=B7;refine⟨U1,hb,λx X=>⟨?_,(hV x (k1 x X)).2⟩⟩;rcases (hV x (k1 x X)).1 with h8|h8
 ·exact absurd (j1 r hc.1) (by rw[<-show x=r from h8];exact k3 x X)
 ·exact h8
def elz(w:G)(D:aV):mO w D ⟨En.zero,none,0⟩:=⟨⟨by simp[En.zero,fw],λh=>by simp[En.zero] at h⟩,bh _,bo _,bo _⟩
def Eo(w:G)(D:aV)(m:Ms)(he:m.e=En.zero)(hl:m.log=[]):Sd.In w D ⟨0,m,none,0,none,[],0⟩:=⟨by show mO w D ⟨m.e,none,0⟩;rw[he];exact elz w D,kO.nil,hl.symm,bh _,bo _⟩
set_option maxRecDepth 100000
set_option maxHeartbeats 4000000
def VD(w:G)(r B aet k:Nat)(s0:RS)(h:kX r B aet s0 w)(hN:aet<=1000000)(Oz:B<=(w:Nat))(K:k<=255):dF N 78 #[r,J k] w λen O=>∃s',ZA k s0 w O en s'∧kX r B aet s' O∧dP (λb=>b=r) w O:=by
 have wu:B<=r:=h.1;have hrw:=h.lt;have xE:∀b,b<B->b<(w:Nat)∧¬ b=r:=λb hb=>⟨by omega,by omega⟩;obtain⟨cs0,L⟩:∃cs0,St (λb=>b=r) w [.c r 237 cs0] w:=by obtain⟨_,A,n,c,l1,b,_,hB,_⟩:=id h;exact⟨_,St.begin_ (l:=[.c r 237 _]) (zD (S:=Cell r 237 _) ⟨rfl,hB⟩) (λb hb=>by rw[show b=r from hb];exact hrw) ⟨trivial,trivial⟩⟩
 have eC:=(L.new aJ 45).new aJ 45;rw[fy] at eC;obtain⟨x,HX⟩:=az ((w:Nat));obtain⟨y,HY⟩:=az ((w:Nat)+1);have zl:Hid (y=x+1):=Q (by rw[HY.out,HX.out]);go_in;go_wp2_with (refine er eC 0 rfl 45 _ _ rfl 0 rfl [J k,(),(),(),(),(),ay,"",(),(),(),(),ae ah 0,(),(),ay,(),()] rfl (bf rfl) rfl aw #[J k,(),(),(),(),(),ay,"",(),(),(),(),ae ah 0,(),(),ay,(),()] rfl rfl ?_;intro wb ec;refine stay ?_);refine dN ?_;rw[<-HX.out,<-zl.out];rw[<-HX.out,<-zl.out] at ec;have ec:St (λb=>b=r) w [.c y 45 #[J k,(),(),(),(),(),ay,"",(),(),(),(),ae ah 0,(),(),ay,(),()],.c x 45 aJ,.c r 237 cs0] wb:=ec;have ig:=gL xE h L ec 0 2 rfl rfl;clear L eC h;by_cases iM:k=2
 ·have qL:=iM
  have d1:((k:Int) == 1)=false:=by simp;omega
  have d2:((k:Int) == 2)=true:=by simp;omega
  replace qL:=Q qL;go_wp2_with fail;clear iM;go_wp2_with fail;refine (nP wb r B aet _ ig).mono ?_;rintro e w3 ⟨tg,s3,q3,Nk,rfl,kj,pM⟩;obtain⟨LQ,eh⟩:=im ec 2 rfl kj pM;clear ig ec;go_wp2_with fail;refine (mA w3 r B aet 255 _ kj).mono ?_;rintro e w4 ⟨co,s4,q4,hco,rfl,pB,UW⟩;obtain⟨cs4,eU⟩:=im eh 2 rfl pB UW;clear kj eh;go_wp2_with fail;refine (N8 w4 r B aet _ pB).mono ?_;rintro e w5 ⟨nn,s5,q5,hnn,rfl,rV,Vl⟩;obtain⟨cs5,eI⟩:=im eU 2 rfl rV Vl;clear pB eU;go_wp2_with (refine fB eI 0 rfl 2 _ _ rfl 10 rfl (J tg) rfl (bf rfl) rfl aw rfl ?_;intro w6 eS;refine stay ?_);refine dN ?_;have xA:=gL xE rV eI eS 2 2 rfl rfl;clear rV eI;go_wp2_with (refine fB eS 0 rfl 3 _ _ rfl 11 rfl (J co) rfl (bf rfl) rfl aw rfl ?_;intro w7 fQ;refine stay ?_);refine dN ?_;have zJ:=gL xE xA eS fQ 2 2 rfl rfl;clear xA eS;go_wp2_with (refine fB fQ 0 rfl 42 _ _ rfl 12 rfl (ae ah nn) rfl (bf rfl) rfl aw rfl ?_;intro w8 fK;refine stay ?_);refine dN ?_;have NP:=gL xE zJ fQ fK 2 2 rfl rfl;clear zJ fQ;simp only[bJ,bI,bL] at fK;obtain rfl:=qL.out;go_wp2_with (refine ln fK 0 rfl 45 _ rfl rfl bG aw rfl ?_;refine stay ?_);refine dN ?_;go_wp2_with (refine er fK 1 rfl 45 _ _ rfl 0 rfl [J ((2:Nat):Int),(),(),(),(),(),ay,"",(),(),J tg,J co,ae ah nn,(),(),ay,(),()] rfl (bf rfl) rfl aw #[J ((2:Nat):Int),(),(),(),(),(),ay,"",(),(),J tg,J co,ae ah nn,(),(),ay,(),()] rfl rfl ?_;intro wz lM;refine stay ?_);refine dN ?_;have RH:=gL xE NP fK lM 2 2 rfl rfl;go_wp2;refine bodyPost_ret (ej rfl _ x rfl (lM.blk 1 rfl) bG aw) rfl ?_;exact⟨s5,⟨fD tg co nn,none,0,none,0,[],true,rfl,Eo _ _ _ rfl rfl,λ_=>⟨.inl (.ans tg co nn Nk hco ap),by show fD (tg:Int) (co:Int) nn=fD ((gI s0).1:Int) ((gE 255 (gI s0).2).1:Int) (lz (gE 255 (gI s0).2).2).1∧s5=(lz (gE 255 (gI s0).2).2).2;rw[q3.out];dsimp only;rw[q4.out];dsimp only;rw[q5.out];exact⟨rfl,rfl⟩⟩,(λh=>by cases h),λ_=>⟨rfl,rfl⟩,λ_ _=>⟨rfl,rfl⟩⟩,RH,lM.fin.2⟩
 by_cases jb:k=1
 ·have qL:=jb
  have d1:((k:Int) == 1)=true:=by simp;omega
  replace qL:=Q qL;go_wp2_with fail;clear jb;go_wp2_with fail;refine (DY wb r B aet _ ig).mono ?_;rintro e w3 ⟨xt,s3,q3,hs,rfl,kj,pM⟩;obtain⟨s,Hs⟩:=az (⟨xt.toArray⟩:ByteArray);have hss:s.size<=aet:=by rw[Hs.out];show xt.toArray.size<=aet;rw[cE];exact hs
  have hsx:s.data.toList=xt:=by rw[Hs.out]
  rw[<-Hs.out];obtain⟨LQ,eh⟩:=im ec 2 rfl kj pM;clear ig ec;have hcv:=Lib.run_convert_string_bytes (P:=N) w3 9 23 5 s (u := .string) c_ dh dw;have vj:=qA w3 5 s;obtain⟨Ac,nc,cc,tQ,hbc,Zx,Zy⟩:=sQ w3 5 s ap;rw[tQ] at hcv;clear tQ;obtain⟨wc,HC⟩:=az (Lib.bytesWorld w3 5 s);rw[<-HC.out] at hcv vj hbc;have eU:=eh.grow vj;have pB:=kj.grow vj;have hE:=LL wc Ac nc cc aet s.data.toList hbc (by have e:s.data.toList.length=s.size:=ch;omega) hN Zx Zy;rw[hsx] at hE;clear hbc;go_wp2_with fail;refine hE.mono ?_;rintro en w5 ⟨hP,sk⟩;clear hE;have rV:=pB.grow sk;obtain⟨aep,Ae,ce,F,rfl,hEl,hF⟩:∃(aep:En)(A:aU)(c:Nat)(F:Int),en=b5 (a_ #[aZ (aep.agg A c),J F])∧mO w5 (New wc w5) ⟨aep,A,c⟩∧(F=0->Ee xt aep)∧(F≠0->∀e,¬ Ee xt e):=by
   rcases hP with ⟨aep,Ae,ce,rfl,gS,hEl⟩|⟨F,hF,rfl,kS⟩
   ·exact⟨aep,Ae,ce,0,rfl,hEl,λ_=>gS,λh=>absurd rfl h⟩
   ·exact⟨En.zero,none,0,F,rfl,elz _ _,λh=>absurd h hF,λ_=>kS⟩
  have eI:=St.join eU (zG.framed ⟨aep,Ae,ce⟩) sk (U:=New wc w5) hEl λb hb=>hb;clear eh eU kj pB vj;obtain⟨E1,Zz⟩:=az aep;rw[<-Zz.out] at hF;replace hF:=Q hF;obtain⟨ek,ag,sh,sq,ep,ds,se,fr,tg⟩:=aep;unfold En.agg at *;dsimp only at *;obtain⟨z,w6,HZ,H6,eS⟩:=eI.new' #[J ek,J ag,J sh,J sq,J ep,Y Ae ds.length ce,aX se,J fr,J tg] 40;have eS:St (λb=>b=r) w [.c z 40 #[J ek,J ag,J sh,J sq,J ep,Y Ae ds.length ce,aX se,J fr,J tg],.o (zG ⟨⟨ek,ag,sh,sq,ep,ds,se,fr,tg⟩,Ae,ce⟩),.c y 45 #[J k,(),(),(),(),(),ay,"",(),(),(),(),ae ah 0,(),(),ay,(),()],.c x 45 aJ,.c r 237 LQ] w6:=eS;have vg:Grow w5 w6:=by rw[H6.out];exact fc _ _
  have xA:=rV.grow vg;clear eI rV;rcases (inferInstance:Decidable (F=0)) with BW|BW
  case' isTrue=>have R6:(F == 0)=true:=beq_iff_eq.2 BW
  case' isFalse=>have R6:(F == 0)=false:=beq_eq_false_iff_ne.2 BW
  all_goals
   replace BW:=Q BW
   go_wp2_with (first|(rw[<-H6.out,<-HZ.out];refine ln eS 0 rfl 40 _ rfl rfl Tryz.underlying40 aw rfl ?_;refine stay ?_))
   refine dN ?_
   go_wp2_with (refine er eS 2 rfl 40 _ _ rfl 1 rfl [J ek,J ag,J sh,J sq,J ep,Y Ae ds.length ce,aX se,J fr,J tg] rfl (bf rfl) rfl aw #[J k,J ek,J ag,J sh,J sq,J ep,Y Ae ds.length ce,aX se,J fr,J tg,(),(),ae ah 0,(),(),ay,(),()] rfl rfl ?_;intro w7 fQ;refine stay ?_)
   refine dN ?_
   have zJ:=gL xE xA eS fQ 4 4 rfl rfl
   clear eS xA
   obtain rfl:=qL.out
   go_wp2_with (refine ln fQ 2 rfl 45 _ rfl rfl bG aw rfl ?_;refine stay ?_)
   refine dN ?_
   go_wp2_with (refine er fQ 3 rfl 45 _ _ rfl 0 rfl [J ((1:Nat):Int),J ek,J ag,J sh,J sq,J ep,Y Ae ds.length ce,aX se,J fr,J tg,(),(),ae ah 0,(),(),ay,(),()] rfl (bf rfl) rfl aw #[J ((1:Nat):Int),J ek,J ag,J sh,J sq,J ep,Y Ae ds.length ce,aX se,J fr,J tg,(),(),ae ah 0,(),(),ay,(),()] rfl rfl ?_;intro wz lM;refine stay ?_)
   refine dN ?_
   have RH:=gL xE zJ fQ lM 4 4 rfl rfl
   go_wp2
   refine bodyPost_ret (ej rfl _ x rfl (lM.blk 3 rfl) bG aw) rfl ?_
   obtain⟨U1,I,j1⟩:=K7 lM 1 3 rfl rfl
   have HIN:Sd.In wz (New w wz) ⟨0,lH ⟨ek,ag,sh,sq,ep,ds,se,fr,tg⟩,Ae,ce,none,[],0⟩:=⟨jF _ _ _ _ (show mO wz U1 ⟨⟨ek,ag,sh,sq,ep,ds,se,fr,tg⟩,Ae,ce⟩ from I) j1,kO.nil,rfl,bh _,bo _⟩
   have T:∀e,Ee xt e->K6 1 s0 (lH e) s3:=λe he=>by show ∃e',Ee (gG s0).1 e'∧lH e=lH e'∧s3=(gG s0).2;rw[q3.out];exact⟨e,he,rfl,rfl⟩
   have h4:(∀e,¬ Ee xt e)->∀M S,¬ K6 1 s0 M S:=λhe M S h=>by obtain⟨e',h5,_⟩:=(show ∃e',Ee (gG s0).1 e'∧M=lH e'∧S=(gG s0).2 from h);rw[q3.out] at h5;exact he e' h5
   refine⟨s3,⟨lH ⟨ek,ag,sh,sq,ep,ds,se,fr,tg⟩,Ae,ce,none,0,[],_,rfl,HIN,λP3=>?_,λP3=>?_,λh=>absurd rfl h,λ_ _=>⟨rfl,rfl⟩⟩,RH,lM.fin.2⟩
   ·first|exact⟨.inl (.ask _ (Zz.out▸(hF.out.1 BW.out).2)),Zz.out▸T _ (hF.out.1 BW.out)⟩|exact absurd P3 am
   ·first|exact h4 (hF.out.2 BW.out)|exact absurd P3 am
 by_cases jw:k=4
 ·have qL:=jw
  have d1:((k:Int) == 1)=false:=by simp;omega
  have d2:((k:Int) == 2)=false:=by simp;omega
  have d4:((k:Int) == 4)=true:=by simp;omega
  replace qL:=Q qL;go_wp2_with fail;clear jw;go_wp2_with fail;refine (nP wb r B aet _ ig).mono ?_;rintro e w3 ⟨te,s3,q3,My,rfl,kj,pM⟩;obtain⟨LQ,eh⟩:=im ec 2 rfl kj pM;clear ig ec;go_wp2_with (refine fB eh 0 rfl 2 _ _ rfl 13 rfl (J te) rfl (bf rfl) rfl aw rfl ?_;intro w4 eU;refine stay ?_);refine dN ?_;have pB:=gL xE kj eh eU 2 2 rfl rfl;clear kj eh;go_wp2_with fail;refine (nP w4 r B aet _ pB).mono ?_;rintro e w5 ⟨ha,s5,q5,hha,rfl,rV,Vl⟩;obtain⟨cs5,eI⟩:=im eU 2 rfl rV Vl;clear pB eU;go_wp2_with (refine fB eI 0 rfl 2 _ _ rfl 14 rfl (J ha) rfl (bf rfl) rfl aw rfl ?_;intro w6 eS;refine stay ?_);refine dN ?_;have xA:=gL xE rV eI eS 2 2 rfl rfl;clear rV eI;go_wp2_with fail;refine (K5 w6 r B aet _ xA hN (bA Oz eS.size)).mono ?_;rintro en w7 ⟨s7,⟨Aq,cq,q,bq,rfl,Ij,⟨ZB,ZC⟩,xl,iH,rN,kS⟩,zJ,Zd⟩;replace rN:=Q rN;replace kS:=Q kS;obtain⟨_,A',n',c',l',b',_,hB7,_⟩:=id zJ;have fQ:=(eS.front 2 rfl).rv Zd hB7 (gg.framed Aq q) Ij λb hb=>hb;have RI:=zJ;clear eS xA hB7 Ij Zd zJ;replace xl:=Q xl;replace iH:=Q iH;have zJ:=RI;clear RI;go_wp2_with (refine fB fQ 2 rfl 43 _ _ rfl 15 rfl (Y Aq q.length cq) rfl (bf rfl) rfl aw rfl ?_;intro w8 fK;refine stay ?_);refine dN ?_;have NP:=gL xE zJ fQ fK 1 1 rfl rfl;clear zJ fQ;simp only[bJ,bI,bL] at fK;obtain rfl:=qL.out;go_wp2_with (refine ln fK 2 rfl 45 _ rfl rfl bG aw rfl ?_;refine stay ?_);refine dN ?_;go_wp2_with (refine er fK 3 rfl 45 _ _ rfl 0 rfl [J ((4:Nat):Int),(),(),(),(),(),ay,"",(),(),(),(),ae ah 0,J te,J ha,Y Aq q.length cq,(),()] rfl (bf rfl) rfl aw #[J ((4:Nat):Int),(),(),(),(),(),ay,"",(),(),(),(),ae ah 0,J te,J ha,Y Aq q.length cq,(),()] rfl rfl ?_;intro wz lM;refine stay ?_);refine dN ?_;have RH:=gL xE NP fK lM 1 1 rfl rfl;go_wp2;refine bodyPost_ret (ej rfl _ x rfl (lM.blk 3 rfl) bG aw) rfl ?_;obtain⟨U1,I,j1⟩:=K7 lM 0 0 rfl rfl;have Iu:(q.map El.e).length=q.length:=bj ..;have HIN:Sd.In wz (New w wz) ⟨0,iB te ha (q.map El.e),none,0,Aq,q,cq⟩:=⟨elz _ _,kO.mono (show kO wz U1 Aq q from I) j1,rfl,ZB,ZC⟩;have RJ:∀M S,K6 4 s0 M S↔∃aes,rC s5 aes S∧M=iB te ha aes:=λM S=>by show (∃q,rC (gI (gI s0).2).2 q S∧M=iB (gI s0).1 (gI (gI s0).2).1 q)↔_;rw[q3.out];dsimp only;rw[q5.out]
  refine⟨s7,⟨iB te ha (q.map El.e),none,0,Aq,cq,q,bq,?_,HIN,λhb=>⟨.inl (.prom te ha _ My hha (λe he=>by obtain⟨x,X,rfl⟩:=List.mem_map.1 he;exact xl.out x X) (by rw[Iu];exact iH.out)),(RJ _ _).2 ⟨_,rN.out hb,rfl⟩⟩,λhb M S h=>by obtain⟨aes,h5,_⟩:=(RJ M S).1 h;exact kS.out hb aes S h5,λ_=>⟨rfl,rfl⟩,λI Z=>absurd rfl I⟩,RH,lM.fin.2⟩;unfold nF Ms.cells iB Ms.zero;dsimp only;rw[Iu];rfl
 by_cases oG:k=5
 ·have qL:=oG
  have d1:((k:Int) == 1)=false:=by simp;omega
  have d2:((k:Int) == 2)=false:=by simp;omega
  have d4:((k:Int) == 4)=false:=by simp;omega
  have d5:((k:Int) == 5)=true:=by simp;omega
  replace qL:=Q qL;go_wp2_with fail;clear oG;go_wp2_with fail;refine (nP wb r B aet _ ig).mono ?_;rintro e w3 ⟨te,s3,q3,My,rfl,kj,pM⟩;obtain⟨LQ,eh⟩:=im ec 2 rfl kj pM;clear ig ec;go_wp2_with (refine fB eh 0 rfl 2 _ _ rfl 13 rfl (J te) rfl (bf rfl) rfl aw rfl ?_;intro w4 eU;refine stay ?_);refine dN ?_;have pB:=gL xE kj eh eU 2 2 rfl rfl;clear kj eh;go_wp2_with fail;refine (mA w4 r B aet 128 _ pB).mono ?_;rintro e w5 ⟨ct,s5,q5,hct,rfl,rV,Vl⟩;obtain⟨cs5,eI⟩:=im eU 2 rfl rV Vl;clear pB eU;go_wp2_with (refine fB eI 0 rfl 3 _ _ rfl 16 rfl (J ct) rfl (bf rfl) rfl aw rfl ?_;intro w6 eS;refine stay ?_);refine dN ?_;have xA:=gL xE rV eI eS 2 2 rfl rfl;clear rV eI;go_wp2_with fail;refine (K5 w6 r B aet _ xA hN (bA Oz eS.size)).mono ?_;rintro en w7 ⟨s7,⟨Aq,cq,q,bq,rfl,Ij,⟨ZB,ZC⟩,xl,iH,rN,kS⟩,zJ,Zd⟩;replace rN:=Q rN;replace kS:=Q kS;obtain⟨_,A',n',c',l',b',_,hB7,_⟩:=id zJ;have fQ:=(eS.front 2 rfl).rv Zd hB7 (gg.framed Aq q) Ij λb hb=>hb;have RI:=zJ;clear eS xA hB7 Ij Zd zJ;replace xl:=Q xl;replace iH:=Q iH;have zJ:=RI;clear RI;go_wp2_with (refine fB fQ 2 rfl 43 _ _ rfl 15 rfl (Y Aq q.length cq) rfl (bf rfl) rfl aw rfl ?_;intro w8 fK;refine stay ?_);refine dN ?_;have NP:=gL xE zJ fQ fK 1 1 rfl rfl;clear zJ fQ;simp only[bJ,bI,bL] at fK;obtain rfl:=qL.out;go_wp2_with (refine ln fK 2 rfl 45 _ rfl rfl bG aw rfl ?_;refine stay ?_);refine dN ?_;go_wp2_with (refine er fK 3 rfl 45 _ _ rfl 0 rfl [J ((5:Nat):Int),(),(),(),(),(),ay,"",(),(),(),(),ae ah 0,J te,(),Y Aq q.length cq,J ct,()] rfl (bf rfl) rfl aw #[J ((5:Nat):Int),(),(),(),(),(),ay,"",(),(),(),(),ae ah 0,J te,(),Y Aq q.length cq,J ct,()] rfl rfl ?_;intro wz lM;refine stay ?_);refine dN ?_;have RH:=gL xE NP fK lM 1 1 rfl rfl;go_wp2;refine bodyPost_ret (ej rfl _ x rfl (lM.blk 3 rfl) bG aw) rfl ?_;obtain⟨U1,I,j1⟩:=K7 lM 0 0 rfl rfl;have Iu:(q.map El.e).length=q.length:=bj ..;have HIN:Sd.In wz (New w wz) ⟨0,lB te (q.map El.e) ct,none,0,Aq,q,cq⟩:=⟨elz _ _,kO.mono (show kO wz U1 Aq q from I) j1,rfl,ZB,ZC⟩;have RJ:∀M S,K6 5 s0 M S↔∃aes,rC s5 aes S∧M=lB te aes ct:=λM S=>by show (∃q,rC (gE 128 (gI s0).2).2 q S∧M=lB (gI s0).1 q (gE 128 (gI s0).2).1)↔_;rw[q3.out];dsimp only;rw[q5.out]
  refine⟨s7,⟨lB te (q.map El.e) ct,none,0,Aq,cq,q,bq,?_,HIN,λhb=>⟨.inl (.acc te _ ct My hct (λe he=>by obtain⟨x,X,rfl⟩:=List.mem_map.1 he;exact xl.out x X) (by rw[Iu];exact iH.out)),(RJ _ _).2 ⟨_,rN.out hb,rfl⟩⟩,λhb M S h=>by obtain⟨aes,h5,_⟩:=(RJ M S).1 h;exact kS.out hb aes S h5,λ_=>⟨rfl,rfl⟩,λI Z=>absurd rfl Z⟩,RH,lM.fin.2⟩;unfold nF Ms.cells lB Ms.zero;dsimp only;rw[Iu];rfl
 by_cases Xt:k=6
 ·have qL:=Xt
  have d1:((k:Int) == 1)=false:=by simp;omega
  have d2:((k:Int) == 2)=false:=by simp;omega
  have d4:((k:Int) == 4)=false:=by simp;omega
  have d5:((k:Int) == 5)=false:=by simp;omega
  have d6:((k:Int) == 6)=true:=by simp;omega
  replace qL:=Q qL;go_wp2_with fail;clear Xt;go_wp2_with fail;refine (nP wb r B aet _ ig).mono ?_;rintro e w3 ⟨te,s3,q3,My,rfl,kj,pM⟩;obtain⟨LQ,eh⟩:=im ec 2 rfl kj pM;clear ig ec;go_wp2_with (refine fB eh 0 rfl 2 _ _ rfl 13 rfl (J te) rfl (bf rfl) rfl aw rfl ?_;intro w4 eU;refine stay ?_);refine dN ?_;have pB:=gL xE kj eh eU 2 2 rfl rfl;clear kj eh;go_wp2_with fail;refine (mA w4 r B aet 128 _ pB).mono ?_;rintro e w5 ⟨ct,s5,q5,hct,rfl,rV,Vl⟩;obtain⟨cs5,eI⟩:=im eU 2 rfl rV Vl;clear pB eU;go_wp2_with (refine fB eI 0 rfl 3 _ _ rfl 17 rfl (J ct) rfl (bf rfl) rfl aw rfl ?_;intro w6 eS;refine stay ?_);refine dN ?_;have xA:=gL xE rV eI eS 2 2 rfl rfl;clear rV eI;simp only[bJ,bI,bL] at eS;obtain rfl:=qL.out;go_wp2_with (refine ln eS 0 rfl 45 _ rfl rfl bG aw rfl ?_;refine stay ?_);refine dN ?_;go_wp2_with (refine er eS 1 rfl 45 _ _ rfl 0 rfl [J ((6:Nat):Int),(),(),(),(),(),ay,"",(),(),(),(),ae ah 0,J te,(),ay,(),J ct] rfl (bf rfl) rfl aw #[J ((6:Nat):Int),(),(),(),(),(),ay,"",(),(),(),(),ae ah 0,J te,(),ay,(),J ct] rfl rfl ?_;intro wz lM;refine stay ?_);refine dN ?_;have RH:=gL xE xA eS lM 2 2 rfl rfl;go_wp2;refine bodyPost_ret (ej rfl _ x rfl (lM.blk 1 rfl) bG aw) rfl ?_;exact⟨s5,⟨mS te ct,none,0,none,0,[],true,rfl,Eo _ _ _ rfl rfl,λ_=>⟨.inl (.OS te ct My hct),by show mS te ct=mS (gI s0).1 (gE 128 (gI s0).2).1∧s5=(gE 128 (gI s0).2).2;rw[q3.out];dsimp only;rw[q5.out];exact⟨rfl,rfl⟩⟩,(λh=>by cases h),λ_=>⟨rfl,rfl⟩,λ_ _=>⟨rfl,rfl⟩⟩,RH,lM.fin.2⟩
 ·have qL:k≠1∧k≠2∧k≠4∧k≠5∧k≠6:=by omega
  have d1:((k:Int) == 1)=false:=by simp;omega
  have d2:((k:Int) == 2)=false:=by simp;omega
  have d4:((k:Int) == 4)=false:=by simp;omega
  have d5:((k:Int) == 5)=false:=by simp;omega
  have d6:((k:Int) == 6)=false:=by simp;omega
  clear jb iM jw oG Xt;replace qL:=Q qL;go_wp2_with fail;refine (nP wb r B aet _ ig).mono ?_;rintro e w3 ⟨te,s3,q3,My,rfl,kj,pM⟩;obtain⟨LQ,eh⟩:=im ec 2 rfl kj pM;clear ig ec;go_wp2_with (refine fB eh 0 rfl 2 _ _ rfl 13 rfl (J te) rfl (bf rfl) rfl aw rfl ?_;intro w4 eU;refine stay ?_);refine dN ?_;have pB:=gL xE kj eh eU 2 2 rfl rfl;clear kj eh;simp only[bJ,bI,bL] at eU;go_wp2_with (refine ln eU 0 rfl 45 _ rfl rfl bG aw rfl ?_;refine stay ?_);refine dN ?_;go_wp2_with (refine er eU 1 rfl 45 _ _ rfl 0 rfl [J k,(),(),(),(),(),ay,"",(),(),(),(),ae ah 0,J te,(),ay,(),()] rfl (bf rfl) rfl aw #[J k,(),(),(),(),(),ay,"",(),(),(),(),ae ah 0,J te,(),ay,(),()] rfl rfl ?_;intro wz lM;refine stay ?_);refine dN ?_;have RH:=gL xE pB eU lM 2 2 rfl rfl;go_wp2;refine bodyPost_ret (ej rfl _ x rfl (lM.blk 1 rfl) bG aw) rfl ?_;have HG:Ms.Gd { Ms.zero with k:=(k:Int),term:=(te:Int) }∨(k:Int)<1∨6<(k:Int):=by
   by_cases T:k=3;·subst T;exact .inl (.xB te My)
   ·have:=qL.out;exact .inr ap
  exact⟨s3,⟨{ Ms.zero with k:=k,term:=te },none,0,none,0,[],true,rfl,Eo _ _ _ rfl rfl,λ_=>⟨HG,by unfold K6;obtain⟨g1,g2,g4,g5,g6⟩:=qL.out;rw[aB g1,aB g2,aB g4,aB g5,aB g6,q3.out];exact⟨rfl,rfl⟩⟩,(λh=>by cases h),λ_=>⟨rfl,rfl⟩,λ_ _=>⟨rfl,rfl⟩⟩,RH,lM.fin.2⟩
set_option maxRecDepth 100000
set_option maxHeartbeats 4000000
def Gx(w:G)(m:Ms)(A:aU)(c:Nat)(A2:aU)(c2:Nat)(h:m.k<1∨6<m.k):dF N 65 #[aZ (nF m A c A2 c2)] w λen O=>en=b5 (J 12)∧Grow w O:=by
 obtain⟨k,⟨ek,ag,sh,sq,ep,ds,se,fr,tg⟩,tag,code,n,term,had,log,commit,len⟩:=m;unfold nF Ms.cells at *;dsimp only at *;by_cases I:k<1
 ·have d1:=aC I
  replace h:=Q h;replace I:=Q I;go_in;go_wp2;go_ret;exact⟨rfl,dZ w _⟩
 ·have d1:=aD I
  have d2:=aC (show 6<k by omega);replace h:=Q h;replace I:=Q I;go_in;go_wp2;go_ret;exact⟨rfl,dZ w _⟩
def Ms.Gd.kind{m:Ms}(h:m.Gd):1<=m.k∧m.k<=6:=by cases h<;>simp[lH,fD,kD,iB,lB,mS]
theorem pG.one:∀{n:Nat}{s:RS}{q q':List En}{S S':RS},pG n s q S->pG n s q' S'->q=q'∧S=S'
 | 0,_,_,_,_,_,⟨I,Z⟩,⟨T,h4⟩=>⟨I.trans T.symm,Z.trans h4.symm⟩
 | n+1,s,_,_,_,_,⟨e,q1,I,_,T,h4⟩,⟨e',q1',OZ,_,h3',h4'⟩=>by
   obtain⟨rfl,rfl⟩:=pG.one h4 h4';rw[I,OZ,T.one h3'];exact⟨rfl,rfl⟩
theorem rC.one{s:RS}{q q':List En}{S S':RS}(h:rC s q S)(h':rC s q' S'):q=q'∧S=S':=h.1.one h'.1
theorem K6.one{k:Nat}{s:RS}{m m':Ms}{S S':RS}(h:K6 k s m S)(h':K6 k s m' S'):m=m'∧S=S':=by
 unfold K6 at h h';repeat' split at h
 all_goals first
  | (rename_i K;rw[aA K] at h';obtain⟨e,I,Z,T⟩:=h;obtain⟨e',OZ,h2',h3'⟩:=h';rw[Z,h2',T,h3',I.one OZ];exact⟨rfl,rfl⟩)
  | skip
 all_goals simp_all
 ·obtain⟨q,I,Z⟩:=h
  obtain⟨q',OZ,h2'⟩:=h';obtain⟨e1,e2⟩:=I.one OZ;rw[Z,h2',e1,e2];exact⟨rfl,rfl⟩
 ·obtain⟨q,I,Z⟩:=h
  obtain⟨q',OZ,h2'⟩:=h';obtain⟨e1,e2⟩:=I.one OZ;rw[Z,h2',e1,e2];exact⟨rfl,rfl⟩
def tF(l:aT)(m:Ms):Prop:=∃x,l=frame x∧x.length<=65536∧K6 (og (some x)).1 (og (some x)).2 m (some [])∧m.Gd
def a3q(l:aT)(w O:G)(en:Ending):Prop:=(∃(m:Ms)(A:aU)(c:Nat)(A2:aU)(c2:Nat)(q:List El),tF l m∧en=b5 (a_ #[aZ (nF m A c A2 c2),()])∧Sd.In O (New w O) ⟨0,m,A,c,A2,q,c2⟩∧(m.k≠1->A=none∧c=0)∧(m.k≠4->m.k≠5->A2=none∧c2=0))∨((∀m,¬ tF l m)∧en=b5 (a_ #[aZ (nF Ms.zero none 0 none 0),J 12]))
def LR(s:Sd):ei:=λw V=>Sd.In w V s
def LR.framed(s:Sd):eQ (LR s):=λw O V h K=>qm w O V s h K
def N_{l x:aT}{ok:Bool}(h:lT l x k ok):x.length<=65536:=by
 rcases h with ⟨_,h,_⟩|⟨_,_,rfl,_⟩
 ·exact h
 ·simp
set_option maxRecDepth 100000
set_option maxHeartbeats 4000000
def LS(w:G)(A:aU)(n c:Nat)(l:aT)(hb:Bytes w (w:Nat) A n l)(jf:n<=c)(jg:c<=dL):dF N 23 #[Y A n c] w λen O=>a3q l w O en∧Grow w O:=by
 have fp:=hb.len;have fY:=St.begin_ (l:=[]) (w:=w) (V:=λ_=>False) trivial (λ_ h=>h.elim) trivial;go_in;go_wp2_with (refine kJ rfl (uC _ _ _ rfl) ?_;intro x wx hX xS hsx hzx;refine stay ?_);refine dN ?_;have eC:=fY.made xS hX (Nat.le_of_eq hsx);replace fp:=Q fp;clear hX hzx fY;have hF:=zr wx A n c l ((Reads.below hb xS).more xS.size) jf jg;go_wp2_with fail;refine hF.mono ?_;rintro e1 w1 ⟨xs,k,ok,v1,hI,rfl,l6,eO⟩;have ec:=eC.grow eO;have hxs:=N_ hI;replace hI:=Q hI;clear hF eC;obtain⟨A1,c1,rfl,sH,oX,sF⟩:=l6.reads;clear l6;rcases bB ok with gS|gS
 case' inr=>
  subst gS;go_wp2_with (first|(refine er ec 0 rfl 45 _ _ rfl 0 rfl (Ms.zero.cells none 0 none 0) rfl (bf rfl) rfl aw (nF Ms.zero none 0 none 0) rfl rfl ?_;intro w9 gM;refine stay ?_));refine dN ?_;go_wp2;refine bodyPost_ret (ej rfl _ x rfl (gM.blk 0 rfl) bG aw) rfl ?_;exact⟨.inr ⟨λm ⟨y,hy,xi,_⟩=>by
   rcases hI.out with ⟨h,_⟩|⟨_,h,_⟩
   ·cases h
   ·exact h y xi (by rw[hy];exact List.prefix_refl _),rfl⟩,gM.grown⟩
 subst gS;by_cases oF:k=n;case' neg=>
  have dk:((k:Int) != (n:Int))=true:=by simp;omega
  replace oF:=Q oF;go_wp2_with (first|(refine er ec 0 rfl 45 _ _ rfl 0 rfl (Ms.zero.cells none 0 none 0) rfl (bf rfl) rfl aw (nF Ms.zero none 0 none 0) rfl rfl ?_;intro w9 gM;refine stay ?_));refine dN ?_;go_wp2;refine bodyPost_ret (ej rfl _ x rfl (gM.blk 0 rfl) bG aw) rfl ?_;exact⟨.inr ⟨λm ⟨y,hy,xi,_⟩=>by have I:=(hI.out.one (.inl ⟨rfl,xi,by rw[hy];exact List.prefix_refl _,rfl⟩)).2.1;have Z:=fp.out;rw[hy] at Z;exact oF.out (I.trans Z),rfl⟩,gM.grown⟩
 case' pos=>
  subst oF;have hRN:=re w1 A1 _ c1 xs sH oX sF;have dk:((k:Int) != (k:Int))=false:=by simp
  go_wp2_with fail;refine hRN.mono ?_;rintro e1 w2 ⟨r,rfl,ig,fN⟩;have hRE:kX r (w1:Nat) 65536 (some xs) w2:=kX.of ig hxs;have XN:(w1:Nat)<=r:=hRE.1;have B6:=fN.size;clear hRN sH ig;obtain⟨_,A',n',c',l',b',_,mJ,_⟩:=id hRE;have eh:=ec.made fN mJ XN;clear ec mJ;go_wp2_with fail;refine (Ll w2 r _ _ _ hRE).mono ?_;rintro e w3 ⟨kk,s3,q3,Ir,rfl,kj,pM⟩;have n_:Hid (∀M,tF l M->K6 kk s3 M (some [])∧M.Gd):=Q (λM ⟨y,hy,xi,T,h4⟩=>by obtain rfl:=(hI.out.one (.inl ⟨rfl,xi,by rw[hy];exact List.prefix_refl _,rfl⟩)).1;rw[q3.out] at T;exact⟨T,h4⟩)
  have qC:Hid (l=frame xs∧xs.length<=65536):=Q (by
   rcases hI.out with ⟨_,I,Z,T⟩|⟨h,_⟩
   ·refine⟨?_,I⟩
    obtain⟨t,ht⟩:=Z;have h4:=fp.out;rw[<-ht,bd] at h4;have:t=[]:=List.length_eq_zero_iff.1 ap;rw[<-ht,this,bm]
   ·cases h)
  clear hI;obtain⟨LQ,eU⟩:=im eh 0 rfl kj pM;have eU:St (λ_=>False) w [.c r 237 LQ,.c x 45 (nF Ms.zero none 0 none 0)] w3:=eU;have OC:=pM.size;have hwk:IntKind.i64.wrap (kk:Int)=(kk:Int):=by rw[IntKind.wrap_i64];omega
  clear eh hRE;have hM:=VD w3 r _ _ kk _ kj ap ap Ir;go_wp2_with fail;refine hM.mono ?_;rintro e w4 ⟨s4,⟨m,Am,cm,A2,c2,q,ok,rfl,OH,rN,kS,hA,sn⟩,pB,Tt⟩;clear hM kj;have hr4:=pB.lt;obtain⟨_,A',n',c',l',b',_,XO,_⟩:=id pB;have eI:=eU.rv Tt XO (LR.framed ⟨0,m,Am,cm,A2,q,c2⟩) OH λb hb=>hb;clear eU XO OH Tt;replace rN:=Q rN;replace kS:=Q kS;replace hA:=Q hA;replace sn:=Q sn;go_wp2_with (refine kJ rfl (uC _ _ _ rfl) ?_;intro y wy hY hgy hsy TJ;refine stay ?_);refine dN ?_;have eS:=eI.made hgy hY (Nat.le_of_eq hsy);refine Ff rfl 45 _ _ rfl _ rfl (m.cells Am cm A2 c2) rfl hY rfl rfl aw ?_;intro w5 hY5 xu hs5;have fQ:=eS.turned 0 rfl xu hY5;have rV:=(pB.grow hgy).just xu ap (λb hb=>by omega);have fQ:St (λ_=>False) w [.c y 45 (nF m Am cm A2 c2),.o (LR ⟨0,m,Am,cm,A2,q,c2⟩),.c r 237 #[Y A' n' c',aY b'],.c x 45 (nF Ms.zero none 0 none 0)] w5:=fQ;clear eI eS pB hY hY5 xu hgy;rcases bB ok with gS|gS
  case' inr=>
   subst gS;go_wp2_with (first|(refine er fQ 3 rfl 45 _ _ rfl 0 rfl (Ms.zero.cells none 0 none 0) rfl (bf rfl) rfl aw (nF Ms.zero none 0 none 0) rfl rfl ?_;intro w9 gM;refine stay ?_));refine dN ?_;go_wp2;refine bodyPost_ret (ej rfl _ x rfl (gM.blk 3 rfl) bG aw) rfl ?_;exact⟨.inr ⟨λM hM=>by obtain⟨I,_⟩:=n_.out M hM;exact kS.out (by simp) _ _ I,rfl⟩,gM.grown⟩
  subst gS;go_wp2_with fail;refine (DO w5 r _ _ _ rV).mono ?_;rintro e w6 ⟨rfl,rfl⟩;obtain⟨b,Hb⟩:=az (decide (s4=some []));rw[<-Hb.out];rcases bB b with hb|hb
  case' inr=>
   subst hb;go_wp2_with (first|(refine er fQ 3 rfl 45 _ _ rfl 0 rfl (Ms.zero.cells none 0 none 0) rfl (bf rfl) rfl aw (nF Ms.zero none 0 none 0) rfl rfl ?_;intro w9 gM;refine stay ?_));refine dN ?_;go_wp2;refine bodyPost_ret (ej rfl _ x rfl (gM.blk 3 rfl) bG aw) rfl ?_;exact⟨.inr ⟨λM hM=>(by obtain⟨I,_⟩:=n_.out M hM;have Z:=((rN.out (by simp)).2.one I).2;have T:=Hb.out;rw[Z,aC rfl] at T;cases T),rfl⟩,gM.grown⟩
  subst hb;go_wp2_with (first|(refine ln fQ 0 rfl 45 _ rfl rfl bG aw rfl ?_;refine stay ?_));refine dN ?_;obtain⟨U,hU,_⟩:=fQ.own.see 1 rfl;have hU:Sd.In w5 U ⟨0,m,Am,cm,A2,q,c2⟩:=hU;rcases (rN.out (by simp)).1 with H|H
  ·have mQ:=lY w5 U m Am cm A2 c2 q H hA.out sn.out hU.e.1 hU.q hU.eq
   go_wp2_with fail;refine mQ.mono ?_;rintro e w7 ⟨rfl,hg7⟩;have fK:=fQ.grow hg7;go_wp2_with (first|(refine ln fK 0 rfl 45 _ rfl rfl bG aw rfl ?_;refine stay ?_));refine dN ?_;go_wp2_with (first|(refine er fK 3 rfl 45 _ _ rfl 0 rfl (m.cells Am cm A2 c2) rfl (bf rfl) rfl aw (nF m Am cm A2 c2) rfl rfl ?_;intro w9 gM;refine stay ?_));refine dN ?_;go_wp2;refine bodyPost_ret (ej rfl _ x rfl (gM.blk 3 rfl) bG aw) rfl ?_;obtain⟨U9,hU9,k9⟩:=gM.own.see 1 rfl;exact⟨.inl ⟨m,Am,cm,A2,c2,q,⟨xs,qC.out.1,qC.out.2,by rw[q3.out,<-of_decide_eq_true Hb.out.symm];exact (rN.out (by simp)).2,H⟩,rfl,qn _ _ _ _ (show Sd.In w9 U9 ⟨0,m,Am,cm,A2,q,c2⟩ from hU9) λb hb=>⟨(k9 b hb).1.elim False.elim id,(k9 b hb).2⟩,hA.out,sn.out⟩,gM.grown⟩
  ·have mQ:=Gx w5 m Am cm A2 c2 H
   go_wp2_with fail;refine mQ.mono ?_;rintro e w7 ⟨rfl,hg7⟩;have fK:=fQ.grow hg7;go_wp2_with (first|(refine er fK 3 rfl 45 _ _ rfl 0 rfl (Ms.zero.cells none 0 none 0) rfl (bf rfl) rfl aw (nF Ms.zero none 0 none 0) rfl rfl ?_;intro w9 gM;refine stay ?_));refine dN ?_;go_wp2;refine bodyPost_ret (ej rfl _ x rfl (gM.blk 3 rfl) bG aw) rfl ?_;exact⟨.inr ⟨λM hM=>(by obtain⟨I,Z⟩:=n_.out M hM;rw[<-((rN.out (by simp)).2.one I).1] at Z;have:=Z.kind;omega),rfl⟩,gM.grown⟩
def Gy(s:aR)(t:aT)(h:s.size<18446744073709551616):gG (some (enc s.size++(s.data.toList++t)))=(s.data.toList,some t):=by have e:s.size=s.data.toList.length:=Array.length_toList.symm;rw[e,<-bp];exact vI t (by rw[<-e];exact h)
theorem Gz:∀(ds:List Dl)(t:aT),(∀d∈ds,Small d)->mW ds.length (some (nC ds++t))=(ds,some t)
 | [],_,_=>rfl
 | d::ds,t,h=>by
   have I:=h d (by simp);have ih:=Gz ds t λx X=>h x (by simp[X]);have e:nC (d::ds)++t=enc d.1.size++(d.1.data.toList++(enc d.2++(nC ds++t))):=by simp[nC,dB]
   show ((⟨(gG _).1.toArray⟩,(lz (gG _).2).1)::(mW ds.length (lz (gG _).2).2).1,(mW ds.length (lz (gG _).2).2).2)=_;rw[e,Gy _ _ (by have:=I.1;omega)];dsimp only;rw[z6 _ I.2];dsimp only;rw[ih]
def mF(n:Nat)(t:aT)(h:n<256):og (some (UInt8.ofNat n::t))=(n,some t):=by unfold og;dsimp only;rw[oK h]
def RL{d:Dl}(h:FT d):Small d:=⟨h.2.2.2,by have:=h.2.1;omega⟩
def CU{e:En}(h:e.Ok):Ee (p_ e) e:=by
 refine⟨?_,h⟩;obtain⟨⟨⟨f1,f2⟩,t1,t2⟩,h⟩:=h;obtain⟨k,ag,sh,sq,ep,ds,se,fr,tg⟩:=e;dsimp only at *;rcases h with ⟨rfl,rfl,⟨a1,a2⟩,⟨s1,s2⟩,⟨q1,q2⟩,⟨e1,e2⟩,⟨d1,d2⟩,hd⟩|⟨rfl,rfl,rfl,rfl,rfl,rfl,I,Z⟩
 ·dsimp only at *
  have e:p_ ⟨1,ag,sh,sq,ep,ds,⟨#[]⟩,fr,tg⟩=UInt8.ofNat 1::(enc fr.toNat++(enc tg.toNat++(enc ag.toNat++(enc sh.toNat++(enc sq.toNat++(enc ep.toNat++(enc ds.length++(nC ds++[])))))))):=by simp[p_]
  unfold zH;dsimp only;rw[e,mF 1 _ am];dsimp only;rw[jj _ ap ap];dsimp only;rw[j5 _ ap];dsimp only;rw[aB am,jj _ ap ap];dsimp only;rw[jj _ ap ap];dsimp only;rw[j5 _ ap];dsimp only;rw[j5 _ ap];dsimp only;rw[jj _ ap ap];dsimp only;rw[Gz ds [] λd KM=>RL (hd d KM)];dsimp only;rw[cQ f1,cQ t1,cQ a1,cQ s1,cQ (by omega:0<=sq),cQ (by omega:0<=ep)];rfl
 ·dsimp only at *
  have e:p_ ⟨2,0,0,0,0,[],se,fr,tg⟩=UInt8.ofNat 2::(enc fr.toNat++(enc tg.toNat++(enc se.size++(se.data.toList++[])))):=by simp[p_]
  unfold zH;dsimp only;rw[e,mF 2 _ am];dsimp only;rw[jj _ ap ap];dsimp only;rw[j5 _ ap];dsimp only;rw[aA rfl,Gy _ _ ap];dsimp only;rw[cQ f1,cQ t1];rfl
def GA{e:En}(h:e.Ok):(p_ e).length<18446744073709551616:=by have:=yc h;omega
theorem CV:∀(l:List En)(t:aT),(∀e∈l,e.Ok)->pG l.length (some (sR l++t)) l (some t)
 | [],_,_=>⟨rfl,rfl⟩
 | e::l,t,h=>by
   have I:=h e (by simp);have e1:sR (e::l)++t=enc (p_ e).length++p_ e++(sR l++t):=by simp[sR,eB]
   have e2:=vI (sR l++t) (GA I);show ∃e' q1,e::l=e'::q1∧(gG _).2≠none∧Ee (gG _).1 e'∧pG l.length (gG _).2 q1 (some t);rw[e1,e2];exact⟨e,l,rfl,(λh=>by cases h),CU I,CV l t λx X=>h x (by simp[X])⟩
def zT(l:List En)(t:aT)(h:∀e∈l,e.Ok)(hl:l.length<=128):rC (some (enc l.length++(sR l++t))) l (some t):=by unfold rC;rw[jj _ ap hl];exact⟨CV l t h,λh=>by cases h⟩
def jI(m:Ms):List UInt8:=
 if m.k=1 then [UInt8.ofNat 1]++enc (p_ m.e).length++p_ m.e
 else if m.k=2 then [UInt8.ofNat 2]++enc m.tag.toNat++enc m.code.toNat++enc m.n
 else if m.k=4 then [UInt8.ofNat 4]++enc m.term.toNat++enc m.had.toNat++enc m.log.length++sR m.log
 else if m.k=5 then [UInt8.ofNat 5]++enc m.term.toNat++enc m.commit.toNat++enc m.log.length++sR m.log
 else if m.k=6 then [UInt8.ofNat 6]++enc m.term.toNat++enc m.len.toNat
 else [UInt8.ofNat 3]++enc m.term.toNat
theorem O0{m:Ms}(h:m.Gd):K6 (og (some (jI m))).1 (og (some (jI m))).2 m (some []):=by
 cases h with
 | ask e h=>
   have e1:jI (lH e)=UInt8.ofNat 1::(enc (p_ e).length++p_ e++[]):=by simp[jI,lH]
   rw[e1,mF 1 _ am];show ∃e',Ee (gG _).1 e'∧lH e=lH e'∧some []=(gG _).2;rw[vI _ (GA h)];exact⟨e,CU h,rfl,rfl⟩
 | ans tg co n I Z T=>
   have e1:jI (fD (tg:Int) (co:Int) n)=UInt8.ofNat 2::(enc tg++(enc co++(enc n++[]))):=by simp[jI,fD]
   rw[e1,mF 2 _ am];show fD (tg:Int) (co:Int) n=fD ((gI _).1:Int) ((gE 255 (gI _).2).1:Int) (lz (gE 255 (gI _).2).2).1∧some []=(lz (gE 255 (gI _).2).2).2;rw[j5 _ I];dsimp only;rw[jj _ ap Z];dsimp only;rw[z6 _ T];exact⟨rfl,rfl⟩
 | xB t h=>
   have e1:jI (kD t)=UInt8.ofNat 3::(enc t++[]):=by simp[jI,kD]
   rw[e1,mF 3 _ am];unfold K6;dsimp only;rw[aB am,aB am,aB am,aB am,aB am,j5 _ h];exact⟨rfl,rfl⟩
 | prom t ha l I Z T h4=>
   have e1:jI (iB t ha l)=UInt8.ofNat 4::(enc t++(enc ha++(enc l.length++(sR l++[])))):=by simp[jI,iB]
   rw[e1,mF 4 _ am];show ∃q,rC (gI (gI _).2).2 q (some [])∧iB t ha l=iB (gI _).1 (gI (gI _).2).1 q;rw[j5 _ I];dsimp only;rw[j5 _ Z];exact⟨l,zT l [] T h4,rfl⟩
 | acc t l c I Z T h4=>
   have e1:jI (lB t l c)=UInt8.ofNat 5::(enc t++(enc c++(enc l.length++(sR l++[])))):=by simp[jI,lB]
   rw[e1,mF 5 _ am];show ∃q,rC (gE 128 (gI _).2).2 q (some [])∧lB t l c=lB (gI _).1 q (gE 128 (gI _).2).1;rw[j5 _ I];dsimp only;rw[jj _ ap Z];exact⟨l,zT l [] T h4,rfl⟩
 | OS t n I Z=>
   have e1:jI (mS t n)=UInt8.ofNat 6::(enc t++(enc n++[])):=by simp[jI,mS]
   rw[e1,mF 6 _ am];show mS t n=mS (gI _).1 (gE 128 (gI _).2).1∧some []=(gE 128 (gI _).2).2;rw[j5 _ I];dsimp only;rw[jj _ ap Z];exact⟨rfl,rfl⟩
def lJ(m:Ms):Bool:=decide ((jI m).length<=65536)
def mB(m:Ms):List UInt8:=frame (jI m)
def uQ{m:Ms}(h:m.Gd)(hf:lJ m=true):tF (mB m) m:=⟨jI m,rfl,of_decide_eq_true hf,O0 h,h⟩
theorem tF.one{l:aT}{m m':Ms}(h:tF l m)(h':tF l m'):m=m':=by
 obtain⟨x,I,_,Z,_⟩:=h;obtain⟨y,OZ,_,h2',_⟩:=h';have hp:frame y <+: l:=by rw[OZ];exact List.prefix_refl _
 have hq:frame x <+: l:=by rw[I];exact List.prefix_refl _
 obtain rfl:x=y:=vP hq hp;exact (Z.one h2').1
def isW(b:aT)(t h:Nat)(es:List En):Prop:=(gI (some b)).1=t∧(gI (gI (some b)).2).1=h∧rC (gI (gI (some b)).2).2 es (some [])
def O1{t h:Nat}{es:List En}(I:t<=9223372036854775807)(Z:h<=9223372036854775807)(T:∀e∈es,e.Ok)(h4:es.length<=128):isW (ol t h es) t h es:=by
 have e1:ol t h es=enc t++(enc h++(enc es.length++(sR es++[]))):=by simp[ol]
 unfold isW;rw[e1,j5 _ I];dsimp only;rw[j5 _ Z];exact⟨rfl,rfl,zT es [] T h4⟩
set_option maxRecDepth 100000
set_option maxHeartbeats 1000000
def VE(w:G)(A:aU)(n c t h:Nat)(es:List En)(b:aT)(hb:Bytes w (w:Nat) A n b)(xQ:b.length<=65536)(jf:n<=c)(jg:c<=dL)(hW:isW b t h es):dF N 114 #[Y A n c] w λe O=>∃(A2:aU)(c2:Nat)(q:List El),e=b5 (a_ #[aZ #[J t,J h,Y A2 q.length c2],aY true])∧(kO O (New w O) A2 q∧q.map El.e=es∧q.length<=c2∧c2<=dL)∧Grow w O:=by
 obtain⟨w1e,w2e,w3e⟩:=hW;have fY:=St.begin_ (l:=[]) (w:=w) (V:=λ_=>False) trivial (λ_ h=>h.elim) trivial;obtain⟨x,wa,HX,HA,eC⟩:=fY.new' aL 204;have hRN:=Rf wa A n c;go_in;go_wp2_with fail;rw[<-HA.out,<-HX.out];refine hRN.mono ?_;rintro e w1 ⟨r,rfl,XN,lb,eO⟩;have ec:=eC.made eO lb XN;have mK:kX r (w:Nat) 65536 (some b) w1:=⟨bA eC.grown.size XN,A,n,c,b,false,xQ,lb,Reads.below hb ec.grown,⟨jf,jg⟩,rfl⟩;clear lb hRN hb;go_wp2_with fail;refine (nP w1 r _ _ _ mK).mono ?_;rintro e w2 ⟨tt,s2,q2,htt,rfl,ig,qM⟩;obtain⟨cs2,eh⟩:=im ec 0 rfl ig qM;go_wp2_with fail;refine (nP w2 r _ _ _ ig).mono ?_;rintro e w3 ⟨hh,s3,q3,hhh,rfl,kj,pM⟩;obtain⟨LQ,eU⟩:=im eh 0 rfl kj pM;obtain rfl:tt=t:=by rw[<-w1e,q2.out]
 obtain rfl:hh=h:=by rw[<-w2e,q2.out];dsimp only;rw[q3.out]
 have EZ:rC s3 es (some []):=by rw[q2.out] at w3e;dsimp only at w3e;rw[q3.out] at w3e;exact w3e
 clear w1e w2e w3e ec eh mK ig;replace eU:St (λ_=>False) w [.c r 237 LQ,.c x 204 aL] w3:=eU;obtain⟨y,wy,HY,HYA,eI⟩:=eU.new' #[J tt,J hh,ay] 204;have pB:=kj.grow (show Grow w3 wy by rw[HYA.out];exact fc _ _);go_wp2_with fail;rw[<-HYA.out,<-HY.out];refine (K5 wy r _ _ s3 pB am eI.grown.size).mono ?_;rintro e w5 ⟨s5,⟨A2,c2,q,bq,rfl,Ij,⟨lx,mL⟩,xl,iH,rN,kS⟩,rV,xu⟩;obtain rfl:bq=true:=by
  cases bq with
  | true=>rfl
  | false=>exact absurd EZ (kS rfl _ _)
 obtain⟨lL,rfl⟩:=(rN rfl).one EZ;obtain⟨_,A',n',c',l',b',_,hB5,_⟩:=id rV;have eS:=(eI.front 1 rfl).rv xu hB5 (gg.framed A2 q) (U:=New wy w5) Ij (λb hb=>hb);replace eS:St (λ_=>False) w [.o (gg A2 q),.c r 237 #[Y A' n' c',aY b'],.c y 204 #[J tt,J hh,ay],.c x 204 aL] w5:=eS;clear hB5 Ij xu rN kS eU eI pB EZ fY eC;go_wp2_with (refine fB eS 2 rfl 43 _ _ rfl 2 rfl (Y A2 q.length c2) rfl (bf rfl) rfl aw rfl ?_;intro w6 fQ;refine stay ?_);refine dN ?_;have xA:=lr rV eS fQ 1 1 rfl rfl;replace fQ:St (λ_=>False) w [.o (gg A2 q),.c r 237 #[Y A' n' c',aY b'],.c y 204 #[J tt,J hh,Y A2 q.length c2],.c x 204 aL] w6:=fQ;go_wp2_with fail;have gU:∀O,St (λ_=>False) w [.o (gg A2 q),.c r 237 #[Y A' n' c',aY b'],.c y 204 #[J tt,J hh,Y A2 q.length c2],.c x 204 aL] O->O.cell? (y,0)=some (J tt)∧O.cell? (y,1)=some (J hh)∧O.cell? (y,2)=some (Y A2 q.length c2):=λO h=>by have Z:=(h.front 2 rfl).facts.1.1;exact⟨Z 0,Z 1,Z 2⟩
 have a8b:∀O,St (λ_=>False) w [.o (gg A2 q),.c r 237 #[Y A' n' c',aY b'],.c y 204 #[J tt,J hh,Y A2 q.length c2],.c x 204 #[J tt,J hh,Y A2 q.length c2]] O->O.cell? (y,0)=some (J tt)∧O.cell? (y,1)=some (J hh)∧O.cell? (y,2)=some (Y A2 q.length c2):=λO h=>by have Z:=(h.front 2 rfl).facts.1.1;exact⟨Z 0,Z 1,Z 2⟩
 have eZ:=fQ.grow (Grow.refl _).drew;have QL:=xA.grow (Grow.refl w6).drew;have eN:=gU _ eZ;refine dO rfl ?_;refine fV (λO=>O.cell? (y,0)=some (J tt)∧O.cell? (y,1)=some (J hh)∧O.cell? (y,2)=some (Y A2 q.length c2)) [7] 8 rfl [0,1,2,3] ?_;iterate 4 (refine ff rfl eN (λw1 ⟨I,Z,T⟩=>aM) ?_)
 refine fG 4 [5] rfl ?_;have hD:=DO w6.drew r _ _ _ QL;go_wp2_with fail;refine hD.mono ?_;rintro e w8 ⟨rfl,rfl⟩;go_wp2_with fail;refine⟨λ_=>eN,?_⟩;refine ff rfl eN (λw1 ⟨I,Z,T⟩=>aM) ?_;refine fG 6 [] rfl ?_;refine er eZ 3 rfl 204 (.tmp 2) (.tmp 22) rfl 0 rfl [J tt,J hh,Y A2 q.length c2] rfl (bf rfl) rfl aw #[J tt,J hh,Y A2 q.length c2] rfl rfl ?_;intro w9 gM;refine wpList_nil ⟨λ_=>a8b _ gM,?_⟩;refine gx 7 rfl aw ?_;go_wp2;refine bodyPost_ret (ej rfl _ x rfl (gM.blk 3 rfl) Tryz.underlying204 aw) rfl ?_;obtain⟨U9,hU9,k9⟩:=gM.own.see 0 rfl;exact⟨A2,c2,q,rfl,⟨kO.mono (show kO w9 U9 A2 q from hU9) λb hb=>⟨(k9 b hb).1.elim False.elim id,(k9 b hb).2⟩,lL,lx,mL⟩,gM.grown⟩
def ZD(ws:List Wo)(h:k<ws.length):(Vs.mk (ws.take (k+1))).c=ws[k]:=by rw[br h];exact Vs.mR _ _
def GC{l:aT}{ws:List Wo}(hs:lU l (ws.map Wo.B) j):l.take j=zK ws∧j=(zK ws).length:=by
 have h0:zK ws=(ws.map Wo.B).flatMap frame:=by rw[List.flatMap_map];rfl
 have I:=hs.1;have Z:=hs.2.1;rw[<-h0] at I Z;refine⟨?_,Z⟩;conv=>lhs;rw[<-I]
 rw[Z,List.take_left' rfl]
def a3t{xs:List (List UInt8)}(L:St V w0 l w)(i:Nat)(hi:l[i]?=some (.o (EU (Y A n c) xs)))(K:k<xs.length):∃(ad:dG)(Ak:aU)(nk ck:Nat),A=some ad∧n=xs.length∧w.cell? (ad.add k)=some (Y Ak nk ck)∧Bytes w (w:Nat) Ak nk xs[k]∧nk<=ck∧ck<=dL:=by obtain⟨U,⟨A',c',q,e,hB,hq,_,_⟩,_⟩:=L.own.see i (iV hi);injection e with e1 e2 e3;subst e1 e2 e3;subst hq;rw[bj] at K;obtain⟨ad,E_,rfl,_,nu,e0,_⟩:=In.ni (cells:=Bx.cells) hB.row ap yR K;have e0:w.cell? (ad.add (k*1))=some (.slice q[k].A q[k].m q[k].c):=e0 _ rfl;rw[cO] at e0;have I7:=hB.all q[k] (bD K);refine⟨ad,q[k].A,q[k].m,q[k].c,rfl,(bj ..).symm,e0,?_,I7.le,I7.max⟩;rw[dt];exact In.reads I7.bs
set_option maxRecDepth 100000
set_option maxHeartbeats 1000000
def VF(w:G)(D:aV)(d k:Nat)(l:aT)(ws:List Wo)(j:Nat)(hs:lU l (ws.map Wo.B) j)(gS:∀y∈ws,y.Ok):Lw N D 53 #[d] [.o (kh d l k)] (λ(i:Nat×Nat)e=>e=b5 (((i.1,0):E))) (λi=>[.o (rY i.1 i.2 d ⟨ws⟩)]) w:=by
 intro V hM hV;have L:=St.begin_ hM (λb hb=>(hV b hb).1) ⟨kh.framed _ _ _,trivial⟩;obtain⟨U0,hU0,_⟩:=L.own.see 0 rfl;have hwl:ws.length<=1048576:=by
  have I:l.length<=1048576:=(show gD 120 d l k w U0 from hU0).2.2.1;have Z:=Eh ws;obtain⟨T,h4⟩:=GC hs;have h5:(zK ws).length<=l.length:=by rw[<-T,bn];omega
  omega
 go_in;go_wp2_with fail;refine (St.call (a:=[.o (kh d l k)]) (b:=[]) (show St V w ([.o (kh d l k)]++[]) w from L) (a':=λ(i:OpI)=>[.o (eF i.x d (i.xs.length:Int) (l.take i.j) i.j),.o (EU i.u i.xs)]) (λi=>⟨eF.framed _ _ _ _ _,EU.framed _ _,trivial⟩) L.no (Rs w _ d k l)).mono ?_;rintro e w1 ⟨⟨x,u,xs,j'⟩,⟨sS,rfl⟩,eC⟩;dsimp only at sS eC;obtain⟨rfl,rfl⟩:=sS.one hs;obtain⟨hl,xg⟩:=GC hs;have TF:∀y∈ws,y.B.length<=65536:=λy hy=>hs.2.2.1 _ (cW hy);rw[hl,bj,xg] at eC;clear hs sS hl L;obtain⟨U1,kv,_⟩:=eC.own.see 1 rfl;obtain⟨A1,c1,q1,rfl,_,Ih,_⟩:=kv;have a3u:q1.length=ws.length:=by rw[<-bj (f:=Bx.bs),Ih,bj]
 rw[a3u] at eC ⊢;clear Ih a3u;obtain⟨s,wa,HS,HA,ec⟩:=eC.new' #[(),(),ay,x] 206;go_wp2_with fail;rw[<-HA.out,<-HS.out];replace ec:St V w (.o (gg none [])::.c s 206 (pL 0 0 (Y none 0 0) x)::.o (eF x d ws.length (zK ws) (zK ws).length)::[.o (EU (Y A1 ws.length c1) (ws.map Wo.B))]) wa:=St.join ec (gg.framed none []) (Grow.refl _) (U:=λ_=>False) kO.nil (λ_ h=>h.elim);clear eC HA HS;go_loopw [22] (λi wr=>∃(k:Nat)(A:aU)(c:Nat)(q:List El),k<=ws.length∧i=J k∧(q.map El.e=(Vs.mk (ws.take k)).c.es∧q.length<=c∧c<=dL)∧St V w (.o (gg A q)::.c s 206 (pL (Vs.mk (ws.take k)).c.t (Vs.mk (ws.take k)).c.h (Y A q.length c) x)::.o (eF x d ws.length (zK ws) (zK ws).length)::[.o (EU (Y A1 ws.length c1) (ws.map Wo.B))]) wr) (λi _=>ws.length-(intOf i).toNat);case atStart=>exact⟨0,none,0,[],bo _,rfl,⟨rfl,bh _,bo _⟩,ec⟩
 case round=>
  obtain⟨k,A,c,q,K,rfl,hq,eh⟩:=hrel;by_cases fM:k<ws.length
  ·have dk:decide (k<ws.length)=true:=aC fM
   have lx:=ZD ws fM;have hyo:=gS ws[k] (bD fM);have xQ:=TF ws[k] (bD fM);obtain⟨ad,Ak,nk,ck,rfl,-,e0,hb,hnk,oY⟩:=a3t eh 3 rfl (k:=k) (by rw[bj];exact fM);rw[dt] at hb;have hVr:=VE wr Ak nk ck ws[k].t ws[k].h ws[k].es _ hb xQ hnk oY (O1 hyo.t hyo.h hyo.es hyo.len);generalize ws[k]=y at lx hyo hVr;replace lx:=Q lx;replace hq:=Q hq;clear hb hyo xQ;go_wp2_with fail;refine hVr.mono ?_;rintro e w4 ⟨A2,c2,q2,rfl,⟨hE,lL,mL,BO⟩,Dg⟩;have eU:=St.join eh (gg.framed A2 q2) Dg (U:=New wr w4) hE (λb hb=>hb);obtain⟨g,wg,HG,HGA,eI⟩:=eU.new' #[J y.t,J y.h,Y A2 q2.length c2] 204;clear hE hVr e0 eh eU;go_wp2_with (first|(rw[<-HGA.out,<-HG.out];refine er eI 3 rfl 204 (.tmp 35) (.tmp 33) rfl 0 rfl [J y.t,J y.h,Y A2 q2.length c2] rfl (bf rfl) rfl aw (pL y.t y.h (Y A2 q2.length c2) x) rfl rfl ?_;intro w6 eS;refine stay ?_));refine dN ?_;replace eS:St V w (.c g 204 #[J y.t,J y.h,Y A2 q2.length c2]::.o (gg A2 q2)::.o (gg A q)::.c s 206 (pL (Vs.mk (ws.take (k+1))).c.t (Vs.mk (ws.take (k+1))).c.h (Y A2 q2.length c2) x)::.o (eF x d ws.length (zK ws) (zK ws).length)::[.o (EU (Y (some ad) ws.length c1) (ws.map Wo.B))]) w6:=by rw[lx.out];exact eS
   have fQ:=(eS.dT 2 rfl).dT 0 rfl;clear eI eS HG HGA;go_wp2_with fail;exact⟨⟨k+1,A2,c2,q2,by omega,by go_num,⟨by rw[lx.out];exact lL,mL,BO⟩,fQ⟩,by simp[intOf];omega⟩
  ·obtain rfl:k=ws.length:=by omega
   have dk:decide (ws.length<ws.length)=false:=aD fM;rw[dy] at hq eh;replace hq:=Q hq;go_wp2;go_ret;have eU:=ls (y:=⟨ws⟩) (l:=[.o (EU (Y A1 ws.length c1) (ws.map Wo.B))]) (A:=A) (c:=c) (q:=q) (eh.perm ((List.Perm.swap _ _ _).trans (.cons _ (.swap _ _ _)))) hq.out;obtain⟨r1,r2⟩:=(eU.dT 1 rfl).fin;first|exact⟨(s,x),rfl,r1,r2⟩|exact⟨s,rfl,x,r1,r2⟩|exact⟨s,x,rfl,r1,r2⟩
def Rp.open_(node nodes:Nat)(ws:List Wo):Rp:=⟨node,nodes,⟨ws⟩,jy.new,0,none,false,0⟩
set_option maxRecDepth 100000
def VG(w:G)(D:aV)(d k node nodes:Nat)(l:aT)(ws:List Wo)(j:Nat)(hs:lU l (ws.map Wo.B) j)(gS:∀y∈ws,y.Ok)(hn:node<nodes∧nodes<=8):Lw N D 15 #[J node,J nodes,d] [.o (kh d l k)] (λ(p:qi)e=>p.d=d∧e=b5 (((p.r,0):E))) (λp=>dS p 0 (Rp.open_ node nodes ws)) w:=by intro V hM hV;have L:=St.begin_ hM (λb hb=>(hV b hb).1) ⟨kh.framed _ _ _,trivial⟩;have d1:decide ((nodes:Int)<1)=false:=aD ap;have d2:decide ((8:Int)<(nodes:Int))=false:=aD ap;have d3:decide ((node:Int)<0)=false:=aD ap;have d4:decide (nodes<=node)=false:=aD ap;go_in;go_wp2_with fail;refine (St.call (a:=[.o (kh d l k)]) (b:=[]) (show St V w ([.o (kh d l k)]++[]) w from L) (a':=λ(i:Nat×Nat)=>[.o (rY i.1 i.2 d ⟨ws⟩)]) (λi=>⟨gX.framed _ _ _ _ _ _ _ _,trivial⟩) L.no (VF w _ d k l ws j hs gS)).mono ?_;rintro e w1 ⟨⟨s,x⟩,rfl,eC⟩;go_wp2_with fail;refine (JQ w1).mono ?_;rintro e w2 ⟨m,rfl,hMa,fN⟩;have ec:=St.join eC (il.framed m jy.new) fN (U:=New w1 w2) hMa (λb hb=>hb);obtain⟨r,w3,HR,H3,eh⟩:=ec.new' #[J node,J nodes,s,m,(),.pointer none,aY false,()] 118;go_wp2_with fail;rw[<-H3.out,<-HR.out];go_ret;obtain⟨r1,r2⟩:=(show St V w (dS ⟨r,s,x,d,m⟩ 0 (Rp.open_ node nodes ws)) w3 from eh).fin;first|exact⟨⟨r,s,x,d,m⟩,⟨rfl,rfl⟩,r1,r2⟩|exact⟨⟨r,s,x,d,m⟩,rfl,rfl,r1,r2⟩
def _root_.Go.Hop.St.cast{l':List Bl}(h:St V w0 l w)(e:l=l'):St V w0 l' w:=e▸h
section
variable{st:Nat}{z:aQ}{b:Bk}
def iO.ov(h:St V w0 l w)(i:Nat)(hi:l[i]?=some (.o (iO st z b))):(z.length=4∧b.q.length=4)∧∃sl cu,St V w0 (l.eraseIdx i++ib st z sl cu b) w:=by obtain⟨I,sl,cu,Z⟩:=iO.opn (h.front i hi);exact⟨I,sl,cu,Z.perm bg⟩
def iO.zU{cu:E}(hz:z.length=4∧b.q.length=4)(h:St V w0 (l++ib st z sl cu b) w):St V w0 (.o (iO st z b)::l) w:=iO.cls hz (h.perm bg)
def ZE(h:iO st z b w U)(hl:b.Lim)(s:aR)(x:Nat)(hs:s.size<=1000000)(X:x<=18446744073709551615):dF N 278 #[st,aZ #[aX s,ae ah x]] w λe O=>e=b5 (J (jl b.eW (s,x)))∧Grow w O:=by obtain⟨_,sl,cu,hM⟩:=h;obtain⟨_,hB⟩:=yE hM 0 rfl;obtain⟨U',W,_⟩:=oI hM 1 rfl;obtain⟨A,c,rfl,hI,_⟩:=Row.kB (show Row w U' 147 2 sl b.eW.length (fw b.eW) from W);exact Qx w st A b.eW.length c b.eW U' hI (hB.cell 1) hB.lt (by have:=hl.eW;omega) hl.u64 s x hs X
end
def Ag.gn(x:Ag)(d:Dl):Ag×Int:=if jl x.b.eW d≠0 then (x,jl x.b.eW d) else if x.iA (.eW d)≠0 then (x,x.iA (.eW d)) else ({ x with b:={ x.b with eW:=x.b.eW++[d] },rs:=x.rs++[.eW d] },0)
def O2(w:G)(D:aV)(p:xC)(x:Ag)(X:x.Ok)(s:aR)(n:Nat)(hs:s.size<=1000000)(hn:n<=18446744073709551615):Lw N D 217 #[((p.a,0):E),aX s,ae ah n] (dV p x) (λ(_:Unit)e=>e=b5 (J (x.gn (s,n)).2)) (λ_=>dV p (x.gn (s,n)).1) w:=by
 obtain⟨R,HR⟩:=az (x.gn (s,n));rw[<-HR.out];intro V hM hV;have WX:=X.b.lim (by have:=X.few;omega);obtain⟨y,wa,HY,HA,L⟩:=(St.begin_ hM (λb hb=>(hV b hb).1) (fJ _ _)).new' #[aX s,ae ah n] 147;have gU:∀b O,St V w (.c y 147 #[aX s,ae ah n]::.c p.a 192 (rA p x)::b) O->O.cell? (p.a,3)=some (((p.st,0):E))∧O.cell? (p.a,2)=some (((p.x,0):E))∧O.cell? (y,0)=some (aX s)∧O.cell? (y,1)=some (ae ah n):=λb O h=>
  ⟨h.facts.2.1.1 3,h.facts.2.1.1 2,h.facts.1.1 0,h.facts.1.1 1⟩
 go_in;go_wp2_with fail;rw[<-HA.out,<-HY.out];have eZ:=L.grow (Grow.refl _).drew;have eN:=gU _ _ eZ;refine dO rfl ?_;refine fV (λO=>O.cell? (p.a,3)=some (((p.st,0):E))∧O.cell? (p.a,2)=some (((p.x,0):E))∧O.cell? (y,0)=some (aX s)∧O.cell? (y,1)=some (ae ah n)) [] 7 rfl [0,1,2,3,4] ?_;iterate 5 (refine ff rfl eN (λw1 ⟨I,Z,T,h4⟩=>aM) ?_)
 refine fG 5 [6] rfl ?_;obtain⟨U,hU,_⟩:=eZ.own.see 2 rfl;have hMy:=ZE hU WX s n hs hn;obtain⟨aep,HE⟩:=az (jl x.b.eW (s,n));rw[<-HE.out] at hMy;have kf:R=if aep≠0 then (x,aep) else if x.iA (.eW (s,n))≠0 then (x,x.iA (.eW (s,n))) else ({ x with b:={ x.b with eW:=x.b.eW++[(s,n)] },rs:=x.rs++[.eW (s,n)] },0):=by rw[HR.out,HE.out];rfl
 clear HR;go_wp2_with fail;refine hMy.mono ?_;rintro e w1 ⟨rfl,eO⟩;have eC:=eZ.grow eO;have lx:=gU _ _ eC;clear eZ L eN hU hMy;go_wp2_with fail;refine⟨λ_=>lx,?_⟩;refine ff rfl lx (λw1 ⟨I,Z,T,h4⟩=>aM) ?_;refine gQ ?_;by_cases h0:aep=0;case neg=>
  rw[aA h0] at kf;have OD:(aep != 0)=true:=by simp[h0]
  replace h0:=Q h0;replace kf:=Q kf;go_wp2;go_ret;rw[kf.out];obtain⟨r1,r2⟩:=(eC.dT 0 rfl).fin;exact⟨(),rfl,r1,r2⟩
 case pos=>
 rw[aB (by simp[h0])] at kf;have a3v:jG (s,n):=by
  have I:=(yf (HE.out.symm.trans h0)).2;have Z:aev.gl s=0:=by simp[iq] at I;exact I.1
  exact⟨I,jM Z,by show n<_;omega⟩
 have hl31:=(yf (HE.out.symm.trans h0)).1;subst h0;clear HE;replace kf:=Q kf;go_wp2_with fail;have eZ:=eC.grow (Grow.refl _).drew;have mL:=gU _ _ eZ;refine dO rfl ?_;refine fV (λO=>O.cell? (p.a,3)=some (((p.st,0):E))∧O.cell? (p.a,2)=some (((p.x,0):E))∧O.cell? (y,0)=some (aX s)∧O.cell? (y,1)=some (ae ah n)) [] 8 rfl [0,1,2,3,4] ?_;iterate 5 (refine ff rfl mL (λw1 ⟨I,Z,T,h4⟩=>aM) ?_)
 refine fG 5 [] rfl ?_;have hSm:=Gc w1.drew s n a3v.2;go_wp2_with fail;refine hSm.mono ?_;rintro e w2 ⟨u,rfl,fN,xr⟩;have ec:=eZ.grow fN;have mL:=gU _ _ ec;obtain⟨Au,mu,cu,rfl,RN⟩:=id xr;go_wp2_with fail;refine⟨λ_=>mL,?_⟩;refine fG 6 [7] rfl ?_;go_wp2_with fail;refine (ec.Il 3 rfl (λ_=>eF.framed _ _ _ _ _) ec.no (λU _ _=>sa w2 _ p.x p.d x.rs.length x.k x.bs (Rc.eW (s,n)).B _ xr (by have:=X.few;omega))).mono ?_;rintro e w3 ⟨_,rfl,eh⟩;obtain⟨E2,HE2⟩:=az (x.iA (.eW (s,n)));have Ie:iA x.bs (Rc.eW (s,n)).B=E2:=HE2.out.symm;rw[Ie] at eh ⊢;have kf:=kf.out;rw[<-HE2.out] at kf;simp only[bI,bL,dV] at eh;have tP:=gU _ _ eh;clear eZ ec eC mL lx;by_cases I:E2=0;case neg=>
  rw[aA I] at kf;rw[(uO (by rw[Ie];exact I)).1,aB I] at eh;have OD:(E2 != 0)=true:=by simp[I]
  replace I:=Q I;replace kf:=Q kf;clear Ie HE2;go_wp2_with fail;refine⟨λ_=>tP,?_⟩;refine ff rfl tP (λw1 ⟨I,Z,T,h4⟩=>aM) ?_;refine gQ ?_;go_wp2;go_ret;rw[kf.out];obtain⟨r1,r2⟩:=(eh.dT 0 rfl).fin;exact⟨(),rfl,r1,r2⟩
 case pos=>
 rw[aB (by simp[I])] at kf;rw[(nH (Ie.trans I)).1,aA I] at eh;subst I;replace kf:=Q kf;clear Ie HE2;go_wp2_with fail;refine⟨λ_=>tP,?_⟩;refine ff rfl tP (λw1 ⟨I,Z,T,h4⟩=>aM) ?_;refine gQ ?_;obtain⟨hz,sl,cu2,eU⟩:=iO.ov eh 2 rfl;obtain⟨A1,c1,rfl,_,_⟩:=fT.oJ eU 6 rfl;go_wp2_with fail;have eZ:=eU.grow (Grow.refl _).drew;have hcT:∀r b O,St V w (.c y 147 #[aX s,ae ah n]::.c p.a 192 (rA p x)::r) O->St V w (.c p.st 186 (Im p.z (Y A1 x.b.eW.length c1) cu2 x.b)::b) O->(O.cell? (p.a,3)=some (((p.st,0):E))∧O.cell? (p.st,1)=some (Y A1 x.b.eW.length c1)∧O.cell? (y,0)=some (aX s)∧O.cell? (y,1)=some (ae ah n)):=λr b O h Z=>⟨h.facts.2.1.1 3,Z.facts.1.1 1,h.facts.1.1 0,h.facts.1.1 1⟩;have sr:=hcT _ _ _ eZ (eZ.front 5 rfl);refine dO rfl ?_;refine fV (λO=>O.cell? (p.a,3)=some (((p.st,0):E))∧O.cell? (p.st,1)=some (Y A1 x.b.eW.length c1)∧O.cell? (y,0)=some (aX s)∧O.cell? (y,1)=some (ae ah n)) [14,15,16] 17 rfl [0,1,2,3,4,5,6,7,8,9,10,11] ?_;iterate 12 (refine ff rfl sr (λw1 ⟨I,Z,T,h4⟩=>aM) ?_)
 refine fG 12 [] rfl ?_;obtain⟨y2,wb,zl,HB,eI⟩:=eU.new' #[aX s,ae ah n] 147;go_wp2_with fail;rw[<-HB.out,<-zl.out];have eS:=eI.grow (Grow.refl _).drew;refine⟨λ_=>hcT _ _ _ (eS.dT 0 rfl) (eS.front 6 rfl),?_⟩;refine fG 13 [] rfl ?_;refine iw pS rfl (.tmp 42) (.tmp 44) rfl rfl (eS.front 7 rfl) (A:=some (y2,0)) (m:=1) (c:=1) (news:=[aX s,ae ah n]) rfl (In.reads ((eS.blk 0 rfl).kB (size:=2) (n:=1) rfl)) (by simp[Value.oneCell']) ap ?_;intro v' w8 fK;obtain⟨A8,c8,rfl,hc8,hm8⟩:=fT.oJ fK 0 rfl;refine wpList_nil ⟨λ_=>hcT _ _ _ ((fK.dT 0 rfl).dT 0 rfl) (fK.front 7 rfl),?_⟩;refine gx 14 rfl aw ?_;have hf8:=(fK.front 7 rfl).facts.1;simp only[Im] at hf8;go_wp2_with fail;have gM:=(((fK.put 7 rfl 1 (Y A8 (x.b.eW.length+1) c8)).dT 1 rfl).dT 1 rfl);go_ret;rw[kf.out];have iS:=iO.zU (b:={ x.b with eW:=x.b.eW++[(s,n)] }) (sl := Y A8 (x.b.eW.length+1) c8) (cu:=cu2) (l:=[.c p.a 192 (rA p x),.o (eF p.x p.d (x.rs.length+1:Nat) (x.bs++frame (Rc.eW (s,n)).B) x.k),.o (eR oV p.bK (gR j6 x.ask)),.o (eR j6 p.bT (gR sy x.tr))]) hz (by unfold ib fw;dsimp only;rw[bd,bO];exact gM.back 5)
 have lA:=(iS.back 1).cast (l':=dV p { x with b:={ x.b with eW:=x.b.eW++[(s,n)] },rs:=x.rs++[.eW (s,n)] }) (by unfold dV Ag.bs;dsimp only;rw[pF,bd];rfl)
 obtain⟨r1,r2⟩:=lA.fin;exact⟨(),rfl,r1,r2⟩
def K8(x d n k:Nat)(l b:aT)(aep:Int):ei:=if aep=0 then eF x d (n+1:Nat) (l++frame b) (l++frame b).length else eF x d n l k
def GD(x d n k:Nat)(l b:aT)(aep:Int):eQ (K8 x d n k l b aep):=by unfold K8;split<;>exact eF.framed _ _ _ _ _
def RO(w:G)(D:aV)(x d n k:Nat)(l b:aT)(u:E)(hb:dX b u w)(hn:n<=1099511627776):Lw N D 183 #[x,u] [.o (eF x d n l k)] (λ(_:Unit)e=>e=b5 (J (iA l b))) (λ_=>[.o (K8 x d n k l b (iA l b))]) w:=by
 intro V hM hV;have L:=St.begin_ hM (λb hb=>(hV b hb).1) ⟨eF.framed _ _ _ _ _,trivial⟩;have hA:=L.Il 0 rfl (λ_=>eF.framed _ _ _ _ _) L.no (λU _ _=>sa w _ x d n k l b u hb hn);obtain⟨Au,mu,cu,rfl,_⟩:=hb;have r0:=@nH l b;have r1:=@uO l b;obtain⟨aep,HE⟩:=az (iA l b);rw[<-HE.out] at hA r0 r1 ⊢;obtain⟨aeq,HT⟩:=az (K8 x d n k l b aep);rw[<-HT.out];clear HE;go_in;go_wp2_with fail;refine hA.mono ?_;rintro e w1 ⟨_,rfl,eC⟩;by_cases h:aep=0
 ·rw[aA h,(r0 h).1] at eC
  have hT:aeq=eF x d (n+1:Nat) (l++frame b) (l++frame b).length:=by rw[HT.out];unfold K8;rw[aA h]
  clear r0 r1 hA HT;subst h;replace hT:=Q hT;go_wp2_with fail;refine (eC.Il 0 rfl (λ_=>eF.framed _ _ _ _ _) eC.no (λU _ _=>Lw.turns (vR w1 x d ((n+1:Nat):Int) (l++frame b) k))).mono ?_;rintro e w2 ⟨_,rfl,ec⟩;go_wp2;go_ret;obtain⟨k1,k2⟩:=ec.fin;exact⟨(),rfl,by rw[hT.out];exact k1,k2⟩
 ·rw[aB h,(r1 h).1] at eC
  have hT:aeq=eF x d n l k:=by rw[HT.out];unfold K8;rw[aB h]
  have hE:(aep == 0)=false:=beq_eq_false_iff_ne.2 h;clear r0 r1 hA HT;replace hT:=Q hT;replace h:=Q h;go_wp2;go_ret;obtain⟨k1,k2⟩:=eC.fin;exact⟨(),rfl,by rw[hT.out];exact k1,k2⟩
def Ag.next(x:Ag)(i:lZ):Ag:={ x with tag:=x.tag+1,ask:=tD x.ask ((x.tag+1:Nat):Int) i }
def LU(w:G)(D:aV)(p:xC)(x:Ag)(ht:x.tag<=4611686018427387904)(i:lZ):Lw N D 285 #[((p.a,0):E),j6 i] (dV p x) (λ(_:Unit)e=>e=b5 (J ((x.tag+1:Nat):Int))) (λ_=>dV p (x.next i)) w:=by
 obtain⟨R,HR⟩:=az (x.next i);rw[<-HR.out];obtain⟨k0,k1,k2⟩:=i;intro V hM hV;have fY:=St.begin_ hM (λb hb=>(hV b hb).1) (fJ _ _);have hc:=(fY.new #[J k0,J k1,J k2] 37).facts.2.1;simp only[rA] at hc;obtain⟨y,wa,HY,HA,L⟩:=fY.new' #[J k0,J k1,J k2] 37;unfold j6;obtain⟨aeq,HT⟩:=az (x.tag+1:Nat);have hT:IntKind.i64.wrap ((x.tag:Int)+1)=(aeq:Int):=by rw[HT.out,IntKind.wrap_i64];omega
 go_in;go_wp2_with fail;rw[<-HA.out,<-HY.out];have eC:=L.put 1 rfl 5 (J aeq);generalize wa.setCell (p.a,5) (J aeq)=w1 at eC;clear hc HA HY hT;have eZ:=eC.grow (Grow.refl _).drew;have eN:w1.drew.cell? (p.a,8)=some (.map (some p.bK))∧w1.drew.cell? (p.a,5)=some (J aeq)∧w1.drew.cell? (y,0)=some (J k0)∧w1.drew.cell? (y,1)=some (J k1)∧w1.drew.cell? (y,2)=some (J k2):=by have hf:=eZ.facts;exact⟨hf.2.1.1 8,hf.2.1.1 5,hf.1.1 0,hf.1.1 1,hf.1.1 2⟩
 refine dO rfl ?_;refine fV (λO=>O.cell? (p.a,8)=some (.map (some p.bK))∧O.cell? (p.a,5)=some (J aeq)∧O.cell? (y,0)=some (J k0)∧O.cell? (y,1)=some (J k1)∧O.cell? (y,2)=some (J k2)) [9] 10 rfl [0,1,2,3,4,5,6,7,8] ?_;iterate 9 (refine ff rfl eN (λw1 ⟨I,Z,T,h4,h5⟩=>aM) ?_)
 refine gx 9 rfl aw ?_;obtain⟨w2,eM,ec⟩:=eZ.Yf QY Tryz.underlying190 4 rfl (aeq:Int) (j6 (k0,k1,k2));unfold oV j6 at eM;clear eN;have Ej:w2.cell? (p.a,5)=some (J aeq):=ec.facts.2.1.1 5;go_wp2;go_ret;have eh:=(ec.dT 0 rfl).cast (l':=dV p R) (by rw[HR.out];unfold dV Ag.next rA;dsimp only;rw[<-vY,HT.out];rfl)
 obtain⟨r1,r2⟩:=eh.fin;first|exact⟨(),by rw[HT.out];rfl,r1,r2⟩|exact⟨by rw[HT.out];rfl,r1,r2⟩
def RP(w:G)(D:aV)(p:xC)(x:Ag):Lw N D 92 #[((p.a,0):E)] (dV p x) (λ(_:Unit)e=>e=b5 (J x.b.eW.length)) (λ_=>dV p x) w:=by intro V hM hV;have L:=St.begin_ hM (λb hb=>(hV b hb).1) (fJ _ _);obtain⟨_,sl,cu,eC⟩:=iO.ov L 1 rfl;obtain⟨A,c,rfl,_⟩:=fT.oJ eC 5 rfl;have hc:=L.facts.1;have hb:=(eC.front 4 rfl).facts.1;simp only[rA] at hc;simp only[Im] at hb;go_in;go_wp2;go_ret;obtain⟨r1,r2⟩:=L.fin;exact⟨(),rfl,r1,r2⟩
def Ag.qF(x:Ag)(k:Nat)(ds:List Dl):Rc := .qF k ((x.b.qu k).k+1).toNat ds
def Ag.l7(x:Ag)(k:Nat)(ds:List Dl):Option Ag:=if 16<=(x.b.qu k).l.length∨(x.b.qu k).k=9223372036854775807∨x.iA (x.qF k ds)≠0 then none else some { x with b:=x.b.add k ((x.b.qu k).k+1) ds,rs:=x.rs++[x.qF k ds] }
def Bt(p:xC)(y:Nat)(sq:Int)(sl:E)(w:G):Prop:=(w.cell? (p.a,2)=some (((p.x,0):E))∧w.cell? (p.a,3)=some (((p.st,0):E)))∧w.cell? (y,0)=some (J sq)∧w.cell? (y,1)=some sl
def Bt.of{p:xC}{y:Nat}{sq:Int}(h:St V w0 (.c y 196 #[J sq,sl]::.c p.a 192 (rA p x)::l) w):Bt p y sq sl w:=⟨⟨h.facts.2.1.1 2,h.facts.2.1.1 3⟩,h.facts.1.1 0,h.facts.1.1 1⟩
def ZF(w:G)(D:aV)(p:xC)(x:Ag)(X:x.Ok)(k:Nat)(K:k<4)(ds:List Dl)(A:aU)(c:Nat)(hd:kg w D A ds.length ds)(xR:ds.length<=c)(jg:c<=dL)(vb:ds.length<=8)(tR:∀d∈ds,Small d)(jv:∀b,D b->b<(w:Nat)):Lw N D 282 #[((p.a,0):E),J k,Y A ds.length c] (dV p x) (λ(_:Unit)e=>e=b5 (aY (x.l7 k ds).isSome)) (λ_=>dV p ((x.l7 k ds).getD x)) w:=by
 obtain⟨R,HR⟩:=az (x.l7 k ds);rw[<-HR.out];intro V hM hV;have lG:∀x,D x->x<(w:Nat)∧¬ V x:=λx X=>⟨jv x X,λh=>(hV x h).2 X⟩;have L:=St.begin_ hM (λb hb=>(hV b hb).1) (fJ _ _);obtain⟨hz,sl,cu,eC⟩:=iO.ov L 1 rfl;obtain⟨g,Hg⟩:=az (p.z.getD k 0);obtain⟨ql,qk,Hq⟩:∃ql qk,Hid (x.b.qu k=⟨ql,qk⟩):=⟨_,_,Q rfl⟩;have hqu:(oO p.z x.b.q)[k]?=some (.o (aes.eA g ql qk)):=by rw[lS hz.1 hz.2 K,Hg.out];have:=Hq.out;unfold Bk.qu at this;rw[this]
 have KN:0<=qk∧qk<=9223372036854775807:=by have:=X.qk k;rw[Hq.out] at this;exact this
 have a8e:x.qF k ds=.qF k (qk+1).toNat ds:=by unfold Ag.qF;rw[Hq.out]
 have Mu:(Im p.z sl cu x.b)[3+k]?=some ((g:E)):=by
  have h4:k=0∨k=1∨k=2∨k=3:=by omega
  rw[Hg.out];rcases h4 with rfl|rfl|rfl|rfl<;>rfl
 have hca:w.cell? (p.a,3)=some (((p.st,0):E)):=L.facts.1.1 3;have ko:w.cell? ⟨p.st,3+k,none⟩=some ((g:E)):=((eC.front 4 rfl).facts.1.1 (3+k)).trans Mu;have kf:R=if 16<=ql.length∨qk=9223372036854775807∨x.iA (.qF k (qk+1).toNat ds)≠0 then none else some { x with b:=x.b.add k (qk+1) ds,rs:=x.rs++[.qF k (qk+1).toNat ds] }:=by rw[HR.out];unfold Ag.l7;rw[a8e,Hq.out]
 obtain⟨U,hQ,_⟩:=eC.own.see (k+7) (iV (show (_:List Bl)[k+7]?=some (.o (aes.eA g ql qk)) from hqu));have Xu:=vT w g ql qk U hQ;obtain⟨sq,HSQ⟩:=az (IntKind.i64.wrap (qk+1):Int);obtain⟨y,wa,HY,HA,ec⟩:=eC.new' #[J sq,Y A ds.length c] 196;have hcc:=Bt.of ec;clear hQ;go_in;go_wp2_with fail;refine Xu.mono ?_;rintro e w1 ⟨rfl,rfl⟩;replace kf:=Q kf;have a8f:IntKind.i64.wrap (qk+1)=sq:=HSQ.out.symm;go_wp2_with fail;rw[<-HA.out,<-HY.out];clear hca ko Xu;have eZ:=ec.grow (Grow.refl _).drew;have eN:=Bt.of eZ;obtain⟨U,hQ,_⟩:=eZ.own.see (k+8) (iV (show (_:List Bl)[k+8]?=some (.o (aes.eA g ql qk)) from hqu));have OG:=aes.Uo wa.drew g ql qk U hQ;have Xu:=vT wa.drew g ql qk U hQ;clear hQ;have fin:∀O,St V w (.c y 196 #[J sq,Y A ds.length c]::.c p.a 192 (rA p x)::.o (eF p.x p.d x.rs.length x.bs x.k)::.o (eR oV p.bK (gR j6 x.ask))::.o (eR j6 p.bT (gR sy x.tr))::ib p.st p.z sl cu x.b) O->dU (qv (dV p x)) O (ju V w O)∧dP V w O:=λO h=>
  (((iO.zU (l:=[.c y 196 #[J sq,Y A ds.length c],.c p.a 192 (rA p x),.o (eF p.x p.d x.rs.length x.bs x.k),.o (eR oV p.bK (gR j6 x.ask)),.o (eR j6 p.bT (gR sy x.tr))]) hz h).dT 1 rfl).back 1).fin
 refine dO rfl ?_;refine fV (Bt p y sq (Y A ds.length c)) [] 19 rfl [0] ?_;refine ff rfl eN (λw1 h=>aM) ?_;refine fG 1 [2,3] rfl ?_;go_wp2_with fail;refine OG.mono ?_;rintro e w1 ⟨rfl,rfl⟩;go_wp2_with fail;refine⟨λ_=>eN,?_⟩;by_cases h16:16<=ql.length
 ·have d16:decide ((ql.length:Int) >= 16)=true:=aC ap
  have hR0:Hid (R=none):=Q (by rw[kf.out,aA (.inl h16)]);iterate 2 (refine ff rfl eN (λw1 h=>aM) ?_)
  refine xV [4,5,6,7,8,9,10,11,12,13,14,15,16,17,18] ?_;iterate 3 (refine Ub rfl eN ?_)
  iterate 2 (refine ff rfl eN (λw1 h=>aM) ?_)
  iterate 9 (refine Ub rfl eN ?_)
  refine ff rfl eN (λw1 h=>aM) ?_;refine gQ ?_;go_wp2;go_ret;rw[hR0.out];obtain⟨r1,r2⟩:=fin _ eZ;first|exact⟨(),rfl,r1,r2⟩|exact⟨rfl,r1,r2⟩
 have d16:decide ((ql.length:Int) >= 16)=false:=aD ap;iterate 2 (refine ff rfl eN (λw1 h=>aM) ?_)
 refine xV [4] ?_;refine ff rfl eN (λw1 h=>aM) ?_;refine fG 5 [6,7,8] rfl ?_;go_wp2_with fail;refine Xu.mono ?_;rintro e w1 ⟨rfl,rfl⟩;go_wp2_with fail;refine⟨λ_=>eN,?_⟩;by_cases Db:qk=9223372036854775807
 ·have hR0:Hid (R=none):=Q (by rw[kf.out,aA (.inr (.inl Db))])
  have dmx:(qk == 9223372036854775807)=true:=by rw[Db];rfl
  replace Db:=Q Db;iterate 3 (refine ff rfl eN (λw1 h=>aM) ?_)
  refine xV [9,10,11,12,13,14,15,16,17,18] ?_;iterate 9 (refine Ub rfl eN ?_)
  refine ff rfl eN (λw1 h=>aM) ?_;refine gQ ?_;go_wp2;go_ret;rw[hR0.out];obtain⟨r1,r2⟩:=fin _ eZ;first|exact⟨(),rfl,r1,r2⟩|exact⟨rfl,r1,r2⟩
 have dmx:(qk == 9223372036854775807)=false:=beq_eq_false_iff_ne.2 Db;obtain⟨s',rfl,sS,B6⟩:∃s':Nat,sq=(s':Int)∧s'<=9223372036854775807∧qk+1=(s':Int):=⟨(qk+1).toNat,by rw[HSQ.out,IntKind.wrap_i64];omega,by omega,by omega⟩;have kf:Hid (R=if x.iA (.qF k s' ds)≠0 then none else some { x with b:=x.b.add k s' ds,rs:=x.rs++[.qF k s' ds] }):=Q (by
  rw[kf.out,B6,show ((s':Int)).toNat=s' by omega];by_cases he:x.iA (.qF k s' ds)=0;·rw[aB (by simp[h16,Db,he]),aB (by simp[he])]
  ·rw[aA (.inr (.inr he)),aA he])
 clear a8f;replace Db:=Q Db;iterate 3 (refine ff rfl eN (λw1 h=>aM) ?_)
 refine xV [9,10,11,12,13,14] ?_;iterate 6 (refine ff rfl eN (λw1 ⟨⟨I,Z⟩,T,h4⟩=>aM) ?_)
 refine fG 15 [] rfl ?_;have hB:=JJ wa.drew k s' A ds.length c ds D (In.keep hd λb hb _=>eZ.keep lG b hb) vb ap sS tR;go_wp2_with fail;refine hB.mono ?_;rintro e w2 ⟨u,rfl,fN,xr⟩;have eh:=eZ.grow fN;obtain⟨Au,mu,cu2,rfl,RN⟩:=id xr;go_wp2_with fail;refine⟨λ_=>Bt.of eh,?_⟩;refine fG 16 [17,18] rfl ?_;go_wp2_with fail;refine (eh.Il 2 rfl (λ_=>eF.framed _ _ _ _ _) eh.no (λU _ _=>sa w2 _ p.x p.d x.rs.length x.k x.bs (Rc.qF k s' ds).B _ xr (by have:=X.few;omega))).mono ?_;rintro e w3 ⟨_,rfl,eU⟩;obtain⟨E2,HE2⟩:=az (x.iA (.qF k s' ds));have Ie:iA x.bs (Rc.qF k s' ds).B=E2:=HE2.out.symm;rw[Ie] at eU ⊢;have kf:=kf.out;rw[<-HE2.out] at kf;simp only[bI,bL] at eU;have sr:=Bt.of eU;clear eZ eh eN OG Xu;by_cases I:E2=0;case neg=>
  rw[aA I] at kf;rw[(uO (by rw[Ie];exact I)).1,aB I] at eU;have OD:(E2 != 0)=true:=by simp[I]
  replace I:=Q I;replace kf:=Q kf;clear Ie HE2;go_wp2_with fail;refine⟨λ_=>sr,?_⟩;iterate 2 (refine ff rfl sr (λw1 h=>aM) ?_)
  refine gQ ?_;go_wp2;go_ret;rw[kf.out];obtain⟨r1,r2⟩:=fin _ eU;first|exact⟨(),rfl,r1,r2⟩|exact⟨rfl,r1,r2⟩
 case pos=>
 rw[aB (by simp[I])] at kf;rw[(nH (Ie.trans I)).1,aA I] at eU;subst I;replace kf:=Q kf;clear Ie HE2 fin;go_wp2_with fail;refine⟨λ_=>sr,?_⟩;iterate 2 (refine ff rfl sr (λw1 h=>aM) ?_)
 refine gQ ?_;have eI:=(iO.zU (l:=[.c y 196 #[J s',Y A ds.length c],.c p.a 192 (rA p x),.o (eF p.x p.d (x.rs.length+1:Nat) (x.bs++frame (Rc.qF k s' ds).B) x.k),.o (eR oV p.bK (gR j6 x.ask)),.o (eR j6 p.bT (gR sy x.tr))]) hz eU).back 2;have eZ:=eI.grow (Grow.refl _).drew;have Ej:=Bt.of eZ;go_wp2_with fail;refine dO rfl ?_;refine fV (Bt p y s' (Y A ds.length c)) [] 7 rfl [0,1,2,3,4,5] ?_;iterate 6 (refine ff rfl Ej (λw1 ⟨⟨I,Z⟩,T,h4⟩=>aM) ?_)
 refine fG 6 [] rfl ?_;have WX:=X.b.lim (by have:=X.few;omega);go_wp2_with fail;refine (eZ.Il 2 rfl (λ_=>iO.framed _ _ _) (St.far lG) (λU _ kp=>Qz _ (λz=>U z∨D z) p.st p.z x.b k K (s':Int) ds A c (In.mono (In.keep hd λb hb _=>eZ.keep lG b hb) λ_ h => .inr h) xR jg ap (λz hz=>hz.elim (kp z) λh=>bu (jv z h) eZ.size) (by have:=WX.eW;omega) (by have:=WX.cuts;omega))).mono ?_;rintro e w6 ⟨_,rfl,eS⟩;go_wp2_with fail;refine⟨λ_=>Bt.of eS,?_⟩;refine gQ ?_;go_wp2;go_ret;rw[kf.out];have fQ:=(eS.dT 0 rfl).cast (l':=dV p { x with b:=x.b.add k s' ds,rs:=x.rs++[.qF k s' ds] }) (by unfold dV Ag.bs;dsimp only;rw[pF,show (x.rs++[Rc.qF k s' ds]).length=x.rs.length+1 by simp];rfl)
 obtain⟨r1,r2⟩:=fQ.fin;first|exact⟨(),rfl,r1,r2⟩|exact⟨rfl,r1,r2⟩
def In.cut{size:Nat}{xs:List E}(h:In w V size A n xs)(K:k<=n)(hc:n<=c):In w V size (if c=k then A else A.map (·.add (k*size))) (n-k) (xs.drop (k*size)):=by refine⟨by rw[bU,h.1,Nat.sub_mul],λhn=>?_⟩;obtain⟨ad,rfl,hV,hb,iT⟩:=h.2 ap;rw[aB ap];refine⟨ad.add (k*size),rfl,by rw[block_add];exact hV,by rw[block_add];exact hb,λj u hu=>?_⟩;rw[add_add];exact iT _ u (by rw[<-hu,List.getElem?_drop])
def Ag.kL(k:Nat):Nat->Ag->List Dl->Ag×List Int×Bool
 | 0,x,_=>(x,[],true)
 | f+1,x,l=>if l=[] then (x,[],true) else match x.l7 k (l.take 8) with
   | none=>(x,[],false)
   | some y=>((y.kL k f (l.drop 8)).1,(y.b.qu k).k::(y.kL k f (l.drop 8)).2.1,(y.kL k f (l.drop 8)).2.2)
def Ag.kb(x:Ag)(k:Nat):List Dl:=qB (x.b.eW.filter λd=>decide (aev.mN d.1 x.b.sh=k))
def Ag.kR(x:Ag)(k:Nat):Ag×List Int×Bool:=x.kL k (x.kb k).length (x.kb k)
def Ag.eE:List Nat->Ag->Ag×List (Nat×Int)
 | [],x=>(x,[])
 | k::ks,x=>if (x.kR k).2.2=true then (((x.kR k).1.eE ks).1,(x.kR k).2.1.map (k,·)++((x.kR k).1.eE ks).2) else ((x.kR k).1,(x.kR k).2.1.map (k,·))
def Ag.cut(x:Ag):Ag×List (Nat×Int):=if (x.eE (bF x.b.sh)).2=[] then x.eE (bF x.b.sh) else ((x.eE (bF x.b.sh)).1.sync,(x.eE (bF x.b.sh)).2)
def Ep{b:Bk}{q:Qu}{P:Qu->Prop}(hq:P q)(hj:P (b.qu j)):P ((b.q.set k q).getD j .new):=by
 rw[List.getD_eq_getElem?_getD,List.getElem?_set];split
 ·rename_i h
  split;·exact hq
  ·rename_i Z
   subst h;unfold Bk.qu at hj;rw[List.getD_eq_getElem?_getD,List.getElem?_eq_none ap] at hj;exact hj
 ·unfold Bk.qu at hj
  rw[List.getD_eq_getElem?_getD] at hj;exact hj
def CW{ds:List Dl}(h:x.l7 k ds=some y):(x.b.qu k).l.length<16∧(x.b.qu k).k≠9223372036854775807∧x.iA (x.qF k ds)=0∧y={ x with b:=x.b.add k ((x.b.qu k).k+1) ds,rs:=x.rs++[x.qF k ds] }:=by
 unfold Ag.l7 at h;split at h;·cases h
 ·rename_i I
  cases h;simp only[not_or,Nat.not_le,ne_eq,Decidable.not_not] at I;exact⟨I.1,I.2.1,I.2.2,rfl⟩
def Ag.Ok.ni(X:x.Ok){r:Rc}(hr:x.iA r=0):(sx (x.rs++[r])).length<=1048576:=by have h:=(nH hr).2;rw[pF,bd];exact (pD.1 h).2
def vZ(b:Bk)(k:Nat)(sq:Int)(ds:List Dl):(b.add k sq ds).sh=b.sh:=by unfold Bk.add;split<;>rfl
def CX(b:Bk)(k:Nat)(sq:Int)(ds:List Dl)(hs:0<=sq∧sq<=9223372036854775807)(h:∀j,0<=(b.qu j).k∧(b.qu j).k<=9223372036854775807)(j:Nat):0<=((b.add k sq ds).qu j).k∧((b.add k sq ds).qu j).k<=9223372036854775807:=by
 unfold Bk.add;split;·exact Ep (P:=λq=>0<=q.k∧q.k<=9223372036854775807) hs (h j)
 ·exact h j
theorem Ag.Ok.l7{x y:Ag}(X:x.Ok){k:Nat}(K:k<4){ds:List Dl}(vb:ds.length<=8)(hf:∀d∈ds,jG d)(h:x.l7 k ds=some y):y.Ok∧y.node=x.node∧y.b.sh=x.b.sh:=by
 obtain⟨_,Z,T,rfl⟩:=CW h;have hq:=X.qk k;refine⟨⟨X.node,X.f9,X.last,?_,?_,X.ni T,λr hr=>?_,λj=>CX _ _ _ _ ap X.qk j⟩,rfl,vZ _ _ _ _⟩
 ·show (x.b.add k ((x.b.qu k).k+1) ds).Lm (x.rs++[x.qF k ds]).length
  rw[bd,bw];exact X.b.add k _ ds
 ·show 1<=(x.b.add k ((x.b.qu k).k+1) ds).sh∧(x.b.add k ((x.b.qu k).k+1) ds).sh<=4
  rw[vZ];exact X.sh
 ·rcases List.mem_append.1 hr with hr|hr
  ·exact X.rs r hr
  ·rw[List.mem_singleton.1 hr]
   exact⟨K,by omega,vb,hf⟩
theorem O3{l:List Dl}{d:Dl}(h:∀x∈l,jG x)(hd:jG d):∀x∈mD l d,jG x:=by
 induction l with
 | nil=>intro x X;simp[mD] at X;subst X;exact hd
 | cons y l ih=>
   intro x X;unfold mD at X;have hy:=h y (by simp);split at X
   ·rcases List.mem_cons.1 X with rfl|X
    ·obtain⟨I,Z,T⟩:=hy
     have Iv:0<d.2:=by have:=hd.1;simp[iq] at this;exact this.2
     simp only[iq,bP,decide_eq_true_eq] at I;exact⟨by simp only[iq,bP,decide_eq_true_eq];exact⟨I.1,by omega⟩,Z,by show min _ _<_;omega⟩
    ·exact h x (by simp[X])
   ·rcases List.mem_cons.1 X with rfl|X
    ·exact hy
    ·exact ih (λz hz=>h z (by simp[hz])) x X
def K9{q:List Dl}(h:∀x∈q,jG x):∀x∈qB q,jG x:=by
 have main:∀(q r:List Dl),(∀x∈q,jG x)->(∀x∈r,jG x)->∀x∈q.foldl mD r,jG x:=by
  intro q;induction q with
  | nil=>intro r _ hr;exact hr
  | cons d q ih=>intro r hq hr;exact ih _ (λx X=>hq x (by simp[X])) (O3 hr (hq d (by simp)))
 exact main q [] h (λ_ h=>absurd h (by simp))
def O4(q:List Dl):(qB q).length<=q.length:=by
 have main:∀(q r:List Dl),(q.foldl mD r).length<=r.length+q.length:=by
  intro q;induction q with
  | nil=>intro r;simp
  | cons d q ih=>intro r;have:=ih (mD r d);have:=QM r d;simp;omega
 have h:=main q [];unfold qB;simpa using h
def Ag.Ok.shard(X:x.Ok)(k:Nat):(x.kb k).length<=32∧∀d∈x.kb k,jG d:=by refine⟨?_,K9 λd hd=>X.b.fine d (List.mem_filter.1 hd).1⟩;have I:=O4 (x.b.eW.filter λd=>decide (aev.mN d.1 x.b.sh=k));have Z:(x.b.eW.filter λd=>decide (aev.mN d.1 x.b.sh=k)).length<=x.b.eW.length:=df _ _;have:=X.b.eW;unfold Ag.kb;omega
def Sd.val(s:Sd):E := aZ s.cells.toArray
def ve:Array E:=aK
def ow:Sd:=⟨0,⟨0,En.zero,0,0,0,0,0,[],0,0⟩,none,0,none,[],0⟩
def oR(to:Nat)(e:En)(A:aU)(c:Nat):Sd:=⟨(to:Int),⟨1,e,0,0,0,0,0,[],0,0⟩,A,c,none,[],0⟩
def k_(s:aR)(node tag:Nat):En:=⟨2,0,0,0,0,[],s,(node:Int),(tag:Int)⟩
def Ag.look(x:Ag)(s:aR):Ag×Sd×Int:=if aev.gl s≠0 then (x,ow,1) else (x.next (0,0,0),oR x.last (k_ s x.node (x.tag+1)) none 0,0)
def VH(w:G)(D:aV)(p:xC)(x:Ag)(s:aR)(hs:s.size<=1000000)(ht:x.tag<=4611686018427387904):Lw N D 222 #[((p.a,0):E),aX s] (dV p x) (λ(_:Unit)e=>e=b5 (a_ #[(x.look s).2.1.val,J (x.look s).2.2])) (λ_=>dV p (x.look s).1) w:=by
 obtain⟨R,HR⟩:=az (x.look s);rw[<-HR.out];intro V hM hV;have fY:=St.begin_ hM (λb hb=>(hV b hb).1) (fJ _ _);obtain⟨y,wa,HY,HA,L⟩:=fY.new' aI 218;have hP:=aev.rU wa s hs;obtain⟨aep,HE⟩:=az (aev.gl s);rw[<-HE.out] at hP;have kf:R=if aep≠0 then (x,ow,1) else (x.next (0,0,0),oR x.last (k_ s x.node (x.tag+1)) none 0,0):=by rw[HR.out,HE.out];rfl
 go_in;go_wp2_with fail;rw[<-HA.out,<-HY.out];refine hP.mono ?_;rintro e w1 ⟨A,c,rfl,_,_,H⟩;have eC:=L.grow H;clear HA HY L fY hP;by_cases h0:aep=0;case neg=>
  rw[aA h0] at kf;have OD:(aep != 0)=true:=by simp[h0]
  replace h0:=Q h0;replace kf:=Q kf;go_wp2_with (refine er eC 0 rfl 218 _ _ rfl 0 rfl ow.cells rfl (bf rfl) rfl aw ow.cells.toArray rfl rfl ?_;intro w2 ec;refine stay ?_);refine dN ?_;go_wp2;refine bodyPost_ret (ej rfl _ y rfl (ec.blk 0 rfl) Tryz.underlying218 aw) rfl ?_;obtain⟨r1,r2⟩:=(ec.dT 0 rfl).fin;rw[kf.out];exact⟨(),rfl,r1,r2⟩
 case pos=>
 subst h0;rw[aB (by simp)] at kf;replace kf:=Q kf;clear HE;obtain⟨tg,ZG⟩:=az (x.tag+1);rw[<-ZG.out] at kf;have hN:∀(O:G)(U:aV),Lw N (λy=>U y∨False) 285 #[((p.a,0):E),aZ #[(),(),()]] (dV p x) (λ(_:Unit)e=>e=b5 (J tg)) (λ_=>dV p (x.next (0,0,0))) O:=λO U=>by rw[ZG.out];exact LU O _ p x ht (0,0,0)
 go_wp2_with fail;have eZ:=eC.grow (Grow.refl _).drew;have gU:∀(l:List Bl)O,St V w (.c y 218 ow.cells.toArray::.c p.a 192 (rA p x)::l) O->O.cell? (p.a,0)=some (J x.node):=λl O h=>h.facts.2.1.1 0;have hcN:∀(l:List Bl)O,St V w (.c p.a 192 (rA p (x.next (0,0,0)))::l) O->O.cell? (p.a,0)=some (J x.node):=λl O h=>h.facts.1.1 0;have eN:=gU _ _ eZ;refine dO rfl ?_;refine fV (λO=>O.cell? (p.a,0)=some (J x.node)) [10] 11 rfl [0,1,2,3,4,5,6] ?_;iterate 7 (refine ff rfl eN (λw1 I=>aM) ?_)
 refine a6H 7 9 [8] [] rfl rfl ?_ ?_;case' RQ=>
  go_wp2_with fail;refine (St.qw (a:=dV p x) (b:=[.c y 218 ow.cells.toArray]) (D:=λ_=>False) (eZ.back 5) (a':=λ_=>dV p (x.next (0,0,0))) (λ_=>fJ _ _) eZ.no (λU _ _=>hN _ U)).mono ?_;rintro e w2 ⟨_,rfl,ec⟩;have mL:=hcN _ _ ec;go_wp2_with fail;refine⟨λ_=>mL,?_⟩;refine ff rfl mL (λw1 I=>aM) ?_;refine fG 9 [] rfl ?_;obtain⟨y5,w3,NU,H3,eh⟩:=ec.new' ve 40;unfold ve at H3;go_wp2_with fail;rw[<-H3.out,<-NU.out];have eU:St V w (.c y5 40 ve::(dV p (x.next (0,0,0))++[.c y 218 ow.cells.toArray])) w3:=eh;refine⟨λ_=>hcN _ _ (eh.dT 0 rfl),?_⟩;clear H3 NU eh ec eZ eC mL eN
 case' refine_2=>
  obtain⟨y5,w2,NU,H3,eh⟩:=eC.new' ve 40;unfold ve at H3;go_wp2_with fail;rw[<-H3.out,<-NU.out];replace eh:=eh.grow (Grow.refl _).drew;refine⟨λ_=>gU _ _ (eh.dT 0 rfl),?_⟩;refine fG 7 [8] rfl ?_;go_wp2_with fail;refine (St.qw (a:=dV p x) (b:=[.c y 218 ow.cells.toArray,.c y5 40 ve]) (D:=λ_=>False) ((eh.back 6).back 5) (a':=λ_=>dV p (x.next (0,0,0))) (λ_=>fJ _ _) eh.no (λU _ _=>hN _ U)).mono ?_;rintro e w3 ⟨_,rfl,ec⟩;have mL:=hcN _ _ ec;go_wp2_with fail;refine⟨λ_=>mL,?_⟩;refine ff rfl mL (λw1 I=>aM) ?_;have eU:St V w (.c y5 40 ve::(dV p (x.next (0,0,0))++[.c y 218 ow.cells.toArray])) w3:=ec.front 6 rfl;clear H3 NU eh ec eZ eC mL eN
 all_goals
  clear hcN gU hN
  refine fG 10 [] rfl ?_
  go_wp2_with (refine er eU 0 rfl 40 _ _ rfl 0 rfl [J 2,(),(),(),(),ay,aX s,J x.node,J tg] rfl (bf rfl) rfl aw #[J 2,(),(),(),(),ay,aX s,J x.node,J tg] rfl rfl ?_;intro w5 eI;refine stay ?_)
  refine dN ?_
  go_wp2_with fail
  refine⟨λh=>absurd h am,?_⟩
  refine gQ ?_
  go_wp2_with fail
  have eS:=eI.grow (Grow.refl _).drew
  clear eU eI
  have hB:=eS.blk 0 rfl
  have hl:w5.drew.cell? (p.a,6)=some (J x.last):=eS.facts.2.1.1 6
  refine dO rfl ?_
  refine fV (λO=>eL O y5 40 #[J 2,(),(),(),(),ay,aX s,J x.node,J tg]∧O.cell? (p.a,6)=some (J x.last)) [7,8] 9 rfl [0,1,2,3,4,5,6] ?_
  have eN:=And.intro hB hl
  iterate 4 (refine ff rfl eN (λw1 ⟨I,Z⟩=>aM) ?_)
  refine ff rfl eN (λw1 ⟨I,Z⟩ R W=>by have c0:=I.cell 0;have c1:=I.cell 1;have c2:=I.cell 2;have c3:=I.cell 3;have c4:=I.cell 4;have c5:=I.cell 5;have c6:=I.cell 6;have c7:=I.cell 7;have c8:=I.cell 8;go_simp;exact W) ?_
  iterate 2 (refine ff rfl eN (λw1 ⟨I,Z⟩=>aM) ?_)
  refine gx 7 rfl aw ?_
  clear hB hl eN
  refine er eS 6 rfl 218 (.tmp 4) (.tmp 32) rfl 0 rfl (oR x.last (k_ s x.node tg) none 0).cells rfl (bf rfl) rfl aw (oR x.last (k_ s x.node tg) none 0).cells.toArray rfl rfl ?_
  intro w7 fQ
  go_wp2
  refine bodyPost_ret (ej rfl _ y rfl (fQ.blk 6 rfl) Tryz.underlying218 aw) rfl ?_
  obtain⟨r1,r2⟩:=((fQ.dT 6 rfl).dT 0 rfl).fin
  rw[kf.out]
  exact⟨(),rfl,r1,r2⟩
def Ag.to(x:Ag)(n:Nat):Nat:=(x.last+n) % x.f9
def Ag.uR(x:Ag)(i:lZ)(ds:List Dl):En:=⟨1,i.1,i.2.1,i.2.2,x.b.ep,ds,⟨#[]⟩,(x.node:Int),((x.tag+1:Nat):Int)⟩
def Ag.send(x:Ag)(i:lZ)(t:Nat×Nat):Ag:={ x.next i with tr:=tD x.tr i (t.1+1,x.now+sP (x.tag+1) t.1) }
def LV(w:G)(D:aV)(p:xC)(x:Ag)(X:x.Ok)(i:lZ)(t:Nat×Nat)(sq:Int)(A:aU)(c:Nat)(ds:List Dl)(hd:kg w D A ds.length ds)(xR:ds.length<=c)(jg:c<=dL)(vb:ds.length<=1048576)(jv:∀b,D b->b<(w:Nat))(ht:x.tag<=1152921504606846976)(hn:x.now<=1152921504606846976)(ht1:t.1<=1152921504606846976)(Mz:t.2<=4611686018427387904):Lw N D 272 #[((p.a,0):E),j6 i,sy t,aZ #[J sq,Y A ds.length c]] (dV p x) (λ(B:aU)e=>e=b5 (oR (x.to t.1) (x.uR i ds) B ds.length).val) (λB => .o (zG ⟨x.uR i ds,B,ds.length⟩)::dV p (x.send i t)) w:=by
 obtain⟨to,Hto⟩:=az (x.to t.1);obtain⟨aep,HE⟩:=az (x.uR i ds);obtain⟨R,HR⟩:=az (x.send i t);rw[<-Hto.out,<-HE.out,<-HR.out];obtain⟨tg,ZG⟩:=az (x.tag+1);have hN:∀(O:G)(U:aV),Lw N U 285 #[((p.a,0):E),j6 i] (dV p x) (λ(_:Unit)e=>e=b5 (J tg)) (λ_=>dV p (x.next i)) O:=λO U=>by rw[ZG.out];exact LU O _ p x ap i
 have htg1:tg<=2305843009213693952:=by rw[ZG.out];omega
 obtain⟨i0,i1,i2⟩:=i;obtain⟨t1,t2⟩:=t;dsimp only at ht1 Mz;obtain⟨n,Hn⟩:=az (ds.length);rw[<-Hn.out] at hd xR vb ⊢;intro V hM hV;have lG:∀x,D x->x<(w:Nat)∧¬ V x:=λx X=>⟨jv x X,λh=>(hV x h).2 X⟩;have fY:=St.begin_ hM (λb hb=>(hV b hb).1) (fJ _ _);have z1:(w.alloc (.cells #[J i0,J i1,J i2] 37)).heap.size=(w:Nat)+1:=by simp
 obtain⟨y1,wA,HY1,HA,eC⟩:=fY.new' #[J i0,J i1,J i2] 37;rw[<-HA.out,<-HY1.out] at z1;have z2:(wA.alloc (.cells #[J t1,J t2] 364)).heap.size=(wA:Nat)+1:=by simp
 obtain⟨y2,wB,zl,HB,ec⟩:=eC.new' #[J t1,J t2] 364;rw[<-HB.out,<-zl.out] at z2;obtain⟨y3,wC,Xv,HC,eh⟩:=ec.new' #[J sq,Y A n c] 196;have e2:y2=y1+1:=by rw[zl.out,z1]
 have e3:y3=y1+1+1:=by rw[Xv.out,z2,e2]
 unfold j6 sy at *;go_in;go_wp2_with (refine kJ rfl (zB _ _ _ rfl) ?_;intro y4 wD b4 g4 hy4 hz4;refine stay ?_);refine dN ?_;rw[<-HA.out,<-HB.out,<-HC.out] at g4 hy4;rw[<-HY1.out,<-e3,<-e2];have eU:=eh.made g4 b4 ap;clear e2 e3 z1 z2 hy4 hz4 HA HB HC HY1 zl Xv eh ec eC b4 g4 fY;have hf:=eU.facts;have c0:=hf.2.2.2.1.1 0;have c1:=hf.2.2.2.1.1 1;have c2:=hf.2.2.2.1.1 2;simp at c0 c1 c2;clear hf;have eI:St V w (dV p x++[.c y4 218 ow.cells.toArray,.c y3 196 #[J sq,Y A n c],.c y2 364 #[J t1,J t2],.c y1 37 #[J i0,J i1,J i2]]) wD:=eU.perm (bg (l₁:=[_,_,_,_]));have gU:∀O,St V w (dV p (x.next (i0,i1,i2))++[.c y4 218 ow.cells.toArray,.c y3 196 #[J sq,Y A n c],.c y2 364 #[J t1,J t2],.c y1 37 #[J i0,J i1,J i2]]) O->(eL O y1 37 #[J i0,J i1,J i2]∧O.cell? (p.a,3)=some (((p.st,0):E))∧O.cell? (p.st,0)=some (J x.b.ep))∧O.cell? (y3,1)=some (Y A n c)∧O.cell? (p.a,0)=some (J x.node):=λO h=>by obtain⟨_,_,_,I⟩:=iO.ov h 1 rfl;exact⟨⟨h.blk 8 rfl,h.facts.1.1 3,(I.front 8 rfl).facts.1.1 0⟩,(h.front 6 rfl).facts.1.1 1,h.facts.1.1 0⟩
 go_wp2_with fail;refine (St.qw eI (D:=λ_=>False) (a':=λ_=>dV p (x.next (i0,i1,i2))) (λ_=>fJ _ _) eI.no (λU _ _=>hN _ _)).mono ?_;rintro e w1 ⟨_,rfl,eS⟩;clear c0 c1 c2 eI eU hN;go_wp2_with fail;have eZ:=eS.grow (Grow.refl _).drew;have eN:=gU _ eZ;refine dO rfl ?_;refine fV (λO=>(eL O y1 37 #[J i0,J i1,J i2]∧O.cell? (p.a,3)=some (((p.st,0):E))∧O.cell? (p.st,0)=some (J x.b.ep))∧O.cell? (y3,1)=some (Y A n c)∧O.cell? (p.a,0)=some (J x.node)) [17] 18 rfl [0,1,2,3,4,5,6,7,8,9,10,11,12,13,14,15] ?_;refine ff rfl eN (λw1 ⟨⟨I,Z,T⟩,h4,h5⟩ R W=>by have c0:=I.cell 0;have c1:=I.cell 1;have c2:=I.cell 2;go_simp;exact W) ?_
 iterate 14 (refine ff rfl eN (λw1 ⟨⟨I,Z,T⟩,h4,h5⟩=>aM) ?_)
 refine ff rfl eN (v := aZ #[J 1,J i0,J i1,J i2,J x.b.ep,Y A n c,"",J x.node,J tg]) (λw1 ⟨⟨I,Z,T⟩,h4,h5⟩=>aM) ?_;refine fG 16 [] rfl ?_;obtain⟨y5,w3,NU,H3,fQ⟩:=eS.new' ve 40;unfold ve at H3;go_wp2_with fail;rw[<-H3.out,<-NU.out];have fK:=fQ.grow (Grow.refl _).drew;refine⟨λ_=>gU _ (fK.dT 0 rfl),?_⟩;refine gx 17 rfl aw ?_;refine er fK 0 rfl 40 (.tmp 10) (.tmp 29) rfl 0 rfl [J 1,J i0,J i1,J i2,J x.b.ep,Y A n c,"",J x.node,J tg] rfl (bf rfl) rfl aw #[J 1,J i0,J i1,J i2,J x.b.ep,Y A n c,"",J x.node,J tg] rfl rfl ?_;intro w4 gM;have gM:St V w (.c y5 40 #[J 1,J i0,J i1,J i2,J x.b.ep,Y A n c,"",J x.node,J tg]::(dV p (x.next (i0,i1,i2))++[.c y4 218 ow.cells.toArray,.c y3 196 #[J sq,Y A n c],.c y2 364 #[J t1,J t2],.c y1 37 #[J i0,J i1,J i2]])) w4:=gM;clear fK fQ eZ eS gU eN NU H3;go_wp2_with fail;have eZ:=gM.grow (Grow.refl _).drew;have eN:(eL w4.drew y1 37 #[J i0,J i1,J i2]∧w4.drew.cell? (p.a,7)=some (.map (some p.bT)))∧w4.drew.cell? (y2,0)=some (J t1)∧w4.drew.cell? (p.a,4)=some (J x.now):=⟨⟨eZ.blk 9 rfl,eZ.facts.2.1.1 7⟩,(eZ.front 8 rfl).facts.1.1 0,eZ.facts.2.1.1 4⟩;have hW:=Yv w4.drew tg t1 ap;have hwl:=yU tg t1;obtain⟨v,Hv⟩:=az (sP tg t1);rw[<-Hv.out] at hW hwl;have hwr:IntKind.i64.wrap ((x.now:Int)+(v:Int))=((x.now+v:Nat):Int):=by rw[IntKind.wrap_i64];omega
 obtain⟨nv,Hnv⟩:=az (x.now+v);rw[<-Hnv.out] at hwr;refine dO rfl ?_;refine fV (λO=>(eL O y1 37 #[J i0,J i1,J i2]∧O.cell? (p.a,7)=some (.map (some p.bT)))∧O.cell? (y2,0)=some (J t1)∧O.cell? (p.a,4)=some (J x.now)) [19] 20 rfl [0,1,2,3,4,5,6,7,8,9,10,11,12,13,14,15] ?_;iterate 4 (refine ff rfl eN (λw1 ⟨⟨I,Z⟩,h4,h5⟩=>aM) ?_)
 refine ff rfl eN (λw1 ⟨⟨I,Z⟩,h4,h5⟩ R W=>by have c0:=I.cell 0;have c1:=I.cell 1;have c2:=I.cell 2;go_simp;exact W) ?_
 iterate 11 (refine ff rfl eN (λw1 ⟨⟨I,Z⟩,h4,h5⟩=>aM) ?_)
 refine fG 16 [17,18] rfl ?_;go_wp2_with fail;refine hW.mono ?_;rintro e w5 ⟨rfl,rfl⟩;go_wp2_with fail;refine⟨λ_=>eN,?_⟩;iterate 2 (refine ff rfl eN (λw1 ⟨⟨I,Z⟩,h4,h5⟩=>aM) ?_)
 refine gx 19 rfl aw ?_;obtain⟨w6,eM,iS⟩:=eZ.Yf QZ Tryz.underlying189 5 rfl (i0,i1,i2) (aZ #[J ((t1:Int)+1),J nv]);unfold j6 at eM;have iS:St V w (.c y5 40 #[J 1,J i0,J i1,J i2,J x.b.ep,Y A n c,"",J x.node,J tg]::.c p.a 192 (rA p (x.next (i0,i1,i2)))::.o (iO p.st p.z x.b)::.o (eF p.x p.d x.rs.length x.bs x.k)::.o (eR oV p.bK (gR j6 (x.next (i0,i1,i2)).ask))::.o (eR j6 p.bT (lN (gR sy x.tr) (i0,i1,i2) (aZ #[J ((t1:Int)+1),J nv])))::[.c y4 218 ow.cells.toArray,.c y3 196 #[J sq,Y A n c],.c y2 364 #[J t1,J t2],.c y1 37 #[J i0,J i1,J i2]]) w6:=iS;clear eZ eN gM hwr hW;go_wp2_with fail;have eZ:=iS.grow (Grow.refl _).drew;have Is:to=(x.last+t1) % x.f9:=Hto.out;replace Is:=Q Is;clear Hto;have XL:=X.last;have hrr:=X.f9;obtain⟨la,Hla⟩:=az (x.last);obtain⟨rp,Hrp⟩:=az (x.f9);have gU:∀O,St V w (.c y5 40 #[J 1,J i0,J i1,J i2,J x.b.ep,Y A n c,"",J x.node,J tg]::.c p.a 192 (rA p (x.next (i0,i1,i2)))::.o (iO p.st p.z x.b)::.o (eF p.x p.d x.rs.length x.bs x.k)::.o (eR oV p.bK (gR j6 (x.next (i0,i1,i2)).ask))::.o (eR j6 p.bT (lN (gR sy x.tr) (i0,i1,i2) (aZ #[J ((t1:Int)+1),J nv])))::[.c y4 218 ow.cells.toArray,.c y3 196 #[J sq,Y A n c],.c y2 364 #[J t1,J t2],.c y1 37 #[J i0,J i1,J i2]]) O->(eL O y5 40 #[J 1,J i0,J i1,J i2,J x.b.ep,Y A n c,"",J x.node,J tg]∧O.cell? (p.a,6)=some (J la))∧O.cell? (y2,0)=some (J t1)∧O.cell? (p.a,1)=some (J rp):=λO h=>by rw[Hla.out,Hrp.out];exact⟨⟨h.blk 0 rfl,h.facts.2.1.1 6⟩,(h.front 8 rfl).facts.1.1 0,h.facts.2.1.1 1⟩
 rw[<-Hla.out,<-Hrp.out] at Is XL;rw[<-Hrp.out] at hrr;have eN:=gU _ eZ;have R7:=uy w6.drew D ⟨⟨1,i0,i1,i2,x.b.ep,ds,⟨#[]⟩,(x.node:Int),(tg:Int)⟩,A,c⟩ ⟨by rw[<-Hn.out];exact In.keep hd λb hb _=>eZ.keep lG b hb,by rw[<-Hn.out];exact xR,jg,by rw[<-Hn.out];omega⟩;unfold En.agg at R7;dsimp only at R7;rw[<-Hn.out] at R7;refine dO rfl ?_;refine fV (λO=>(eL O y5 40 #[J 1,J i0,J i1,J i2,J x.b.ep,Y A n c,"",J x.node,J tg]∧O.cell? (p.a,6)=some (J la))∧O.cell? (y2,0)=some (J t1)∧O.cell? (p.a,1)=some (J rp)) [16] 17 rfl [0,1,2,3,4,5,6,7,8,9,10,11,12] ?_;iterate 11 (refine ff rfl eN (λw1 ⟨⟨I,Z⟩,h4,h5⟩=>aM) ?_)
 have XN:¬ rp=0:=by omega
 have hr2:IntKind.i64.wrap ((la:Int)+(t1:Int))=(la:Int)+(t1:Int):=by rw[IntKind.wrap_i64];omega
 have hr1:((la:Int)+(t1:Int)).tmod (rp:Int)=(to:Int):=by rw[Is.out];exact Int.tmod_eq_emod_of_nonneg ap
 refine ff rfl eN (v := J to) (λw1 ⟨⟨I,Z⟩,h4,h5⟩ R W=>by go_simp;first|exact W|(rw[aB XN];go_simp;exact W)) ?_;refine ff rfl eN (λw1 ⟨⟨I,Z⟩,h4,h5⟩ R W=>by have c0:=I.cell 0;have c1:=I.cell 1;have c2:=I.cell 2;have c3:=I.cell 3;have c4:=I.cell 4;have c5:=I.cell 5;have c6:=I.cell 6;have c7:=I.cell 7;have c8:=I.cell 8;go_simp;exact W) ?_
 refine fG 13 [14,15] rfl ?_;go_wp2_with fail;refine R7.mono ?_;rintro e w7 ⟨A7,rfl,hI7,hg7⟩;go_wp2_with fail;have lA:=eZ.join (zG.framed ⟨⟨1,i0,i1,i2,x.b.ep,ds,⟨#[]⟩,(x.node:Int),(tg:Int)⟩,A7,n⟩) hg7 (U:=New w6.drew w7) hI7 (λb hb=>hb);have lx:=gU _ (eZ.grow hg7);refine⟨λ_=>lx,?_⟩;iterate 2 (refine ff rfl lx (λw1 ⟨⟨I,Z⟩,h4,h5⟩=>aM) ?_)
 refine gx 16 rfl aw ?_;refine er lA 7 rfl 218 (.tmp 8) (.tmp 64) rfl 0 rfl [J to,J 1,J 1,J i0,J i1,J i2,J x.b.ep,Y A7 n n,"",J x.node,J tg,(),(),ae ah 0,(),(),ay,(),()] rfl (bf rfl) rfl aw #[J to,J 1,J 1,J i0,J i1,J i2,J x.b.ep,Y A7 n n,"",J x.node,J tg,(),(),ae ah 0,(),(),ay,(),()] rfl rfl ?_;intro w8 lX;go_wp2;refine bodyPost_ret (fF rfl _ y4 rfl (lX.blk 7 rfl) Tryz.underlying218 aw) rfl ?_;have hEe:aep=⟨1,i0,i1,i2,x.b.ep,ds,⟨#[]⟩,(x.node:Int),(tg:Int)⟩:=by rw[HE.out,ZG.out];rfl
 have o6:=(((((lX.dT 10 rfl).dT 9 rfl).dT 8 rfl).dT 7 rfl).dT 1 rfl).cast (l' := .o (zG ⟨aep,A7,n⟩)::dV p R) (by rw[HR.out,hEe];unfold dV Ag.send;rw[<-vY];unfold sy;dsimp only;rw[<-ZG.out,<-Hv.out,<-Hnv.out];rfl)
 obtain⟨r1,r2⟩:=o6.fin;refine⟨A7,?_,r1,r2⟩;rw[hEe,Hn.out];rfl
def xF{κ α:Type}[DecidableEq α](q:List (κ×α))(v:α):List (κ×α):=q.filter λp=>decide (p.2≠v)
def Ag.put(x:Ag)(r:Rc):Ag:=if x.iA r=0 then { x with rs:=x.rs++[r] } else x
def Ag.fin(x:Ag)(a k s:Nat):Ag:={ x.put (.dn k s) with b:=x.b.done k (s:Int),tr:=ij x.tr ((a:Int),(k:Int),(s:Int)),ask:=xF x.ask ((a:Int),(k:Int),(s:Int)) }
def VI(p:xC)(x:Ag)(r:Rc):eF p.x p.d ((if V.iA x.bs r.B=0 then x.rs.length+1 else x.rs.length:Nat):Int) (V.Bn x.bs r.B) x.k=eF p.x p.d ((x.put r).rs.length:Nat) (x.put r).bs x.k:=by
 unfold Ag.put Ag.iA;by_cases h:V.iA x.bs r.B=0
 ·rw[aA h,aA h,(nH h).1]
  unfold Ag.bs;rw[pF,bd];rfl
 ·rw[aB h,aB h,(uO h).1]
def VJ(w:G)(D:aV)(p:xC)(x:Ag)(X:x.Ok)(a k s:Nat)(K:k<4)(hs:s<=9223372036854775807):Lw N D 273 #[((p.a,0):E),j6 ((a:Int),(k:Int),(s:Int))] (dV p x) (λ(_:Unit)e=>e=b5 (a_ #[])) (λ_=>dV p (x.fin a k s)) w:=by
 obtain⟨R,HR⟩:=az (x.fin a k s);rw[<-HR.out];intro V hM hV;have fY:=St.begin_ hM (λb hb=>(hV b hb).1) (fJ _ _);obtain⟨y,wa,HY,HA,eC⟩:=fY.new' #[J a,J k,J s] 37;unfold j6;go_in;go_wp2_with fail;rw[<-HA.out,<-HY.out];have eZ:=eC.grow (Grow.refl _).drew;have gU:∀l O,St V w (.c y 37 #[J a,J k,J s]::.c p.a 192 (rA p x)::l) O->O.cell? (p.a,2)=some (((p.x,0):E))∧O.cell? (y,1)=some (J k)∧O.cell? (y,2)=some (J s):=λl O h=>⟨h.facts.2.1.1 2,h.facts.1.1 1,h.facts.1.1 2⟩;have eN:=gU _ _ eZ;clear HY HA eC fY;have qE:=Nl wa.drew k s ap hs;refine dO rfl ?_;refine fV (λO=>O.cell? (p.a,2)=some (((p.x,0):E))∧O.cell? (y,1)=some (J k)∧O.cell? (y,2)=some (J s)) [] 10 rfl [0,1,2,3,4,5,6,7] ?_;iterate 8 (refine ff rfl eN (λw1 ⟨I,Z,T⟩=>aM) ?_)
 refine fG 8 [] rfl ?_;go_wp2_with fail;refine qE.mono ?_;rintro e w2 ⟨v,rfl,fN,xr⟩;have ec:=eZ.grow fN;have mL:=gU _ _ ec;obtain⟨Au,mu,cu,rfl,RN⟩:=id xr;go_wp2_with fail;refine⟨λ_=>mL,?_⟩;refine fG 9 [] rfl ?_;go_wp2_with fail;refine (ec.Il 3 rfl (λ_=>eF.framed _ _ _ _ _) ec.no (λU _ _=>sa w2 _ p.x p.d x.rs.length x.k x.bs (Rc.dn k s).B _ xr (by have:=X.few;omega))).mono ?_;rintro e w3 ⟨_,rfl,eh⟩;rw[VI] at eh;simp only[bI,bL,dV] at eh;have tP:=gU _ _ eh;go_wp2_with fail;refine⟨λ_=>tP,?_⟩;refine gQ ?_;go_wp2_with fail;clear eN mL tP gU qE xr RN ec eZ;obtain⟨hz,sl,cw,eU⟩:=iO.ov eh 2 rfl;have eU:St V w (.c y 37 #[J a,J k,J s]::.c p.a 192 (rA p x)::.o (eF p.x p.d (x.put (.dn k s)).rs.length (x.put (.dn k s)).bs x.k)::.o (eR oV p.bK (gR j6 x.ask))::.o (eR j6 p.bT (gR sy x.tr))::ib p.st p.z sl cw x.b) w3:=eU;obtain⟨g,Hg⟩:=az (p.z.getD k 0);have Mu:(Im p.z sl cw x.b)[3+k]?=some ((g:E)):=by
  have h4:k=0∨k=1∨k=2∨k=3:=by omega
  rw[Hg.out];rcases h4 with rfl|rfl|rfl|rfl<;>rfl
 have eZ:=eU.grow (Grow.refl _).drew;have gU:∀b l O,(Im p.z sl cw b)[3+k]?=some ((g:E))->St V w (.c y 37 #[J a,J k,J s]::.c p.a 192 (rA p x)::.o (eF p.x p.d (x.put (.dn k s)).rs.length (x.put (.dn k s)).bs x.k)::.o (eR oV p.bK (gR j6 x.ask))::.o (eR j6 p.bT (gR sy x.tr))::.c p.st 186 (Im p.z sl cw b)::l) O->O.cell? (p.a,3)=some (((p.st,0):E))∧(O.cell? (y,1)=some (J k)∧O.cell? (y,2)=some (J s))∧O.cell? ⟨p.st,3+k,none⟩=some ((g:E)):=λb l O Mu h=>⟨h.facts.2.1.1 3,⟨h.facts.1.1 1,h.facts.1.1 2⟩,((h.front 5 rfl).facts.1.1 (3+k)).trans Mu⟩;have eN:=gU _ _ _ Mu eZ;refine dO rfl ?_;refine fV (λO=>O.cell? (p.a,3)=some (((p.st,0):E))∧(O.cell? (y,1)=some (J k)∧O.cell? (y,2)=some (J s))∧O.cell? ⟨p.st,3+k,none⟩=some ((g:E))) [] 13 rfl [0,1,2,3,4,5,6,7,8,9,10,11] ?_;iterate 12 (refine ff rfl eN (λw1 ⟨I,⟨Z,h4⟩,T⟩ R W=>by go_simp;first|exact W|(rw[aA ap];go_simp;exact W)) ?_)
 refine fG 12 [] rfl ?_;go_wp2_with fail;have hgg:=Hg.out;subst hgg;refine (eZ.Il (k+8) (S:=aes.eA (p.z.getD k 0) (x.b.qu k).l (x.b.qu k).k) (lS hz.1 hz.2 K) (λ_=>aes.eA.framed _ _ _) eZ.no (λU hU kp=>Lw.turns (aes.Fy _ _ _ _ (s:Int)))).mono ?_;rintro e w4 ⟨_,rfl,eI⟩;have eS:St V w ([.c y 37 #[J a,J k,J s],.c p.a 192 (rA p x),.o (eF p.x p.d (x.put (.dn k s)).rs.length (x.put (.dn k s)).bs x.k),.o (eR oV p.bK (gR j6 x.ask)),.o (eR j6 p.bT (gR sy x.tr))]++ib p.st p.z sl cw (x.b.done k s)) w4:=by unfold ib Bk.done;dsimp only;rw[<-tv hz.1 hz.2 K];exact eI
 have fQ:=iO.zU (b:=x.b.done k s) ⟨hz.1,by unfold Bk.done;rw[dq];exact hz.2⟩ eS;go_wp2_with fail;refine⟨λ_=>gU _ _ _ Mu eS,?_⟩;refine gQ ?_;go_wp2_with fail;clear gU Mu eN eS eI eZ eU eh;have eZ:=fQ.grow (Grow.refl _).drew;have eN:eL w4.drew y 37 #[J a,J k,J s]∧w4.drew.cell? (p.a,7)=some (.map (some p.bT)):=⟨eZ.blk 1 rfl,(eZ.front 2 rfl).facts.1.1 7⟩;refine dO rfl ?_;refine fV (λO=>eL O y 37 #[J a,J k,J s]∧O.cell? (p.a,7)=some (.map (some p.bT))) [] 6 rfl [0,1,2,3,4] ?_;iterate 4 (refine ff rfl eN (λw1 ⟨I,Z⟩=>aM) ?_)
 refine ff rfl eN (λw1 ⟨I,Z⟩ R W=>by have c0:=I.cell 0;have c1:=I.cell 1;have c2:=I.cell 2;go_simp;exact W) ?_
 refine fG 5 [] rfl ?_;obtain⟨w6,eM,fK⟩:=eZ.a28 QZ Tryz.underlying189 5 rfl ((a:Int),(k:Int),(s:Int));unfold j6 at eM;rw[nG] at fK;have fK:St V w (.o (iO p.st p.z (x.b.done k s))::.c y 37 #[J a,J k,J s]::.c p.a 192 (rA p x)::.o (eF p.x p.d (x.put (.dn k s)).rs.length (x.put (.dn k s)).bs x.k)::.o (eR oV p.bK (gR j6 x.ask))::[.o (eR j6 p.bT (gR sy (ij x.tr ((a:Int),(k:Int),(s:Int)))))]) w6:=fK;go_wp2_with fail;refine⟨⟨fK.blk 1 rfl,(fK.front 2 rfl).facts.1.1 7⟩,?_⟩;refine gQ ?_;clear eN eZ fQ eM;have ha8:w6.cell? (p.a,8)=some (.map (some p.bK)):=(fK.front 2 rfl).facts.1.1 8;obtain⟨w7,Zf,gM⟩:=fK.range Tryz.underlying190 4 rfl;go_wp2_with fail;obtain⟨r,Hr⟩:=az ((w6:Nat));rw[<-Hr.out] at gM ⊢;clear fK Zf ha8;go_loopw [] (λwr=>∃q td:List (Int×lZ),(xF q ((a:Int),(k:Int),(s:Int))=xF x.ask ((a:Int),(k:Int),(s:Int))∧∀e∈q,e ∉ td->e.2≠((a:Int),(k:Int),(s:Int)))∧St V w (.o (iO p.st p.z (x.b.done k s))::.c y 37 #[J a,J k,J s]::.c p.a 192 (rA p x)::.o (eF p.x p.d (x.put (.dn k s)).rs.length (x.put (.dn k s)).bs x.k)::.o (mw oV p.bK r (gR j6 q) (gR j6 td))::[.o (eR j6 p.bT (gR sy (ij x.tr ((a:Int),(k:Int),(s:Int)))))]) wr) (λwr=>Dp p.bK r wr);case atStart=>exact⟨x.ask,x.ask,⟨rfl,λe h Z=>absurd h Z⟩,gM⟩
 case round=>
  obtain⟨q,td,⟨Ih,E_⟩,Tp⟩:=hrel;have ng:=Tp.Pt 4 rfl;rcases Tp.a29 4 rfl 0 with ⟨h0,eM⟩|⟨k',v,O,hm,hmq,eM,a4R,hSn⟩
  ·have EY:td=[]:=by cases td with|nil=>rfl|cons=>simp[gR] at h0
   subst EY;go_wp2_with (refine mx rfl (.tmp 38) rfl rfl eM ?_;refine stay ?_);refine dN ?_;go_wp2;go_end0;have AZ:xF q ((a:Int),(k:Int),(s:Int))=q:=List.filter_eq_self.2 λe he=>by simpa using E_ e he (by simp)
   have iS:=(((Tp.rend 4 rfl).dT 1 rfl).back 1).cast (l':=dV p R) (by rw[HR.out];unfold dV Ag.fin;dsimp only;rw[<-Ih,AZ];unfold Ag.put;split<;>rfl)
   obtain⟨r1,r2⟩:=iS.fin;exact⟨(),rfl,r1,r2⟩
  ·obtain⟨⟨et,e1,e2,e3⟩,he,I⟩:=List.mem_map.1 hmq
   injection I with I Z;subst I Z;rw[nG] at hSn;have fM:=ML hm;rw[nG] at fM;unfold oV j6 at a4R eM;dsimp only at a4R eM hSn fM;have I5:=hSn.new #[J e1,J e2,J e3] 37;have WY:=(I5.front 2 rfl).facts;have d0:=WY.1.1 0;have d1:=WY.1.1 1;have d2:=WY.1.1 2;simp at d0 d1 d2;have ha8:=(I5.front 3 rfl).facts.1.1 8;simp only[rA] at ha8;simp at ha8;clear WY;have kS:(e1,e2,e3)≠((a:Int),(k:Int),(s:Int))->∃q' td',(xF q' ((a:Int),(k:Int),(s:Int))=xF x.ask ((a:Int),(k:Int),(s:Int))∧∀e∈q',e ∉ td'->e.2≠((a:Int),(k:Int),(s:Int)))∧St V w [.o (iO p.st p.z (x.b.done k s)),.c y 37 #[J a,J k,J s],.c p.a 192 (rA p x),.o (eF p.x p.d (x.put (.dn k s)).rs.length (x.put (.dn k s)).bs x.k),.o (mw oV p.bK r (gR j6 q') (gR j6 td')),.o (eR j6 p.bT (gR sy (ij x.tr ((a:Int),(k:Int),(s:Int)))))] (O.alloc (.cells #[J e1,J e2,J e3] 37)):=λkr=>by
    refine⟨q,ij td et,⟨Ih,λe lL EY=>?_⟩,I5.dT 0 rfl⟩;by_cases h5:e∈td
    ·have h6:e.1=et:=by
      by_cases h7:e.1=et;·exact h7
      ·exact absurd (List.mem_filter.2 ⟨h5,by simpa using h7⟩) EY
     have qI:=Tp.Pu 4 rfl
     rw[zQ] at qI
     rw[C6 qI lL he h6];exact kr
    ·exact E_ e lL h5
   have ZH:=Nat.lt_of_le_of_lt (Nat.le_of_eq (I5.Pt 5 rfl)) (Nat.lt_of_lt_of_eq fM ng.symm);by_cases b1:e1=(a:Int);case neg=>
    go_wp2_with (refine mx rfl (.tmp 38) rfl rfl eM ?_;refine stay ?_);refine dN ?_;go_wp2_with fail;exact⟨kS (by simp[b1]),ZH⟩
   subst b1;by_cases b2:e2=(k:Int);case neg=>
    go_wp2_with (refine mx rfl (.tmp 38) rfl rfl eM ?_;refine stay ?_);refine dN ?_;go_wp2_with fail;exact⟨kS (by simp[b2]),ZH⟩
   subst b2;by_cases b3:e3=(s:Int);case neg=>
    go_wp2_with (refine mx rfl (.tmp 38) rfl rfl eM ?_;refine stay ?_);refine dN ?_;go_wp2_with fail;exact⟨kS (by simp[b3]),ZH⟩
   subst b3;obtain⟨Xr,WK,iS⟩:=I5.a6I QY Tryz.underlying190 5 rfl et;unfold oV at WK;rw[nG,nG] at iS;go_wp2_with (refine mx rfl (.tmp 38) rfl rfl eM ?_;refine stay ?_);refine dN ?_;go_wp2_with fail;refine⟨⟨ij q et,ij (ij td et) et,⟨?_,λe lL EY=>?_⟩,iS.dT 0 rfl⟩,?_⟩
   ·rw[<-Ih]
    unfold xF ij;rw[List.filter_filter];refine List.filter_congr λe lL=>?_;by_cases h6:e.1=et
    ·have qI:=Tp.Pu 4 rfl
     rw[zQ] at qI;rw[C6 qI lL he h6];simp
    ·simp[h6]
   ·have ZI:=List.mem_filter.1 lL
    refine E_ e ZI.1 λh5=>EY (List.mem_filter.2 ⟨List.mem_filter.2 ⟨h5,ZI.2⟩,ZI.2⟩)
   ·rw[ng]
    refine Nat.lt_of_le_of_lt (Nat.le_of_eq (iS.Pt 5 rfl)) (Nat.lt_of_le_of_lt ?_ fM);unfold gR ij;rw[bj,bj];exact df _ _
def nW(q:List Sd):ei:=λw V=>∀s∈q,Sd.In w V s
def nW.framed(q:List Sd):eQ (nW q):=λw O V h K s hs=>qm w O V s (h s hs) K
def nW.nil(w:G)(V:aV):nW [] w V:=λ_ h=>absurd h (by simp)
section
variable{q:List Sd}
def St.cnt{x:El}(h:St V w0 (.o (nW q)::.o (zG x)::l) w)(s:Sd)(I:(⟨s.m.e,s.A,s.c⟩:El)=x)(Z:s.q=[]∧s.A2=none∧s.m.log=[]∧s.c2=0):St V w0 (.o (nW (q++[s]))::l) w:=by
 refine St.cls (a:=[.o (nW q),.o (zG x)]) h (nW.framed _) λU hM=>?_;obtain⟨U0,a0,b0⟩:=oI hM 0 rfl;obtain⟨U1,a1,b1⟩:=oI hM 1 rfl;intro s' sS;rcases List.mem_append.1 sS with sS|sS
 ·exact qn w U0 U s' (a0 s' sS) b0
 ·rw[List.mem_singleton] at sS
  subst sS;refine⟨by rw[I];exact jF _ _ _ _ a1 b1,?_,by rw[Z.1,Z.2.2.1];rfl,by rw[Z.1,Z.2.2.2];exact⟨bh _,bo _⟩⟩;rw[Z.1,Z.2.1];exact kO.nil
def St.a3x(h:St V w0 (.o (fT 218 19 u q.length (q.flatMap Sd.cells))::.o (nW q)::l) w):St V w0 (.o (dY u q)::l) w:=by refine St.cls (a:=[.o (fT 218 19 u q.length (q.flatMap Sd.cells)),.o (nW q)]) h (dY.framed _ _) λU hM=>?_;obtain⟨U0,U1,a0,⟨U2,U3,a2,a3,k4,k5,k6⟩,k1,k2,k3⟩:=hM;exact⟨U0,U2,Row.own (show Row w U0 218 19 u q.length (q.flatMap Sd.cells) from a0),a2,λb hb=>⟨k1 b hb,λZ=>k3 b hb (k4 b Z)⟩,λb hb=>k2 b (k4 b hb)⟩
end
def gH(e:En):Ms:=⟨1,e,0,0,0,0,0,[],0,0⟩
def Ag.tries(x:Ag)(i:lZ):Nat×Nat:=(r_ x.tr i).getD (0,0)
def Ag.jm(x:Ag)(k:Nat)(sq:Int):lZ:=((x.node:Int),(k:Int),sq)
def Ag.fu(k:Nat):List aes.Ab->Ag->Sends->Ag×Sends
 | [],x,out=>(x,out)
 | b::l,x,out=>
   if (x.tries (x.jm k b.1)).1=0∨(x.tries (x.jm k b.1)).2<=x.now then
    fu k l (x.send (x.jm k b.1) (x.tries (x.jm k b.1))) (out++[(((x.to (x.tries (x.jm k b.1)).1:Nat):Int),gH (x.uR (x.jm k b.1) b.2))])
   else fu k l x out
def Ag.gu:List Nat->Ag->Sends->Ag×Sends
 | [],x,out=>(x,out)
 | k::ks,x,out=>gu ks (fu k ((x.b.qu k).l.take 4) x out).1 (fu k ((x.b.qu k).l.take 4) x out).2
def Ag.mG(x:Ag)(out:Sends):Ag×Sends:=gu (bF 4) { x with now:=x.now+1 } out
def Ag.gv:Nat->Ag->Sends->Ag×Sends
 | 0,x,out=>(x,out)
 | r+1,x,out=>gv r (x.mG out).1 (x.mG out).2
structure Ag.Tm(x:Ag)(M:Nat):Prop where
 tag:x.tag<=M
 now:x.now<=M
 tr:∀e∈x.tr,e.2.1<=M∧e.2.2<=M+48
def zV{κ α:Type}[DecidableEq κ]{q:List (κ×α)}{k:κ}{v:α}{e:κ×α}(h:e∈tD q k v):e=(k,v)∨e∈q:=by
 unfold tD at h;split at h
 ·obtain⟨p,hp,rfl⟩:=List.mem_map.1 h
  split;·exact .inl rfl
  ·exact .inr hp
 ·rcases List.mem_append.1 h with h|h
  ·exact .inr h
  ·exact .inl (List.mem_singleton.1 h)
theorem Er{κ α:Type}[DecidableEq κ]{q:List (κ×α)}{k:κ}{v:α}(h:r_ q k=some v):∃e∈q,e.2=v:=by
 unfold r_ at h;cases hf:q.find? λp=>decide (p.1=k) with
 | none=>rw[hf] at h;cases h
 | some p=>
   rw[hf] at h;injection h with h;exact⟨p,List.mem_of_find?_eq_some hf,h⟩
def Ag.Tm.mono{M M':Nat}(h:x.Tm M)(hm:M<=M'):x.Tm M':=⟨bA h.tag hm,bA h.now hm,λe he=>⟨bA (h.tr e he).1 hm,by have:=(h.tr e he).2;omega⟩⟩
theorem Ag.Tm.tries{x:Ag}{M:Nat}(h:x.Tm M)(i:lZ):(x.tries i).1<=M∧(x.tries i).2<=M+48:=by
 unfold Ag.tries;cases hf:r_ x.tr i with
 | none=>exact⟨bo _,bo _⟩
 | some t=>
   obtain⟨e,he,rfl⟩:=Er hf;exact h.tr e he
theorem Ag.Tm.send{x:Ag}{M:Nat}(h:x.Tm M)(i:lZ){t:Nat×Nat}(ht:t.1<=M):(x.send i t).Tm (M+1):=by
 refine⟨Nat.succ_le_succ h.tag,bA h.now (Nat.le_succ _),λe he=>?_⟩;rcases zV he with rfl|he
 ·have:=yU (x.tag+1) t.1
  have:=h.now;exact⟨by simp;omega,by simp;omega⟩
 ·have:=h.tr e he
  omega
theorem Ag.Ok.send{x:Ag}(h:x.Ok)(i:lZ)(t:Nat×Nat):(x.send i t).Ok:=⟨h.node,h.f9,h.last,h.b,h.sh,h.bs,h.rs,h.qk⟩
def Ag.Ok.Ka(h:x.Ok)(n:Nat):({ x with now:=n }:Ag).Ok:=⟨h.node,h.f9,h.last,h.b,h.sh,h.bs,h.rs,h.qk⟩
def mY(A:aU)(n:Nat)(q:List aes.iW):ei:=λw V=>aes.o4 w V V A n q
def mY.framed(A:aU)(n:Nat)(q:List aes.iW):eQ (mY A n q):=λw O V h K=>⟨In.keep h.row λb hb _=>K b hb,λb hb=>(h.all b hb).keep λx X _=>K x X⟩
def Ag.jO(x:Ag)(tg:Nat):lZ:=(r_ x.ask (tg:Int)).getD (0,0,0)
def Ag.took(x:Ag)(f tg code:Nat):Ag:=
 let x1:={ x with ask:=ij x.ask (tg:Int) }
 let x2:=if code=6 then x1 else { x1 with last:=f }
 let i:=x.jO tg
 if i=(0,0,0) then (if code=6∧f=x2.last then { x2 with last:=(x2.last+1) % x.f9 } else x2)
 else if code=1∨code=2∨code=3 then x2.fin i.1.toNat i.2.1.toNat i.2.2.toNat
 else if code=6 then { x2 with tr:=tD x2.tr i ((x2.tries i).1,x.now) } else x2
set_option maxRecDepth 100000
set_option maxHeartbeats 1000000
def Kb(w:G)(D:aV)(p:xC)(x:Ag)(X:x.Ok)(f:Int)(tg code n:Nat)(I:tg<=9223372036854775807)(Z:code<=255)(hf:0<=f∧f<x.f9)(l8:(r_ x.ask (tg:Int)).isSome=true)(hid:x.jO tg=(0,0,0)∨∃a k s:Nat,x.jO tg=((a:Int),(k:Int),(s:Int))∧1<=a∧k<4∧s<=9223372036854775807):Lw N D 210 #[((p.a,0):E),J f,aZ (jC (tg:Int) (code:Int) n)] (dV p x) (λ(_:Unit)e=>e=b5 (a_ #[j6 (x.jO tg),J code])) (λ_=>dV p (x.took f.toNat tg code)) w:=by
 obtain⟨R,HR⟩:=az (x.took f.toNat tg code);obtain⟨i,HI⟩:=az (x.jO tg);rw[<-HR.out,<-HI.out];have mQ:=λw1=>zP w1 (tg:Int) (code:Int) n ap ap;unfold jC at mQ ⊢;intro V hM hV;have fY:=St.begin_ hM (λb hb=>(hV b hb).1) (fJ _ _);have z1:(w.alloc (.cells #[J 2,(),(),(),(),(),ay,"",(),(),J tg,J code,ae ah n,(),(),ay,(),()] 45)).heap.size=(w:Nat)+1:=by simp
 obtain⟨y,wa,HY,HA,eC⟩:=fY.new' #[J 2,(),(),(),(),(),ay,"",(),(),J tg,J code,ae ah n,(),(),ay,(),()] 45;rw[<-HA.out,<-HY.out] at z1;obtain⟨z,wb,HZ,HB,ec⟩:=eC.new' #[(),(),()] 37;have ez:z=y+1:=by rw[HZ.out,z1]
 obtain⟨i0,i1,i2⟩:=i;unfold j6;have zW:∀(l:List Bl)(O:G),St V w (.c p.a 192 (rA p x)::.o (iO p.st p.z x.b)::.o (eF p.x p.d x.rs.length x.bs x.k)::.o (eR oV p.bK (gR j6 x.ask))::l) O->(Instr.lookup 190 (.map (some p.bK)) (J tg) true).run N O=.ok (a_ #[aZ #[J i0,J i1,J i2],aY true]) O:=λl O h=>by
  have I:=h.KX QY Tryz.underlying190 (z:=j6 (0,0,0)) aw 3 rfl (tg:Int) true;have Z:(vm (gR j6 x.ask) (tg:Int)).getD (j6 (0,0,0))=j6 (i0,i1,i2)∧(vm (gR j6 x.ask) (tg:Int)).isSome=true:=by
   rw[uN,HI.out];unfold Ag.jO;cases K:r_ x.ask (tg:Int) with
   | none=>rw[K] at l8;cases l8
   | some v=>exact⟨rfl,rfl⟩
  rw[aA rfl,Z.1,Z.2] at I;exact I
 go_in;go_wp2_with fail;rw[<-HA.out,<-HY.out,<-HB.out,<-ez];have ec:St V w (.c z 37 #[(),(),()]::.c y 45 (jC (tg:Int) (code:Int) n)::dV p x) wb:=ec;have eZ:=ec.grow (Grow.refl _).drew;have gU:∀O,St V w (.c z 37 #[(),(),()]::.c y 45 (jC (tg:Int) (code:Int) n)::dV p x) O->(O.cell? (p.a,8)=some (.map (some p.bK))∧O.cell? (y,10)=some (J tg))∧(Instr.lookup 190 (.map (some p.bK)) (J tg) true).run N O=.ok (a_ #[aZ #[J i0,J i1,J i2],aY true]) O:=λO h=>
  ⟨⟨(h.front 2 rfl).facts.1.1 8,h.facts.2.1.1 10⟩,zW _ O (h.perm (bg (l₁:=[_,_]) (l₂:=dV p x)))⟩
 have eN:=gU _ eZ;clear HA HB HY HZ ez z1 eC;refine dO rfl ?_;refine fV (λO=>(O.cell? (p.a,8)=some (.map (some p.bK))∧O.cell? (y,10)=some (J tg))∧(Instr.lookup 190 (.map (some p.bK)) (J tg) true).run N O=.ok (a_ #[aZ #[J i0,J i1,J i2],aY true]) O) [12] 13 rfl [0,1,2,3,4,5,6,7,8,9] ?_;iterate 6 (refine ff rfl eN (λw1 ⟨⟨I,Z⟩,T⟩=>aM) ?_)
 refine ff rfl eN (v := a_ #[aZ #[J i0,J i1,J i2],aY true]) (λw1 ⟨⟨I,Z⟩,T⟩=>aM) ?_;iterate 3 (refine ff rfl eN (λw1 ⟨⟨I,Z⟩,T⟩=>aM) ?_)
 refine fG 10 [] rfl ?_;obtain⟨y8,wc,HY8,HC8,xw⟩:=ec.new' #[(),(),()] 37;go_wp2_with fail;rw[<-HC8.out,<-HY8.out];have xw:=xw.grow (Grow.refl _).drew;refine⟨λ_=>gU _ (xw.dT 0 rfl),?_⟩;refine fG 11 [] rfl ?_;refine er xw 0 rfl 37 (.tmp 8) (.tmp 19) rfl 0 rfl [J i0,J i1,J i2] rfl (bf rfl) rfl aw #[J i0,J i1,J i2] rfl rfl ?_;intro w3 eh;refine wpList_nil ⟨λ_=>gU _ (eh.dT 0 rfl),?_⟩;refine gx 12 rfl aw ?_;have eh:St V w (.c y8 37 #[J i0,J i1,J i2]::.c z 37 #[(),(),()]::.c y 45 (jC (tg:Int) (code:Int) n)::dV p x) w3:=eh;clear xw HC8 HY8 eN gU eZ ec zW fY;have dfn:decide (f<0)=false:=aD ap;have dfr:decide ((x.f9:Int)<=f)=false:=aD ap;have iN:=eh.blk 2 rfl;unfold jC at iN;have m0:w3.cell? (y,0)=some (J 2):=iN.cell 0;have ha1:w3.cell? (p.a,1)=some (J x.f9):=(eh.front 3 rfl).facts.1.1 1;go_wp2_with (refine d_ rfl 45 _ rfl _ rfl iN bG aw ?_);refine (mQ w3).mono ?_;rintro e w4 ⟨rfl,Dg⟩;have eU:=eh.grow Dg;clear m0 iN ha1 mQ;have ha1:w4.cell? (p.a,1)=some (J x.f9):=(eU.front 3 rfl).facts.1.1 1;go_wp2_with fail;clear ha1;have eZ:=eU.grow (Grow.refl _).drew;have eN:w4.drew.cell? (p.a,8)=some (.map (some p.bK))∧w4.drew.cell? (y,10)=some (J tg):=⟨(eZ.front 3 rfl).facts.1.1 8,(eZ.front 2 rfl).facts.1.1 10⟩;refine dO rfl ?_;refine fV (λO=>O.cell? (p.a,8)=some (.map (some p.bK))∧O.cell? (y,10)=some (J tg)) [] 7 rfl [0,1,2,3,4,5] ?_;iterate 6 (refine ff rfl eN (λw1 ⟨I,Z⟩=>aM) ?_)
 refine fG 6 [] rfl ?_;obtain⟨w6,eM,eI⟩:=eZ.a28 QY Tryz.underlying190 6 rfl (tg:Int);unfold oV at eM;rw[nG] at eI;have eI:St V w (.c y8 37 #[J i0,J i1,J i2]::.c z 37 #[(),(),()]::.c y 45 (jC (tg:Int) (code:Int) n)::dV p { x with ask:=ij x.ask (tg:Int) }) w6:=eI;go_wp2_with fail;refine⟨λ_=>⟨(eI.front 3 rfl).facts.1.1 8,(eI.front 2 rfl).facts.1.1 10⟩,?_⟩;refine gQ ?_;clear eN eZ eU eM eh;obtain⟨x1,EV⟩:=az (({ x with ask:=ij x.ask (tg:Int) }:Ag));rw[<-EV.out] at eI;have m11:w6.cell? (y,11)=some (J code):=(eI.front 2 rfl).facts.1.1 11;have hx1n:x1.node=x.node∧x1.f9=x.f9∧x1.last=x.last:=by rw[EV.out];exact⟨rfl,rfl,rfl⟩
 rw[<-HI.out] at hid;have O5:∀(x2:Ag)(w7:G),x.took f.toNat tg code=x2->St V w (.c y8 37 #[J i0,J i1,J i2]::.c z 37 #[J i0,J i1,J i2]::.c y 45 (jC (tg:Int) (code:Int) n)::dV p x2) w7->dU (qv (dV p R)) w7 (ju V w w7)∧dP V w w7:=λx2 w7 h L=>by rw[HR.out,h];exact (((L.drop).drop).drop).fin
 rcases bB ((code:Int) != 6) with h6|h6
 ·have lE:code≠6:=by intro h;subst h;exact absurd h6 am
  have e6:((code:Int) == 6)=false:=by simp;omega
  obtain⟨x2,kq⟩:=az (({ x1 with last:=f.toNat }:Ag));go_wp2_with (refine fB eI 3 rfl 3 (.tmp 58) (.tmp 56) rfl 6 rfl (J f) rfl (bf rfl) rfl aw rfl ?_;intro w7 fQ;refine stay ?_);refine dN ?_;replace fQ:St V w (.c y8 37 #[J i0,J i1,J i2]::.c z 37 #[(),(),()]::.c y 45 (jC (tg:Int) (code:Int) n)::dV p x2) w7:=by rw[kq.out];have:=fQ;simp only[bI,bL,dV,rA] at this ⊢;rw[cQ hf.1];exact this
  clear eI;have b0:w7.cell? (y8,0)=some (J i0):=fQ.facts.1.1 0;have b1:w7.cell? (y8,1)=some (J i1):=fQ.facts.1.1 1;have b2:w7.cell? (y8,2)=some (J i2):=fQ.facts.1.1 2;have bc:w7.cell? (y,11)=some (J code):=(fQ.front 2 rfl).facts.1.1 11;rcases hid with hid|⟨a,k,s,hid,ha,K,hs⟩
  ·injection hid with e0 e12
   injection e12 with e1 e2;subst e0 e1 e2;go_wp2_with fail;refine dO rfl ?_;have eZ:=fQ.grow (Grow.refl _).drew;have a3A:∀O,St V w (.c y8 37 #[(),(),()]::.c z 37 #[(),(),()]::.c y 45 (jC (tg:Int) (code:Int) n)::dV p x2) O->(O.cell? (y8,0)=some (J 0)∧O.cell? (y8,1)=some (J 0)∧O.cell? (y8,2)=some (J 0))∧O.cell? (y,11)=some (J code):=λO h=>⟨⟨h.facts.1.1 0,h.facts.1.1 1,h.facts.1.1 2⟩,(h.front 2 rfl).facts.1.1 11⟩;have eN:=a3A _ eZ;refine fV (λO=>(O.cell? (y8,0)=some (J 0)∧O.cell? (y8,1)=some (J 0)∧O.cell? (y8,2)=some (J 0))∧O.cell? (y,11)=some (J code)) [4] 5 rfl [0,1,2] ?_;iterate 3 (refine ff rfl eN (λw1 ⟨⟨I,Z,T⟩,h4⟩=>aM) ?_)
   refine fG 3 [] rfl ?_;refine er eZ 1 rfl 37 (.tmp 6) (.tmp 86) rfl 0 rfl [(),(),()] rfl (bf rfl) rfl aw #[(),(),()] rfl rfl ?_;intro w8 fK;refine wpList_nil ⟨λ_=>a3A _ fK,?_⟩;refine gx 4 rfl aw ?_;go_wp2_with fail;refine bodyPost_ret (ej rfl _ z rfl (fK.blk 1 rfl) Tryz.underlying37 aw) rfl ?_;refine⟨(),rfl,O5 x2 w8 ?_ fK⟩;unfold Ag.took;dsimp only;rw[<-HI.out,aA rfl,aB lE,aB (by rintro ⟨h,_⟩;exact lE h),kq.out,EV.out]
  ·injection hid with e0 e12
   injection e12 with e1 e2;subst e0 e1 e2;have WZ:¬ (a:Int)=0:=by omega
   have me:x2.Ok:=by rw[kq.out,EV.out];exact⟨X.node,X.f9,by show f.toNat<x.f9;omega,X.b,X.sh,X.bs,X.rs,X.qk⟩
   have ZJ:=(show St V w ([.c y8 37 #[J a,J k,J s],.c z 37 #[(),(),()],.c y 45 (jC (tg:Int) (code:Int) n)]++dV p x2) w7 from fQ).perm bg;have D9:code=1∨code=2∨code=3->x.took f.toNat tg code=x2.fin a k s:=λEN=>by unfold Ag.took;dsimp only;rw[<-HI.out,aB (by intro h;injection h with h _;exact WZ h),aA EN,aB lE,kq.out,EV.out];rfl
   go_wp2_with fail;iterate 3 (
    have EN:code=1∨code=2∨code=3:=by simp at *;omega
    refine (St.call (a:=dV p x2) (a':=λ_=>dV p (x2.fin a k s)) ZJ (λ_=>fJ _ _) ZJ.no (VJ w7 _ p x2 me a k s K hs)).mono ?_
    rintro e w8 ⟨_,rfl,fK⟩
    replace fK:=fK.perm bg
    clear fQ ZJ
    go_wp2_with fail
    refine dO rfl ?_
    have eZ:=fK.grow (Grow.refl _).drew
    have Iq:∀zc O,St V w (.c y8 37 #[J a,J k,J s]::.c z 37 zc::.c y 45 (jC (tg:Int) (code:Int) n)::dV p (x2.fin a k s)) O->(O.cell? (y8,0)=some (J a)∧O.cell? (y8,1)=some (J k)∧O.cell? (y8,2)=some (J s))∧O.cell? (y,11)=some (J code):=λ_ O h=>⟨⟨h.facts.1.1 0,h.facts.1.1 1,h.facts.1.1 2⟩,(h.front 2 rfl).facts.1.1 11⟩
    have eN:=Iq _ _ eZ
    refine fV (λO=>(O.cell? (y8,0)=some (J a)∧O.cell? (y8,1)=some (J k)∧O.cell? (y8,2)=some (J s))∧O.cell? (y,11)=some (J code)) [4] 5 rfl [0,1,2] ?_
    iterate 3 (refine ff rfl eN (λw1 ⟨⟨I,Z,T⟩,h4⟩=>aM) ?_)
    refine fG 3 [] rfl ?_
    refine er eZ 1 rfl 37 (.tmp 6) (.tmp 117) rfl 0 rfl [J a,J k,J s] rfl (bf rfl) rfl aw #[J a,J k,J s] rfl rfl ?_
    intro wf lM
    refine wpList_nil ⟨λ_=>Iq _ _ lM,?_⟩
    refine gx 4 rfl aw ?_
    go_wp2_with fail
    refine bodyPost_ret (ej rfl _ z rfl (lM.blk 1 rfl) Tryz.underlying37 aw) rfl ?_
    refine⟨(),rfl,O5 (x2.fin a k s) wf ?_ lM⟩
    exact D9 EN)
   have EN:¬ (code=1∨code=2∨code=3):=by simp at *;omega
   refine dO rfl ?_;have eZ:=fQ.grow (Grow.refl _).drew;have Iq:∀zc O,St V w (.c y8 37 #[J a,J k,J s]::.c z 37 zc::.c y 45 (jC (tg:Int) (code:Int) n)::dV p x2) O->(O.cell? (y8,0)=some (J a)∧O.cell? (y8,1)=some (J k)∧O.cell? (y8,2)=some (J s))∧O.cell? (y,11)=some (J code):=λ_ O h=>⟨⟨h.facts.1.1 0,h.facts.1.1 1,h.facts.1.1 2⟩,(h.front 2 rfl).facts.1.1 11⟩;have eN:=Iq _ _ eZ;refine fV (λO=>(O.cell? (y8,0)=some (J a)∧O.cell? (y8,1)=some (J k)∧O.cell? (y8,2)=some (J s))∧O.cell? (y,11)=some (J code)) [4] 5 rfl [0,1,2] ?_;iterate 3 (refine ff rfl eN (λw1 ⟨⟨I,Z,T⟩,h4⟩=>aM) ?_)
   refine fG 3 [] rfl ?_;refine er eZ 1 rfl 37 (.tmp 6) (.tmp 117) rfl 0 rfl [J a,J k,J s] rfl (bf rfl) rfl aw #[J a,J k,J s] rfl rfl ?_;intro wf lM;refine wpList_nil ⟨λ_=>Iq _ _ lM,?_⟩;refine gx 4 rfl aw ?_;go_wp2_with fail;refine bodyPost_ret (ej rfl _ z rfl (lM.blk 1 rfl) Tryz.underlying37 aw) rfl ?_;refine⟨(),rfl,O5 x2 wf ?_ lM⟩;unfold Ag.took;dsimp only;rw[<-HI.out,aB (by intro h;injection h with h _;exact WZ h),aB EN,aB lE,aB lE,kq.out,EV.out]
 ·have lE:Hid (code=6):=Q (by simp at h6;omega)
  have:=lE.out;have e1:((code:Int) == 1)=false:=by simp;omega
  have e2:((code:Int) == 2)=false:=by simp;omega
  have e3:((code:Int) == 3)=false:=by simp;omega
  have e6:((code:Int) == 6)=true:=by simp;omega
  clear this;have b0:w6.cell? (y8,0)=some (J i0):=eI.facts.1.1 0;have b1:w6.cell? (y8,1)=some (J i1):=eI.facts.1.1 1;have b2:w6.cell? (y8,2)=some (J i2):=eI.facts.1.1 2;have hla:∀l O,St V w (l++dV p x1) O->(O.cell? (p.a,6)=some (J x.last)∧O.cell? (p.a,1)=some (J x.f9)):=λl O h=>by have Z:=(h.perm bg).facts.1.1;exact⟨by rw[Z 6,EV.out];rfl,by rw[Z 1,EV.out];rfl⟩
  have ba:=hla [_,_,_] _ eI;rcases hid with hid|⟨a,k,s,hid,ha,K,hs⟩
  ·injection hid with e0 e12
   injection e12 with e1 e2;subst e0 e1 e2;rcases bB (f == (x.last:Int)) with Tg|Tg
   ·go_wp2_with fail
    have eZ:=eI.grow (Grow.refl _).drew;have eN:=hla [_,_,_] _ eZ;refine dO rfl ?_;refine fV (λO=>(O.cell? (p.a,6)=some (J x.last)∧O.cell? (p.a,1)=some (J x.f9))) [11,12,13] 14 rfl [0,1,2,3,4,5,6,7,8,9,10] ?_;have hrp:¬ x.f9=0:=by have:=X.f9.1;omega
    have hwm:(IntKind.i64.wrap ((x.last:Int)+1)).tmod (x.f9:Int)=(((x.last+1) % x.f9:Nat):Int):=by have I:=X.last;have Z:=X.f9.2;rw[show IntKind.i64.wrap ((x.last:Int)+1)=(x.last:Int)+1 by rw[IntKind.wrap_i64];omega,Int.tmod_eq_emod_of_nonneg ap];push_cast;rfl
    iterate 11 (refine ff rfl eN (λw1 ⟨I,Z⟩=>aM) ?_)
    refine gx 11 rfl aw ?_;go_wp2_with (refine fB eZ 3 rfl 3 (.tmp 85) (.tmp 83) rfl 6 rfl (J (((x.last+1) % x.f9:Nat):Int)) rfl (bf rfl) rfl aw rfl ?_;intro w7 fQ;refine stay ?_);refine dN ?_;obtain⟨x2,kq⟩:=az (({ x1 with last:=(x.last+1) % x.f9 }:Ag));replace fQ:St V w (.c y8 37 #[(),(),()]::.c z 37 #[(),(),()]::.c y 45 (jC (tg:Int) (code:Int) n)::dV p x2) w7:=by rw[kq.out];exact fQ
    clear eI eZ eN;go_wp2_with fail;refine dO rfl ?_;have eZ:=fQ.grow (Grow.refl _).drew;have Iq:∀zc O,St V w (.c y8 37 #[(),(),()]::.c z 37 zc::.c y 45 (jC (tg:Int) (code:Int) n)::dV p x2) O->(O.cell? (y8,0)=some (J 0)∧O.cell? (y8,1)=some (J 0)∧O.cell? (y8,2)=some (J 0))∧O.cell? (y,11)=some (J code):=λ_ O h=>⟨⟨h.facts.1.1 0,h.facts.1.1 1,h.facts.1.1 2⟩,(h.front 2 rfl).facts.1.1 11⟩;have eN:=Iq _ _ eZ;refine fV (λO=>(O.cell? (y8,0)=some (J 0)∧O.cell? (y8,1)=some (J 0)∧O.cell? (y8,2)=some (J 0))∧O.cell? (y,11)=some (J code)) [4] 5 rfl [0,1,2] ?_;iterate 3 (refine ff rfl eN (λw1 ⟨⟨I,Z,T⟩,h4⟩=>aM) ?_)
    refine fG 3 [] rfl ?_;refine er eZ 1 rfl 37 (.tmp 6) (.tmp 86) rfl 0 rfl [(),(),()] rfl (bf rfl) rfl aw #[(),(),()] rfl rfl ?_;intro wf lM;refine wpList_nil ⟨λ_=>Iq _ _ lM,?_⟩;refine gx 4 rfl aw ?_;go_wp2_with fail;refine bodyPost_ret (ej rfl _ z rfl (lM.blk 1 rfl) Tryz.underlying37 aw) rfl ?_;refine⟨(),rfl,O5 x2 wf ?_ lM⟩;unfold Ag.took;dsimp only;have hfx:f.toNat=x.last:=by simp at Tg;omega
    rw[<-HI.out,aA rfl,aA lE.out,aA (by exact⟨lE.out,hfx⟩),kq.out,EV.out]
   ·go_wp2_with fail
    refine dO rfl ?_;have eZ:=eI.grow (Grow.refl _).drew;have Iq:∀zc O,St V w (.c y8 37 #[(),(),()]::.c z 37 zc::.c y 45 (jC (tg:Int) (code:Int) n)::dV p x1) O->(O.cell? (y8,0)=some (J 0)∧O.cell? (y8,1)=some (J 0)∧O.cell? (y8,2)=some (J 0))∧O.cell? (y,11)=some (J code):=λ_ O h=>⟨⟨h.facts.1.1 0,h.facts.1.1 1,h.facts.1.1 2⟩,(h.front 2 rfl).facts.1.1 11⟩;have eN:=Iq _ _ eZ;refine fV (λO=>(O.cell? (y8,0)=some (J 0)∧O.cell? (y8,1)=some (J 0)∧O.cell? (y8,2)=some (J 0))∧O.cell? (y,11)=some (J code)) [4] 5 rfl [0,1,2] ?_;iterate 3 (refine ff rfl eN (λw1 ⟨⟨I,Z,T⟩,h4⟩=>aM) ?_)
    refine fG 3 [] rfl ?_;refine er eZ 1 rfl 37 (.tmp 6) (.tmp 86) rfl 0 rfl [(),(),()] rfl (bf rfl) rfl aw #[(),(),()] rfl rfl ?_;intro wf lM;refine wpList_nil ⟨λ_=>Iq _ _ lM,?_⟩;refine gx 4 rfl aw ?_;go_wp2_with fail;refine bodyPost_ret (ej rfl _ z rfl (lM.blk 1 rfl) Tryz.underlying37 aw) rfl ?_;refine⟨(),rfl,O5 x1 wf ?_ lM⟩;unfold Ag.took;dsimp only;rw[<-HI.out,aA rfl,aA lE.out,aB (by rintro ⟨_,h⟩;simp at Tg;have Z:f.toNat=x.last:=h;exact Tg (by have:=hf.1;omega)),EV.out]
  ·injection hid with e0 e12
   injection e12 with e1 e2;subst e0 e1 e2;have WZ:¬ (a:Int)=0:=by omega
   go_wp2_with fail;obtain⟨⟨t1,t2⟩,HT⟩:∃t:Nat×Nat,Hid (t=x1.tries ((a:Int),(k:Int),(s:Int))):=⟨_,Q rfl⟩;have zW:∀(l:List Bl)(O:G),St V w (dV p x1++l) O->(Instr.lookup 189 (.map (some p.bT)) (aZ #[J a,J k,J s]) false).run N O=.ok (aZ #[J t1,J t2]) O:=λl O h=>by
    have I:=h.KX QZ Tryz.underlying189 (z:=sy (0,0)) aw 4 rfl ((a:Int),(k:Int),(s:Int)) false;have Z:(vm (gR sy x1.tr) ((a:Int),(k:Int),(s:Int))).getD (sy (0,0))=sy (t1,t2):=by rw[uN,HT.out];unfold Ag.tries;cases r_ x1.tr ((a:Int),(k:Int),(s:Int))<;>rfl
    rw[Z] at I;exact I
   have gU:∀O,St V w (.c y8 37 #[J a,J k,J s]::.c z 37 #[(),(),()]::.c y 45 (jC (tg:Int) (code:Int) n)::dV p x1) O->((O.cell? (y8,0)=some (J a)∧O.cell? (y8,1)=some (J k)∧O.cell? (y8,2)=some (J s))∧O.cell? (p.a,7)=some (.map (some p.bT)))∧(Instr.lookup 189 (.map (some p.bT)) (aZ #[J a,J k,J s]) false).run N O=.ok (aZ #[J t1,J t2]) O:=λO h=>⟨⟨⟨h.facts.1.1 0,h.facts.1.1 1,h.facts.1.1 2⟩,(h.front 3 rfl).facts.1.1 7⟩,zW _ O (h.perm (bg (l₁:=[_,_,_]) (l₂:=dV p x1)))⟩;have eZ:=eI.grow (Grow.refl _).drew;have eN:=gU _ eZ;refine dO rfl ?_;refine fV (λO=>((O.cell? (y8,0)=some (J a)∧O.cell? (y8,1)=some (J k)∧O.cell? (y8,2)=some (J s))∧O.cell? (p.a,7)=some (.map (some p.bT)))∧(Instr.lookup 189 (.map (some p.bT)) (aZ #[J a,J k,J s]) false).run N O=.ok (aZ #[J t1,J t2]) O) [7] 8 rfl [0,1,2,3,4,5] ?_;iterate 5 (refine ff rfl eN (λw1 ⟨⟨⟨g0,g1,g2⟩,Z⟩,T⟩=>aM) ?_)
   refine ff rfl eN (v := aZ #[J t1,J t2]) (λw1 ⟨⟨⟨g0,g1,g2⟩,Z⟩,T⟩=>aM) ?_;refine fG 6 [] rfl ?_;obtain⟨A_,wc,RR,RU,xw⟩:=eI.new' #[(),()] 364;go_wp2_with fail;rw[<-RU.out,<-RR.out];have xw:=xw.grow (Grow.refl _).drew;refine⟨λ_=>gU _ (xw.dT 0 rfl),?_⟩;refine gx 7 rfl aw ?_;refine er xw 0 rfl 364 (.tmp 10) (.tmp 105) rfl 0 rfl [J t1,J t2] rfl (bf rfl) rfl aw #[J t1,J t2] rfl rfl ?_;intro w7 fQ;have a8l:w7.cell? (p.a,4)=some (J x.now):=by rw[(fQ.front 4 rfl).facts.1.1 4,EV.out];rfl
   go_wp2_with (refine fB fQ 0 rfl 2 (.tmp 110) (.tmp 109) rfl 1 rfl (J x.now) rfl (bf rfl) rfl aw rfl ?_;intro w8 fK;refine stay ?_);refine dN ?_;replace fK:St V w (.c A_ 364 #[J t1,J x.now]::.c y8 37 #[J a,J k,J s]::.c z 37 #[(),(),()]::.c y 45 (jC (tg:Int) (code:Int) n)::dV p x1) w8:=fK;clear xw RU RR eN gU zW eZ a8l fQ;go_wp2_with fail;have eZ:=fK.grow (Grow.refl _).drew;have gU:∀O,St V w (.c A_ 364 #[J t1,J x.now]::.c y8 37 #[J a,J k,J s]::.c z 37 #[(),(),()]::.c y 45 (jC (tg:Int) (code:Int) n)::dV p x1) O->(((O.cell? (y8,0)=some (J a)∧O.cell? (y8,1)=some (J k)∧O.cell? (y8,2)=some (J s))∧O.cell? (p.a,7)=some (.map (some p.bT)))∧O.cell? (A_,0)=some (J t1)∧O.cell? (A_,1)=some (J x.now)):=λO h=>⟨⟨⟨(h.front 1 rfl).facts.1.1 0,(h.front 1 rfl).facts.1.1 1,(h.front 1 rfl).facts.1.1 2⟩,(h.front 4 rfl).facts.1.1 7⟩,h.facts.1.1 0,h.facts.1.1 1⟩;have eN:=gU _ eZ;refine dO rfl ?_;refine fV (λO=>(((O.cell? (y8,0)=some (J a)∧O.cell? (y8,1)=some (J k)∧O.cell? (y8,2)=some (J s))∧O.cell? (p.a,7)=some (.map (some p.bT)))∧O.cell? (A_,0)=some (J t1)∧O.cell? (A_,1)=some (J x.now))) [6] 7 rfl [0,1,2,3,4,5] ?_;iterate 6 (refine ff rfl eN (λw1 ⟨⟨⟨g0,g1,g2⟩,Z⟩,T,h4⟩=>aM) ?_)
   refine fG 6 [] rfl ?_;obtain⟨w9,eM,gM⟩:=eZ.Yf QZ Tryz.underlying189 8 rfl ((a:Int),(k:Int),(s:Int)) (sy (t1,x.now));unfold j6 sy at eM;go_wp2_with fail;refine gQ ?_;go_wp2_with fail;obtain⟨x2,kq⟩:=az (({ x1 with tr:=tD x1.tr ((a:Int),(k:Int),(s:Int)) (t1,x.now) }:Ag));rw[vY] at gM;replace gM:St V w (.c y8 37 #[J a,J k,J s]::.c z 37 #[(),(),()]::.c y 45 (jC (tg:Int) (code:Int) n)::dV p x2) w9:=by rw[kq.out];exact gM.dT 0 rfl
   clear eZ gU eN eM fK eI;refine dO rfl ?_;have eZ:=gM.grow (Grow.refl _).drew;have Iq:∀zc O,St V w (.c y8 37 #[J a,J k,J s]::.c z 37 zc::.c y 45 (jC (tg:Int) (code:Int) n)::dV p x2) O->(O.cell? (y8,0)=some (J a)∧O.cell? (y8,1)=some (J k)∧O.cell? (y8,2)=some (J s))∧O.cell? (y,11)=some (J code):=λ_ O h=>⟨⟨h.facts.1.1 0,h.facts.1.1 1,h.facts.1.1 2⟩,(h.front 2 rfl).facts.1.1 11⟩;have eN:=Iq _ _ eZ;refine fV (λO=>(O.cell? (y8,0)=some (J a)∧O.cell? (y8,1)=some (J k)∧O.cell? (y8,2)=some (J s))∧O.cell? (y,11)=some (J code)) [4] 5 rfl [0,1,2] ?_;iterate 3 (refine ff rfl eN (λw1 ⟨⟨I,Z,T⟩,h4⟩=>aM) ?_)
   refine fG 3 [] rfl ?_;refine er eZ 1 rfl 37 (.tmp 6) (.tmp 117) rfl 0 rfl [J a,J k,J s] rfl (bf rfl) rfl aw #[J a,J k,J s] rfl rfl ?_;intro wf lM;refine wpList_nil ⟨λ_=>Iq _ _ lM,?_⟩;refine gx 4 rfl aw ?_;go_wp2_with fail;refine bodyPost_ret (ej rfl _ z rfl (lM.blk 1 rfl) Tryz.underlying37 aw) rfl ?_;refine⟨(),rfl,O5 x2 wf ?_ lM⟩;unfold Ag.took;dsimp only;have EN:¬ (code=1∨code=2∨code=3):=by have:=lE.out;omega
   rw[<-HI.out,aB (by intro h;injection h with h _;exact WZ h),aB EN,aA lE.out,aA lE.out,kq.out,show t1=(x1.tries ((a:Int),(k:Int),(s:Int))).1 by rw[<-HT.out],EV.out]
set_option maxRecDepth 100000
set_option maxHeartbeats 1000000
def GF(w:G)(D:aV)(p:xC)(x:Ag)(f:Int)(tg code n:Nat)(I:tg<=9223372036854775807)(Z:code<=255)(hf:0<=f∧f<x.f9)(l8:r_ x.ask (tg:Int)=none):Lw N D 210 #[((p.a,0):E),J f,aZ (jC (tg:Int) (code:Int) n)] (dV p x) (λ(_:Unit)e=>e=b5 (a_ #[j6 (0,0,0),()])) (λ_=>dV p x) w:=by
 have mQ:=λw1=>zP w1 (tg:Int) (code:Int) n ap ap;unfold jC at mQ ⊢;intro V hM hV;have fY:=St.begin_ hM (λb hb=>(hV b hb).1) (fJ _ _);have z1:(w.alloc (.cells #[J 2,(),(),(),(),(),ay,"",(),(),J tg,J code,ae ah n,(),(),ay,(),()] 45)).heap.size=(w:Nat)+1:=by simp
 obtain⟨y,wa,HY,HA,eC⟩:=fY.new' #[J 2,(),(),(),(),(),ay,"",(),(),J tg,J code,ae ah n,(),(),ay,(),()] 45;rw[<-HA.out,<-HY.out] at z1;obtain⟨z,wb,HZ,HB,ec⟩:=eC.new' #[(),(),()] 37;have ez:z=y+1:=by rw[HZ.out,z1]
 unfold j6;have zW:∀(l:List Bl)(O:G),St V w (.c p.a 192 (rA p x)::.o (iO p.st p.z x.b)::.o (eF p.x p.d x.rs.length x.bs x.k)::.o (eR oV p.bK (gR j6 x.ask))::l) O->(Instr.lookup 190 (.map (some p.bK)) (J tg) true).run N O=.ok (a_ #[aZ #[(),(),()],aY false]) O:=λl O h=>by
  have I:=h.KX QY Tryz.underlying190 (z:=j6 (0,0,0)) aw 3 rfl (tg:Int) true;have Z:(vm (gR j6 x.ask) (tg:Int)).getD (j6 (0,0,0))=j6 (0,0,0)∧(vm (gR j6 x.ask) (tg:Int)).isSome=false:=by rw[uN,l8];exact⟨rfl,rfl⟩
  rw[aA rfl,Z.1,Z.2] at I;exact I
 go_in;go_wp2_with fail;rw[<-HA.out,<-HY.out,<-HB.out,<-ez];have ec:St V w (.c z 37 #[(),(),()]::.c y 45 (jC (tg:Int) (code:Int) n)::dV p x) wb:=ec;have eZ:=ec.grow (Grow.refl _).drew;have gU:∀O,St V w (.c z 37 #[(),(),()]::.c y 45 (jC (tg:Int) (code:Int) n)::dV p x) O->(O.cell? (p.a,8)=some (.map (some p.bK))∧O.cell? (y,10)=some (J tg))∧(Instr.lookup 190 (.map (some p.bK)) (J tg) true).run N O=.ok (a_ #[aZ #[(),(),()],aY false]) O:=λO h=>
  ⟨⟨(h.front 2 rfl).facts.1.1 8,h.facts.2.1.1 10⟩,zW _ O (h.perm (bg (l₁:=[_,_]) (l₂:=dV p x)))⟩
 have eN:=gU _ eZ;clear HA HB HY HZ ez z1 eC;refine dO rfl ?_;refine fV (λO=>(O.cell? (p.a,8)=some (.map (some p.bK))∧O.cell? (y,10)=some (J tg))∧(Instr.lookup 190 (.map (some p.bK)) (J tg) true).run N O=.ok (a_ #[aZ #[(),(),()],aY false]) O) [12] 13 rfl [0,1,2,3,4,5,6,7,8,9] ?_;iterate 6 (refine ff rfl eN (λw1 ⟨⟨I,Z⟩,T⟩=>aM) ?_)
 refine ff rfl eN (v := a_ #[aZ #[(),(),()],aY false]) (λw1 ⟨⟨I,Z⟩,T⟩=>aM) ?_;iterate 3 (refine ff rfl eN (λw1 ⟨⟨I,Z⟩,T⟩=>aM) ?_)
 refine fG 10 [] rfl ?_;obtain⟨y8,wc,HY8,HC8,xw⟩:=ec.new' #[(),(),()] 37;go_wp2_with fail;rw[<-HC8.out,<-HY8.out];have xw:=xw.grow (Grow.refl _).drew;refine⟨λ_=>gU _ (xw.dT 0 rfl),?_⟩;refine fG 11 [] rfl ?_;refine er xw 0 rfl 37 (.tmp 8) (.tmp 19) rfl 0 rfl [(),(),()] rfl (bf rfl) rfl aw #[(),(),()] rfl rfl ?_;intro w3 eh;refine wpList_nil ⟨λ_=>gU _ (eh.dT 0 rfl),?_⟩;refine gx 12 rfl aw ?_;have eh:St V w (.c y8 37 #[(),(),()]::.c z 37 #[(),(),()]::.c y 45 (jC (tg:Int) (code:Int) n)::dV p x) w3:=eh;clear xw HC8 HY8 eN gU eZ ec zW fY;have dfn:decide (f<0)=false:=aD ap;have dfr:decide ((x.f9:Int)<=f)=false:=aD ap;have iN:=eh.blk 2 rfl;unfold jC at iN;have m0:w3.cell? (y,0)=some (J 2):=iN.cell 0;have ha1:w3.cell? (p.a,1)=some (J x.f9):=(eh.front 3 rfl).facts.1.1 1;go_wp2_with (refine d_ rfl 45 _ rfl _ rfl iN bG aw ?_);refine (mQ w3).mono ?_;rintro e w4 ⟨rfl,Dg⟩;have eU:=eh.grow Dg;clear m0 ha1 mQ iN;have ha1:w4.cell? (p.a,1)=some (J x.f9):=(eU.front 3 rfl).facts.1.1 1;go_wp2_with (refine er eU 1 rfl 37 (.tmp 6) (.tmp 45) rfl 0 rfl [(),(),()] rfl (bf rfl) rfl aw #[(),(),()] rfl rfl ?_;intro w5 eI;refine stay ?_);refine dN ?_;go_wp2;refine bodyPost_ret (ej rfl _ z rfl (eI.blk 1 rfl) Tryz.underlying37 aw) rfl ?_;obtain⟨r1,r2⟩:=(((eI.drop).drop).drop).fin;exact⟨(),rfl,r1,r2⟩
def xd(K:k<4):(bF 4).drop k=k::(bF 4).drop (k+1):=by rw[bR (by simpa using K),List.getElem_range]
def ix0(w:G)(z:aQ):(Instr.index 184 (aZ #[pz z 0,pz z 1,pz z 2,pz z 3]) (J 0)).run N w=.ok (pz z 0) w:=by kernel_rfl
def ix1(w:G)(z:aQ):(Instr.index 184 (aZ #[pz z 0,pz z 1,pz z 2,pz z 3]) (J 1)).run N w=.ok (pz z 1) w:=by kernel_rfl
def ix2(w:G)(z:aQ):(Instr.index 184 (aZ #[pz z 0,pz z 1,pz z 2,pz z 3]) (J 2)).run N w=.ok (pz z 2) w:=by kernel_rfl
def ix3(w:G)(z:aQ):(Instr.index 184 (aZ #[pz z 0,pz z 1,pz z 2,pz z 3]) (J 3)).run N w=.ok (pz z 3) w:=by kernel_rfl
def VK(w:G)(D:aV)(p:xC)(x:Ag)(X:x.Ok)(aet:Nat)(ht:x.Tm aet)(hN:aet<=576460752303423488)(n:Nat)(hn:n<=1024):Lw N D 208 #[((p.a,0):E),J n] (dV p x) (λ(j:E×List Sd)e=>e=b5 j.1∧eY j.2=(x.gv n []).2) (λj => .o (dY j.1 j.2)::dV p (x.gv n []).1) w:=by
 obtain⟨aeq,HT⟩:=az (x.gv n []);rw[<-HT.out];have T8:∀ts t w,(Builtin.min_ ts t #[J n,J 1024]).run N w=.ok (J n) w:=λts t w=>by rw[run_min_int2];congr 2;split<;>omega
 have Db:∀ts t w,(Builtin.max_ ts t #[(),J n]).run N w=.ok (J n) w:=λts t w=>by rw[run_max_int2];congr 2;split<;>omega
 have Te:∀(w:G)(k:Nat),k<4->(Instr.index 184 (aZ #[pz p.z 0,pz p.z 1,pz p.z 2,pz p.z 3]) (J k)).run N w=.ok (.pointer (some ⟨p.z.getD k 0,0,none⟩)) w:=λw k K=>by
  have h4:k=0∨k=1∨k=2∨k=3:=by omega
  rcases h4 with rfl|rfl|rfl|rfl
  ·exact ix0 w p.z
  ·exact ix1 w p.z
  ·exact ix2 w p.z
  ·exact ix3 w p.z
 intro V hM hV;have fY:=St.begin_ hM (λb hb=>(hV b hb).1) (fJ _ _);have eC:=(fY.join (nW.framed []) (Grow.refl _) (U:=λ_=>False) (nW.nil _ _) (λ_ h=>h.elim)).join (fT.framed 218 19 (Y none 0 0) 0 []) (Grow.refl _) (U:=λ_=>False) Row.nil (λ_ h=>h.elim);go_in;go_wp2_with fail;go_loopw [5,15] (λu i wr=>∃(r:Nat)(y:Ag)(q:List Sd),i=J r∧(r<=n∧q.length<=16*r)∧y.gv (n-r) (eY q)=aeq∧(y.Ok∧y.Tm (aet+17*r))∧St V w (.o (fT 218 19 u q.length (q.flatMap Sd.cells))::.o (nW q)::dV p y) wr) (λ_ i _=>n-(intOf i).toNat);case atStart=>exact⟨0,x,[],rfl,⟨bo _,bo _⟩,HT.out.symm,⟨X,ht⟩,eC⟩
 case round=>
  obtain⟨r,y,q,rfl,⟨hrn,iH⟩,hT,⟨hy,hty⟩,L⟩:=hrel;obtain⟨Ao,co,rfl,hco,hmo⟩:=fT.oJ L 0 rfl;by_cases hr:r<n
  ·have dr:decide (r<n)=true:=aC hr
   obtain⟨f,hf⟩:∃f,n-r=f+1:=⟨n-r-1,by omega⟩;rw[hf] at hT;obtain⟨T1,HT1⟩:=az (y.mG (eY q));have hT1:T1.1.gv f T1.2=aeq:=by rw[HT1.out];exact hT
   have hnw:IntKind.i64.wrap ((y.now:Int)+1)=((y.now+1:Nat):Int):=by have:=hty.now;rw[IntKind.wrap_i64];omega
   obtain⟨nw,Hnw⟩:=az (y.now+1);rw[<-Hnw.out] at hnw;have ha4:wr.cell? (p.a,4)=some (J y.now):=(L.front 2 rfl).facts.1.1 4;have ZK:({ y with now:=nw }:Ag).Tm (aet+17*r+1):=⟨dC hty.tag,by show nw<=_;rw[Hnw.out];exact Nat.succ_le_succ hty.now,(hty.mono (Nat.le_succ _)).tr⟩;have VL:T1=Ag.gu ((bF 4).drop 0) { y with now:=nw } (eY q):=by rw[HT1.out,Hnw.out];rfl
   replace hT1:=Q hT1;replace VL:=Q VL;go_wp2_with (refine fB L 2 rfl 2 (.tmp 23) (.tmp 21) rfl 4 rfl (J nw) rfl (bf rfl) rfl aw rfl ?_;intro w2 ec;refine stay ?_);refine dN ?_;have ec:St V w (.o (fT 218 19 (Y Ao q.length co) q.length (q.flatMap Sd.cells))::.o (nW q)::dV p { y with now:=nw }) w2:=ec;have xm:({ y with now:=nw }:Ag).Ok:=hy.Ka nw;generalize ({ y with now:=nw }:Ag)=y1 at ec xm ZK VL;obtain⟨hz,sl,cu,eh⟩:=iO.ov ec 3 rfl;have Xw:w2.cell? (p.a,3)=some (((p.st,0):E)):=(ec.front 2 rfl).facts.1.1 3;have hb:=(eh.front 6 rfl).facts.1.1;have q3:w2.cell? (p.st,3)=some (pz p.z 0):=hb 3;have q4:w2.cell? (p.st,4)=some (pz p.z 1):=hb 4;have q5:w2.cell? (p.st,5)=some (pz p.z 2):=hb 5;have q6:w2.cell? (p.st,6)=some (pz p.z 3):=hb 6;clear hb eh ha4;go_wp2_with fail;clear q3 q4 q5 q6 Xw;have hM2:aet+17*r+1<=1152921504606840000:=by omega
   obtain⟨M,HM⟩:=az (aet+17*r+1);rw[<-HM.out] at ZK hM2;go_loopw [5,31] (λu i wr=>∃(k:Nat)(y2:Ag)(q2:List Sd),i=J k∧(k<=4∧q2.length<=16*r+4*k)∧Ag.gu ((bF 4).drop k) y2 (eY q2)=T1∧(y2.Ok∧y2.Tm (M+4*k))∧St V w (.o (fT 218 19 u q2.length (q2.flatMap Sd.cells))::.o (nW q2)::dV p y2) wr) (λ_ i _=>4-(intOf i).toNat);case atStart=>exact⟨0,y1,q,rfl,⟨bo _,by omega⟩,VL.out.symm,⟨xm,ZK⟩,ec⟩
   case round=>
    obtain⟨k,y2,q2,rfl,⟨jw,a7S⟩,Kc,⟨xi,a3B⟩,hSk⟩:=hrel;obtain⟨A2,c2,rfl,mL,BO⟩:=fT.oJ hSk 0 rfl;by_cases K:k<4
    ·have dk:decide (k<4)=true:=aC K
     have ZL:=λw=>Te w k K;rw[xd K] at Kc;obtain⟨fl,ZM⟩:=az ((y2.b.qu k).l.take 4);obtain⟨T2,HT2⟩:=az (Ag.fu k fl y2 (eY q2));have ZN:Ag.gu ((bF 4).drop (k+1)) T2.1 T2.2=T1:=by rw[HT2.out,ZM.out];exact Kc
     obtain⟨hz,sl,cu,eh⟩:=iO.ov hSk 3 rfl;obtain⟨U,hQ,_⟩:=eh.own.see (k+9) (iV (show (_:List Bl)[k+9]?=some (.o (aes.eA (p.z.getD k 0) (y2.b.qu k).l (y2.b.qu k).k)) from lS hz.1 hz.2 K));obtain⟨m,Hm⟩:=az (min (y2.b.qu k).l.length 4);have hFl:=aes.MY _ _ _ _ _ hQ m Hm.out.symm;have YZ:m<=4:=by rw[Hm.out];omega
     have XW:fl.length=m:=by rw[ZM.out,Hm.out,bn];omega
     obtain⟨g,Hg⟩:=az (p.z.getD k 0);simp only[<-Hg.out] at ZL hFl;rw[<-ZM.out] at hFl;clear hQ eh Kc hz Te;replace ZN:=Q ZN;go_wp2_with fail;refine hFl.mono ?_;rintro e w3 ⟨A3,bs,rfl,Xm,TN,jU⟩;have eU:=hSk.join (mY.framed A3 m bs) jU (U:=New _ w3) Xm (λb hb=>hb);go_wp2_with fail;have hM3:M+4*k+4<=1152921504606846000:=by omega
     go_loopw [5,38] (λu i wr=>∃(j:Nat)(y3:Ag)(q3:List Sd),i=J j∧(j<=m∧q3.length<=16*r+4*k+j)∧Ag.fu k (fl.drop j) y3 (eY q3)=T2∧(y3.Ok∧y3.Tm (M+4*k+j))∧St V w (.o (mY A3 m bs)::.o (fT 218 19 u q3.length (q3.flatMap Sd.cells))::.o (nW q3)::dV p y3) wr) (λ_ i _=>m-(intOf i).toNat);case atStart=>exact⟨0,y2,q2,rfl,⟨bo _,by omega⟩,HT2.out.symm,⟨xi,a3B⟩,eU⟩
     case round=>
      obtain⟨j,y3,q3,rfl,⟨KG,hql3⟩,GG,⟨XX,Bu⟩,P2⟩:=hrel;obtain⟨A4,c4,rfl,sr,a8o⟩:=fT.oJ P2 1 rfl;by_cases hj:j<m
      ·have dj:decide (j<m)=true:=aC hj
       obtain⟨U,hU,_⟩:=P2.own.see 0 rfl;have hU:aes.o4 _ U U A3 m bs:=hU;obtain⟨ad,WJ,rfl,_,_,e0,e1⟩:=hU.row.ni ap aes.oe hj;have jZ:=hU.all _ (bD WJ);have e0:=e0 _ rfl;have e1:=e1 0 _ rfl;have hjf:j<fl.length:=by omega
       have hfj:fl[j]=(bs[j]).abs:=by simp[<-TN]
       rw[bR hjf,hfj] at GG;have hEj:=List.getElem?_eq_getElem WJ;replace hEj:=Q hEj;generalize bs[j]=b at jZ e0 e1 GG hEj;obtain⟨sq,Ab,mb,cb,ds⟩:=b;dsimp only[aes.iW.cells,aes.iW.abs] at e0 e1 GG;have hmb:mb=ds.length:=by have:=jZ.ds.1;rw[kM] at this;dsimp only at this;omega
       subst hmb;obtain⟨y9,wa,HY9,Xq,mX⟩:=P2.new' #[J sq,Y Ab ds.length cb] 196;clear hU hSk eU ec eC fY hFl;replace GG:=Q GG;replace hfj:=Q hfj;go_wp2_with fail;rw[<-Xq.out,<-HY9.out];have eZ:=mX.grow (Grow.refl _).drew;have eN:wa.drew.cell? (p.a,0)=some (J y3.node)∧wa.drew.cell? (y9,0)=some (J sq):=⟨(eZ.front 4 rfl).facts.1.1 0,eZ.facts.1.1 0⟩;refine dO rfl ?_;refine fV (λO=>O.cell? (p.a,0)=some (J y3.node)∧O.cell? (y9,0)=some (J sq)) [9] 10 rfl [0,1,2,3,4,5,6,7] ?_;iterate 8 (refine ff rfl eN (λw1 ⟨I,Z⟩=>aM) ?_)
       refine fG 8 [] rfl ?_;obtain⟨GH,wb,VM,VN,AW⟩:=mX.new' #[(),(),()] 37;go_wp2_with fail;rw[<-VN.out,<-VM.out];have AW:=AW.grow (Grow.refl _).drew;refine⟨λ_=>⟨((AW.dT 0 rfl).front 4 rfl).facts.1.1 0,(AW.dT 0 rfl).facts.1.1 0⟩,?_⟩;refine gx 9 rfl aw ?_;refine er AW 0 rfl 37 (.tmp 10) (.tmp 49) rfl 0 rfl [J y3.node,J k,J sq] rfl (bf rfl) rfl aw #[J y3.node,J k,J sq] rfl rfl ?_;intro w6 eS;have eS:St V w (.c GH 37 #[J y3.node,J k,J sq]::.c y9 196 #[J sq,Y Ab ds.length cb]::.o (mY (some ad) m bs)::.o (fT 218 19 (Y A4 q3.length c4) q3.length (q3.flatMap Sd.cells))::.o (nW q3)::dV p y3) w6:=eS;clear AW VN VM eN eZ mX Xq HY9 P2 e0 e1;go_wp2_with fail;obtain⟨id,VO⟩:=az (y3.jm k sq:lZ);obtain⟨t,Ht_⟩:=az (y3.tries id:Nat×Nat);have zW:∀(l:List Bl)(O:G),St V w (.c p.a 192 (rA p y3)::.o (iO p.st p.z y3.b)::.o (eF p.x p.d y3.rs.length y3.bs y3.k)::.o (eR oV p.bK (gR j6 y3.ask))::.o (eR j6 p.bT (gR sy y3.tr))::l) O->(Instr.lookup 189 (.map (some p.bT)) (aZ #[J y3.node,J k,J sq]) false).run N O=.ok (aZ #[J t.1,J t.2]) O:=λl O h=>by
        have I:=h.KX QZ Tryz.underlying189 (z:=sy (0,0)) aw 4 rfl (y3.jm k sq) false;have Z:(vm (gR sy y3.tr) (y3.jm k sq)).getD (sy (0,0))=sy t:=by rw[uN,Ht_.out,VO.out];unfold Ag.tries;cases r_ y3.tr (y3.jm k sq)<;>rfl
        rw[Z] at I;exact I
       have gU:∀(O:G),St V w (.c GH 37 #[J y3.node,J k,J sq]::.c y9 196 #[J sq,Y Ab ds.length cb]::.o (mY (some ad) m bs)::.o (fT 218 19 (Y A4 q3.length c4) q3.length (q3.flatMap Sd.cells))::.o (nW q3)::dV p y3) O->(eL O GH 37 #[J y3.node,J k,J sq]∧O.cell? (p.a,7)=some (.map (some p.bT)))∧(Instr.lookup 189 (.map (some p.bT)) (aZ #[J y3.node,J k,J sq]) false).run N O=.ok (aZ #[J t.1,J t.2]) O:=λO h=>
        ⟨⟨h.blk 0 rfl,(h.front 5 rfl).facts.1.1 7⟩,zW _ O (h.perm (bg (l₁:=[_,_,_,_,_]) (l₂:=dV p y3)))⟩
       have eZ:=eS.grow (Grow.refl _).drew;have eN:=gU _ eZ;refine dO rfl ?_;refine fV (λO=>(eL O GH 37 #[J y3.node,J k,J sq]∧O.cell? (p.a,7)=some (.map (some p.bT)))∧(Instr.lookup 189 (.map (some p.bT)) (aZ #[J y3.node,J k,J sq]) false).run N O=.ok (aZ #[J t.1,J t.2]) O) [7] 8 rfl [0,1,2,3,4,5] ?_;iterate 4 (refine ff rfl eN (λw1 ⟨⟨I,Z⟩,T⟩=>aM) ?_)
       refine ff rfl eN (λw1 ⟨⟨I,Z⟩,T⟩ R W=>by have c0:=I.cell 0;have c1:=I.cell 1;have c2:=I.cell 2;go_simp;exact W) ?_
       refine ff rfl eN (v := aZ #[J t.1,J t.2]) (λw1 ⟨⟨I,Z⟩,T⟩=>aM) ?_;refine fG 6 [] rfl ?_;obtain⟨A_,wc,RR,RU,xw⟩:=eS.new' #[(),()] 364;go_wp2_with fail;rw[<-RU.out,<-RR.out];have xw:=xw.grow (Grow.refl _).drew;refine⟨λ_=>gU _ (xw.dT 0 rfl),?_⟩;refine gx 7 rfl aw ?_;refine er xw 0 rfl 364 (.tmp 11) (.tmp 55) rfl 0 rfl [J t.1,J t.2] rfl (bf rfl) rfl aw #[J t.1,J t.2] rfl rfl ?_;intro w7 fQ;have fQ:St V w (.c A_ 364 #[J t.1,J t.2]::.c GH 37 #[J y3.node,J k,J sq]::.c y9 196 #[J sq,Y Ab ds.length cb]::.o (mY (some ad) m bs)::.o (fT 218 19 (Y A4 q3.length c4) q3.length (q3.flatMap Sd.cells))::.o (nW q3)::dV p y3) w7:=fQ;clear xw RU RR eN gU zW eZ eS;go_wp2_with fail;obtain⟨t1,t2⟩:=t;dsimp only at fQ;have we:=GG.out;unfold Ag.fu at we;dsimp only at we;rw[<-VO.out,<-Ht_.out] at we;dsimp only at we;have htt:=Bu.tries id;rw[<-Ht_.out] at htt;dsimp only at htt;have eZ:=fQ.grow (Grow.refl _).drew;have hnw3:=Bu.now;have eN:(w7.drew.cell? (A_,0)=some (J t1)∧w7.drew.cell? (A_,1)=some (J t2))∧w7.drew.cell? (p.a,4)=some (J y3.now):=⟨⟨eZ.facts.1.1 0,eZ.facts.1.1 1⟩,(eZ.front 6 rfl).facts.1.1 4⟩;obtain⟨nn,O6⟩:=az (y3.now);rw[<-O6.out] at eN we;refine dO rfl ?_;by_cases h0:t1=0;case' pos=>
        obtain rfl:=h0;rw[aA (.inl rfl)] at we;refine fV (λO=>(O.cell? (A_,0)=some (J ((0:Nat):Int))∧O.cell? (A_,1)=some (J t2))∧O.cell? (p.a,4)=some (J nn)) [] 12 rfl [0,1,2,3,4,5,6,7,8,9,10,11] ?_;iterate 4 (refine ff rfl eN (λw1 ⟨⟨I,Z⟩,T⟩=>aM) ?_)
        iterate 7 (refine Ub rfl eN ?_)
        refine ff rfl eN (λw1 ⟨⟨I,Z⟩,T⟩=>aM) ?_;refine gQ ?_;replace we:=Q we;clear eN fQ;obtain⟨aep,HE⟩:=az (y3.uR id ds);obtain⟨TO,HTO⟩:=az (y3.to 0);have GI:dF N 272 #[((p.a,0):E),aZ #[J y3.node,J k,J sq],aZ #[J ((0:Nat):Int),J t2],aZ #[J sq,Y Ab ds.length cb]] w7.drew (λe O=>∃B,e=b5 (oR TO aep B ds.length).val∧St V w ((.o (zG ⟨aep,B,ds.length⟩)::dV p (y3.send id (0,t2)))++[.c A_ 364 #[J ((0:Nat):Int),J t2],.c GH 37 #[J y3.node,J k,J sq],.c y9 196 #[J sq,Y Ab ds.length cb],.o (mY (some ad) m bs),.o (fT 218 19 (Y A4 q3.length c4) q3.length (q3.flatMap Sd.cells)),.o (nW q3)]) O):=by
         rw[HE.out,HTO.out];have LJ:St V w (dV p y3++[.c A_ 364 #[J ((0:Nat):Int),J t2],.c GH 37 #[J y3.node,J k,J sq],.c y9 196 #[J sq,Y Ab ds.length cb],.o (mY (some ad) m bs),.o (fT 218 19 (Y A4 q3.length c4) q3.length (q3.flatMap Sd.cells)),.o (nW q3)]) w7.drew:=eZ.perm (bg (l₁:=[_,_,_,_,_,_]) (l₂:=dV p y3));have hid:=VO.out;subst hid;exact St.qw (D:=λ_=>False) LJ (a':=λB => .o (zG ⟨y3.uR (y3.jm k sq) ds,B,ds.length⟩)::dV p (y3.send (y3.jm k sq) (0,t2))) (λ_=>⟨zG.framed _,fJ _ _⟩) LJ.no (λU hU kp=>LV _ _ p y3 XX (y3.jm k sq) (0,t2) sq Ab cb ds (by obtain⟨U',h5,h6⟩:=oI hU 3 rfl;exact In.mono ((show mY (some ad) m bs w7.drew U' from h5).all _ (List.mem_of_getElem? hEj.out)).ds λb hb => .inl (h6 b hb)) jZ.le jZ.max (bA jZ.small am) (λb hb=>hb.elim (kp b) False.elim) (by have:=Bu.tag;omega) (by have:=Bu.now;omega) (by dsimp only;omega) (by dsimp only;omega))
        have g0:w7.drew.cell? (A_,0)=some (J ((0:Nat):Int)):=eZ.facts.1.1 0;have g1:w7.drew.cell? (A_,1)=some (J t2):=eZ.facts.1.1 1;have g2:w7.drew.cell? (GH,0)=some (J y3.node):=eZ.facts.2.1.1 0;have g3:w7.drew.cell? (GH,1)=some (J k):=eZ.facts.2.1.1 1;have g4:w7.drew.cell? (GH,2)=some (J sq):=eZ.facts.2.1.1 2;have g5:w7.drew.cell? (y9,0)=some (J sq):=eZ.facts.2.2.1.1 0;have g6:w7.drew.cell? (y9,1)=some (Y Ab ds.length cb):=eZ.facts.2.2.1.1 1;go_wp2_with fail;refine GI.mono ?_;rintro e w8 ⟨B,rfl,fK⟩;clear g0 g1 g2 g3 g4 g5 g6 GI eZ;obtain⟨y12,wd,ZO,Ke,gM⟩:=fK.new' (oR TO aep B ds.length).cells.toArray 218;have Ke:Hid (wd=w8.alloc (.cells #[J TO,J 1,J aep.k,J aep.ag,J aep.sh,J aep.sq,J aep.ep,Y B aep.ds.length ds.length,aX aep.se,J aep.fr,J aep.tg,(),(),ae ah 0,(),(),ay,(),()] 218)):=Ke;simp only[Sd.val,Sd.cells,oR,Ms.cells];go_wp2_with (at_builtin;refine stay ?_);refine dN ?_;rw[<-Ke.out,<-ZO.out];refine iw CH rfl (.tmp 68) (.tmp 74) rfl rfl (gM.front 11 rfl) (A:=some (y12,0)) (m:=1) (c:=1) (news:=(oR TO aep B ds.length).cells) rfl (In.reads ((gM.blk 0 rfl).kB (size:=19) (n:=1) rfl)) (vU _) ap ?_;intro v' w9 iS;have lA:=St.cnt (x:=⟨aep,B,ds.length⟩) (((((((iS.dT 1 rfl).dT 9 rfl).dT 8 rfl).dT 7 rfl).front 8 rfl).front 2 rfl).front 1 rfl) (oR TO aep B ds.length) rfl ⟨rfl,rfl,rfl,rfl⟩;have lX:=(lA.front 1 rfl).front 7 rfl;clear fK gM iS lA;go_wp2_with fail;skip;refine⟨⟨j+1,y3.send id (0,t2),q3++[oR TO aep B ds.length],by go_num,⟨by omega,by rw[bd,bw];omega⟩,?_,⟨XX.send _ _,(Bu.send id (t:=(0,t2)) (by dsimp only;omega)).mono ap⟩,lX.cast ?_⟩,by simp[intOf];omega⟩
        ·rw[<-we.out,HTO.out,HE.out]
         unfold eY;rw[bM];rfl
        ·rw[bd,bO]
         simp;rfl
       case' neg=>
        refine fV (λO=>(O.cell? (A_,0)=some (J t1)∧O.cell? (A_,1)=some (J t2))∧O.cell? (p.a,4)=some (J nn)) [] 12 rfl [0,1,2,3,4,5,6,7,8,9,10,11] ?_;have d0:(t1:Int)≠0:=by omega
        iterate 2 (refine ff rfl eN (λw1 ⟨⟨I,Z⟩,T⟩=>aM) ?_)
        refine ff rfl eN (v := aY false) (λw1 ⟨⟨I,Z⟩,T⟩ R W=>by go_simp;rw[show ((t1:Int) == 0)=false from beq_eq_false_iff_ne.2 d0];exact W) ?_;iterate 8 (refine ff rfl eN (λw1 ⟨⟨I,Z⟩,T⟩=>aM) ?_)
        refine ff rfl eN (λw1 ⟨⟨I,Z⟩,T⟩=>aM) ?_;refine gQ ?_;by_cases Z:t2<=nn;case' neg=>
         rw[aB ap] at we;have fK:=((eZ.dT 2 rfl).dT 1 rfl).dT 0 rfl;replace we:=Q we;clear eN eZ fQ;go_wp2_with fail;exact⟨⟨j+1,y3,q3,by go_num,⟨by omega,by omega⟩,we.out,⟨XX,Bu.mono ap⟩,fK⟩,by simp[intOf];omega⟩
        case' pos=>
         rw[aA (.inr Z)] at we;replace we:=Q we;clear eN fQ;obtain⟨aep,HE⟩:=az (y3.uR id ds);obtain⟨TO,HTO⟩:=az (y3.to t1);have GI:dF N 272 #[((p.a,0):E),aZ #[J y3.node,J k,J sq],aZ #[J ((t1:Nat):Int),J t2],aZ #[J sq,Y Ab ds.length cb]] w7.drew (λe O=>∃B,e=b5 (oR TO aep B ds.length).val∧St V w ((.o (zG ⟨aep,B,ds.length⟩)::dV p (y3.send id (t1,t2)))++[.c A_ 364 #[J ((t1:Nat):Int),J t2],.c GH 37 #[J y3.node,J k,J sq],.c y9 196 #[J sq,Y Ab ds.length cb],.o (mY (some ad) m bs),.o (fT 218 19 (Y A4 q3.length c4) q3.length (q3.flatMap Sd.cells)),.o (nW q3)]) O):=by
          rw[HE.out,HTO.out];have LJ:St V w (dV p y3++[.c A_ 364 #[J ((t1:Nat):Int),J t2],.c GH 37 #[J y3.node,J k,J sq],.c y9 196 #[J sq,Y Ab ds.length cb],.o (mY (some ad) m bs),.o (fT 218 19 (Y A4 q3.length c4) q3.length (q3.flatMap Sd.cells)),.o (nW q3)]) w7.drew:=eZ.perm (bg (l₁:=[_,_,_,_,_,_]) (l₂:=dV p y3));have hid:=VO.out;subst hid;exact St.qw (D:=λ_=>False) LJ (a':=λB => .o (zG ⟨y3.uR (y3.jm k sq) ds,B,ds.length⟩)::dV p (y3.send (y3.jm k sq) (t1,t2))) (λ_=>⟨zG.framed _,fJ _ _⟩) LJ.no (λU hU kp=>LV _ _ p y3 XX (y3.jm k sq) (t1,t2) sq Ab cb ds (by obtain⟨U',h5,h6⟩:=oI hU 3 rfl;exact In.mono ((show mY (some ad) m bs w7.drew U' from h5).all _ (List.mem_of_getElem? hEj.out)).ds λb hb => .inl (h6 b hb)) jZ.le jZ.max (bA jZ.small am) (λb hb=>hb.elim (kp b) False.elim) (by have:=Bu.tag;omega) (by have:=Bu.now;omega) (by dsimp only;omega) (by dsimp only;omega))
         have g0:w7.drew.cell? (A_,0)=some (J ((t1:Nat):Int)):=eZ.facts.1.1 0;have g1:w7.drew.cell? (A_,1)=some (J t2):=eZ.facts.1.1 1;have g2:w7.drew.cell? (GH,0)=some (J y3.node):=eZ.facts.2.1.1 0;have g3:w7.drew.cell? (GH,1)=some (J k):=eZ.facts.2.1.1 1;have g4:w7.drew.cell? (GH,2)=some (J sq):=eZ.facts.2.1.1 2;have g5:w7.drew.cell? (y9,0)=some (J sq):=eZ.facts.2.2.1.1 0;have g6:w7.drew.cell? (y9,1)=some (Y Ab ds.length cb):=eZ.facts.2.2.1.1 1;go_wp2_with fail;refine GI.mono ?_;rintro e w8 ⟨B,rfl,fK⟩;clear g0 g1 g2 g3 g4 g5 g6 GI eZ;obtain⟨y12,wd,ZO,Ke,gM⟩:=fK.new' (oR TO aep B ds.length).cells.toArray 218;have Ke:Hid (wd=w8.alloc (.cells #[J TO,J 1,J aep.k,J aep.ag,J aep.sh,J aep.sq,J aep.ep,Y B aep.ds.length ds.length,aX aep.se,J aep.fr,J aep.tg,(),(),ae ah 0,(),(),ay,(),()] 218)):=Ke;simp only[Sd.val,Sd.cells,oR,Ms.cells];go_wp2_with (at_builtin;refine stay ?_);refine dN ?_;rw[<-Ke.out,<-ZO.out];refine iw CH rfl (.tmp 68) (.tmp 74) rfl rfl (gM.front 11 rfl) (A:=some (y12,0)) (m:=1) (c:=1) (news:=(oR TO aep B ds.length).cells) rfl (In.reads ((gM.blk 0 rfl).kB (size:=19) (n:=1) rfl)) (vU _) ap ?_;intro v' w9 iS;have lA:=St.cnt (x:=⟨aep,B,ds.length⟩) (((((((iS.dT 1 rfl).dT 9 rfl).dT 8 rfl).dT 7 rfl).front 8 rfl).front 2 rfl).front 1 rfl) (oR TO aep B ds.length) rfl ⟨rfl,rfl,rfl,rfl⟩;have lX:=(lA.front 1 rfl).front 7 rfl;clear fK gM iS lA;go_wp2_with fail;skip;refine⟨⟨j+1,y3.send id (t1,t2),q3++[oR TO aep B ds.length],by go_num,⟨by omega,by rw[bd,bw];omega⟩,?_,⟨XX.send _ _,(Bu.send id (t:=(t1,t2)) (by dsimp only;omega)).mono ap⟩,lX.cast ?_⟩,by simp[intOf];omega⟩
         ·rw[<-we.out,HTO.out,HE.out]
          unfold eY;rw[bM];rfl
         ·rw[bd,bO]
          simp;rfl
      ·have a3F:j=m:=by omega
       have dj:decide (j<m)=false:=aD hj;rw[show fl.drop j=[] from cB ap] at GG;have we:=ZN.out;rw[<-GG] at we;replace we:=Q we;replace a3F:=Q a3F;have fK:=P2.dT 0 rfl;have ng:M+4*k+j<=M+4*(k+1):=by omega
       go_wp2_with fail;exact⟨⟨k+1,y3,q3,by go_num,⟨by omega,by omega⟩,we.out,⟨XX,Bu.mono ng⟩,fK⟩,by simp[intOf];omega⟩
    ·have ZP:k=4:=by omega
     subst ZP;rw[show (bF 4).drop 4=[] from rfl] at Kc;have hT5:=hT1.out;rw[<-Kc] at hT5;replace hT5:=Q hT5;have ng:M+4*4<=aet+17*(r+1):=by rw[HM.out];omega
     go_wp2_with fail;exact⟨⟨r+1,y2,q2,by go_num,⟨by omega,by omega⟩,by rw[show n-(r+1)=f by omega];exact hT5.out,⟨xi,a3B.mono ng⟩,hSk⟩,by simp[intOf];omega⟩
  ·have a8s:r=n:=by omega
   subst a8s;have dr:decide (r<r)=false:=aD (Nat.lt_irrefl r);rw[Nat.sub_self] at hT;have hT0:aeq=(y,eY q):=hT.symm;replace hT0:=Q hT0;clear hT;go_wp2;go_ret;rw[hT0.out];obtain⟨r1,r2⟩:=(St.a3x L).fin;exact⟨(_,q),⟨rfl,rfl⟩,r1,r2⟩
def idC(node:Nat)(c:Nat×Int):List E:=[J node,J c.1,J c.2]
def nX(node:Nat)(u:E)(out:List (Nat×Int)):ei:=fT 37 3 u out.length (out.flatMap (idC node))
theorem nX.framed(node:Nat)(u:E)(out:List (Nat×Int)):eQ (nX node u out):=fT.framed _ _ _ _ _
def B0(y:Ag)(k j:Nat):List Dl:=(y.b.eW.take j).filter λd=>decide (aev.mN d.1 y.b.sh=k)
def RV(hj:j<y.b.eW.length):B0 y k (j+1)=if aev.mN y.b.eW[j].1 y.b.sh=k then B0 y k j++[y.b.eW[j]] else B0 y k j:=by
 unfold B0;rw[br hj,List.filter_append];split;·rename_i h;simp[h]
 ·rename_i h;simp[h]
def Xx(v:E):Nat:=match v with | .slice _ n _=>n|_=>0
def kg.take8{l:List Dl}(h:kg w U A l.length l):kg w U A (l.take 8).length (l.take 8):=by
 have I:=In.take h (k:=(l.take 8).length) (by rw[bn];exact Nat.min_le_right _ _);rw[fw,kV nO 2 j4] at I;have e:l.take (l.take 8).length=l.take 8:=by
  rw[bn];rcases Nat.le_total 8 l.length with h|h
  ·rw[cF h]
  ·rw[Nat.min_eq_right h,dy,bH h]
 rw[e] at I;exact I
def kg.a3G{l:List Dl}(h:kg w U A l.length l)(hc:l.length<=c):kg w U (if c=(l.take 8).length then A else A.map (·.add ((l.take 8).length*2))) (l.drop 8).length (l.drop 8):=by
 have I:=In.cut h (k:=(l.take 8).length) (by rw[bn];exact Nat.min_le_right _ _) hc;rw[fw,pc nO 2 j4] at I;have e:l.drop (l.take 8).length=l.drop 8:=by
  rw[bn];rcases Nat.le_total 8 l.length with h|h
  ·rw[cF h]
  ·rw[Nat.min_eq_right h,List.drop_length,cB h]
 rw[e,show l.length-(l.take 8).length=(l.drop 8).length by rw[bn,bU];omega] at I;exact I
def zX(k:Nat)(out:List (Nat×Int))(r:Ag×List Int×Bool):Ag×List (Nat×Int)×Bool:=(r.1,out++r.2.1.map (k,·),r.2.2)
def RX(k f:Nat)(x:Ag):x.kL k f []=(x,[],true):=by cases f<;>rfl
def O7{l:List Dl}(hl:l≠[])(h:x.l7 k (l.take 8)=none):x.kL k (f+1) l=(x,[],false):=by unfold Ag.kL;rw[aB hl,h]
def O8{l:List Dl}(hl:l≠[])(h:x.l7 k (l.take 8)=some y)(out:List (Nat×Int)):zX k out (x.kL k (f+1) l)=zX k (out++[(k,(y.b.qu k).k)]) (y.kL k f (l.drop 8)):=by rw[Ag.kL,aB hl,h];simp[zX]
def GJ{y2:Ag}(h:zX k out (y.kR k)=(y2,jP,true)):((y.eE (k::ks)).1,out++(y.eE (k::ks)).2)=((y2.eE ks).1,jP++(y2.eE ks).2):=by unfold zX at h;injection h with I Z;injection Z with Z T;have e:y.eE (k::ks)=if (y.kR k).2.2=true then (((y.kR k).1.eE ks).1,(y.kR k).2.1.map (k,·)++((y.kR k).1.eE ks).2) else ((y.kR k).1,(y.kR k).2.1.map (k,·)):=rfl;rw[e,aA T,I,<-Z];simp
def GK{y2:Ag}(h:zX k out (y.kR k)=(y2,jP,false)):((y.eE (k::ks)).1,out++(y.eE (k::ks)).2)=(y2,jP):=by unfold zX at h;injection h with I Z;injection Z with Z T;have e:y.eE (k::ks)=if (y.kR k).2.2=true then (((y.kR k).1.eE ks).1,(y.kR k).2.1.map (k,·)++((y.kR k).1.eE ks).2) else ((y.kR k).1,(y.kR k).2.1.map (k,·)):=rfl;rw[e,aB (by rw[T];simp),I,<-Z]
def zY{sh:Nat}(K:k<sh):(bF sh).drop k=k::(bF sh).drop (k+1):=by rw[bR (by simpa using K),List.getElem_range]
def ZQ(w:G)(D:aV)(p:xC)(x:Ag)(X:x.Ok):Lw N D 218 #[((p.a,0):E)] (dV p x) (λ(u:E)e=>e=b5 u) (λu => .o (nX x.node u x.cut.2)::dV p x.cut.1) w:=by
 obtain⟨R,HR⟩:=az (x.cut);rw[<-HR.out];obtain⟨aeq,HT⟩:=az (x.eE (bF x.b.sh));have kf:R=if aeq.2=[] then aeq else (aeq.1.sync,aeq.2):=by rw[HR.out,HT.out];rfl
 intro V hM hV;have fY:=St.begin_ hM (λb hb=>(hV b hb).1) (fJ _ _);obtain⟨_,_,_,eC⟩:=iO.ov fY 1 rfl;have Xw:w.cell? (p.a,3)=some (((p.st,0):E)):=fY.facts.1.1 3;have B6:w.cell? (p.st,2)=some (J x.b.sh):=(eC.front 4 rfl).facts.1.1 2;clear eC;obtain⟨sh,Hsh⟩:=az (x.b.sh);rw[<-Hsh.out] at B6;replace kf:=Q kf;go_in;go_wp2_with fail;go_step3;go_wp2_with fail;go_step3;go_wp2_with fail;clear Xw B6;go_loopw [3,16] (λu i wr=>∃(k:Nat)(y:Ag)(out:List (Nat×Int)),i=J k∧(k<=sh∧out.length<=32*k)∧((y.eE ((bF sh).drop k)).1,out++(y.eE ((bF sh).drop k)).2)=aeq∧(y.Ok∧y.node=x.node∧y.b.sh=sh)∧St V w (.o (nX x.node u out)::dV p y) wr) (λ_ i _=>sh-(intOf i).toNat);case atStart=>exact⟨0,x,[],rfl,⟨by omega,bo _⟩,by rw[HT.out,Hsh.out];rfl,⟨X,rfl,Hsh.out.symm⟩,fY.join (nX.framed _ _ _) (Grow.refl _) (U:=λ_=>False) Row.nil (λ_ h=>h.elim)⟩
 case round=>
  obtain⟨k,y,out,rfl,⟨hksh,hol⟩,hT,⟨hy,hyn,RY⟩,L⟩:=hrel;by_cases K:k<sh
  ·have dk:decide (k<sh)=true:=aC K
   have jw:k<4:=by have:=X.sh;have:=Hsh.out;omega
   obtain⟨hz,sl,cu,eC⟩:=iO.ov L 2 rfl;obtain⟨As,cs,rfl,ko,hms⟩:=fT.oJ eC 6 rfl;have Xw:wr.cell? (p.a,3)=some (((p.st,0):E)):=eC.facts.1.1 3;have TI:wr.cell? (p.st,1)=some (Y As y.b.eW.length cs):=(eC.front 5 rfl).facts.1.1 1;replace hT:=Q hT;obtain⟨n,Hn⟩:=az (y.b.eW.length);rw[<-Hn.out] at TI ko;have hn32:n<=32:=by rw[Hn.out];exact hy.b.eW
   go_wp2_with fail;clear Xw TI;have ec:=eC.join (fT.framed 147 2 (Y none 0 0) 0 []) (Grow.refl _) (U:=λ_=>False) Row.nil (λ_ h=>h.elim);go_loopw [5,27] (λv i wq=>∃j:Nat,i=J j∧j<=n∧St V w (.o (fT 147 2 v (B0 y k j).length (fw (B0 y k j)))::.o (nX x.node u3 out)::.c p.a 192 (rA p y)::.o (eF p.x p.d y.rs.length y.bs y.k)::.o (eR oV p.bK (gR j6 y.ask))::.o (eR j6 p.bT (gR sy y.tr))::ib p.st p.z (Y As y.b.eW.length cs) cu y.b) wq) (λ_ i _=>n-(intOf i).toNat);case atStart=>exact⟨0,rfl,by omega,ec⟩
   case round=>
    obtain⟨j,rfl,xf,hSq⟩:=hrel;obtain⟨Aq,cq,rfl,hcq,hmq⟩:=fT.sl hSq;have UO:(B0 y k j).length<=32:=by have I:(B0 y k j).length<=(y.b.eW.take j).length:=df _ _;have Z:=hy.b.eW;rw[bn] at I;omega
    by_cases hj:j<n
    ·have xg:j<y.b.eW.length:=by rw[<-Hn.out];exact hj
     obtain⟨U,hU,_⟩:=hSq.own.see 7 rfl;obtain⟨As',cs',e6,V7,_⟩:=Row.kB (show Row _ U 147 2 (Y As y.b.eW.length cs) y.b.eW.length (fw y.b.eW) from hU);injection e6 with e6 _ e7;subst e6 e7;obtain⟨ad,hq,rfl,f0,f1⟩:=kY V7 xg;have e0:=f0 _ (Grow.refl _);have e1:=f1 _ (Grow.refl _);have hsF:=Q (RV (k:=k) xg);have hfd:=hy.b.fine _ (bD xg);generalize y.b.eW[j]=d at e0 e1 hsF hfd;obtain⟨s,xx⟩:=d;dsimp only at e0 e1 hsF;obtain⟨yy,wa,HY,HA,mX⟩:=hSq.new' #[aX s,ae ah xx] 147;clear f0 f1 hU;have dj:decide (j<n)=true:=aC hj;rw[Hn.out] at dj;go_wp2_with fail;rw[<-HA.out,<-HY.out];have hcT:∀O,St V w (.c yy 147 #[aX s,ae ah xx]::.o (fT 147 2 (Y Aq (B0 y k j).length cq) (B0 y k j).length (fw (B0 y k j)))::.o (nX x.node u3 out)::.c p.a 192 (rA p y)::.o (eF p.x p.d y.rs.length y.bs y.k)::.o (eR oV p.bK (gR j6 y.ask))::.o (eR j6 p.bT (gR sy y.tr))::ib p.st p.z (Y (some ad) y.b.eW.length cs) cu y.b) O->O.cell? (yy,0)=some (aX s)∧O.cell? (p.a,3)=some (((p.st,0):E))∧O.cell? (p.st,2)=some (J sh):=λO h=>
      ⟨h.facts.1.1 0,h.facts.2.1.1 3,((h.front 7 rfl).facts.1.1 2).trans (by rw[<-RY];rfl)⟩
     have eZ:=mX.grow (Grow.refl _).drew;have eN:=hcT _ eZ;refine dO rfl ?_;refine fV (λO=>O.cell? (yy,0)=some (aX s)∧O.cell? (p.a,3)=some (((p.st,0):E))∧O.cell? (p.st,2)=some (J sh)) [] 12 rfl [0,1,2,3,4,5,6,7,8,10] ?_;iterate 10 (refine ff rfl eN (λw1 ⟨I,Z,T⟩=>aM) ?_)
     refine fG 9 [11] rfl ?_;have hSh:=aev.N4 wa.drew s (sh:Int) (by have I:s.size<=1000000:=(lW hfd).1;unfold dL;omega) (by have:=hy.sh;omega);go_wp2_with fail;refine hSh.mono ?_;rintro e w1 ⟨rfl,rfl⟩;go_wp2_with fail;refine⟨λ_=>eN,?_⟩;refine ff rfl eN (λw1 ⟨I,Z,T⟩=>aM) ?_;refine gQ ?_;by_cases Ir:aev.mN s (sh:Int)=(k:Int)
     ·have ZR:Hid (B0 y k (j+1)=B0 y k j++[(s,xx)]):=Q (by rw[hsF.out,aA (by rw[RY];exact Ir)])
      obtain⟨y2,wb,zl,HB,AW⟩:=mX.new' #[aX s,ae ah xx] 147;obtain⟨lx,mL,tP⟩:=eN;have sr:wa.drew.cell? (yy,1)=some (ae ah xx):=eZ.facts.1.1 1;have dkk:(aev.mN s (sh:Int) == (k:Int))=true:=by rw[Ir];simp
      replace Ir:=Q Ir;go_wp2_with (at_builtin;refine stay ?_);refine dN ?_;rw[<-HB.out,<-zl.out];have eI:=AW.grow (Grow.refl _).drew;refine iw pS rfl (.tmp 43) (.tmp 45) rfl rfl (eI.front 2 rfl) (A:=some (y2,0)) (m:=1) (c:=1) (news:=[aX s,ae ah xx]) rfl (In.reads ((eI.blk 0 rfl).kB (size:=2) (n:=1) rfl)) (by simp[Value.oneCell']) ap ?_;intro v' w4 eS;have fQ:=(eS.dT 1 rfl).dT 1 rfl;clear lx mL tP sr;go_wp2_with fail;refine⟨⟨j+1,by go_num,by omega,?_⟩,by simp[intOf];omega⟩;rw[ZR.out,bd,fw,bO];exact fQ
     ·have ZR:Hid (B0 y k (j+1)=B0 y k j):=Q (by rw[hsF.out,aB (by rw[RY];exact Ir)])
      have dkk:(aev.mN s (sh:Int) == (k:Int))=false:=beq_eq_false_iff_ne.2 Ir;replace Ir:=Q Ir;have fQ:=eZ.dT 0 rfl;go_wp2_with fail;refine⟨⟨j+1,by go_num,by omega,?_⟩,by simp[intOf];omega⟩;rw[ZR.out];exact fQ
    ·have Jv:j=y.b.eW.length:=by rw[<-Hn.out];omega
     have dj:decide (j<n)=false:=aD hj;have vi:qB (B0 y k j)=y.kb k:=by unfold Ag.kb B0;rw[Jv,dy]
     obtain⟨U,hU,kp⟩:=hSq.own.see 0 rfl;obtain⟨Aq',cq',e6,V7,_⟩:=Row.kB (show Row _ U 147 2 (Y Aq (B0 y k j).length cq) (B0 y k j).length (fw (B0 y k j)) from hU);injection e6 with e6 _ e7;subst e6 e7;have hDe:=Ns _ U Aq (B0 y k j).length cq (B0 y k j) V7 ap (λd hd=>(lW (hy.b.fine d (bY (List.mem_filter.1 hd).1))).2);rw[vi] at hDe;replace Jv:=Q Jv;replace vi:=Q vi;go_wp2_with fail;refine hDe.mono ?_;rintro e w5 ⟨A5,rfl,hI5,sk⟩;have eS:=(hSq.join (OR.framed A5 (y.kb k)) sk (U:=New _ w5) hI5 (λb hb=>hb)).dT 1 rfl;have fQ:=((((iO.zU (l:=[.o (OR A5 (y.kb k)),.o (nX x.node u3 out),.c p.a 192 (rA p y),.o (eF p.x p.d y.rs.length y.bs y.k),.o (eR oV p.bK (gR j6 y.ask)),.o (eR j6 p.bT (gR sy y.tr))]) hz eS).back 3).back 6).back 6);have hsh:=hy.shard k;obtain⟨aek,HZ⟩:=az (zX k out (y.kR k));clear hSq hU V7 eS ec eC hDe;go_wp2_with fail;go_loopw [3,5] (λu v wq=>∃(y2:Ag)(jP:List (Nat×Int))(f:Nat)(rest:List Dl)(A6:aU)(c6:Nat),v=Y A6 rest.length c6∧(rest.length<=c6∧c6<=dL)∧rest.length<=f∧(rest.length<=32∧jP.length+rest.length<=32*(k+1))∧(∀d∈rest,jG d)∧zX k jP (y2.kL k f rest)=aek∧(y2.Ok∧y2.node=x.node∧y2.b.sh=sh)∧St V w (dV p y2++[.o (OR A6 rest),.o (nX x.node u jP)]) wq) (λ_ v _=>Xx v);case atStart=>exact⟨y,out,_,_,A5,_,rfl,⟨bh _,by unfold dL;omega⟩,bh _,⟨hsh.1,by have:=hsh.1;omega⟩,hsh.2,by rw[HZ.out];rfl,⟨hy,hyn,RY⟩,fQ⟩
     case round=>
      obtain⟨y2,jP,f,rest,A6,c6,rfl,⟨lE,hm6⟩,hrf,⟨hr32,qM⟩,hrF,hZ,⟨xi,ZS,Xy⟩,Tp⟩:=hrel;obtain⟨Ao,co,rfl,hco,hmo⟩:=fT.oJ Tp 6 rfl;by_cases hr:rest.length=0
      ·obtain rfl:rest=[]:=bv hr
       rw[RX] at hZ;have Kc:=hT.out;rw[zY K,GJ (y2:=y2) (jP:=jP) (by rw[<-HZ.out,<-hZ];simp[zX])] at Kc;replace Kc:=Q Kc;replace hZ:=Q hZ;have fK:=(Tp.dT 5 rfl).front 5 rfl;go_wp2_with fail;exact⟨⟨k+1,y2,jP,by go_num,⟨by omega,by simpa using qM⟩,Kc.out,⟨xi,ZS,Xy⟩,fK⟩,by simp[intOf];omega⟩
      ·obtain⟨f',rfl⟩:∃f',f=f'+1:=⟨f-1,by omega⟩
       have O9:rest≠[]:=λe=>hr (by rw[e];rfl);obtain⟨n8,ZT⟩:=az ((rest.take 8).length);have Xb:n8=min 8 rest.length:=by rw[ZT.out,bn]
       have T8:∀ts t w,(Builtin.min_ ts t #[J rest.length,J 8]).run N w=.ok (J n8) w:=λts t w=>by rw[run_min_int2,Xb];congr 2;split<;>omega
       have hn8l:n8<=rest.length:=by omega
       have h18:1<=n8:=by omega
       have h8:n8<=8:=by omega
       clear Xb;have hCu:=St.qw (a:=dV p y2) (b:=[.o (OR A6 rest),.o (nX x.node (Y Ao jP.length co) jP)]) (D:=λ_=>False) Tp (a':=λ_=>dV p ((y2.l7 k (rest.take 8)).getD y2)) (λ_=>fJ _ _) Tp.no (λU hU kp=>ZF _ _ p y2 xi k jw (rest.take 8) A6 c6 (by obtain⟨U',I,Z⟩:=oI hU 0 rfl;exact In.mono (kg.take8 I) λb hb => .inl (Z b hb)) (by rw[<-ZT.out];omega) hm6 (by rw[<-ZT.out];exact h8) (λd hd=>(hrF d (bY hd)).2) (λb hb=>hb.elim (kp b) False.elim));rw[<-ZT.out] at hCu;obtain⟨o,Ho⟩:=az (y2.l7 k (rest.take 8));rw[<-Ho.out] at hCu;go_wp2_with fail;refine hCu.mono ?_;rintro e w7 ⟨_,rfl,fK⟩;rcases o with _|y3
       ·rw[O7 O9 Ho.out.symm] at hZ
        have Kc:=hT.out;rw[zY K,GK (y2:=y2) (jP:=jP) (by rw[<-HZ.out,<-hZ];simp[zX])] at Kc;have ig:=kf.out;rw[<-Kc] at ig;replace Kc:=Q Kc;replace hZ:=Q hZ;replace O9:=Q O9;have gM:=fK.dT 5 rfl;rcases jP with _|⟨c2,jP⟩
        ·rw[aA rfl] at ig
         replace ig:=Q ig;go_wp2_with fail;try rw[Exit.noGoto_ret]
         go_ret;rw[ig.out];obtain⟨r1,r2⟩:=(gM.front 5 rfl).fin;exact⟨_,rfl,r1,r2⟩
        ·rw[aB (by simp)] at ig
         replace ig:=Q ig;go_wp2_with fail;refine (St.qw (a:=dV p y2) (b:=[.o (nX x.node (Y Ao (c2::jP).length co) (c2::jP))]) (D:=λ_=>False) gM (a':=λ_=>dV p y2.sync) (λ_=>fJ _ _) gM.no (λU _ _=>LM _ _ p y2)).mono ?_;rintro e w8 ⟨_,rfl,iS⟩;go_wp2_with fail;try rw[Exit.noGoto_ret]
         go_ret;rw[ig.out];obtain⟨r1,r2⟩:=(iS.front 5 rfl).fin;exact⟨_,rfl,r1,r2⟩
       ·obtain⟨XX,a3H,a3I⟩:=xi.l7 jw (by rw[<-ZT.out];exact h8) (λd hd=>hrF d (bY hd)) Ho.out.symm
        rw[O8 O9 Ho.out.symm] at hZ;obtain⟨hz3,sl3,cu3,gM⟩:=iO.ov (st:=p.st) (z:=p.z) (b:=y3.b) fK 1 rfl;obtain⟨g,Hg⟩:=az (p.z.getD k 0);obtain⟨ql,qk,Hq⟩:∃ql qk,Hid (y3.b.qu k=⟨ql,qk⟩):=⟨_,_,Q rfl⟩;have hqu:(oO p.z y3.b.q)[k]?=some (.o (aes.eA g ql qk)):=by rw[lS hz3.1 hz3.2 jw,Hg.out];have:=Hq.out;unfold Bk.qu at this;rw[this]
        have Mu:(Im p.z sl3 cu3 y3.b)[3+k]?=some ((g:E)):=by
         have h4:k=0∨k=1∨k=2∨k=3:=by omega
         rw[Hg.out];rcases h4 with rfl|rfl|rfl|rfl<;>rfl
        rw[Hq.out] at hZ;dsimp only at hZ;have gU:∀r O,St V w (.c p.a 192 (rA p y3)::.o (eF p.x p.d y3.rs.length y3.bs y3.k)::.o (eR oV p.bK (gR j6 y3.ask))::.o (eR j6 p.bT (gR sy y3.tr))::.o (OR A6 rest)::r::ib p.st p.z sl3 cu3 y3.b) O->O.cell? (p.a,0)=some (J x.node)∧O.cell? (p.a,3)=some (((p.st,0):E))∧O.cell? ⟨p.st,3+k,none⟩=some ((g:E)):=λr O h=>
         ⟨by rw[<-ZS,<-a3H];exact h.facts.1.1 0,h.facts.1.1 3,((h.front 6 rfl).facts.1.1 (3+k)).trans Mu⟩
        replace hZ:=Q hZ;replace O9:=Q O9;go_wp2_with fail;have eZ:=gM.grow (Grow.refl _).drew;have eN:=gU _ _ eZ;obtain⟨U,hQ,_⟩:=eZ.own.see (k+9) (iV (show (_:List Bl)[k+9]?=some (.o (aes.eA g ql qk)) from hqu));have Xu:=vT _ g ql qk U hQ;refine dO rfl ?_;refine fV (λO=>O.cell? (p.a,0)=some (J x.node)∧O.cell? (p.a,3)=some (((p.st,0):E))∧O.cell? ⟨p.st,3+k,none⟩=some ((g:E))) [19] 20 rfl [0,1,2,3,4,5,6,7,8,9,10,11,12,13,14] ?_;iterate 15 (refine ff rfl eN (λw1 ⟨I,Z,T⟩ R W=>by go_simp;first|exact W|(rw[aA ap];go_simp;exact W)) ?_)
        refine fG 15 [16] rfl ?_;go_wp2_with fail;refine Xu.mono ?_;rintro e w8 ⟨rfl,rfl⟩;go_wp2_with fail;refine⟨λ_=>eN,?_⟩;refine ff rfl eN (λw1 ⟨I,Z,T⟩=>aM) ?_;refine fG 17 [] rfl ?_;obtain⟨y2b,wb,zl,HB,iS⟩:=gM.new' #[J x.node,J k,J qk] 37;go_wp2_with fail;rw[<-HB.out,<-zl.out];have lA:=iS.grow (Grow.refl _).drew;refine⟨λ_=>gU _ _ (lA.dT 0 rfl),?_⟩;refine fG 18 [] rfl ?_;refine iw YT rfl (.tmp 63) (.tmp 80) rfl rfl (lA.front 6 rfl) (A:=some (y2b,0)) (m:=1) (c:=1) (news:=[J x.node,J k,J qk]) rfl (In.reads ((lA.blk 0 rfl).kB (size:=3) (n:=1) rfl)) (by simp[Value.oneCell']) ap ?_;intro v' w9 lX;refine wpList_nil ⟨λ_=>gU _ _ ((lX.dT 1 rfl).back 5),?_⟩;refine gx 19 rfl aw ?_;have o6:St V w (.o (fT 37 3 v' (jP.length+1) (jP.flatMap (idC x.node)++[J x.node,J k,J qk]))::.c p.a 192 (rA p y3)::.o (eF p.x p.d y3.rs.length y3.bs y3.k)::.o (eR oV p.bK (gR j6 y3.ask))::.o (eR j6 p.bT (gR sy y3.tr))::.o (OR A6 rest)::ib p.st p.z sl3 cu3 y3.b) w9:=lX.dT 1 rfl;have Ef:=iO.zU (l:=[.o (fT 37 3 v' (jP.length+1) (jP.flatMap (idC x.node)++[J x.node,J k,J qk])),.c p.a 192 (rA p y3),.o (eF p.x p.d y3.rs.length y3.bs y3.k),.o (eR oV p.bK (gR j6 y3.ask)),.o (eR j6 p.bT (gR sy y3.tr)),.o (OR A6 rest)]) hz3 o6;clear Tp fK gM iS lA lX o6 eZ Xu hQ hCu;go_wp2_with fail;have e8:(rest.drop 8).length=rest.length-n8:=by rw[ZT.out,bn,bU];omega
        have Vm:=St.cls (a:=[.o (OR A6 rest)]) (Ef.front 6 rfl) (OR.framed (if c6=n8 then A6 else A6.map λx=>x.add (n8*2)) (rest.drop 8)) (λU hU=>by obtain⟨U',I,Z⟩:=oI hU 0 rfl;have T:=kg.a3G I lE;rw[<-ZT.out] at T;exact In.mono T λb hb=>Z b hb)
        have JZ:=(((Vm.front 2 rfl).back 6).back 5).back 1;refine⟨⟨y3,jP++[(k,qk)],f',rest.drop 8,if c6=n8 then A6 else A6.map λx=>x.add (n8*2),c6-n8,by rw[e8],⟨by rw[e8];omega,by omega⟩,by rw[e8];omega,⟨by rw[e8];omega,by rw[e8,bd,bw];omega⟩,λd hd=>hrF d (da hd),hZ.out,⟨XX,a3H.trans ZS,a3I.trans Xy⟩,JZ.cast ?_⟩,by simp only[Xx];omega⟩;unfold nX;rw[bd,bO];rfl
  ·have Ir:k=sh:=by omega
   subst Ir;have dk:decide (k<k)=false:=aD (Nat.lt_irrefl k);rw[show (bF k).drop k=[] from cB (by simp)] at hT;replace hT:(y,out)=aeq:=by rw[<-hT];simp[Ag.eE]
   obtain⟨Ao,co,rfl,hco,hmo⟩:=fT.oJ L 0 rfl;have Xw:wr.cell? (p.a,3)=some (((p.st,0):E)):=(L.front 1 rfl).facts.1.1 3;obtain⟨_,_,_,eC⟩:=iO.ov L 2 rfl;have B6:wr.cell? (p.st,2)=some (J k):=((eC.front 5 rfl).facts.1.1 2).trans (by rw[<-RY];rfl);clear eC;have ig:=kf.out;rw[<-hT] at ig;rcases out with _|⟨c2,out⟩
   ·rw[aA rfl] at ig
    replace ig:=Q ig;go_wp2_with fail;try rw[Exit.noGoto_ret]
    go_ret;rw[ig.out];obtain⟨r1,r2⟩:=L.fin;exact⟨_,rfl,r1,r2⟩
   ·rw[aB (by simp)] at ig
    replace ig:=Q ig;go_wp2_with fail;refine (St.qw (a:=dV p y) (b:=[.o (nX x.node (Y Ao (c2::out).length co) (c2::out))]) (D:=λ_=>False) (L.back 5) (a':=λ_=>dV p y.sync) (λ_=>fJ _ _) L.no (λU _ _=>LM _ _ p y)).mono ?_;rintro e w8 ⟨_,rfl,iS⟩;go_wp2_with fail;try rw[Exit.noGoto_ret]
    go_ret;rw[ig.out];obtain⟨r1,r2⟩:=(iS.front 5 rfl).fin;exact⟨_,rfl,r1,r2⟩
def Ag.queued(x:Ag):List (Nat×Int):=(bF 4).flatMap λk=>(x.b.qu k).l.map λb=>(k,b.1)
def Oa(w:G)(D:aV)(p:xC)(x:Ag):Lw N D 48 #[((p.a,0):E)] (dV p x) (λ(u:E)e=>e=b5 u) (λu => .o (nX x.node u x.queued)::dV p x) w:=by
 obtain⟨aeq,HT⟩:=az (x.queued);rw[<-HT.out];have Te:∀(w:G)(k:Nat),k<4->(Instr.index 184 (aZ #[pz p.z 0,pz p.z 1,pz p.z 2,pz p.z 3]) (J k)).run N w=.ok (.pointer (some ⟨p.z.getD k 0,0,none⟩)) w:=λw k K=>by
  have h4:k=0∨k=1∨k=2∨k=3:=by omega
  rcases h4 with rfl|rfl|rfl|rfl
  ·exact ix0 w p.z
  ·exact ix1 w p.z
  ·exact ix2 w p.z
  ·exact ix3 w p.z
 intro V hM hV;have fY:=St.begin_ hM (λb hb=>(hV b hb).1) (fJ _ _);have eC:=fY.join (nX.framed x.node (Y none 0 0) []) (Grow.refl _) (U:=λ_=>False) Row.nil (λ_ h=>h.elim);obtain⟨hz,sl,cu,eh⟩:=iO.ov fY 1 rfl;have Xw:w.cell? (p.a,3)=some (((p.st,0):E)):=fY.facts.1.1 3;have hb:=(eh.front 4 rfl).facts.1.1;have q3:w.cell? (p.st,3)=some (pz p.z 0):=hb 3;have q4:w.cell? (p.st,4)=some (pz p.z 1):=hb 4;have q5:w.cell? (p.st,5)=some (pz p.z 2):=hb 5;have q6:w.cell? (p.st,6)=some (pz p.z 3):=hb 6;clear hb eh;go_in;go_wp2_with fail;clear Xw q3 q4 q5 q6;go_loopw [3,15] (λu i wr=>∃(k:Nat)(out:List (Nat×Int)),i=J k∧(k<=4∧out.length<=16*k)∧out++((bF 4).drop k).flatMap (λk=>(x.b.qu k).l.map λb=>(k,b.1))=aeq∧St V w (.o (nX x.node u out)::dV p x) wr) (λ_ i _=>4-(intOf i).toNat);case atStart=>exact⟨0,[],rfl,⟨bo _,bo _⟩,by rw[HT.out];rfl,eC⟩
 case round=>
  obtain⟨k,out,rfl,⟨jw,hol⟩,hT,L⟩:=hrel;obtain⟨Ao,co,rfl,hco,hmo⟩:=fT.oJ L 0 rfl;by_cases K:k<4
  ·have dk:decide (k<4)=true:=aC K
   have ZL:=λw=>Te w k K;rw[xd K,bN,<-bp] at hT;obtain⟨fl,ZM⟩:=az ((x.b.qu k).l);rw[<-ZM.out] at hT;obtain⟨hz,sl,cu,eh⟩:=iO.ov L 2 rfl;obtain⟨U,hQ,_⟩:=eh.own.see (k+8) (iV (show (_:List Bl)[k+8]?=some (.o (aes.eA (p.z.getD k 0) (x.b.qu k).l (x.b.qu k).k)) from lS hz.1 hz.2 K));have a3J:(x.b.qu k).l.length<=16:=aes.eA.le (show aes.eA (p.z.getD k 0) (x.b.qu k).l (x.b.qu k).k _ U from hQ);obtain⟨m,Hm⟩:=az ((x.b.qu k).l.length);have hAl:=aes.YB _ _ _ _ _ hQ m Hm.out.symm;rw[<-Hm.out] at a3J;have XW:fl.length=m:=by rw[ZM.out,Hm.out]
   obtain⟨g,Hg⟩:=az (p.z.getD k 0);simp only[<-Hg.out] at ZL hAl;rw[<-ZM.out] at hAl;clear hQ eh hz Te;obtain⟨T2,HT2⟩:=az (out++fl.map λb=>(k,b.1));rw[<-HT2.out] at hT;replace hT:=Q hT;go_wp2_with fail;refine hAl.mono ?_;rintro e w3 ⟨A3,bs,rfl,Xm,TN,jU⟩;have eU:=L.join (mY.framed A3 m bs) jU (U:=New _ w3) Xm (λb hb=>hb);go_wp2_with fail;go_loopw [3,22] (λu i wr=>∃(j:Nat)(jP:List (Nat×Int)),i=J j∧(j<=m∧jP.length<=16*k+j)∧jP++(fl.drop j).map (λb=>(k,b.1))=T2∧St V w (.o (mY A3 m bs)::.o (nX x.node u jP)::dV p x) wr) (λ_ i _=>m-(intOf i).toNat);case atStart=>exact⟨0,out,rfl,⟨bo _,by omega⟩,HT2.out.symm,eU⟩
   case round=>
    obtain⟨j,jP,rfl,⟨KG,hol2⟩,GG,P2⟩:=hrel;obtain⟨A4,c4,rfl,sr,a8o⟩:=fT.oJ P2 1 rfl;by_cases hj:j<m
    ·have dj:decide (j<m)=true:=aC hj
     obtain⟨U,hU,_⟩:=P2.own.see 0 rfl;have hU:aes.o4 _ U U A3 m bs:=hU;obtain⟨ad,WJ,rfl,_,_,e0,e1⟩:=hU.row.ni ap aes.oe hj;have e0:=e0 _ rfl;have e1:=e1 0 _ rfl;have hjf:j<fl.length:=by omega
     have hfj:fl[j]=(bs[j]).abs:=by simp[<-TN]
     rw[bR hjf,hfj] at GG;generalize bs[j]=b at e0 e1 GG;obtain⟨sq,Ab,mb,cb,ds⟩:=b;dsimp only[aes.iW.cells,aes.iW.abs] at e0 e1 GG;obtain⟨y9,wa,HY9,Xq,mX⟩:=P2.new' #[J sq,Y Ab mb cb] 196;clear hU hfj;replace GG:=Q GG;go_wp2_with fail;rw[<-Xq.out,<-HY9.out];have eZ:=mX.grow (Grow.refl _).drew;have gU:∀(l:List Bl)(O:G),St V w (.c y9 196 #[J sq,Y Ab mb cb]::.o (mY (some ad) m bs)::.o (nX x.node (Y A4 jP.length c4) jP)::dV p x) O->O.cell? (p.a,0)=some (J x.node)∧O.cell? (y9,0)=some (J sq):=λl O h=>⟨(h.front 3 rfl).facts.1.1 0,h.facts.1.1 0⟩;have eN:=gU [] _ eZ;refine dO rfl ?_;refine fV (λO=>O.cell? (p.a,0)=some (J x.node)∧O.cell? (y9,0)=some (J sq)) [11] 12 rfl [0,1,2,3,4,5,6,7,8] ?_;iterate 9 (refine ff rfl eN (λw1 ⟨I,Z⟩=>aM) ?_)
     refine fG 9 [] rfl ?_;obtain⟨GH,wb,VM,VN,AW⟩:=mX.new' #[J x.node,J k,J sq] 37;go_wp2_with fail;rw[<-VN.out,<-VM.out];have AW:=AW.grow (Grow.refl _).drew;refine⟨λ_=>gU [] _ (AW.dT 0 rfl),?_⟩;refine fG 10 [] rfl ?_;refine iw YT rfl (.tmp 26) (.tmp 35) rfl rfl (AW.front 3 rfl) (A:=some (GH,0)) (m:=1) (c:=1) (news:=[J x.node,J k,J sq]) rfl (In.reads ((AW.blk 0 rfl).kB (size:=3) (n:=1) rfl)) (by simp[Value.oneCell']) ap ?_;intro v' w9 lX;have o6:=(lX.dT 1 rfl);refine wpList_nil ⟨λ_=>⟨(o6.front 3 rfl).facts.1.1 0,(o6.front 1 rfl).facts.1.1 0⟩,?_⟩;refine gx 11 rfl aw ?_;have Ef:=(o6.dT 1 rfl).front 1 rfl;clear o6 lX AW eZ mX eN gU;go_wp2_with fail;refine⟨⟨j+1,jP++[(k,sq)],by go_num,⟨by omega,by rw[bd,bw];omega⟩,?_,Ef.cast ?_⟩,by simp[intOf];omega⟩;·rw[<-GG.out];simp
     ·unfold nX
      rw[bd,bO];rfl
    ·have dj:decide (j<m)=false:=aD hj
     rw[show fl.drop j=[] from cB ap,cS,bm] at GG;have we:=hT.out;rw[<-GG] at we;replace we:=Q we;have fK:=P2.dT 0 rfl;go_wp2_with fail;exact⟨⟨k+1,jP,by go_num,⟨by omega,by omega⟩,we.out,fK⟩,by simp[intOf];omega⟩
  ·have ZP:k=4:=by omega
   subst ZP;rw[show (bF 4).drop 4=[] from rfl,cI,bm] at hT;replace hT:=Q hT;go_wp2;go_ret;rw[<-hT.out];obtain⟨r1,r2⟩:=L.fin;exact⟨_,rfl,r1,r2⟩
def _root_.Go.Hop.St.RZ{κ:Type}[DecidableEq κ]{ke:κ->E}(h:St V w0 l w):∃b wa,Hid (b=(w:Nat))∧Hid (wa=w.alloc (.map #[] 0))∧St V w0 (.o (eR ke b [])::l) wa:=⟨_,_,rfl,rfl,h.join (eR.framed _ _) (fc _ _) (eR.made w) (λb hb=>by rw[show b=(w:Nat) from hb];exact⟨bh _,by simp⟩)⟩
def uS(rs:List Rc):Bk:=rs.foldl Bk.take Bk.new
def Ag.new(node f9:Nat)(rs:List Rc)(n:Nat):Ag:=⟨node,f9,{ uS rs with ep:=(n:Int) },0,n*4294967296,0,[],[],rs++[.ep n],(sx (rs++[.ep n])).length⟩
theorem LW:∀(rs:List Rc)(b:Bk)(n:Nat),b.Lm n->(∀r∈rs,r.Ok)->(rs.foldl Bk.take b).Lm (n+rs.length)
 | [],_,_,h,_=>h
 | r::rs,b,n,h,hr=>by
   have Z:=LW rs (b.take r) (n+1) (h.take (hr r (by simp))) (λx X=>hr x (by simp[X]));rw[bC,List.foldl_cons,show n+(rs.length+1)=n+1+rs.length by omega];exact Z
def R_{l:aT}{rs:List Rc}(hs:lU l (rs.map Rc.B) j):l.take j=sx rs∧j=(sx rs).length:=by
 have h0:sx rs=(rs.map Rc.B).flatMap frame:=by rw[List.flatMap_map];rfl
 have I:=hs.1;have Z:=hs.2.1;rw[<-h0] at I Z;refine⟨?_,Z⟩;conv=>lhs;rw[<-I]
 rw[Z,List.take_left' rfl]
def ZU(w:G)(D:aV)(d k node f9 n:Nat)(l:aT)(rs:List Rc)(j:Nat)(hs:lU l (rs.map Rc.B) j)(gS:∀r∈rs,r.Ok)(qI:node<8)(hrp:1<=f9∧f9<=8)(hn:(uS rs).ep+1=(n:Int))(WE:n<=1073741824)(hrm:V.iA (sx rs) (Rc.ep n).B=0):Lw N D 144 #[J node,J f9,d] [.o (kh d l k)] (λ(p:xC)e=>p.d=d∧e=b5 (((p.a,0):E))) (λp=>dV p (Ag.new node f9 rs n)) w:=by
 intro V hM hV;have L:=St.begin_ hM (λb hb=>(hV b hb).1) ⟨kh.framed _ _ _,trivial⟩;obtain⟨U0,hU0,_⟩:=L.own.see 0 rfl;have ym:l.length<=1048576:=(show gD 120 d l k w U0 from hU0).2.2.1;have d1:decide ((node:Int)<0)=false:=aD ap;have d2:decide ((8:Int)<=(node:Int))=false:=aD ap;have d3:decide ((f9:Int)<1)=false:=aD ap;have d4:decide ((8:Int)<(f9:Int))=false:=aD ap;have TK:=@run_makeMap N;go_in;go_wp2_with fail;refine (St.call (a:=[.o (kh d l k)]) (b:=[]) (L.cast (by simp)) (a':=λ(i:OpI)=>[.o (eF i.x d (i.xs.length:Int) (l.take i.j) i.j),.o (EU i.u i.xs)]) (λi=>⟨eF.framed _ _ _ _ _,EU.framed _ _,trivial⟩) L.no (Rs w _ d k l)).mono ?_;rintro e w1 ⟨⟨x,u,xs,j'⟩,⟨sS,rfl⟩,eC⟩;dsimp only at sS eC;obtain⟨rfl,rfl⟩:=sS.one hs;obtain⟨hl,xg⟩:=R_ hs;rw[hl,bj,xg] at eC;go_wp2_with fail;refine (Vh w1).mono ?_;rintro e w2 ⟨st,z,rfl,hBo,fN⟩;have ec:=eC.join (iO.framed st z Bk.new) fN hBo (λb hb=>hb);obtain⟨bT,wa,HbT,HA,eh⟩:=ec.RZ (κ:=lZ) (ke:=j6);obtain⟨bK,wb,HbK,HB,eU⟩:=eh.RZ (κ:=Int) (ke:=oV);have z1:(w2.alloc (.map #[] 0)).heap.size=(w2:Nat)+1:=by simp
 have z2:(wa.alloc (.map #[] 0)).heap.size=(wa:Nat)+1:=by simp
 rw[<-HA.out] at z1;rw[<-HB.out] at z2;have eK:bK=bT+1:=by rw[HbK.out,z1,<-HbT.out]
 obtain⟨a,wc,Ha,HC,eI⟩:=eU.new' #[J node,J f9,x,st,(),(),(),.map (some bT),.map (some bK)] 192;have ea:a=bK+1:=by rw[Ha.out,z2,z1,eK,HbT.out]
 go_wp2_with fail;rw[<-HA.out,<-HB.out,<-HbT.out,<-eK,<-HC.out,<-ea];have a3e:5*rs.length<=(sx rs).length:=Ek rs;have hjl2:(sx rs).length<=l.length:=by rw[<-hl,bn];omega
 clear eK ea z1 z2 HA HB HC HbT HbK Ha eC ec eh eU hBo TK hl hs sS;replace eI:St V w [.c a 192 #[J node,J f9,x,st,(),(),(),.map (some bT),.map (some bK)],.o (eR oV bK []),.o (eR j6 bT []),.o (iO st z Bk.new),.o (eF x d (rs.length:Int) (sx rs) (sx rs).length),.o (EU u (rs.map Rc.B))] wc:=eI;obtain⟨U1,kv,_⟩:=eI.own.see 5 rfl;obtain⟨A1,c1,q1,rfl,_⟩:=kv;refine (eI.Il 3 rfl (S':=λ(_:Unit)=>iO st z (uS rs)) (C:=λ_ e=>e=b5 (a_ #[])) (λ_=>iO.framed _ _ _) eI.no (λU hU kp=>by obtain⟨U',hX,hs⟩:=oI hU 4 rfl;obtain⟨A',c',q',e1,hB,lL,_,_⟩:=hX;rw[e1];exact Vg wc _ st z Bk.new rs gS 0 ⟨bo _,λ_ h=>absurd h (by simp[Bk.new]),bh _⟩ ap A' q' c' (hB.mono (λb hb => .inl (hs b hb)) (λb hb => .inl (hs b hb))) lL (λb hb=>hb.elim (kp b) False.elim))).mono ?_
 rintro e w3 ⟨_,rfl,eS⟩;obtain⟨hz,sl,cu,fQ⟩:=iO.ov eS 3 rfl;replace fQ:St V w ([.c a 192 #[J node,J f9,x,st,(),(),(),.map (some bT),.map (some bK)],.o (eR oV bK []),.o (eR j6 bT []),.o (eF x d (rs.length:Int) (sx rs) (sx rs).length),.o (EU (Y A1 q1.length c1) (rs.map Rc.B))]++ib st z sl cu (uS rs)) w3:=fQ;clear eS eI;have f1:w3.cell? (a,3)=some ((st:E)):=fQ.facts.1.1 3;have f2:w3.cell? (st,0)=some (J (uS rs).ep):=(fQ.front 5 rfl).facts.1.1 0;have hwn:IntKind.i64.wrap ((uS rs).ep+1)=(n:Int):=by rw[hn,IntKind.wrap_i64];omega
 go_wp2_with (refine fB fQ 5 rfl 2 _ _ rfl 0 rfl (J n) rfl (bf rfl) rfl aw rfl ?_;intro w4 fK;refine stay ?_);refine dN ?_;replace fK:St V w ([.c a 192 #[J node,J f9,x,st,(),(),(),.map (some bT),.map (some bK)],.o (eR oV bK []),.o (eR j6 bT []),.o (eF x d (rs.length:Int) (sx rs) (sx rs).length),.o (EU (Y A1 q1.length c1) (rs.map Rc.B))]++ib st z sl cu { uS rs with ep:=(n:Int) }) w4:=fK;clear f1 f2 fQ;have f1:w4.cell? (a,3)=some ((st:E)):=fK.facts.1.1 3;have f2:w4.cell? (st,0)=some (J n):=(fK.front 5 rfl).facts.1.1 0;have dn:decide ((1073741824:Int)<(n:Int))=false:=aD ap;have hBE:=Jx w4 n ap;go_wp2_with fail;refine hBE.mono ?_;rintro e w5 ⟨v,rfl,sk,hI⟩;have gM:=fK.grow sk;clear f1 f2 hBE fK;obtain⟨Au,mu,cu',rfl,RN⟩:=id hI;go_wp2_with fail;refine (gM.Il 3 rfl (λ_=>GD _ _ _ _ _ _ _) gM.no (λU _ _=>RO w5 _ x d rs.length (sx rs).length (sx rs) (ic 1 [n]) _ hI ap)).mono ?_;rintro e w6 ⟨_,rfl,iS⟩;rw[show iA (sx rs) (ic 1 [n])=0 from hrm];replace iS:St V w ([.c a 192 #[J node,J f9,x,st,(),(),(),.map (some bT),.map (some bK)],.o (eR oV bK []),.o (eR j6 bT []),.o (eF x d ((rs++[Rc.ep n]).length:Nat) (sx (rs++[Rc.ep n])) (sx (rs++[Rc.ep n])).length),.o (EU (Y A1 q1.length c1) (rs.map Rc.B))]++ib st z sl cu { uS rs with ep:=(n:Int) }) w6:=by have:=iS;unfold K8 at this;rw[aA (show iA (sx rs) (ic 1 [n])=0 from hrm)] at this;rw[pF,bd,bw];exact this
 clear gM hI RN;have f1:w6.cell? (a,3)=some ((st:E)):=iS.facts.1.1 3;have f2:w6.cell? (st,0)=some (J n):=(iS.front 5 rfl).facts.1.1 0;go_wp2_with (refine fB iS 0 rfl 2 (.tmp 88) (.tmp 86) rfl 5 rfl (J ((n*4294967296:Nat):Int)) (congrArg (Value.int .i64) (show (n:Int)*4294967296=_ by omega)) (bf rfl) rfl aw rfl ?_;intro w7 lA;refine stay ?_);refine dN ?_;go_wp2;go_ret;have lX:=lA.dT 4 rfl;replace lX:St V w ([.c a 192 #[J node,J f9,x,st,(),J ((n*4294967296:Nat):Int),(),.map (some bT),.map (some bK)],.o (eR oV bK []),.o (eR j6 bT []),.o (eF x d ((rs++[Rc.ep n]).length:Nat) (sx (rs++[Rc.ep n])) (sx (rs++[Rc.ep n])).length)]++ib st z sl cu { uS rs with ep:=(n:Int) }) w7:=lX;have o6:=iO.zU (b:={ uS rs with ep:=(n:Int) }) hz lX;have Ef:St V w (dV ⟨a,st,x,d,bT,bK,z⟩ (Ag.new node f9 rs n)) w7:=o6.perm (by unfold dV rA Ag.new;refine (List.Perm.swap _ _ _).trans (.cons _ (.cons _ ?_));exact bg (l₁:=[_,_]) (l₂:=[_]))
 obtain⟨r1,r2⟩:=Ef.fin;exact⟨⟨a,st,x,d,bT,bK,z⟩,⟨rfl,rfl⟩,r1,r2⟩
set_option maxRecDepth 100000
set_option maxHeartbeats 1000000
def Ob(w:G)(e:En)(V:aV)(A:aU)(c:Nat)(A2:aU)(c2:Nat)(gS:e.Ok)(hd:kg w V A e.ds.length e.ds):dF N 277 #[aZ (nF (lH e) A c A2 c2)] w λen O=>∃v,en=b5 v∧Grow w O∧dX (a2E e) v O:=by
 have hB:=λ(w1:G)(H:Grow w w1)=>FZ w1 e V A c gS (In.grow hd H);have fp:=yc gS;obtain⟨bs,HB⟩:=az (p_ e);have tJ:a2E e=[UInt8.ofNat 1]++enc bs.length++bs:=by rw[HB.out];rfl
 rw[tJ];rw[<-HB.out] at hB fp;clear tJ gS hd;unfold nF Ms.cells lH Ms.zero;obtain⟨k,ag,sh,sq,ep,ds,se,fr,tg⟩:=e;unfold En.agg at hB;dsimp only[cx] at hB ⊢;go_in;go_wp2_with fail;have gN:=(dZ w (.cells #[J 1,J k,J ag,J sh,J sq,J ep,Y A ds.length c,aX se,J fr,J tg,(),(),ae ah 0,(),(),Y A2 0 c2,(),()] 45)).trans (dZ _ (.cells #[.int .u8 1] 5));refine (hB _ gN).mono ?_;rintro e w1 ⟨v1,rfl,eO,sH⟩;have I:dX [UInt8.ofNat 1] (Y (some ⟨(w:Nat)+1,0,none⟩) 1 1) w1:=by have Z:=yz (w.alloc (.cells #[J 1,J k,J ag,J sh,J sq,J ep,Y A ds.length c,aX se,J fr,J tg,(),(),ae ah 0,(),(),Y A2 0 c2,(),()] 45)) #[.int .u8 1] 5 1 [UInt8.ofNat 1] rfl rfl am;rw[fy] at Z;exact Z.below eO
 have cv:=KZ w1 sH;have hT:=uA w1 _ _ ⟨bs.toArray⟩ I (by simp) (by show bs.toArray.size<=_;simp;omega);rw[show (ByteArray.mk bs.toArray).size=bs.length by show bs.toArray.size=_;simp,show (ByteArray.mk bs.toArray).data.toList=bs from rfl] at hT;go_wp2_with fail;refine hT.mono ?_;rintro e w2 ⟨v2,rfl,fN,nu⟩;go_wp2;go_ret;exact⟨v2,rfl,gN.trans (eO.trans fN),nu⟩
def Oc(w:G)(TG CO n:Nat)(A:aU)(c:Nat)(A2:aU)(c2:Nat)(ht:TG<=9223372036854775807)(hc:CO<=255)(hn:n<18446744073709551616):dF N 277 #[aZ (nF (fD (TG:Int) (CO:Int) n) A c A2 c2)] w λen O=>∃v,en=b5 v∧Grow w O∧dX (Y_ (TG:Int) (CO:Int) n) v O:=by
 have tJ:Y_ (TG:Int) (CO:Int) n=[UInt8.ofNat 2]++enc TG++enc CO++enc n:=by unfold Y_;rw[cG,cG]
 rw[tJ];clear tJ;obtain⟨LB,GL⟩:=az ([UInt8.ofNat 2]++enc TG++enc CO++enc n);rw[<-GL.out];unfold nF Ms.cells fD Ms.zero En.zero;dsimp only[cx];have zm:∀(vs:aP)(w:G),(callFunc 182 vs).run N w=.ok (.enter 182 vs) w:=λvs w=>by go_simp
 have gN:=(dZ w (.cells #[J 2,(),(),(),(),(),Y A 0 c,"",(),(),J TG,J CO,ae ah n,(),(),Y A2 0 c2,(),()] 45)).trans (dZ _ (.cells #[.int .u8 2] 5));have zn:=(eL.made w 45 #[J 2,(),(),(),(),(),Y A 0 c,"",(),(),J TG,J CO,ae ah n,(),(),Y A2 0 c2,(),()]).alloc (.cells #[.int .u8 2] 5);have Z:=yz (w.alloc (.cells #[J 2,(),(),(),(),(),Y A 0 c,"",(),(),J TG,J CO,ae ah n,(),(),Y A2 0 c2,(),()] 45)) #[.int .u8 2] 5 1 [UInt8.ofNat 2] rfl rfl am;rw[fy] at Z;obtain⟨x,HX⟩:=az ((w:Nat):Nat);obtain⟨wa,HA⟩:=az ((w.alloc (.cells #[J 2,(),(),(),(),(),Y A 0 c,"",(),(),J TG,J CO,ae ah n,(),(),Y A2 0 c2,(),()] 45)).alloc (.cells #[.int .u8 2] 5):G);rw[<-HA.out] at gN zn Z;rw[<-HX.out] at zn Z;have wT:IntKind.u64.wrap (TG:Int)=(TG:Int):=by rw[wrap_u64];omega
 have wC:IntKind.u64.wrap (CO:Int)=(CO:Int):=by rw[wrap_u64];omega
 go_in;go_wp2_with fail;rw[<-HA.out,<-HX.out];refine ia 13 73 [(4,.inr (λ_=>dX ([UInt8.ofNat 2]++enc TG))),(8,.inr (λ_=>dX ([UInt8.ofNat 2]++enc TG++enc CO))),(11,.inr (λ_=>dX ([UInt8.ofNat 2]++enc TG++enc CO++enc n)))] rfl rfl aw aw aw ?_ ?_
 ·intro x X φ he
  simp only[b_,bW,or_false] at X;rcases X with rfl|rfl|rfl<;>cases he
  all_goals first|exact gB (gJ _)|fail
 intro ops' A' K' aeq oT o8 hK hT;refine ji 26 (Y (some (x+1,0)) 1 1) ?_;refine gT 27 (.tmp 1) ((x:E)) (((x,10):E)) ?_;refine eD 28 (.tmp 27) (((x,10):E)) (J TG) (λρ I kk w1(H:Grow _ w1)hb hf=>by have c:=(zn.grow H).cell 10;go_simp) ?_;refine eD 29 (.tmp 28) (J TG) (ae ah TG) (λρ I kk w1(H:Grow _ w1)hb hf=>by go_simp;try rfl) ?_;refine gP 30 aj am (eu aj) (λ_=>dX ([UInt8.ofNat 2]++enc TG)) (by rw[hK.out];rfl) 182 _ _ aj [Y (some (x+1,0)) 1 1,ae ah TG] aj zm (λkk w1(H:Grow _ w1)hb hf=>fj (φ:=λ_=>dX ([UInt8.ofNat 2]++enc TG)) aj (by exact iE w1 _ [UInt8.ofNat 2] TG (Z.below H) (by simp) ap)) (λv30=>?_);refine gT 31 (.tmp 1) ((x:E)) (((x,11):E)) ?_;refine eD 32 (.tmp 31) (((x,11):E)) (J CO) (λρ I kk w1(H:Grow _ w1)hb hf=>by have c:=(zn.grow H).cell 11;go_simp) ?_;refine eD 33 (.tmp 32) (J CO) (ae ah CO) (λρ I kk w1(H:Grow _ w1)hb hf=>by go_simp;try rfl) ?_;refine gP 34 aj am (eu aj) (λ_=>dX ([UInt8.ofNat 2]++enc TG++enc CO)) (by rw[hK.out];rfl) 182 _ _ aj [v30,ae ah CO] aj zm (λkk w1(H:Grow _ w1)hb hf=>fj (φ:=λ_=>dX ([UInt8.ofNat 2]++enc TG++enc CO)) aj (by exact iE w1 v30 _ CO (gj hf (by rw[o8.out];kernel_rfl)) (by have:=eG (n:=TG) ap;simp only[bd,bw];omega) ap)) (λv34=>?_);refine gT 35 (.tmp 1) ((x:E)) (((x,12):E)) ?_;refine eD 36 (.tmp 35) (((x,12):E)) (ae ah n) (λρ I kk w1(H:Grow _ w1)hb hf=>by have c:=(zn.grow H).cell 12;go_simp) ?_;refine gP 37 aj am (eu aj) (λ_=>dX ([UInt8.ofNat 2]++enc TG++enc CO++enc n)) (by rw[hK.out];rfl) 182 _ _ aj [v34,ae ah n] aj zm (λkk w1(H:Grow _ w1)hb hf=>fj (φ:=λ_=>dX ([UInt8.ofNat 2]++enc TG++enc CO++enc n)) aj (by exact iE w1 v34 _ n (gj hf (by rw[o8.out];kernel_rfl)) (by have:=eG (n:=TG) ap;have:=eG (n:=CO) ap;simp only[bd,bw];omega) hn)) (λv37=>?_);refine ji 2 (v37) ?_;refine nL (λ_ _ w1(H:Grow _ w1)_ gy=>hT _ _ ?_);clear oT o8 hK hT;simp only[jq,Act.put,bJ,bL,bI,cJ,d9];have hE:=gy.1;clear gy;go_wp2;go_ret;exact⟨v37,rfl,gN.trans H,by rw[GL.out];exact hE⟩
def CY(k aeq aen C aet:Nat)(l:List En):List UInt8:=if k=4 then [UInt8.ofNat k]++enc aeq++enc aen++enc l.length++sR l else if k=5 then [UInt8.ofNat k]++enc aeq++enc C++enc l.length++sR l else if k=6 then [UInt8.ofNat k]++enc aeq++enc aet else [UInt8.ofNat k]++enc aeq
def Es(w:G)(D:aV)(k aeq aen C aet:Nat)(K:3<=k∧k<=6)(hT:aeq<=9223372036854775807)(hH:aen<=9223372036854775807)(hC:C<=128)(hN:aet<=128)(A:aU)(c:Nat)(A2:aU)(c2:Nat)(q:List El)(hq:kO w D A2 q)(gS:∀x∈q,x.e.Ok)(hl:q.length<=128):dF N 277 #[aZ #[J k,(),(),(),(),(),Y A 0 c,"",(),(),(),(),ae ah 0,J aeq,J aen,Y A2 q.length c2,J C,J aet]] w λen O=>∃v,en=b5 v∧Grow w O∧dX (CY k aeq aen C aet (q.map El.e)) v O:=by
 obtain⟨LB,GL⟩:=az (CY k aeq aen C aet (q.map El.e));rw[<-GL.out];have fY:=St.begin_ (l:=[]) (w:=w) (V:=λ_=>False) trivial (λ_ h=>h.elim) trivial;obtain⟨y,wa,HY,HA,eC⟩:=fY.new' #[J k,(),(),(),(),(),Y A 0 c,"",(),(),(),(),ae ah 0,J aeq,J aen,Y A2 q.length c2,J C,J aet] 45;have a0X:=yz wa #[.int .u8 k] 5 1 [UInt8.ofNat k] rfl (by show _=[Value.int .u8 _];rw[oK ap]) am;obtain⟨z,wb,HZ,HB,ec⟩:=eC.new' #[.int .u8 k] 5;rw[<-HB.out,<-HZ.out] at a0X;have ez:z=y+1:=by rw[HZ.out,HA.out,HY.out];simp
 have w8:IntKind.u8.wrap (k:Int)=(k:Int):=by rw[IntKind.wrap_u8];omega
 have wT:IntKind.u64.wrap (aeq:Int)=(aeq:Int):=by rw[wrap_u64];omega
 have wH:IntKind.u64.wrap (aen:Int)=(aen:Int):=by rw[wrap_u64];omega
 have wC:IntKind.u64.wrap (C:Int)=(C:Int):=by rw[wrap_u64];omega
 have wN:IntKind.u64.wrap (aet:Int)=(aet:Int):=by rw[wrap_u64];omega
 have e1:((k:Int) == 1)=false:=by simp;omega
 have e2:((k:Int) == 2)=false:=by simp;omega
 have k0:wb.cell? (y,0)=some (J k):=(ec.front 1 rfl).facts.1.1 0;have hP:=iE wb _ [UInt8.ofNat k] aeq a0X (by simp) ap;go_in;go_wp2_with fail;rw[<-HA.out,<-HB.out,<-HY.out,<-ez];refine hP.mono ?_;rintro e w1 ⟨v1,rfl,eO,sH⟩;have eh:=ec.grow eO;have AZ:kO w1 D A2 q:=hq.grow (eh.grown);clear k0 hP a0X HA HB ez HY HZ fY eC ec hq;have k0:w1.cell? (y,0)=some (J k):=(eh.front 1 rfl).facts.1.1 0;have XH:=eG (n:=aeq) ap;have gU:∀O,Grow w1 O->(O.cell? (y,14)=some (J aen)∧O.cell? (y,15)=some (Y A2 q.length c2))∧O.cell? (y,16)=some (J C)∧O.cell? (y,17)=some (J aet):=λO H=>by have h:=((eh.grow H).front 1 rfl).facts.1.1;exact⟨⟨h 14,h 15⟩,h 16,h 17⟩
 by_cases jw:k=4
 ·have d4:((k:Int) == 4)=true:=by simp;omega
  have ZV:Hid (LB=[UInt8.ofNat k]++enc aeq++enc aen++enc q.length++sR (q.map El.e)):=Q (by rw[GL.out];unfold CY;rw[aA jw,bj]);replace jw:=Q jw;clear K GL;obtain⟨v1A,v1n,v1c,rfl,a4S⟩:=id sH;go_wp2_with fail;have eN:=gU _ (Grow.refl w1).drew;refine dO rfl ?_;refine fV (λO=>(O.cell? (y,14)=some (J aen)∧O.cell? (y,15)=some (Y A2 q.length c2))∧O.cell? (y,16)=some (J C)∧O.cell? (y,17)=some (J aet)) [] 9 rfl [0,1,2,3,5,6] ?_;iterate 6 (refine ff rfl eN (λw1 ⟨⟨I,Z⟩,T,h4⟩=>aM) ?_)
  refine fG 4 [] rfl ?_;have hP:=iE w1.drew _ _ aen (sH.below (Grow.refl w1).drew) (by simp;omega) ap;go_wp2_with fail;refine hP.mono ?_;rintro e w2 ⟨v2,rfl,fN,nu⟩;have wh:Grow w1 w2:=(Grow.refl w1).drew.trans fN;obtain⟨v2A,v2n,v2c,rfl,a9t⟩:=id nu;have a8y:=eG (n:=aen) ap;have hM:=zu w2 _ _ D A2 c2 q nu (by simp;omega) (AZ.grow wh) gS ap;go_wp2_with fail;refine⟨λ_=>gU _ wh,?_⟩;refine fG 7 [8] rfl ?_;go_wp2_with fail;refine hM.mono ?_;rintro e w3 ⟨v3,rfl,jU,P1⟩;go_wp2_with fail;refine⟨λ_=>gU _ (wh.trans jU),?_⟩;refine ff rfl (gU _ (wh.trans jU)) (λw1 _=>aM) ?_;refine gQ ?_;go_wp2;go_ret;exact⟨_,rfl,eh.grown.trans (wh.trans jU),by rw[ZV.out];exact P1⟩
 have d4:((k:Int) == 4)=false:=by simp;omega
 by_cases oG:k=5
 ·have d5:((k:Int) == 5)=true:=by simp;omega
  have ZV:Hid (LB=[UInt8.ofNat k]++enc aeq++enc C++enc q.length++sR (q.map El.e)):=Q (by rw[GL.out];unfold CY;rw[aB jw,aA oG,bj]);replace oG:=Q oG;clear K GL jw;obtain⟨v1A,v1n,v1c,rfl,a4S⟩:=id sH;go_wp2_with fail;have eN:=gU _ (Grow.refl w1).drew;refine dO rfl ?_;refine fV (λO=>(O.cell? (y,14)=some (J aen)∧O.cell? (y,15)=some (Y A2 q.length c2))∧O.cell? (y,16)=some (J C)∧O.cell? (y,17)=some (J aet)) [] 9 rfl [0,1,2,3,5,6] ?_;iterate 6 (refine ff rfl eN (λw1 ⟨⟨I,Z⟩,T,h4⟩=>aM) ?_)
  refine fG 4 [] rfl ?_;have hP:=iE w1.drew _ _ C (sH.below (Grow.refl w1).drew) (by simp;omega) ap;go_wp2_with fail;refine hP.mono ?_;rintro e w2 ⟨v2,rfl,fN,nu⟩;have wh:Grow w1 w2:=(Grow.refl w1).drew.trans fN;obtain⟨v2A,v2n,v2c,rfl,a9t⟩:=id nu;have a8y:=eG (n:=C) ap;have hM:=zu w2 _ _ D A2 c2 q nu (by simp;omega) (AZ.grow wh) gS ap;go_wp2_with fail;refine⟨λ_=>gU _ wh,?_⟩;refine fG 7 [8] rfl ?_;go_wp2_with fail;refine hM.mono ?_;rintro e w3 ⟨v3,rfl,jU,P1⟩;go_wp2_with fail;refine⟨λ_=>gU _ (wh.trans jU),?_⟩;refine ff rfl (gU _ (wh.trans jU)) (λw1 _=>aM) ?_;refine gQ ?_;go_wp2;go_ret;exact⟨_,rfl,eh.grown.trans (wh.trans jU),by rw[ZV.out];exact P1⟩
 have d5:((k:Int) == 5)=false:=by simp;omega
 obtain⟨v1A,v1n,v1c,rfl,a4S⟩:=id sH;by_cases Xt:k=6
 ·have d6:((k:Int) == 6)=true:=by simp;omega
  have ZV:Hid (LB=[UInt8.ofNat k]++enc aeq++enc aet):=Q (by rw[GL.out];unfold CY;rw[aB jw,aB oG,aA Xt]);have hc:=(gU w1 (Grow.refl w1)).2.2;have hP:=iE w1 _ _ aet sH (by simp;omega) ap;clear K GL jw oG Xt gU;go_wp2_with fail;refine hP.mono ?_;rintro e w2 ⟨v2,rfl,fN,nu⟩;go_wp2;go_ret;exact⟨_,rfl,eh.grown.trans fN,by rw[ZV.out];exact nu⟩
 ·have d6:((k:Int) == 6)=false:=by simp;omega
  have ZV:Hid (LB=[UInt8.ofNat k]++enc aeq):=Q (by rw[GL.out];unfold CY;rw[aB jw,aB oG,aB Xt]);clear K GL jw oG Xt gU;go_wp2;go_ret;exact⟨_,rfl,eh.grown,by rw[ZV.out];exact sH⟩
theorem ZW(w:G)(D:aV)(m:Ms)(A:aU)(c:Nat)(A2:aU)(c2:Nat)(q:List El)(h:m.Gd)(he:kg w D A m.e.ds.length m.e.ds)(hq:kO w D A2 q)(lL:q.map El.e=m.log):dF N 277 #[aZ (nF m A c A2 c2)] w λen O=>∃v,en=b5 v∧Grow w O∧dX (jI m) v O:=by
 have iH:q.length=m.log.length:=by rw[<-lL,bj]
 have xl:(∀e∈m.log,e.Ok)->∀x∈q,x.e.Ok:=λh x X=>h x.e (lL▸cW X);cases h with
 | ask e h=>
   exact Ob w e D A c A2 c2 h he
 | ans tg co n I Z T=>
   exact Oc w tg co n A c A2 c2 I Z T
 | xB t h=>
   obtain rfl:q=[]:=List.length_eq_zero_iff.1 iH;exact Es w D 3 t 0 0 0 am h am am am A c A2 c2 [] hq (λx X=>absurd X (by simp)) am
 | prom t ha l I Z T h4=>
   have:=Es w D 4 t ha 0 0 am I Z am am A c A2 c2 q hq (xl T) (by rw[iH];exact h4);rw[lL,iH] at this;exact this
 | acc t l cm I Z T h4=>
   have:=Es w D 5 t 0 cm 0 am I am Z am A c A2 c2 q hq (xl T) (by rw[iH];exact h4);rw[lL,iH] at this;exact this
 | OS t n I Z=>
   obtain rfl:q=[]:=List.length_eq_zero_iff.1 iH;exact Es w D 6 t 0 0 n am I am am Z A c A2 c2 [] hq (λx X=>absurd X (by simp)) am
set_option maxRecDepth 100000
def S1(w:G)(D:aV)(m:Ms)(A:aU)(c:Nat)(A2:aU)(c2:Nat)(q:List El)(h:m.Gd)(he:kg w D A m.e.ds.length m.e.ds)(hq:kO w D A2 q)(lL:q.map El.e=m.log):dF N 216 #[aZ (nF m A c A2 c2)] w λen O=>Grow w O∧((lJ m=true∧∃v,en=b5 (a_ #[v,()])∧dX (mB m) v O)∨(lJ m=false∧∃v,en=b5 (a_ #[v,J 3]))):=by
 have W:=λw1(H:Grow w w1)=>Gq w1 D m A c A2 c2 q h (In.grow he H) (hq.grow H) lL;have qE:=λw1(H:Grow w w1)=>ZW w1 D m A c A2 c2 q h (In.grow he H) (hq.grow H) lL;clear h he hq lL;obtain⟨LB,GL⟩:=az (jI m:aT);have tL:lJ m=decide (LB.length<=65536):=by rw[GL.out];rfl
 have Zb:mB m=frame LB:=by rw[GL.out];rfl
 rw[tL,Zb];rw[<-GL.out] at qE;clear tL Zb GL;obtain⟨k,⟨ek,ag,sh,sq,ep,ds,se,fr,tg⟩,tag,code,n,term,had,log,commit,len⟩:=m;unfold nF Ms.cells at *;dsimp only at *;have fY:=St.begin_ (l:=[]) (w:=w) (V:=λ_=>False) trivial (λ_ h=>h.elim) trivial;obtain⟨y,wa,HY,HA,eC⟩:=fY.new' #[J k,J ek,J ag,J sh,J sq,J ep,Y A ds.length c,aX se,J fr,J tg,J tag,J code,ae ah n,J term,J had,Y A2 log.length c2,J commit,J len] 45;have fA:Grow w wa:=eC.grown;have W:=W wa fA;have hX:=eC.blk 0 rfl;have hXw:=HA.out▸HY.out▸hX;go_in;go_wp2_with (refine d_ rfl 45 _ rfl _ rfl hXw bG aw ?_);rw[<-HA.out,<-HY.out];refine W.mono ?_;rintro e w1 ⟨rfl,eO⟩;have kv:=hX.grow eO;have qE:=qE w1 (fA.trans eO);clear W hXw HA HY hX eC fY;go_wp2_with (refine d_ rfl 45 _ rfl _ rfl (kv) bG aw ?_);refine qE.mono ?_;rintro e w2 ⟨v2,rfl,fN,nu⟩;clear qE;obtain⟨A3,n3,c3,rfl,P1,hnc3,a7Q⟩:=nu;have fp:=P1.len;by_cases Ic:LB.length<=65536
 ·have hB:=vQ w2 A3 n3 c3 _ P1 ap
  replace Ic:=Q Ic;replace fp:=Q fp;go_wp2_with fail;refine hB.mono ?_;rintro e w3 ⟨v3,rfl,oS,jU⟩;go_wp2;go_ret2;exact⟨fA.trans (eO.trans (fN.trans jU)),.inl ⟨aC Ic.out,v3,rfl,oS.isBytes⟩⟩
 ·have hB:=zq w2 A3 n3 c3 ap
  replace Ic:=Q Ic;replace fp:=Q fp;go_wp2_with fail;refine hB.mono ?_;rintro e w3 ⟨rfl,rfl⟩;go_wp2;go_ret2;exact⟨fA.trans (eO.trans fN),.inr ⟨aD Ic.out,_,rfl⟩⟩
end Go.Proofs.YtpeepcmdehhbgaaGreatDoor
section
namespace Go.Hop
open Go.RowKit
def Lw.obj{P:dI}{f:FuncId}{ι κ:Type}{C:ι->Ending->Prop}{S:ei}{S':ι->ei}{o:κ->List Bl}{o':κ->ι->List Bl}{ex:ι->List Bl}
 (L:∀U,S w U->∃k,dU (qv (o k)) w U∧Lw P D f args (o k) C (λi=>ex i++o' k i) w) (AL:∀k i w U,dU (qv (o' k i)) w U->S' i w U):Lw P D f args [.o S] C (λi=>ex i++[.o (S' i)]) w:=λV hM hV=>by obtain⟨U,_,hU,_,k1,_⟩:=hM;obtain⟨k,K,hL⟩:=L U hU;refine (hL U K λb hb=>hV b (k1 b hb)).mono λe O ⟨i,hC,XS,hj⟩=>⟨i,hC,?_,hj.imp k1⟩;rw[ll] at XS ⊢;obtain⟨U1,U2,hA,hB,j1,j2,j3⟩:=dU.app _ XS;exact dU.flat _ ⟨U1,U2,hA,⟨U2,λ_=>False,AL k i O U2 hB,trivial,λ_ h=>h,λ_ h=>h.elim,λ_ _ h=>h⟩,λb hb=>(j1 b hb).imp (k1 b) id,λb hb=>(j2 b hb).imp (k1 b) id,j3⟩
end Go.Hop
namespace Go.Proofs.YtpeepcmdehhbgaaGreatDoor
open Go.RowKit Go.Hop V
def vh(r d:Nat)(x:Rp):ei:=λw V=>∃(p:qi)(g:Nat),p.r=r∧p.d=d∧dU (qv (dS p g x)) w V
theorem vh.framed(r d:Nat)(x:Rp):eQ (vh r d x):=λw O V ⟨p,g,I,Z,T⟩ K=>⟨p,g,I,Z,dU.framed _ (f_ (eP p g x)) w O V T K⟩
def EW(a d:Nat)(x:Ag):ei:=λw V=>∃p:xC,p.a=a∧p.d=d∧dU (qv (dV p x)) w V
theorem EW.framed(a d:Nat)(x:Ag):eQ (EW a d x):=λw O V ⟨p,I,Z,T⟩ K=>⟨p,I,Z,dU.framed _ (f_ (fJ p x)) w O V T K⟩
abbrev PG(r d:Nat):={ z:qi×Nat // z.1.r=r∧z.1.d=d }
abbrev PA(a d:Nat):={ z:xC // z.a=a∧z.d=d }
section
variable{f:FuncId}{d:Nat}{ι:Type}{C:ι->Ending->Prop}{ex:ι->List Bl}
def S2{x:Rp}{x':ι->Rp}(h:∀p g,p.r=r->Lw N D f args (dS p g x) C (λi=>ex i++dS p g (x' i)) w):Lw N D f args [.o (vh r d x)] C (λi=>ex i++[.o (vh r d (x' i))]) w:=Lw.obj (κ:=PG r d) (o:=λk=>dS k.1.1 k.1.2 x) (o':=λk i=>dS k.1.1 k.1.2 (x' i)) (λ_ ⟨p,g,I,Z,T⟩=>⟨⟨(p,g),I,Z⟩,T,h p g I⟩) λk _ _ _ hM=>⟨k.1.1,k.1.2,k.2.1,k.2.2,hM⟩
def ZX{x':ι->Ag}(h:∀p,p.a=r->Lw N D f args (dV p x) C (λi=>ex i++dV p (x' i)) w):Lw N D f args [.o (EW r d x)] C (λi=>ex i++[.o (EW r d (x' i))]) w:=Lw.obj (κ:=PA r d) (o:=λk=>dV k.1 x) (o':=λk i=>dV k.1 (x' i)) (λ_ ⟨p,I,Z,T⟩=>⟨⟨p,I,Z⟩,T,h p I⟩) λk _ _ _ hM=>⟨k.1,k.2.1,k.2.2,hM⟩
end
def Rp.recv(x:Rp)(f:Int)(m:Ms):Rp×Sends:=
 if m.k=1 then x.ask f m.e
 else if ¬ x.hears f then (x,[])
 else if m.k=3 then x.prepare f m.term.toNat
 else if m.k=4 then jH x f.toNat m.term.toNat m.had.toNat m.log
 else if m.k=5 then x.accept f m.term.toNat m.log m.commit.toNat
 else if m.k=6 then nV x f.toNat m.term.toNat m.len.toNat
 else (x,[])
def ZY(w:G)(D:aV)(r d:Nat)(x:Rp)(X:x.Ok)(f:Int)(m:Ms)(A:aU)(c:Nat)(A2:aU)(c2:Nat)(q:List El)(h:m.Gd)(hA:m.k≠1->A=none∧c=0)(sn:m.k≠4->m.k≠5->A2=none∧c2=0)(hI:Sd.In w D ⟨0,m,A,c,A2,q,c2⟩)(jv:∀b,D b->b<(w:Nat)):Lw N D 19 #[r,J f,aZ (nF m A c A2 c2)] [.o (vh r d x)] (λ(j:E×List Sd)en=>en=b5 j.1∧eY j.2=(x.recv f m).2) (λj=>[.o (dY j.1 j.2)]++[.o (vh r d (x.recv f m).1)]) w:=by
 refine S2 (ex:=λ(j:E×List Sd)=>[.o (dY j.1 j.2)]) (x':=λ_=>(x.recv f m).1) λp g hp=>?_;subst hp;show Lw N D 19 _ (dS p g x) _ (λ(j:E×List Sd) => .o (dY j.1 j.2)::dS p g (x.recv f m).1) w;have iH:q.length=m.log.length:=by rw[<-hI.eq,bj]
 have xl:(∀e∈m.log,e.Ok)->∀x∈q,x.e.Ok:=λh x X=>h x.e (hI.eq▸cW X);by_cases hf:x.hears f
 ·cases h with
  | ask e h=>
    obtain⟨rfl,rfl⟩:=sn (show (1:Int)≠4 by decide) (show (1:Int)≠5 by decide);exact Gw w D p g x X f e A c hI.e h jv
  | ans tg co n I Z T=>
    obtain⟨rfl,rfl⟩:=hA (show (2:Int)≠1 by decide);have e:x.recv f (fD (tg:Int) (co:Int) n)=xD x:=by show (if (2:Int)=1 then _ else if ¬ x.hears f then _ else if (2:Int)=3 then _ else if (2:Int)=4 then _ else if (2:Int)=5 then _ else if (2:Int)=6 then _ else (x,[]))=_;rw[aB am,aB (λh=>h hf),aB am,aB am,aB am,aB am];rfl
    rw[e];have:=RB w D p g x X f hf tg co n I Z T A2 c2 q (sn (show (2:Int)≠4 by decide) (show (2:Int)≠5 by decide)) hI.q (List.length_eq_zero_iff.1 iH) jv;obtain⟨rfl,rfl⟩:=sn (show (2:Int)≠4 by decide) (show (2:Int)≠5 by decide);exact this
  | xB t h=>
    obtain⟨rfl,rfl⟩:=hA (show (3:Int)≠1 by decide);have e:x.recv f (kD t)=x.prepare f t:=by show (if (3:Int)=1 then _ else if ¬ x.hears f then _ else if (3:Int)=3 then x.prepare f ((t:Int)).toNat else _)=_;rw[aB am,aB (λh=>h hf),aA rfl];rfl
    rw[e];have:=NV w D p g x X f hf t h A2 c2 q (sn (show (3:Int)≠4 by decide) (show (3:Int)≠5 by decide)) hI.q (List.length_eq_zero_iff.1 iH) jv;obtain⟨rfl,rfl⟩:=sn (show (3:Int)≠4 by decide) (show (3:Int)≠5 by decide);exact this
  | prom t ha l I Z T h4=>
    obtain⟨rfl,rfl⟩:=hA (show (4:Int)≠1 by decide);have e:x.recv f (iB t ha l)=jH x f.toNat t ha l:=by show (if (4:Int)=1 then _ else if ¬ x.hears f then _ else if (4:Int)=3 then _ else if (4:Int)=4 then jH x f.toNat ((t:Int)).toNat ((ha:Int)).toNat l else _)=_;rw[aB am,aB (λh=>h hf),aB am,aA rfl];rfl
    rw[e];have:=NW w D p g x X f hf t ha I Z A2 c2 q hI.q (xl T) (by rw[iH];exact h4) jv;rw[show q.map El.e=l from hI.eq,iH] at this;exact this
  | acc t l cm I Z T h4=>
    obtain⟨rfl,rfl⟩:=hA (show (5:Int)≠1 by decide);have e:x.recv f (lB t l cm)=x.accept f t l cm:=by show (if (5:Int)=1 then _ else if ¬ x.hears f then _ else if (5:Int)=3 then _ else if (5:Int)=4 then _ else if (5:Int)=5 then x.accept f ((t:Int)).toNat l ((cm:Int)).toNat else _)=_;rw[aB am,aB (λh=>h hf),aB am,aB am,aA rfl];rfl
    rw[e];have:=RD w D p g x X f hf t cm I Z A2 c2 q hI.q (xl T) (by rw[iH];exact h4) jv;rw[show q.map El.e=l from hI.eq,iH] at this;exact this
  | OS t n I Z=>
    obtain⟨rfl,rfl⟩:=hA (show (6:Int)≠1 by decide);have e:x.recv f (mS t n)=nV x f.toNat t n:=by show (if (6:Int)=1 then _ else if ¬ x.hears f then _ else if (6:Int)=3 then _ else if (6:Int)=4 then _ else if (6:Int)=5 then _ else if (6:Int)=6 then nV x f.toNat ((t:Int)).toNat ((n:Int)).toNat else _)=_;rw[aB am,aB (λh=>h hf),aB am,aB am,aB am,aA rfl];rfl
    rw[e];have:=RE w D p g x X f hf t n I Z A2 c2 q (sn (show (6:Int)≠4 by decide) (show (6:Int)≠5 by decide)) hI.q (List.length_eq_zero_iff.1 iH) jv;obtain⟨rfl,rfl⟩:=sn (show (6:Int)≠4 by decide) (show (6:Int)≠5 by decide);exact this
 ·by_cases K:m.k=1
  ·cases h with
   | ask e h=>
     obtain⟨rfl,rfl⟩:=sn (show (1:Int)≠4 by decide) (show (1:Int)≠5 by decide);exact Gw w D p g x X f e A c hI.e h jv
   | ans=>exact absurd K (show (2:Int)≠1 by decide)
   | xB=>exact absurd K (show (3:Int)≠1 by decide)
   | prom=>exact absurd K (show (4:Int)≠1 by decide)
   | acc=>exact absurd K (show (5:Int)≠1 by decide)
   | OS=>exact absurd K (show (6:Int)≠1 by decide)
  ·have e:x.recv f m=xD x:=by unfold Rp.recv;rw[aB K,aA hf];rfl
   rw[e];exact RA w D p g x f hf m A c A2 c2 q h K (hA K) sn hI.e.1 hI.q hI.eq jv
end Go.Proofs.YtpeepcmdehhbgaaGreatDoor
end
namespace Go.Proofs.YtpeepcmdehhbgaaGreatDoor
open RowKit Hop V
abbrev Lt3:=Nat×Nat×Ms
def kE(l:Lt3):Ne.Lb:=((l.1:Int),(l.2.1:Int),mB l.2.2)
structure Wl where
 (nr na:Nat) (rp:Nat->Rp) (ag:Nat->Ag) (net:List Lt3) (cut:aO)
def Wl.nn(x:Wl):Nat:=x.nr+x.na
def at_{α:Type}(f:Nat->α)(i:Nat)(y:α):Nat->α:=λj=>if j=i then y else f j
def ox{α:Type}(f:Nat->α)(i:Nat)(y:α):at_ f i y i=y:=aA rfl
def iL(nn node:Nat):List Lt3->Sends->List Lt3
 | net,[]=>net
 | net,(to,m)::l=>iL nn node (if lJ m=true∧(0<=to∧to<nn)∧net.length<64 then net++[(node,to.toNat,m)] else net) l
def Wl.send(x:Wl)(node:Nat)(l:Sends):Wl:={ x with net:=iL x.nn node x.net l }
structure nt where
 (w rb ab db g rc ac dc:Nat) (ru au du:aP) (r a d:Nat->Nat)
def ptr(p:Nat):E := (p:E)
def wlC(P:nt)(x:Wl):Array E:=#[Y (some (P.rb,0)) x.nr P.rc,Y (some (P.ab,0)) x.na P.ac,Y (some (P.db,0)) x.nn P.dc,ptr P.g]
def pH(P:nt)(x:Wl):List Bl:=(bF x.nr).map λi => .o (vh (P.r i) (P.d i) (x.rp i))
def sA(P:nt)(x:Wl):List Bl:=(bF x.na).map λi => .o (EW (P.a i) (P.d (x.nr+i)) (x.ag i))
def dQ(P:nt)(x:Wl):List Bl := .c P.w 159 (wlC P x)::.c P.rb 24 P.ru::.c P.ab 105 P.au::.c P.db 26 P.du::.o (Ne.fm P.g (x.nn:Int) (x.net.map kE) x.cut)::(pH P x++sA P x)
def VP(P:nt)(x:Wl):qD (pH P x):=qV λb hb=>by obtain⟨i,_,rfl⟩:=List.mem_map.1 hb;exact vh.framed _ _ _
def VQ(P:nt)(x:Wl):qD (sA P x):=qV λb hb=>by obtain⟨i,_,rfl⟩:=List.mem_map.1 hb;exact EW.framed _ _ _
def ft(P:nt)(x:Wl):qD (dQ P x):=⟨trivial,trivial,trivial,trivial,Ne.fm.framed _ _ _ _,mj (VP P x) (VQ P x)⟩
structure qK(P:nt)(x:Wl):Prop where
 n:1<=x.nr∧x.nn<=8
 r:∀i,i<x.nr->P.ru[i]?=some (ptr (P.r i))
 a:∀i,i<x.na->P.au[i]?=some (ptr (P.a i))
 d:∀i,i<x.nn->P.du[i]?=some (ptr (P.d i))
 c:x.nr<=P.rc∧x.na<=P.ac∧x.nn<=P.dc
 m:P.rc<=dL∧P.ac<=dL∧P.dc<=dL
def iP(aeu:Nat)(x:Wl):ei:=λw V=>∃P:nt,P.w=aeu∧qK P x∧dU (qv (dQ P x)) w V
theorem iP.framed(aeu:Nat)(x:Wl):eQ (iP aeu x):=λw O V ⟨P,I,Z,T⟩ K=>⟨P,I,Z,dU.framed _ (f_ (ft P x)) w O V T K⟩
section
variable{aeu:Nat}{x:Wl}{P:nt}
theorem iP.opn(h:St V w0 (.o (iP aeu x)::l) w):∃P,P.w=aeu∧qK P x∧St V w0 (dQ P x++l) w:=by obtain⟨⟨P,I,Z⟩,T⟩:=St.opn (κ:={ P:nt // P.w=aeu∧qK P x }) (o:=λP=>dQ P.1 x) h λU ⟨P,I,Z,T⟩=>⟨⟨P,I,Z⟩,T,ft _ _⟩;exact⟨P,I,Z,T⟩
theorem iP.cls(hP:P.w=aeu)(hQ:qK P x)(h:St V w0 (dQ P x++l) w):St V w0 (.o (iP aeu x)::l) w:=h.cls (iP.framed _ _) λ_ hM=>⟨P,hP,hQ,hM⟩
def S3(P:nt)(x:Wl)(hi:i<x.nr)(l:List Bl):(dQ P x++l)[5+i]?=some (.o (vh (P.r i) (P.d i) (x.rp i))):=by rw[show 5+i=i+1+1+1+1+1 by omega];show ((pH P x++sA P x)++l)[i]?=_;rw[bp,List.getElem?_append_left (by simp[pH];exact hi)];simp[pH,hi]
def a3K(P:nt)(x:Wl)(hi:i<x.na)(l:List Bl):(dQ P x++l)[5+(x.nr+i)]?=some (.o (EW (P.a i) (P.d (x.nr+i)) (x.ag i))):=by rw[show 5+(x.nr+i)=(x.nr+i)+1+1+1+1+1 by omega];show ((pH P x++sA P x)++l)[x.nr+i]?=_;rw[bp,List.getElem?_append_right (by simp[pH])];simp only[pH,bj,di,Nat.add_sub_cancel_left];rw[List.getElem?_append_left (by simp[sA];exact hi)];simp[sA,hi]
def CZ{α:Type}(f:Nat->α)(hi:i<n)(y:α):((bF n).map f).set i y=(bF n).map (at_ f i y):=by
 apply List.ext_getElem?;intro j;rw[List.getElem?_set];by_cases hj:i=j;·subst hj;simp[hi,at_]
 ·rw[aB hj]
  by_cases h:j<n;·simp[h,at_,Ne.symm hj]
  ·simp[h]
def C_(P:nt)(x:Wl)(hi:i<x.nr)(y:Rp)(l:List Bl):(dQ P x++l).set (5+i) (.o (vh (P.r i) (P.d i) y))=dQ P { x with rp:=at_ x.rp i y }++l:=by
 rw[show 5+i=i+1+1+1+1+1 by omega];show _::_::_::_::_::((pH P x++sA P x)++l).set i _=_;rw[bp,List.set_append_left _ _ (by simp[pH];exact hi)];have e:(pH P x).set i (.o (vh (P.r i) (P.d i) y))=pH P { x with rp:=at_ x.rp i y }:=by
  unfold pH;rw[CZ _ hi];apply cP;intro j hj;unfold at_;split;·rename_i h;rw[h];simp
  ·rename_i h;simp[h]
 rw[e];unfold dQ;simp only[cH,bp];rfl
def Od(P:nt)(x:Wl)(hi:i<x.na)(y:Ag)(l:List Bl):(dQ P x++l).set (5+(x.nr+i)) (.o (EW (P.a i) (P.d (x.nr+i)) y))=dQ P { x with ag:=at_ x.ag i y }++l:=by
 rw[show 5+(x.nr+i)=(x.nr+i)+1+1+1+1+1 by omega];show _::_::_::_::_::((pH P x++sA P x)++l).set (x.nr+i) _=_;rw[bp,List.set_append_right _ _ (by simp[pH])];simp only[pH,bj,di,Nat.add_sub_cancel_left];rw[List.set_append_left _ _ (by simp[sA];exact hi)];have e:(sA P x).set i (.o (EW (P.a i) (P.d (x.nr+i)) y))=sA P { x with ag:=at_ x.ag i y }:=by
  unfold sA;rw[CZ _ hi];apply cP;intro j hj;unfold at_;split;·rename_i h;rw[h];simp
  ·rename_i h;simp[h]
 rw[e];unfold dQ;simp only[cH,bp];rfl
structure S4(P:nt)(x:Wl)(w:G):Prop where
 w0:w.cell? (P.w,0)=some (Y (some (P.rb,0)) x.nr P.rc)
 w1:w.cell? (P.w,1)=some (Y (some (P.ab,0)) x.na P.ac)
 w2:w.cell? (P.w,2)=some (Y (some (P.db,0)) x.nn P.dc)
 w3:w.cell? (P.w,3)=some (ptr P.g)
 r:∀i,i<x.nr->w.cell? ⟨P.rb,i,none⟩=some (ptr (P.r i))
 a:∀i,i<x.na->w.cell? ⟨P.ab,i,none⟩=some (ptr (P.a i))
 d:∀i,i<x.nn->w.cell? ⟨P.db,i,none⟩=some (ptr (P.d i))
def j8(h:St V w0 (dQ P x++l) w)(hQ:qK P x):S4 P x w:=by have f0:=h.facts.1.1;have f1:=h.facts.2.1.1;have f2:=h.facts.2.2.1.1;have f3:=h.facts.2.2.2.1.1;exact⟨f0 0,f0 1,f0 2,f0 3,λi hi=>(f1 i).trans (hQ.r i hi),λi hi=>(f2 i).trans (hQ.a i hi),λi hi=>(f3 i).trans (hQ.d i hi)⟩
end
set_option maxRecDepth 100000
section
variable{P:nt}{x:Wl}
def sb(hF:S4 P x w)(hQ:qK P x)(hi:i<x.nr):dF N 31 #[((P.w,0):E),J i] w λe O=>e=b5 (ptr (P.r i))∧w=O:=by have c0:=hF.w0;have c1:=hF.r i hi;have d1:decide ((i:Int)<0)=false:=aD ap;have d2:decide (x.nr<=i)=false:=aD ap;have hc:=hQ.c;clear hF hQ hc;unfold ptr at *;generalize x.nr=n at *;go_in;go_wp2;go_ret;exact⟨rfl,rfl⟩
def GM(hF:S4 P x w){i:Int}(hi:i<0∨(x.nr:Int)<=i):dF N 31 #[((P.w,0):E),J i] w λe O=>e=b5 (.pointer none)∧w=O:=by
 have c0:=hF.w0;clear hF;generalize x.nr=n at *;by_cases h0:i<0
 ·have d1:decide (i<0)=true:=aC h0
  clear hi h0;go_in;go_wp2;go_ret;exact⟨rfl,rfl⟩
 ·have d1:decide (i<0)=false:=aD h0
  have d2:decide ((n:Int)<=i)=true:=aC ap;clear hi h0;go_in;go_wp2;go_ret;exact⟨rfl,rfl⟩
def oy(hF:S4 P x w)(hQ:qK P x)(hi:i<x.na):dF N 47 #[((P.w,0):E),J i] w λe O=>e=b5 (ptr (P.a i))∧w=O:=by have c0:=hF.w1;have c1:=hF.a i hi;have d1:decide ((i:Int)<0)=false:=aD ap;have d2:decide (x.na<=i)=false:=aD ap;have hc:=hQ.c;clear hF hQ hc;unfold ptr at *;generalize x.na=n at *;go_in;go_wp2;go_ret;exact⟨rfl,rfl⟩
def zZ(hF:S4 P x w)(hQ:qK P x)(hi:i<x.nn):dF N 106 #[((P.w,0):E),J i] w λe O=>e=b5 (ptr (P.d i))∧w=O:=by have c0:=hF.w2;have c1:=hF.d i hi;have d1:decide ((i:Int)<0)=false:=aD ap;have d2:decide (x.nn<=i)=false:=aD ap;have hc:=hQ.c;clear hF hQ hc;unfold ptr at *;generalize x.nn=n at *;go_in;go_wp2;go_ret;exact⟨rfl,rfl⟩
def VR(hF:S4 P x w):dF N 37 #[((P.w,0):E)] w λe O=>e=b5 (ptr P.g)∧w=O:=by have c0:=hF.w3;clear hF;unfold ptr at *;go_in;go_wp2;go_ret;exact⟨rfl,rfl⟩
def Et(hF:S4 P x w):dF N 91 #[((P.w,0):E)] w λe O=>e=b5 (J x.nr)∧w=O:=by have c0:=hF.w0;clear hF;go_in;go_wp2;go_ret;exact⟨rfl,rfl⟩
def Kf(hF:S4 P x w):dF N 90 #[((P.w,0):E)] w λe O=>e=b5 (J x.na)∧w=O:=by have c0:=hF.w1;clear hF;go_in;go_wp2;go_ret;exact⟨rfl,rfl⟩
def rD(hF:S4 P x w)(hQ:qK P x)(hi:i<x.na):dF N 207 #[((P.w,0):E),J ((x.nr+i:Nat):Int)] w λe O=>e=b5 (ptr (P.a i))∧w=O:=by
 have hA:=oy hF hQ hi;have c0:=hF.w0;have hn:=hQ.n;have hnn:x.nn=x.nr+x.na:=rfl;have d1:decide (((x.nr+i:Nat):Int)<0)=false:=aD ap;have hw:IntKind.i64.wrap (((x.nr+i:Nat):Int)-(x.nr:Int))=(i:Int):=by rw[IntKind.wrap_i64];omega
 clear hF hQ hn hnn;unfold ptr at *;generalize x.nr+i=j at *;go_in;go_wp2_with fail;refine hA.mono ?_;rintro e w1 ⟨rfl,rfl⟩;go_wp2;go_ret;exact⟨rfl,rfl⟩
end
def _root_.Go.Hop.eL.ZZ{g:Nat}{vs:List E}(h:eL w g t vs.toArray)(b:Nat)(cs:List E)(hc:(vs.drop b).take cs.length=cs):w.rangeAt g b cs:=λj u hu=>by have hj:j<cs.length:=(List.getElem?_eq_some_iff.1 hu).1;rw[<-hc,List.getElem?_take,aA hj,List.getElem?_drop] at hu;rw[h.cell];simpa using hu
theorem LX{α:Type}(cells:α->List E)(size:Nat)(hl:∀a,(cells a).length=size):∀(q:List α)(k:Nat)(K:k<q.length),((q.flatMap cells).drop (k*size)).take size=cells q[k]
 | [],k,K=>absurd K (by simp)
 | a::q,0,_=>by
   rw[Nat.zero_mul,d9,bN,List.take_left' (hl a)];rfl
 | a::q,k+1,K=>by
   rw[bN,show (k+1)*size=(cells a).length+k*size by rw[hl,Nat.succ_mul];omega,List.drop_append];rw[cT ap,cC,show (cells a).length+k*size-(cells a).length=k*size by omega];exact LX cells size hl q k (by simpa using K)
def GN{q:List Sd}(L:St V w0 l w)(i:Nat)(hi:l[i]?=some (.o (dY u q)))(K:k<q.length):∃(g cap:Nat),u=Y (some (g,0)) q.length cap∧(q.length<=cap∧cap<=dL)∧w.rangeAt g (k*19) q[k].cells∧∃U:aV,Sd.In w U q[k]∧∀b,U b->b<(w:Nat):=by
 obtain⟨U,hU,fM⟩:=L.own.see i (iV hi);obtain⟨R,D,I,Z,T,h4⟩:=hU;rcases I.2 with ⟨_,h0⟩|⟨g,cap,cur,rfl,_,H,hc,hm,_,ht⟩
 ·omega
 ·refine⟨g,cap,rfl,⟨hc,hm⟩,?_,D,Z _ (bD K),λb hb=>(fM b (h4 b hb)).2⟩
  have hB:eL w g 218 cur.toList.toArray:=by rw[Array.toArray_toList];exact H
  refine hB.ZZ (k*19) _ ?_;rw[show q[k].cells.length=19 from rfl];have h5:=LX Sd.cells 19 zE q k K;rw[<-ht,List.drop_take,List.take_take,cF (by have:(k+1)*19<=q.length*19:=cK _ K;omega)] at h5;exact h5
def Z_{l:aT}(h:Bytes w (w:Nat) A n l):Ne.OM w (λb=>b<(w:Nat)) A n l:=Reads.kB h (bh _) λ_ h=>h
def S5(nn node:Nat)(net:List Lt3)(to:Int)(m:Ms)(hn:node<nn):Ne.Lg (nn:Int) (net.map kE) ((node:Int),to,mB m)=(if (0<=to∧to<nn)∧net.length<64 then net++[(node,to.toNat,m)] else net).map kE:=by
 have e0:Ne.iR (nn:Int) (node:Int)=true:=Ne.pm ⟨by omega,by omega⟩;unfold Ne.Lg Ne.Lf;dsimp only;rw[e0,aB (show ¬ (true=false) by decide),bj];by_cases I:0<=to∧to<(nn:Int)
 ·rw[Ne.pm I,aB (show ¬ (true=false) by decide)]
  by_cases Z:64<=net.length;·rw[aA Z,aB (show ¬ ((24:Int)=0) by decide),aB ap]
  ·rw[aB Z,aA rfl,aA ⟨I,by omega⟩,bM]
   show _=_++[(_,_,_)];rw[cQ I.1]
 ·rw[aA (Ne.FA I),aB (show ¬ ((23:Int)=0) by decide),aB (λh=>I h.1)]
theorem qK.net{P:nt}{x:Wl}(h:qK P x)(net:List Lt3):qK P { x with net:=net }:=⟨h.n,h.r,h.a,h.d,h.c,h.m⟩
set_option maxRecDepth 100000
set_option maxHeartbeats 1000000
def rE(w:G)(D:aV)(P:nt)(x:Wl)(hQ:qK P x)(node:Nat)(hn:node<x.nn)(u:E)(q:List Sd)(H:∀s∈q,s.m.Gd)(hq:q.length<=1048576):Lw N D 158 #[((P.w,0):E),J node,u] (dQ P x++[.o (dY u q)]) (λ(_:Unit)e=>e=b5 (a_ #[])) (λ_=>dQ P (x.send node (eY q))) w:=by
 obtain⟨R,HR⟩:=az (x.send node (eY q));rw[<-HR.out];intro V hM hV;have L:=St.begin_ hM (λb hb=>(hV b hb).1) (mj (ft P x) ⟨dY.framed _ _,trivial⟩);obtain⟨A0,c0,rfl,_⟩:∃A c,u=Y A q.length c∧True:=by obtain⟨A,c,h,_⟩:=zF (L.perm bg);exact⟨A,c,h,trivial⟩
 replace L:=L.perm bg;go_in;go_wp2_with fail;go_loopw [12] (λi wr=>∃(k:Nat)(net:List Lt3),k<=q.length∧i=J k∧Hid (R={ x with net:=iL x.nn node net (eY (q.drop k)) })∧St V w (.o (dY (Y A0 q.length c0) q)::dQ P { x with net:=net }) wr) (λi _=>q.length-(intOf i).toNat);case atStart=>exact⟨0,x.net,bo _,rfl,HR,L⟩
 case round=>
  obtain⟨k,net,K,rfl,W,eC⟩:=hrel;by_cases fM:k<q.length
  ·have dk:decide (k<q.length)=true:=aC fM
   obtain⟨g,cap,hu,_,hrg,U,OH,kp⟩:=GN eC 0 rfl fM;injection hu with hu1 hu2 hu3;subst hu1 hu3;have vd:=H _ (bD fM);have hdr:q.drop k=q[k]::q.drop (k+1):=bR fM;rw[hdr] at W;replace H:=Q H;clear hdr;obtain⟨s,Hs⟩:∃s,Hid (q[k]=s):=⟨_,Q rfl⟩;rw[Hs.out] at hrg OH vd W;go_wp2_with (refine qx rfl 218 _ rfl g (k*19) rfl s.cells hrg Tryz.underlying218 aw ?_;refine stay ?_);refine dN ?_;go_wp2_with (refine kJ rfl (zB _ _ _ rfl) ?_;intro y w2 mJ fN hz2 B6;refine stay ?_);refine dN ?_;have ec:=eC.made fN mJ (Nat.le_of_eq hz2);go_wp2_with (refine er ec 0 rfl 218 _ _ rfl 0 rfl s.cells rfl (bf rfl) rfl aw s.cells.toArray rfl rfl ?_;intro w3 eh;refine stay ?_);refine dN ?_;obtain⟨g',cap',hu',_,_,U',S6,a8z⟩:=GN eh 1 rfl fM;rw[Hs.out] at S6;have hM:=S1 w3 U' s.m s.A s.c s.A2 s.c2 s.q vd S6.e.1 S6.q S6.eq;have hr3:=(eh.blk 0 rfl).range 1 (s.m.cells s.A s.c s.A2 s.c2) rfl;clear hu' OH S6 kp a8z hrg eC ec mJ fN hz2 B6;go_wp2_with (refine qx rfl 45 _ rfl y 1 rfl (s.m.cells s.A s.c s.A2 s.c2) hr3 bG aw ?_);refine hM.mono ?_;rintro e w4 ⟨Dg,o0⟩;have eU:=eh.grow Dg;clear hM hr3 eh;rcases o0 with ⟨tL,v,rfl,A5,m5,c5,rfl,iN,a8A,a8B⟩|⟨tL,v,rfl⟩
   ·go_wp2_with fail
    have eZ:=eU.grow (Grow.refl _).drew;have gU:∀net O,St V w (.c y 218 s.cells.toArray::.o (dY (Y (some (g,0)) q.length c0) q)::dQ P { x with net:=net }) O->O.cell? (P.w,3)=some (((P.g,0):E))∧O.cell? (y,0)=some (J s.to):=λnet O h=>⟨(h.front 2 rfl).facts.1.1 3,h.facts.1.1 0⟩;have eN:=gU net _ eZ;refine dO rfl ?_;refine fV (λO=>O.cell? (P.w,3)=some (((P.g,0):E))∧O.cell? (y,0)=some (J s.to)) [] 10 rfl [0,1,2,3,4,5,6,7,8] ?_;iterate 9 (refine ff rfl eN (λw1 ⟨I,Z⟩=>aM) ?_)
    refine fG 9 [] rfl ?_;go_wp2_with fail;refine (eZ.Il 6 rfl (λ_=>Ne.fm.framed _ _ _ _) eZ.no (λU' _ _=>Lw.turns (Ne.Q2 w4.drew _ P.g (x.nn:Int) (net.map kE) x.cut (node:Int) s.to A5 m5 c5 (mB s.m) (Z_ (iN.below (Grow.refl w4).drew)) a8A a8B (by have I:=iN.len;have Z:=of_decide_eq_true tL;have T:=Q_ (jI s.m) Z;have h4:(mB s.m).length=(frame (jI s.m)).length:=rfl;omega)))).mono ?_;rintro e w6 ⟨_,rfl,eS⟩;rw[S5 _ _ _ _ _ hn] at eS;replace eS:St V w (.c y 218 s.cells.toArray::.o (dY (Y (some (g,0)) q.length c0) q)::dQ P { x with net:=if (0<=s.to∧s.to<(x.nn:Int))∧net.length<64 then net++[(node,s.to.toNat,s.m)] else net }) w6:=eS;have fQ:=eS.drop;go_wp2_with fail;refine⟨λ_=>gU _ _ eS,?_⟩;refine gQ ?_;go_wp2_with fail;exact⟨⟨k+1,_,by omega,by go_num,Q (by rw[W.out];show Wl.mk x.nr x.na x.rp x.ag (iL x.nn node net (s.fn::eY (q.drop (k+1)))) x.cut=_;show Wl.mk _ _ _ _ (iL x.nn node (if lJ s.m=true∧(0<=s.to∧s.to<(x.nn:Int))∧net.length<64 then net++[(node,s.to.toNat,s.m)] else net) _) _=_;simp only[tL,true_and]),fQ⟩,by simp[intOf];omega⟩
   ·have fQ:=eU.drop
    go_wp2_with fail;refine⟨?_,?_⟩;case RQ=>
     exact⟨k+1,net,by omega,by go_num,Q (by rw[W.out];show Wl.mk x.nr x.na x.rp x.ag (iL x.nn node net (s.fn::eY (q.drop (k+1)))) x.cut=_;show Wl.mk _ _ _ _ (iL x.nn node (if lJ s.m=true∧(0<=s.to∧s.to<(x.nn:Int))∧net.length<64 then net++[(node,s.to.toNat,s.m)] else net) _) _=_;rw[aB (by rw[tL];simp)]),fQ⟩
    case refine_2=>simp[intOf];omega
  ·obtain rfl:k=q.length:=by omega
   have dk:decide (q.length<q.length)=false:=aD fM;rw[List.drop_length] at W;go_wp2;go_end0;obtain⟨r1,r2⟩:=eC.drop.fin;rw[W.out];exact⟨(),rfl,r1,r2⟩
end Go.Proofs.YtpeepcmdehhbgaaGreatDoor
