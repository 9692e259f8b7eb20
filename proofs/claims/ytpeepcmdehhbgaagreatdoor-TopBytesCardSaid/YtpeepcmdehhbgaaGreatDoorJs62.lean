/- Lm0, Cl8, So1, So2, So3, So4, By2, So5. -/
import Derived.Test.YtpeepcmdehhbgaaGreatDoorJs61
set_option linter.all false
set_option maxRecDepth 100000
open Go.Value renaming int->ae,slice->Z,string->aX,bool->aY,agg->aZ,tuple->a_
open Go.Ending renaming returned->b5
open Go.IntKind renaming i64->af,u64->ah
open Go (J az aE aA aB aC aD ay aj am ap aw aL aK aJ aI aH aV aU aT aR aQ aP aO aN)
open Go.Proofs.Tryz renaming prog->W,underlying45->bG
open Go.Lib renaming hid->Q
open List renaming length_append->bd,perm_append_comm->bg,append_nil->bm,length_singleton->bv,length_cons->bD,take_of_length_le->bH,flatMap_cons->bJ,mem_cons_of_mem->bR,range->bV,mem_cons_self->cj,length_nil->cx,replicate->cS,length_set->dh
open Nat renaming le_refl->bh,zero_le->bo,le_trans->bB
open Int renaming toNat_natCast->cA
open Go renaming Value->K,World->X,Calls->dz
open Go.Proofs.YtpeepcmdehhbgaaGreatDoor (Dl En lp)
variable{n B g c m abm Bd nr na k sq B':Nat}{d:Dl}{e:En}{eP:List Dl}{tr:List (lp×(Nat×Nat))}{w:X}{U:aV}{ac:aN}
namespace Go.Proofs.YtpeepcmdehhbgaaGreatDoor
open RowKit Hop V
set_option maxRecDepth 100000
set_option maxHeartbeats 1000000
theorem aaT{w0:X}{l:List Bl}(h:St (λ_=>False) w0 l w):Grow w0 w:=Below.trans (Grow.refl w0) (h.just.below (B:=(w0:Nat)) (λ_ hb=>hb.elim False.elim id) (bh _))
theorem ac9{x:j4}(h:gR m x w U)(hq:x.q.length<=1048576):abk.Right x.q∧dz W 22 #[m] w λe O=>∃A,e=b5 (Z A x.q.length x.q.length)∧In O (New w O) 2 A x.q.length (fm x.q)∧Grow w O:=by obtain⟨sp,bE,bS,abn,_,hM⟩:=h;obtain⟨U3,hC,_⟩:=dN.mem hM (S:=Cell m 138 #[sp,.map (some bE),.map (some bS)]) (by simp[qf]);obtain⟨U4,hSm,_⟩:=dN.mem hM (S:=abk.gT sp x.q) (by simp[qf]);refine⟨hSm.2.1,?_⟩;have c0:=hC.2.cell 0;have hA:=abk.ac7 abk.abZ w sp _ U4 hSm hq;generalize x.q=qq at hA ⊢;clear hM hC hSm;go_in;go_wp2_with fail;refine hA.mono ?_;rintro e w1 ⟨A,rfl,hI,H⟩;go_wp2;go_ret;exact⟨A,rfl,hI,H⟩
set_option maxRecDepth 100000
set_option maxHeartbeats 1000000
theorem Ik(h:n<18446744073709551616):(Rc.ep n).B.length<=20:=by show (iJ 1 [n]).length<=20;have I:=eE h;have G:=eE (show 1<18446744073709551616 by decide);unfold iJ;simp;omega
theorem ET(I:1<=nr)(h8:nr+na<=8):(Wl.new nr na).Good 1:=by
 refine⟨⟨I,h8⟩,λi hi=>?_,λi hi=>?_,mm.nil _,λ_ h=>by simp[Wl.new] at h⟩
 ·have hi:i<nr:=hi
  exact⟨Rp.Wf.open_ ⟨hi,by omega⟩ ⟨λ_ h=>by simp at h,by show (ye []).length<=_;exact bo _⟩,λ_ h=>by simp[Wl.new,Rp.open_] at h,rfl,rfl,bo _,λ_ h=>by cases h⟩
 ·have hi:i<na:=hi
  have U8:(rm ([]++[.ep 1])).length<=1048576:=by show (frame (Rc.ep 1).B++[]).length<=_;rw[bm,jB];have I:=Ik (n:=1) am;have G:=eE (show (Rc.ep 1).B.length<18446744073709551616 by omega);omega
  refine⟨Ag.Wf.new ap ⟨I,by omega⟩ (λ_ h=>by simp at h) ⟨bh _,by decide⟩ U8,λr hr=>?_,(Ag.Ti.new (nr+i) nr I [] 1).mono am⟩;have:r=.ep 1:=by simpa [Wl.new,Ag.new] using hr
  subst this;exact bB (Ik am) am
@[irreducible] def jP(nr na:Nat):WS:=((eY (-1) 100 ⟨0,(Wl.new nr na).gH 0,iN.new,none⟩).x,(eY (-1) 100 ⟨0,(Wl.new nr na).gH 0,iN.new,none⟩).s)
theorem yF(I:1<=nr)(h8:nr+na<=8):gY (jP nr na) nr na 2 100:=by have h:=(ET I h8).gH (i:=0) I;obtain⟨a,b,c,e,f⟩:=nP (-1) 100 ⟨0,(Wl.new nr na).gH 0,iN.new,none⟩ h iN.Ok.new;unfold jP;exact⟨a,b,c,e,f⟩
theorem JO(w:X)(nr na:Nat)(I:1<=nr)(G:1<=na)(h8:nr+na<=8)(hL:((jP nr na).1.rp 0).leads=true):Lw W (λ_=>False) 26 #[J nr,J na] [] (λ(i:Nat×Nat)e=>e=b5 (a_ #[.pointer (some ⟨i.1,0,none⟩),.pointer (some ⟨i.2,0,none⟩)])) (λi=>mZ i.1 i.2 (jP nr na)) w:=by
 intro V hM hV;have fN:St V w ([]++[]) w:=St.begin_ hM (λb hb=>(hV b hb).1) trivial;have hN:=St.call (a:=[]) (b:=[]) fN (a':=λabq=>[.o (iw abq (Wl.new nr na))]) (λabq=>⟨iw.framed _ _,trivial⟩) fN.no (Xy w nr na I G h8);have gC:=yF I h8;have gl:=ET I h8;obtain⟨F,HF⟩:=az (jP nr na);rw[<-HF.out] at gC hL ⊢;obtain⟨x0,HX0⟩:=az (Wl.new nr na);have TU:x0.nr=nr∧x0.na=na:=by rw[HX0.out];exact⟨rfl,rfl⟩
 rw[<-HX0.out] at hN gl;have HF:Hid (F=((eY (-1) 100 ⟨0,x0.gH 0,iN.new,none⟩).x,(eY (-1) 100 ⟨0,x0.gH 0,iN.new,none⟩).s)):=Q (by rw[HF.out,HX0.out];unfold jP;rfl);clear HX0;go_in;go_wp2_with fail;refine hN.mono ?_;rintro e w1 ⟨abq,rfl,ej⟩;unfold ptr;have MD:=St.call (a:=[]) (b:=[.o (iw abq x0)]) ej (a':=λs=>[.o (fR s iN.new)]) (λs=>⟨fR.framed _ _,trivial⟩) ej.no (PZ w1);clear fN hN;go_wp2_with fail;refine MD.mono ?_;rintro e w2 ⟨s,rfl,dV⟩;have dV:St V w (mZ abq s (x0,iN.new)++[]) w2:=dV.front 1 rfl;clear ej MD;go_wp2_with fail;go_loopw [8] (λi wr=>∃k:Nat,i=J k∧k<=na∧w2=wr) (λi _=>na-(intOf i).toNat);case atStart=>exact⟨0,rfl,bo _,rfl⟩
 case round=>
  obtain⟨k,rfl,N,rfl⟩:=hrel;by_cases oL:k<na
  ·have c1:decide ((k:Int)<(na:Int))=true:=aC ap
   obtain⟨a,Qw⟩:=a1d dV (i:=k) (by rw[TU.2];exact oL);go_wp2_with fail;refine Qw.mono ?_;rintro e w3 ⟨rfl,rfl⟩;go_wp2_with fail;exact⟨⟨k+1,by go_num,by omega,by trivial⟩,by simp[intOf];omega⟩
  ·have c1:decide ((k:Int)<(na:Int))=false:=aD ap
   go_wp2_with fail;clear c1;go_loopw [9] (λi wr=>∃k:Nat,i=J k∧k<=nr∧w2=wr) (λi _=>nr-(intOf i).toNat);case atStart=>exact⟨0,rfl,bo _,rfl⟩
   case round=>
    obtain⟨j,rfl,hj,rfl⟩:=hrel;by_cases Cw:j<nr
    ·have c1:decide ((j:Int)<(nr:Int))=true:=aC ap
     obtain⟨r,m,Uf,h17,_⟩:=V0 dV (i:=j) (by rw[TU.1];exact Cw);go_wp2_with fail;refine Uf.mono ?_;rintro e w3 ⟨rfl,rfl⟩;go_wp2_with fail;refine Uf.mono ?_;rintro e w3 ⟨rfl,rfl⟩;go_wp2_with fail;refine h17.mono ?_;rintro e w3 ⟨rfl,rfl⟩;go_wp2_with fail;exact⟨⟨j+1,by go_num,by omega,by trivial⟩,by simp[intOf];omega⟩
    ·have c1:decide ((j:Int)<(nr:Int))=false:=aD ap
     obtain⟨g,h37,_⟩:=XL dV;go_wp2_with fail;refine h37.mono ?_;rintro e w3 ⟨rfl,rfl⟩;clear c1 h37;obtain⟨y,wa,HY,HA,dX⟩:=dV.new' (j8 ⟨8,0,0,0,⟨#[]⟩⟩) 75;unfold j8 at HA;dsimp only at HA;have lT:kr abq x0 iN.new [⟨8,0,0,0,⟨#[]⟩⟩] true (x0.gH 0) iN.new:=by refine kr.ok (ev:={ Ev.zero with node:=0 }) (x':=x0.gH 0) (gl.PP am (i:=0) (by rw[TU.1];exact I) 0 0 ⟨#[]⟩) rfl am ?_;exact kr.nil _ _
     have dX:St V w [.o (iw abq x0),.o (fR s iN.new),.c y 75 (([⟨8,0,0,0,⟨#[]⟩⟩]:List Ac).flatMap Ic).toArray] wa:=dX.perm (bg (l₁:=[_]));have T:=St.call (b:=[]) dX (a':=λ(_:Unit)=>[.o (iw abq (x0.gH 0)),.o (fR s iN.new),.c y 75 (([⟨8,0,0,0,⟨#[]⟩⟩]:List Ac).flatMap Ic).toArray]) (λ_=>⟨iw.framed _ _,fR.framed _ _,trivial,trivial⟩) dX.no (PW wa (λ_=>False) abq s y x0 (x0.gH 0) iN.new iN.new [⟨8,0,0,0,⟨#[]⟩⟩] true lT iN.Ok.new am);have T:dz W 32 #[abq,s,Z (some ⟨y,0,none⟩) 1 1] wa _:=T;go_wp2_with fail;rw[<-HA.out,<-HY.out];refine T.mono ?_;rintro e w4 ⟨_,rfl,eO⟩;clear T dX lT HA HY;have eO:St V w [.o (iw abq (x0.gH 0)),.o (fR s iN.new)] w4:=eO.dO 2 rfl;have eD:=gl.gH (i:=0) (by rw[TU.1];exact I);have hD:=St.call (a:=[.o (iw abq (x0.gH 0)),.o (fR s iN.new)]) (b:=[]) eO (a':=λ(_:Unit)=>mZ abq s F) (λ_=>pu _ _ _) eO.no (by have:=Co w4 (λ_=>False) abq s _ 100 (x0.gH 0) iN.new eD iN.Ok.new am;rw[HF.out];exact this)
     generalize (eY (-1) 100 ⟨0,x0.gH 0,iN.new,none⟩).n=m at hD;have hD:dz W 40 #[abq,s,J 100] w4 _:=hD;go_wp2_with fail;refine hD.mono ?_;rintro e w5 ⟨_,rfl,eF⟩;clear hD eO;obtain⟨r,_,Uf,_,h83,_⟩:=V0 eF (i:=0) (by rw[gC.nr];exact I);rw[hL] at h83;have Uf:dz W 31 #[abq,()] w5 _:=Uf;go_wp2_with fail;refine Uf.mono ?_;rintro e w6 ⟨rfl,rfl⟩;go_wp2_with fail;refine h83.mono ?_;rintro e w6 ⟨rfl,rfl⟩;go_wp2;go_ret2;obtain⟨r1,r2⟩:=eF.fin;exact⟨(abq,s),rfl,r1,r2⟩
def M8(e:En):Prop:=e.Ok∧(pg e).length<=340
structure SR(x:Rp)(es:List En)(ms:j4)(abm Bd:Nat):Prop where
 node:x.node=0
 nodes:x.nodes=1
 T1:1<=abm∧abm<=1000000
 c:x.s.c=⟨abm,abm,es⟩
 m:x.m=ms
 commit:x.commit=es.length
 leads:x.leads=true
 own:x.own<=es.length
 v:∃v,x.v=some v∧v.t=abm∧v.nodes=1∧v.ac.length=8∧v.ac.getD 0 0<=(es.length:Int)
 bs:x.s.bs.length<=Bd
 ok:∀e∈es,M8 e
theorem P_{l:List En}(h:∀e∈l,M8 e):(r_ l).length<=l.length*350:=by
 unfold r_;induction l with
 | nil=>exact bh _
 | cons e l ih=>
   have I:=ih λx Y=>h x (by simp[Y]);have G:=(h e (by simp)).2;have L:=eE (n:=(pg e).length) ap;rw[bJ,bd,bD];have h4:(eB e).length=(enc (pg e).length).length+(pg e).length:=by unfold eB;rw[bd]
   omega
theorem tP{l:List En}(h:∀e∈l,M8 e)(hl:l.length<=51){t h':Nat}(ht:t<18446744073709551616)(hh:h'<18446744073709551616):(nC t h' l).length<=30+l.length*350:=by have I:=P_ h;have G:=eE ht;have L:=eE hh;have h4:=eE (n:=l.length) ap;unfold nC;simp only[bd];omega
theorem lu{b:aT}(h:b.length<=65536):(frame b).length<=b.length+14:=by have:=eE (n:=b.length) ap;rw[jB];omega
theorem qA{s:Vs}{y:Wo}(I:y.B.length<=65536)(G:s.bs.length+(frame y.B).length<=1048576):s.keep y=some ⟨s.ws++[y]⟩:=aA (oB.2 ⟨I,G⟩)
theorem Cq(ws:List Wo)(y:Wo):(Vs.mk (ws++[y])).bs=ye ws++frame y.B:=qh _ _
theorem EU(h:ac.length=8):most 1 ac=ac.getD 0 0:=by
 match ac,h with
 | a::l,_=>
   unfold most;show (pB [a]).getD 0 0=a;rw[List.perm_singleton.1 (xq [a])];rfl
theorem Q0(h:ac.length=8)(hn:ac.getD 0 0<=(n:Int)):most 1 (ac.set 0 (max (ac.getD 0 0) (n:Int)))=(n:Int):=by
 rw[EU (by rw[dh];exact h)];match ac,h with
 | a::l,_=>
   show max a (n:Int)=_;have:a<=(n:Int):=hn;omega
theorem SR.told{x:Rp}{es:List En}{ms:j4}{abm Bd YP:Nat}(h:SR x es ms abm Bd){v:Vt}(hv:x.v=some v){s:Vs}{e:En}(hs:s.c=⟨abm,abm,es++[e]⟩)(hb:s.bs.length<=YP)(he:M8 e):SR (Rp.told { x with s:=s } v).1 (es++[e]) (ei ms e).2.2 abm YP∧(Rp.told { x with s:=s } v).2=[(e.fr,fx e.tg (ei ms e).1 (ei ms e).2.1)]:=by
 obtain⟨v',hv',v1,v2,v3,v4⟩:=h.v;rw[hv] at hv';cases hv';have fj:s.c.es.length=es.length+1:=by rw[hs];simp
 have hN:(v.accepted x.node s.c.es.length).1.toNat=es.length+1:=by show (most v.nodes (v.ac.set x.node (max (v.ac.getD x.node 0) (s.c.es.length:Int)))).toNat=_;rw[h.node,v2,Q0 v3 (by rw[fj];omega),fj];simp
 have Z8:(s.c.es.take (es.length+1)).drop x.commit=[e]:=by rw[hs,h.commit];show ((es++[e]).take (es.length+1)).drop es.length=_;rw[bH (by simp),List.drop_left]
 have Ub:CJ x.leads x.own [e] x.commit x.m []=((ei ms e).2.2,[rk e.fr e.tg (ei ms e).1 (ei ms e).2.1]):=by have ho:decide (x.own<=x.commit)=true:=aC (by rw[h.commit];exact h.own);unfold CJ;rw[h.leads,ho,h.m];rfl
 have E:Rp.counted { x with s:=s } v x.node s.c.es.length=({ x with s:=s,v:=some (v.told x.node s.c.es.length),m:=(ei ms e).2.2,commit:=es.length+1 },[(e.fr,fx e.tg (ei ms e).1 (ei ms e).2.1)]):=by unfold Rp.counted;rw[hN];unfold Rp.apply;dsimp only;rw[Z8,Ub,fj,h.commit];dsimp only;rw[show max es.length (min (es.length+1) (es.length+1))=es.length+1 by omega];rfl
 have ht:Rp.told { x with s:=s } v=({ x with s:=s,v:=some (v.told x.node s.c.es.length),m:=(ei ms e).2.2,commit:=es.length+1 },[(e.fr,fx e.tg (ei ms e).1 (ei ms e).2.1)]):=by
  unfold Rp.told;dsimp only;rw[E];dsimp only;have:Rp.accepts { x with s:=s,v:=some (v.told x.node s.c.es.length),m:=(ei ms e).2.2,commit:=es.length+1 }=[]:=by unfold Rp.accepts;dsimp only;rw[h.node,h.nodes];rfl
  rw[this,bm]
 rw[ht];refine⟨⟨h.node,h.nodes,h.T1,hs,rfl,by simp,h.leads,by have:=h.own;rw[bd];show x.own<=_;omega,⟨_,rfl,v1,v2,by show (v.ac.set _ _).length=8;rw[dh];exact v3,?_⟩,?_,λz hz=>?_⟩,rfl⟩
 ·show (v.ac.set x.node (max (v.ac.getD x.node 0) (s.c.es.length:Int))).getD 0 0<=_
  rw[h.node,fj,bd,bv];revert v3 v4;match v.ac with
  | []=>intro I;simp at I
  | a::l=>
    intro _ G;have G:a<=(es.length:Int):=G;show max a ((es.length+1:Nat):Int)<=_;omega
 ·exact hb
 ·rcases List.mem_append.1 hz with hz|hz
  ·exact h.ok z hz
  ·rw[List.mem_singleton.1 hz];exact he
theorem SR.ask{x:Rp}{es:List En}{ms:j4}{abm Bd:Nat}(h:SR x es ms abm Bd)(pL:Bd<=1000000)(hn:es.length<=50){f:Int}{e:En}(he:M8 { e with fr:=f }):SR (x.ask f e).1 (es++[{ e with fr:=f }]) (ei ms { e with fr:=f }).2.2 abm (Bd+18000)∧(x.ask f e).2=[(f,fx e.tg (ei ms { e with fr:=f }).1 (ei ms { e with fr:=f }).2.1)]:=by
 obtain⟨v,hv,v1,_⟩:=h.v;have hf:0<=f∧f<8:=he.1.1.1;have CP:x.s.c.es=es:=by rw[h.c]
 have gC:∀z∈es++[{ e with fr:=f }],M8 z:=λz hz=>by
  rcases List.mem_append.1 hz with hz|hz
  ·exact h.ok z hz
  ·rw[List.mem_singleton.1 hz];exact he
 have Be:(es++[{ e with fr:=f }]).length=es.length+1:=by rw[bd,bv]
 have hw:=tP gC ap (t:=abm) (h':=abm) (by have:=h.T1;omega) (by have:=h.T1;omega);obtain⟨es',HE⟩:=az (es++[{ e with fr:=f }]);have a6F:x.s.c.es++[{ e with fr:=f }]=es':=by rw[CP,HE.out]
 rw[<-HE.out] at hw Be gC;have hB:Wo.B ⟨abm,abm,es'⟩=nC abm abm es':=rfl;have qX:=lu (b:=nC abm abm es') ap;have QP:=h.bs;have N:=qA (s:=x.s) (y:=⟨abm,abm,es'⟩) (by rw[hB];omega) (by rw[hB];omega);have hac:x.s.accept v.t (x.s.c.es++[{ e with fr:=f }])=some ⟨x.s.ws++[⟨abm,abm,es'⟩]⟩:=by rw[a6F];unfold Vs.accept Vs.next;rw[v1,h.c];dsimp only;have:=h.T1;rw[aB ap,aB ap,aA ap];exact N
 have a5M:x.ask f e=Rp.told { x with s:=⟨x.s.ws++[⟨abm,abm,es'⟩]⟩ } v:=by unfold Rp.ask;rw[h.leads,hv];dsimp only;rw[aB (by rw[CP];omega),hac]
 rw[a5M];exact h.told hv (by rw[Vs.m7,HE.out]) (by rw[Cq,bd,hB];have:(ye x.s.ws).length<=Bd:=QP;omega) he
theorem SR.begin_:SR ((Rp.open_ 0 1 []).lead).1 [] j4.new 1 100∧((Rp.open_ 0 1 []).lead).2=[]:=by
 have hz:∀t h:Nat,t<18446744073709551616->h<18446744073709551616->(Wo.B ⟨t,h,[]⟩).length<=30:=λt h ht hh=>tP (l:=[]) (λ_ h=>by simp at h) am ht hh;have h0:=hz 1 0 am am;have I:=hz 1 1 am am;have f0:=lu (b:=Wo.B ⟨1,0,[]⟩) ap;have f1:=lu (b:=Wo.B ⟨1,1,[]⟩) ap;have k0:(Vs.mk []).promise 1=some ⟨[⟨1,0,[]⟩]⟩:=qA (s:=⟨[]⟩) (y:=⟨1,0,[]⟩) ap (by show 0+_<=_;omega);have b0:(Vs.mk [⟨1,0,[]⟩]).bs=frame (Wo.B ⟨1,0,[]⟩):=bm _;have k1:(Vs.mk [⟨1,0,[]⟩]).accept 1 []=some ⟨[⟨1,0,[]⟩,⟨1,1,[]⟩]⟩:=qA (s:=⟨[⟨1,0,[]⟩]⟩) (y:=⟨1,1,[]⟩) ap (by rw[b0];omega);obtain⟨v,HV⟩:=az (((Vt.new 1 1).promise 0 0 []).2);have e:(Rp.open_ 0 1 []).lead=Rp.told ⟨0,1,⟨[⟨1,0,[]⟩,⟨1,1,[]⟩]⟩,j4.new,0,some v,true,0⟩ v:=by have hp:(Rp.open_ 0 1 []).s.promise (lM (Rp.open_ 0 1 []).s.c.t (Rp.open_ 0 1 []).node (Rp.open_ 0 1 []).nodes)=some ⟨[⟨1,0,[]⟩]⟩:=k0;unfold Rp.lead;rw[aB (show ¬ ((Rp.open_ 0 1 []).s.c.t > 1099511627776) from (by decide:¬ (0 > 1099511627776))),hp];dsimp only;rw[aA aj];unfold Rp.won;have ha:(Rp.mk 0 1 ⟨[⟨1,0,[]⟩]⟩ j4.new 0 (some ((Vt.new 1 1).promise 0 0 []).2) false 0).s.accept ((Vt.new 1 1).promise 0 0 []).2.t ((Vt.new 1 1).promise 0 0 []).2.best=some ⟨[⟨1,0,[]⟩,⟨1,1,[]⟩]⟩:=k1;show (match (Rp.mk 0 1 ⟨[⟨1,0,[]⟩]⟩ j4.new 0 (some ((Vt.new 1 1).promise 0 0 []).2) false 0).s.accept ((Vt.new 1 1).promise 0 0 []).2.t ((Vt.new 1 1).promise 0 0 []).2.best with|none=>_|some s=>_)=_;rw[ha,HV.out];rfl
 have E:∀n,Rp.apply ⟨0,1,⟨[⟨1,0,[]⟩,⟨1,1,[]⟩]⟩,j4.new,0,some (v.told 0 0),true,0⟩ n=(⟨0,1,⟨[⟨1,0,[]⟩,⟨1,1,[]⟩]⟩,j4.new,0,some (v.told 0 0),true,0⟩,[]):=λn=>by unfold Rp.apply;have:(Rp.mk 0 1 ⟨[⟨1,0,[]⟩,⟨1,1,[]⟩]⟩ j4.new 0 (some (v.told 0 0)) true 0).s.c.es=[]:=rfl;rw[this,List.take_nil,List.drop_nil];simp[CJ]
 have e2:Rp.told ⟨0,1,⟨[⟨1,0,[]⟩,⟨1,1,[]⟩]⟩,j4.new,0,some v,true,0⟩ v=(⟨0,1,⟨[⟨1,0,[]⟩,⟨1,1,[]⟩]⟩,j4.new,0,some (v.told 0 0),true,0⟩,[]):=by have L:Rp.counted ⟨0,1,⟨[⟨1,0,[]⟩,⟨1,1,[]⟩]⟩,j4.new,0,some v,true,0⟩ v 0 0=(⟨0,1,⟨[⟨1,0,[]⟩,⟨1,1,[]⟩]⟩,j4.new,0,some (v.told 0 0),true,0⟩,[]):=E _;unfold Rp.told;show ((Rp.counted _ v 0 0).1,(Rp.counted _ v 0 0).2++(Rp.counted _ v 0 0).1.accepts)=_;rw[L];rfl
 rw[e,e2];have hv:v.t=1∧v.nodes=1∧v.ac=cS 8 0:=by rw[HV.out];exact⟨rfl,rfl,rfl⟩
 refine⟨⟨rfl,rfl,by decide,rfl,rfl,rfl,rfl,bh _,⟨_,rfl,hv.1,hv.2.1,?_,?_⟩,?_,λ_ h=>by simp at h⟩,rfl⟩
 ·show (v.ac.set _ _).length=8
  rw[hv.2.2];rfl
 ·show (v.ac.set 0 (max (v.ac.getD 0 0) ((0:Nat):Int))).getD 0 0<=_
  rw[hv.2.2];decide
 ·show (ye [⟨1,0,[]⟩,⟨1,1,[]⟩]).length<=_
  have:ye [⟨1,0,[]⟩,⟨1,1,[]⟩]=frame (Wo.B ⟨1,0,[]⟩)++(frame (Wo.B ⟨1,1,[]⟩)++[]):=rfl;rw[this];simp only[bd,cx];omega
theorem TC(s:aR):abn.lX s 1=0:=by
 have h:abn.xk 1=1:=by decide
 unfold abn.lX;rw[h];exact Int.emod_one _
structure DS(d:Dl):Prop where
 p:abn.fW d.1=0
 n:1<=d.2∧d.2<=18446744073709551615
 s:d.1.size<=20
structure SA(a:Ag)(n:Nat)(eP:List Dl)(q:List abo.Ab)(tr:List (lp×(Nat×Nat)))(ask:List (Int×lp))(B:Nat):Prop where
 node:a.node=1
 eX:a.eX=1
 last:a.last=0
 ep:a.b.ep=1
 eP:a.b.eP=eP
 sh:a.b.sh=1
 q:a.b.q=[⟨q,(n:Int)⟩,⟨[],0⟩,⟨[],0⟩,⟨[],0⟩]
 tr:a.tr=tr
 ask:a.ask=ask
 bs:a.bs.length<=B
theorem Il(h:DS d):(dB d).length<=40:=by have I:=eE (n:=d.1.size) (by have:=h.s;omega);have G:=eE (n:=d.2) (by have:=h.n;omega);have L:d.1.data.toList.length=d.1.size:=rfl;have:=h.s;unfold dB;simp only[bd];omega
theorem yG{ns:aQ}(N:k<18446744073709551616)(h:∀x∈ns,x<18446744073709551616):(iJ k ns).length<=10+ns.length*10:=by have I:=eE N;have G:=tj ns h;unfold iJ;rw[bd];omega
theorem TD(h:DS d):(Rc.eP d).B.length<=80:=by
 have I:=yG (k:=2) (ns:=[]) am (λ_ h=>by simp at h);have G:=Il h;show (iJ 2 []++o7 [d]).length<=80;have:(o7 [d]).length=(dB d).length:=by simp[o7]
 rw[bd,this];simp only[cx] at I;omega
theorem TF(h:DS d)(hs:sq<=9223372036854775807):(Rc.pH 0 sq [d]).B.length<=80:=by
 have I:=yG (k:=3) (ns:=[0,sq,1]) am (λx Y=>by simp at Y;rcases Y with rfl|rfl|rfl<;>omega);have G:=Il h;show (iJ 3 [0,sq,1]++o7 [d]).length<=80;have:(o7 [d]).length=(dB d).length:=by simp[o7]
 rw[bd,this];simp only[bD,cx] at I;omega
theorem Q1(hs:sq<=9223372036854775807):(Rc.dn 0 sq).B.length<=80:=by have I:=yG (k:=5) (ns:=[0,sq]) am (λx Y=>by simp at Y;rcases Y with rfl|rfl<;>omega);show (iJ 5 [0,sq]).length<=80;simp only[bD,cx] at I;omega
theorem wn{a:Ag}{r:Rc}(hb:a.bs.length<=B)(hB:B<=1000000)(hr:r.B.length<=80):a.i6 r=0∧(rm (a.rs++[r])).length<=B+100:=by have hf:=lu (b:=r.B) ap;refine⟨((mG a.bs r.B).1 (oB.2 ⟨by omega,by omega⟩)).1,?_⟩;rw[oD,bd];have:(rm a.rs).length<=B:=hb;omega
namespace SA
variable{a:Ag}{q:List abo.Ab}{ask:List (Int×lp)}
theorem mono(h:SA a n eP q tr ask B)(hB:B<=B'):SA a n eP q tr ask B':=⟨h.node,h.eX,h.last,h.ep,h.eP,h.sh,h.q,h.tr,h.ask,bB h.bs hB⟩
theorem fX(h:SA a n eP q tr ask B)(hB:B<=1000000){d:Dl}(hd:DS d)(hm:iV eP d=0):SA (a.fX d).1 n (eP++[d]) q tr ask (B+100)∧(a.fX d).2=0:=by
 obtain⟨r1,r2⟩:=wn (a:=a) h.bs hB (TD hd);have e:a.fX d=({ a with b:={ a.b with eP:=a.b.eP++[d] },rs:=a.rs++[.eP d] },0):=by unfold Ag.fX;rw[aB (by rw[h.eP];omega),aB ap]
 rw[e];exact⟨⟨h.node,h.eX,h.last,h.ep,by show a.b.eP++[d]=_;rw[h.eP],h.sh,h.q,h.tr,h.ask,r2⟩,rfl⟩
theorem Q2(h:SA a n eP q tr ask B):a.b.qu 0=⟨q,(n:Int)⟩:=by unfold Bk.qu;rw[h.q];rfl
theorem XM(h:SA a n eP q tr ask B)(N:k=1∨k=2∨k=3):(a.b.qu k).l=[]:=by unfold Bk.qu;rw[h.q];rcases N with rfl|rfl|rfl<;>rfl
theorem cut(h:SA a n eP [] tr ask B)(hB:B<=1000000)(hn:n<1000000){d:Dl}(hd:DS d)(hj:pE eP=[d])(o5:∀x∈eP,x.1=d.1):SA a.cut.1 (n+1) [] [(((n+1:Nat):Int),[d])] tr ask (B+100)∧a.cut.2=[(0,((n+1:Nat):Int))]:=by
 obtain⟨r1,r2⟩:=wn (a:=a) (r := .pH 0 (n+1) [d]) h.bs hB (TF hd ap);have tY:a.jI 0=[d]:=by unfold Ag.jI;rw[h.sh,h.eP,<-hj];congr 1;rw[List.filter_eq_self];intro x _;exact aC (TC x.1)
 have Bh:a.pH 0 [d]=.pH 0 (n+1) [d]:=by unfold Ag.pH;rw[h.Q2];rfl
 obtain⟨y,HY⟩:=az ({ a with b:=a.b.add 0 ((a.b.qu 0).k+1) [d],rs:=a.rs++[a.pH 0 [d]] });have kM:a.kx 0 [d]=some y:=by rw[HY.out];unfold Ag.kx;rw[aB];rw[h.Q2,Bh];show ¬ (16<=0∨(n:Int)=9223372036854775807∨a.i6 (.pH 0 (n+1) [d])≠0);omega
 have qC:a.b.add 0 ((a.b.qu 0).k+1) [d]={ a.b with eP:=[],q:=[⟨[(((n+1:Nat):Int),[d])],((n+1:Nat):Int)⟩,⟨[],0⟩,⟨[],0⟩,⟨[],0⟩],cuts:=a.b.cuts++[((0:Int),((n+1:Nat):Int))] }:=by
  unfold Bk.add;rw[h.Q2,aA (by show abo.uB [] (n:Int) ((n:Int)+1) 1=0;unfold abo.uB;rw[aB ap,aB ap,aB am,aB am,aB am])]
  have:a.b.eP.filter (λz => !Mn [d] z)=[]:=by rw[List.filter_eq_nil_iff,h.eP];intro z hz;unfold Mn;simp[o5 z hz]
  rw[this,h.q];rfl
 have hK:a.kg 0=(y,[((n+1:Nat):Int)],true):=by
  unfold Ag.kg;rw[tY];show (if [d]=[] then _ else match a.kx 0 ([d].take 8) with|none=>_|some y=>_)=_;rw[aB (by simp)];have:[d].take 8=[d]:=rfl;rw[this,kM];show (y,(y.b.qu 0).k::[],true)=_;have:(y.b.qu 0).k=((n+1:Nat):Int):=by rw[HY.out];dsimp only;rw[qC];rfl
  rw[this]
 have hA:a.ey (bV a.b.sh)=(y,[(0,((n+1:Nat):Int))]):=by rw[h.sh];show (if (a.kg 0).2.2=true then _ else _)=_;rw[hK,aA rfl];rfl
 have Mh:a.cut=(y.sync,[(0,((n+1:Nat):Int))]):=by unfold Ag.cut;rw[hA,aB (by simp)]
 rw[Mh];refine⟨?_,rfl⟩;rw[HY.out];unfold Ag.sync;refine⟨h.node,h.eX,h.last,?_,?_,?_,?_,h.tr,h.ask,?_⟩;·show (a.b.add 0 _ [d]).ep=1;rw[qC];exact h.ep
 ·show (a.b.add 0 _ [d]).eP=[];rw[qC]
 ·show (a.b.add 0 _ [d]).sh=1;rw[qC];exact h.sh
 ·show (a.b.add 0 _ [d]).q=_;rw[qC]
 ·show (rm (a.rs++[a.pH 0 [d]])).length<=_;rw[Bh];exact r2
end SA
def ku(n:Nat):lp:=(1,0,(n:Int))
def lQ(n:Nat)(d:Dl)(tg:Nat):En:=⟨1,1,0,(n:Int),1,[d],⟨#[]⟩,1,(tg:Int)⟩
namespace SA
variable{a:Ag}{q:List abo.Ab}{ask:List (Int×lp)}{ds:List Dl}{t:Nat×Nat}
theorem tick(h:SA a n eP [((n:Int),ds)] [] [] B){ds':Dl}(tS:ds=[ds']):∃t,SA (a.f_ 1 []).1 n eP [((n:Int),[ds'])] [(ku n,t)] [(((a.tag+1:Nat):Int),ku n)] B∧(a.f_ 1 []).2=[(0,gp (lQ n ds' (a.tag+1)))]:=by
 subst tS;obtain⟨b,HB⟩:=az (({ a with now:=a.now+1 }:Ag));have yU:(b.b.qu 0).l.take 4=[((n:Int),[ds'])]:=by rw[HB.out];show (a.b.qu 0).l.take 4=_;rw[h.Q2];rfl
 have hid:b.iX 0 (n:Int)=ku n:=by rw[HB.out];show ((a.node:Int),((0:Nat):Int),(n:Int))=_;rw[h.node];rfl
 have Vo:b.tries (ku n)=(0,0):=by rw[HB.out];show (qR a.tr (ku n)).getD (0,0)=_;rw[h.tr];rfl
 have hE:b.tI (ku n) [ds']=lQ n ds' (a.tag+1):=by rw[HB.out];show (⟨1,1,0,(n:Int),a.b.ep,[ds'],⟨#[]⟩,(a.node:Int),((a.tag+1:Nat):Int)⟩:En)=_;rw[h.ep,h.node];rfl
 have Fu:b.to 0=0:=by rw[HB.out];show (a.last+0) % a.eX=0;rw[h.last,h.eX]
 obtain⟨c,HC⟩:=az (b.send (ku n) (0,0));have ky:Ag.ff 0 [((n:Int),[ds'])] b []=(c,[(0,gp (lQ n ds' (a.tag+1)))]):=by show (if (b.tries (b.iX 0 (n:Int))).1=0∨_ then _ else _)=_;rw[hid,Vo,aA (.inl rfl)];show (b.send (ku n) (0,0),[]++[(((b.to 0:Nat):Int),gp (b.tI (ku n) [ds']))])=_;rw[Fu,hE,HC.out];rfl
 have Fl:c.b=a.b:=by rw[HC.out,HB.out];rfl
 have kS:∀k,k=1∨k=2∨k=3->(c.b.qu k).l.take 4=[]:=λk N=>by rw[Fl,h.XM N];rfl
 have Ir:a.f_ 1 []=(c,[(0,gp (lQ n ds' (a.tag+1)))]):=by
  show Ag.f_ 0 (Ag.fZ [0,1,2,3] { a with now:=a.now+1 } []).1 (Ag.fZ [0,1,2,3] { a with now:=a.now+1 } []).2=_;rw[<-HB.out];have:Ag.fZ [0,1,2,3] b []=(c,[(0,gp (lQ n ds' (a.tag+1)))]):=by show Ag.fZ [1,2,3] (Ag.ff 0 ((b.b.qu 0).l.take 4) b []).1 (Ag.ff 0 ((b.b.qu 0).l.take 4) b []).2=_;rw[yU,ky];show Ag.fZ [2,3] (Ag.ff 1 ((c.b.qu 1).l.take 4) c _).1 (Ag.ff 1 ((c.b.qu 1).l.take 4) c _).2=_;rw[kS 1 (by simp)];show Ag.fZ [3] (Ag.ff 2 ((c.b.qu 2).l.take 4) c _).1 (Ag.ff 2 ((c.b.qu 2).l.take 4) c _).2=_;rw[kS 2 (by simp)];show Ag.fZ [] (Ag.ff 3 ((c.b.qu 3).l.take 4) c _).1 (Ag.ff 3 ((c.b.qu 3).l.take 4) c _).2=_;rw[kS 3 (by simp)];rfl
  rw[this];rfl
 rw[Ir];refine⟨(0+1,b.now+rD (b.tag+1) 0),⟨?_,?_,?_,?_,?_,?_,?_,?_,?_,?_⟩,rfl⟩;·rw[HC.out,HB.out];exact h.node
 ·rw[HC.out,HB.out];exact h.eX
 ·rw[HC.out,HB.out];exact h.last
 ·show c.b.ep=1;rw[Fl];exact h.ep
 ·show c.b.eP=_;rw[Fl];exact h.eP
 ·show c.b.sh=1;rw[Fl];exact h.sh
 ·show c.b.q=_;rw[Fl];exact h.q
 ·rw[HC.out]
  show si b.tr (ku n) _=_;have:b.tr=[]:=by rw[HB.out];exact h.tr
  rw[this];rfl
 ·rw[HC.out]
  show si b.ask ((b.tag+1:Nat):Int) (ku n)=_;have:b.ask=[]:=by rw[HB.out];exact h.ask
  rw[this,HB.out];rfl
 ·rw[HC.out,HB.out];exact h.bs
theorem done(h:SA a n eP [((n:Int),ds)] [(ku n,t)] [(((g:Nat):Int),ku n)] B)(oK:1<=n)(hn:n<1000000)(hB:B<=1000000){code:Nat}(E:code=1∨code=2∨code=3):SA (a.took 0 g code) n eP [] [] [] (B+100):=by
 obtain⟨r1,r2⟩:=wn (a:=a) (r := .dn 0 n) h.bs hB (Q1 ap);have tY:a.jw g=ku n:=by unfold Ag.jw;rw[h.ask];unfold qR;simp
 have jT:ku n≠(0,0,0):=λe=>by have:(1:Int)=0:=congrArg (·.1) e;omega
 have h6:code≠6:=by omega
 have Fu:a.took 0 g code=Ag.fin { a with ask:=gV a.ask (g:Int),last:=0 } 1 0 n:=by unfold Ag.took;dsimp only;rw[tY,aB jT,aB h6,aA E];rfl
 rw[Fu];have Cx:Ag.put { a with ask:=gV a.ask (g:Int),last:=0 } (.dn 0 n)={ a with ask:=gV a.ask (g:Int),last:=0,rs:=a.rs++[.dn 0 n] }:=by unfold Ag.put;exact aA r1
 unfold Ag.fin;rw[Cx];have pK:abo.p_ (a.b.qu 0).l (n:Int)=[]:=by rw[h.Q2];unfold abo.p_ abo.t6;simp
 refine⟨h.node,h.eX,rfl,h.ep,h.eP,h.sh,?_,?_,?_,r2⟩
 ·show a.b.q.set 0 ⟨abo.p_ (a.b.qu 0).l (n:Int),(a.b.qu 0).k⟩=_
  rw[pK,h.Q2,h.q];rfl
 ·show gV a.tr ((1:Int),(0:Int),(n:Int))=_
  rw[h.tr];unfold gV ku;simp
 ·show vH (gV a.ask (g:Int)) _=_
  rw[h.ask];unfold gV;simp[vH]
theorem look(h:SA a n eP q tr [] B){s:aR}(hp:abn.fW s=0):SA (a.look s).1 n eP q tr [(((a.tag+1:Nat):Int),(0,0,0))] B:=by
 have e:(a.look s).1=a.next (0,0,0):=by unfold Ag.look;rw[aB ap]
 rw[e];exact⟨h.node,h.eX,h.last,h.ep,h.eP,h.sh,h.q,h.tr,by show si a.ask _ _=_;rw[h.ask];rfl,h.bs⟩
theorem seen(h:SA a n eP q tr [(((g:Nat):Int),(0,0,0))] B):SA (a.took 0 g 8) n eP q tr [] B:=by
 have tY:a.jw g=(0,0,0):=by unfold Ag.jw;rw[h.ask];unfold qR;simp
 have Fu:a.took 0 g 8={ a with ask:=gV a.ask (g:Int),last:=0 }:=by unfold Ag.took;dsimp only;rw[tY,aA rfl,aB (by simp)];rfl
 rw[Fu];refine⟨h.node,h.eX,rfl,h.ep,h.eP,h.sh,h.q,h.tr,?_,h.bs⟩;show gV a.ask (g:Int)=_;rw[h.ask];unfold gV;simp
end SA
theorem SA.new:SA (Ag.new 1 1 [] 1) 0 [] [] [] [] 100:=by refine⟨rfl,rfl,rfl,rfl,rfl,rfl,rfl,rfl,rfl,?_⟩;show (frame (Rc.ep 1).B++[]).length<=_;rw[bm];have I:=Ik (n:=1) am;have:=lu (b:=(Rc.ep 1).B) ap;omega
structure SW(x:Wl)(es:List En)(ms:j4)(abm Bd n:Nat)(eP:List Dl)(q:List abo.Ab)(tr:List (lp×(Nat×Nat)))(ask:List (Int×lp))(B:Nat)(net:List Lt3):Prop where
 nr:x.nr=1
 na:x.na=1
 cut:x.cut=λ_=>false
 net:x.net=net
 rp:SR (x.rp 0) es ms abm Bd
 ag:SA (x.ag 0) n eP q tr ask B
theorem a1e{a b d e:Nat}(ha:a<18446744073709551616)(hb:b<18446744073709551616)(E:c<18446744073709551616)(hd:d<18446744073709551616)(he:e<18446744073709551616):([a,b,c,d,e].flatMap enc).length<=50:=by have:=qb [a,b,c,d,e] (λx Y=>by simp at Y;rcases Y with rfl|rfl|rfl|rfl|rfl<;>assumption);exact this
theorem Cr{tg:Nat}(hd:DS d)(hn:1<=n∧n<=9223372036854775807)(ht:tg<=9223372036854775807):M8 (lQ n d tg):=by
 refine⟨⟨⟨⟨by show (0:Int)<=1;decide,by show (1:Int)<8;decide⟩,by show (0:Int)<=(tg:Int);omega,by show (tg:Int)<=_;omega⟩,.inl ⟨rfl,rfl,⟨by show (0:Int)<=1;decide,by show (1:Int)<8;decide⟩,⟨by show (0:Int)<=0;decide,by show (0:Int)<4;decide⟩,⟨by show (1:Int)<=(n:Int);omega,by show (n:Int)<=_;omega⟩,⟨by show (1:Int)<=1;decide,by show (1:Int)<=9223372036854775807;decide⟩,⟨by show 1<=[d].length;simp,by show [d].length<=8;simp⟩,λz hz=>?_⟩⟩,?_⟩
 ·rw[List.mem_singleton.1 (show z∈[d] from hz)]
  exact⟨hd.n.1,hd.n.2,hd.p,by have:=hd.s;omega⟩
 ·have I:=eE (n:=1) am
  have G:=eE (n:=tg) ap;have L:=a1e (a:=1) (b:=0) (c:=n) (d:=1) (e:=1) am am ap am am;have h4:=Il hd;have h5:(o7 [d]).length=(dB d).length:=by simp[o7]
  have e:pg (lQ n d tg)=[UInt8.ofNat 1]++enc 1++enc tg++([1,0,n,1,1].flatMap enc)++o7 [d]:=by unfold pg lQ;rw[aB (show ¬ (1:Int)=2 by decide)];simp
  rw[e];simp only[bd,bv];omega
theorem EV(h:M8 e):kX (gp e)=true:=by have I:=eE (n:=(pg e).length) (by have:=h.2;omega);have G:=h.2;have e1:jj (gp e)=[UInt8.ofNat 1]++enc (pg e).length++pg e:=aA rfl;unfold kX;rw[e1];refine aC ?_;simp only[bd,bv];omega
theorem Q4(H:g<18446744073709551616)(E:c<18446744073709551616)(hn:n<18446744073709551616):kX (fx (g:Int) (c:Int) n)=true:=by
 have I:=eE H;have G:=eE E;have L:=eE hn;have e1:jj (fx (g:Int) (c:Int) n)=[UInt8.ofNat 2]++enc g++enc c++enc n:=by unfold jj;rw[aB (show ¬ (fx (g:Int) (c:Int) n).k=1 from (by decide:¬ (2:Int)=1)),aA (show (fx (g:Int) (c:Int) n).k=2 from rfl)];simp[fx]
 unfold kX;rw[e1];refine aC ?_;simp only[bd,bv];omega
namespace SW
variable{x:Wl}{es:List En}{ms:j4}{q:List abo.Ab}{ask:List (Int×lp)}{rest:List Lt3}
theorem yH(h:SW x es ms abm Bd n eP q tr ask B ((1,0,gp e)::rest))(hr:rest.length<=62)(pL:Bd<=1000000)(hn:es.length<=50)(he:M8 e)(hf:e.fr=1)(H:e.tg=(g:Int))(z8:g<=9223372036854775807)(E:(ei ms e).1=(c:Int))(lV:c<=255)(hm:(ei ms e).2.1=m)(zE:m<18446744073709551616):(x.kK 0).1={ Ev.zero with node:=0 }∧SW (x.kK 0).2 (es++[e]) (ei ms e).2.2 abm (Bd+18000) n eP q tr ask B (rest++[(0,1,fx (g:Int) (c:Int) m)]):=by
 have hee:{ e with fr:=(1:Int) }=e:=by rw[<-hf]
 obtain⟨r1,r2⟩:=h.rp.ask pL hn (f:=1) (e:=e) (by rw[hee];exact he);rw[hee] at r1 r2;have hrc:(x.rp 0).recv 1 (gp e)=(x.rp 0).ask 1 e:=aA rfl;have hd:x.kK 0=({ Ev.zero with node:=0 },((x.del 0).qv 0 ((x.rp 0).ask 1 e).1).send 0 ((x.rp 0).ask 1 e).2):=by unfold Wl.kK;rw[h.net];show (if x.cut (1*8+0)=true then _ else if 0<x.nr then _ else _)=_;rw[h.cut,aB (by simp),h.nr,aA am];show (({ Ev.zero with node:=0 }:Ev),((x.del 0).qv 0 ((x.rp 0).recv 1 (gp e)).1).send 0 ((x.rp 0).recv 1 (gp e)).2)=_;rw[hrc]
 rw[hd,r2,H,E,hm];refine⟨rfl,h.nr,h.na,h.cut,?_,?_,h.ag⟩
 ·show il (x.nr+x.na) 0 (x.net.eraseIdx 0) [((1:Int),fx (g:Int) (c:Int) m)]=_
  rw[h.net,h.nr,h.na];show (if kX (fx (g:Int) (c:Int) m)=true∧((0:Int)<=1∧(1:Int)<((1+1:Nat):Int))∧rest.length<64 then _ else _)=_;rw[aA ⟨Q4 ap ap zE,am,by omega⟩];rfl
 ·show SR (at_ x.rp 0 ((x.rp 0).ask 1 e).1 0) _ _ _ _
  rw[nK];exact r1
theorem Q5{i:lp}(h:SW x es ms abm Bd n eP q tr ask B ((0,1,fx (g:Int) (c:Int) m)::rest))(hi:qR ask (g:Int)=some i){n':Nat}{Q6:List Dl}{q':List abo.Ab}{V5:List (lp×(Nat×Nat))}{Q7:List (Int×lp)}(Yb:SA ((x.ag 0).took 0 g c) n' Q6 q' V5 Q7 B'):(x.kK 0).1={ Ev.zero with node:=1,code:=(c:Int),id:=i,n:=if (c:Int)=8 then m else 0 }∧SW (x.kK 0).2 es ms abm Bd n' Q6 q' V5 Q7 B' rest:=by
 have kT:(qR (x.ag 0).ask (g:Int)).isSome=true:=by rw[h.ag.ask,hi];rfl
 have tY:(x.ag 0).jw g=i:=by unfold Ag.jw;rw[h.ag.ask,hi];rfl
 have hd:x.kK 0=({ Ev.zero with node:=1,code:=(c:Int),id:=i,n:=if (c:Int)=8 then m else 0 },(x.del 0).jx 0 ((x.ag 0).took 0 g c)):=by unfold Wl.kK;rw[h.net];show (if x.cut (0*8+1)=true then _ else if 1<x.nr then _ else _)=_;rw[h.cut,aB (by simp),h.nr,aB am];show (if (qR (x.ag 0).ask (g:Int)).isSome=true then (({ Ev.zero with node:=1,code:=(c:Int),id:=(x.ag 0).jw (g:Int).toNat,n:=if (c:Int)=8 then m else 0 }:Ev),(x.del 0).jx 0 ((x.ag 0).took 0 (g:Int).toNat (c:Int).toNat)) else _)=_;rw[aA kT,cA,cA,tY]
 rw[hd];refine⟨rfl,h.nr,h.na,h.cut,?_,h.rp,?_⟩
 ·show x.net.eraseIdx 0=rest
  rw[h.net];rfl
 ·show SA (at_ x.ag 0 ((x.ag 0).took 0 g c) 0) _ _ _ _ _ _
  rw[nK];exact Yb
end SW
set_option maxRecDepth 100000
set_option maxHeartbeats 1000000
theorem aca{l:aN}(h:∀z∈l,(Lit.int .i64 z).wf=true):∀z∈l,-9223372036854775808<=z∧z<=9223372036854775807:=λz hz=>by simpa [Lit.wf,IntKind.min,IntKind.max,IntKind.signed,IntKind.bits] using h z hz
theorem abV:∀l:List Dl,(∀d∈l,d.1.size<=16∧d.2<18446744073709551616)->(o7 l).length<=l.length*40
 | [],_=>bh _
 | d::l,h=>by
   have I:=abV l λx Y=>h x (bR d Y);obtain⟨G,L⟩:=h d cj;have h4:=eE (n:=d.1.size) ap;have h5:=eE L;have h6:d.1.data.toList.length=d.1.size:=rfl;show (dB d++o7 l).length<=_;unfold dB;simp only[bd,bD];omega
theorem acj(h:e.Ok)(hf:Tp.Few e){f:Int}(Ud:0<=f∧f<8):M8 { e with fr:=f }:=by
 refine⟨⟨⟨Ud,h.1.2⟩,h.2⟩,?_⟩;obtain⟨⟨_,ht1,Ka⟩,h⟩:=h;obtain⟨F6,Ye,hs⟩:=hf;have I:=eE (n:=f.toNat) ap;have G:=eE (n:=e.tg.toNat) ap;have L:=eE (n:=e.se.size) ap;have h4:e.se.data.toList.length=e.se.size:=rfl;unfold pg;rcases h with h|h
 ·have N:=h.1
  obtain⟨_,_,a1,a2,a3,a4,a5,a6⟩:=h;have h5:=a1e (a:=e.ag.toNat) (b:=e.sh.toNat) (c:=e.sq.toNat) (d:=e.ep.toNat) (e:=e.ds.length) ap ap ap ap ap;have h6:=abV e.ds λd hd=>⟨Ye d hd,by have:=(a6 d hd).2.1;omega⟩;rw[aB (show ¬ ({ e with fr:=f }:En).k=2 from λE=>by have E:e.k=2:=E;omega)];simp only[bd,bv];omega
 ·have N:=h.1
  rw[aA (show ({ e with fr:=f }:En).k=2 from N)];simp only[bd,bv];omega
theorem abS(x:Rp)(n:Nat):x.commit<=(x.apply n).1.commit:=Nat.le_max_left _ _
theorem ac0(x:Rp)(v:Vt):x.commit<=(x.told v).1.commit:=abS { x with v:=some (v.told x.node x.s.c.es.length) } _
theorem acb(x:Rp)(f:Int)(e:En):x.commit<=(x.ask f e).1.commit:=by
 unfold Rp.ask;split
 ·split
  ·exact bh _
  ·split
   ·exact bh _
   ·rename_i s _
    exact ac0 { x with s:=s } _
 ·exact bh _
theorem ac1{x:Rp}(h0:x.node=0)(I:x.nodes=1)(f:Int)(m:Ms):x.commit<=(x.recv f m).1.commit:=by
 unfold Rp.recv;split;·exact acb x f m.e
 ·rw[aA (λh=>by unfold Rp.hears at h;omega)]
  exact bh _
theorem ace(w:X)(r:Nat)(f:Int)(m:Ms)(A:aU)(c:Nat)(A2:aU)(c2:Nat)(h:m.k<1∨6<m.k):dz W 19 #[r,J f,aZ (mH m A c A2 c2)] w λe O=>e=b5 (Z none 0 0)∧Grow w O:=by
 have hS:=St.begin_ (l:=[]) (w:=w) (V:=λ_=>False) trivial (λ_ h=>h.elim) trivial;obtain⟨y,wa,HY,HA,hS⟩:=hS.new' (mH m A c A2 c2) 45;have gl:Grow w wa:=by rw[HA.out];exact fb w _
 have T:=Et wa m A c A2 c2 h;clear h;obtain⟨k,⟨ek,ag,sh,sq,ep,ds,se,fr,tg⟩,tag,code,n,term,had,log,commit,len⟩:=m;unfold mH Ms.cells at hS T HA ⊢;dsimp only at hS T HA ⊢;go_in;go_wp2_with (refine dU rfl 45 _ rfl _ rfl (HA.out▸HY.out▸hS.blk 0 rfl) bG aw ?_);rw[<-HA.out];refine T.mono ?_;rintro en w1 ⟨rfl,eD⟩;go_wp2;go_ret;exact⟨rfl,gl.trans eD⟩
theorem acf(w:X)(U V:aV)(A B:aU)(n c d:Nat)(q:List Dl)(hA:In w U 2 A n (fm q))(hB:In w V 2 B n (fm q))(hn:n<=1048576):dz W 25 #[Z A n c,Z B n d] w λe O=>e=b5 (aY true)∧Grow w O:=by
 have wu:q.length=n:=by have:=hA.1;rw[show (fm q).length=q.length*2 from ix mN 2 iH q] at this;omega
 go_in;go_wp2_with fail;go_loopw [13] (λi wr=>∃k:Nat,k<=n∧i=J k∧Grow w wr) (λi _=>n-(intOf i).toNat);case atStart=>exact⟨0,by omega,rfl,Grow.refl _⟩
 case round=>
  obtain⟨k,oL,rfl,gP⟩:=hrel;by_cases N:k<n
  ·have hd:decide ((k:Int)<(n:Int))=true:=aC ap
   obtain⟨a,_,rfl,_,_,a0,a1⟩:=In.mr (cells:=mN) (hA.grow gP) ap iH N;obtain⟨b,hq,rfl,_,_,b0,b1⟩:=In.mr (cells:=mN) (hB.grow gP) ap iH N;have e0:wr.cell? (a.add (k*2))=some (aX q[k].1):=a0 _ rfl;have e1:wr.cell? ⟨(a.add (k*2)).block,(a.add (k*2)).off+1,none⟩=some (ae ah ((q[k].2:Nat):Int)):=a1 0 _ rfl;have f0:wr.cell? (b.add (k*2))=some (aX q[k].1):=b0 _ rfl;have f1:wr.cell? ⟨(b.add (k*2)).block,(b.add (k*2)).off+1,none⟩=some (ae ah ((q[k].2:Nat):Int)):=b1 0 _ rfl;generalize q[k]=x at e0 e1 f0 f1;have qY:¬ n<=k:=by omega
   have t0:(x.1.toList == x.1.toList)=true:=beq_self_eq_true _;clear a0 a1 b0 b1;go_wp2_with fail;go_still_tail 8,(by kernel_rfl);change wpList _ _ _ _ _ wr.drew;go_wp2_with fail;go_roundw;case rel=>exact⟨k+1,by omega,by go_num,gP.drew⟩
   case measure=>simp[intOf];omega
  ·obtain rfl:k=n:=by omega
   have hd:decide ((k:Int)<(k:Int))=false:=aD ap;go_wp2_with fail;go_ret;exact⟨rfl,gP⟩
theorem aaX{r d:Nat}{x:Rp}(h:tX r d x w U):∃m:Nat,dz W 17 #[r] w (λe O=>e=b5 ((m:K))∧w=O)∧dz W 21 #[r] w (λe O=>e=b5 (J x.commit)∧w=O)∧
   (x.m.q.length<=1048576->dz W 22 #[m] w λe O=>∃A,e=b5 (Z A x.m.q.length x.m.q.length)∧In O (New w O) 2 A x.m.q.length (fm x.m.q)∧Grow w O):=by
 obtain⟨q,g,I,_,L⟩:=h
 obtain⟨_,hB⟩:=xe L 0 rfl
 obtain⟨U2,hM,_⟩:=nV L 1 rfl
 unfold iu at hB
 rw[I] at hB
 exact⟨q.m,ES hB,Ih hB,λhq=>(ac9 hM hq).2⟩
theorem qB(node:Int)(k:Nat){d:Dr}(h:d.x.net.length≠0):eY node (k+1) d=eY node k (d.step node):=aB h
def iN.told(s:iN)(c:Nat)(i:I3)(m:Nat):iN:=s.add 2 { Ev.zero with node:=1,code:=(c:Int),id:=i,n:=if (c:Int)=8 then m else 0 }
theorem step_eq{d:Dr}{node:Int}{ev:Ev}{x1:Wl}(I:(d.x.kK 0).1=ev)(G:(d.x.kK 0).2=x1)(hw:ev.why=0):d.step node=⟨d.n+1,x1,d.s.add 2 ev,if ev.code=8∧ev.node=node then some ev.n else d.v⟩:=by
 have sC:¬ ev.why=26:=by rw[hw];decide
 unfold Dr.step;rw[I,G,aB sC];have hv:(if ev.why≠26∧ev.code=8∧ev.node=node then some ev.n else d.v)=if ev.code=8∧ev.node=node then some ev.n else d.v:=by
  by_cases h:ev.code=8∧ev.node=node;·rw[aA ⟨sC,h⟩,aA h]
  ·rw[aB (λk=>h k.2),aB h]
 rw[hv];rfl
namespace SW
variable{x:Wl}{es:List En}{ms:j4}{q:List abo.Ab}{ask:List (Int×lp)}
theorem two{i:lp}(h:SW x es ms abm Bd n eP q tr [((g:Int),i)] B [(1,0,gp e)])(pL:Bd<=1000000)(hn:es.length<=50)(he:M8 e)(hf:e.fr=1)(H:e.tg=(g:Int))(z8:g<=9223372036854775807)(E:(ei ms e).1=(c:Int))(lV:c<=255)(hm:(ei ms e).2.1=m)(zE:m<18446744073709551616)
 {B':Nat} {q':List abo.Ab} {V5:List (lp×(Nat×Nat))} (Yb:∀a,SA a n eP q tr [((g:Int),i)] B->SA (a.took 0 g c) n eP q' V5 [] B') (node:Int) (k a:Nat) (s:iN) (v:Option Nat):∃y,eY node (k+2) ⟨a,x,s,v⟩=⟨a+2,y,s.told c i m,if (c:Int)=8∧(1:Int)=node then some m else v⟩∧SW y (es++[e]) (ei ms e).2.2 abm (Bd+18000) n eP q' V5 [] B' []:=by
 obtain⟨e1,w1⟩:=h.yH (bo _) pL hn he hf H z8 E lV hm zE;obtain⟨x1,CM⟩:=aE ((x.kK 0).2);rw[<-CM] at w1;obtain⟨e2,w2⟩:=SW.Q5 (rest:=[]) w1 (i:=i) (by unfold qR;simp) (Yb _ w1.ag);obtain⟨x2,jS⟩:=aE ((x1.kK 0).2);rw[<-jS] at w2;have s1:Dr.step ⟨a,x,s,v⟩ node=⟨a+1,x1,s,v⟩:=by rw[step_eq (d:=⟨a,x,s,v⟩) e1 CM.symm rfl];exact congrArg (λz=>(⟨a+1,x1,s,z⟩:Dr)) (aB (show ¬ ((0:Int)=8∧(0:Int)=node) from λh=>absurd h.1 am))
 have s2:Dr.step ⟨a+1,x1,s,v⟩ node=⟨a+2,x2,s.told c i m,if (c:Int)=8∧(1:Int)=node then some m else v⟩:=by
  rw[step_eq (d:=⟨a+1,x1,s,v⟩) e2 jS.symm rfl];have hv:(if (c:Int)=8∧(1:Int)=node then some (if (c:Int)=8 then m else 0) else v)=if (c:Int)=8∧(1:Int)=node then some m else v:=by
   by_cases I:(c:Int)=8∧(1:Int)=node;·rw[aA I,aA I,aA I.1]
   ·rw[aB I,aB I]
  exact congrArg (λz=>(⟨a+2,x2,s.told c i m,z⟩:Dr)) hv
 refine⟨x2,?_,w2⟩;rw[qB node (k+1) (by show x.net.length≠0;rw[h.net];simp),s1,qB node k (by show x1.net.length≠0;rw[w1.net];simp),s2,ls node (by show x2.net.length=0;rw[w2.net];rfl)]
theorem jx{n' B':Nat}{Q6:List Dl}{q':List abo.Ab}{V5:List (lp×(Nat×Nat))}{Q7:List (Int×lp)}{net:List Lt3}(h:SW x es ms abm Bd n eP q tr ask B net){a:Ag}(ha:SA a n' Q6 q' V5 Q7 B'):SW (x.jx 0 a) es ms abm Bd n' Q6 q' V5 Q7 B' net:=⟨h.nr,h.na,h.cut,h.net,h.rp,by show SA (at_ x.ag 0 a 0) _ _ _ _ _ _;rw[nK];exact ha⟩
theorem TH(hd:DS d):iV [] d=0:=by
 unfold iV;have:gZ d=true:=by unfold gZ;rw[aC hd.p,aC (by have:=hd.n;omega)];rfl
 rw[this,aB am,aB am,aB (by simp[vA])]
theorem sent(h:SW x es ms abm Bd n eP q tr ask B [])(he:M8 e):SW (x.send (x.nr+0) [((0:Int),gp e)]) es ms abm Bd n eP q tr ask B [(1,0,gp e)]:=by refine⟨h.nr,h.na,h.cut,?_,h.rp,h.ag⟩;show il (x.nr+x.na) (x.nr+0) x.net [((0:Int),gp e)]=_;rw[h.net,h.nr,h.na];show (if kX (gp e)=true∧_∧_ then _ else _)=_;rw[aA ⟨EV he,(by decide:(0:Int)<=0∧(0:Int)<((1+1:Nat):Int)),(by decide:0<64)⟩];rfl
theorem lN(h:SW x es ms abm Bd n [] [((n:Int),[d])] [] [] B [])(hd:DS d)(hn:1<=n∧n<=1000000)(ht:(x.ag 0).tag<9223372036854775807):∃t,SW (x.jy 0 1) es ms abm Bd n [] [((n:Int),[d])] [(ku n,t)] [((((x.ag 0).tag+1:Nat):Int),ku n)] B [(1,0,gp (lQ n d ((x.ag 0).tag+1)))]:=by obtain⟨t,I,G⟩:=h.ag.tick (ds':=d) rfl;refine⟨t,?_⟩;have:=(h.jx I).sent (Cr hd ⟨hn.1,by omega⟩ (tg:=(x.ag 0).tag+1) ap);unfold Wl.jy;rw[G];exact this
end SW
def nQ(x:Wl)(d:Dl):Wl:=((x.gI 0 d).fU 0).jy 0 1
@[irreducible] def tQ(d:Dl)(p:WS):WS:=vJ (nQ p.1 d,p.2)
namespace SW
variable{x:Wl}{es:List En}{ms:j4}
theorem nQ{d:Dl}(h:SW x es ms abm Bd n [] [] [] [] B [])(hd:DS d)(hn:n<1000000)(hB:B<=900000)(ht:(x.ag 0).tag<9223372036854775807):∃(t:Nat×Nat)(tg:Nat),tg<=9223372036854775807∧SW (nQ x d) es ms abm Bd (n+1) [] [(((n+1:Nat):Int),[d])] [(ku (n+1),t)] [((tg:Int),ku (n+1))] (B+200) [(1,0,gp (lQ (n+1) d tg))]∧((x.ag 0).fX d).2=0:=by
 obtain⟨a1,a2⟩:=h.ag.fX ap hd (TH hd);have I:=h.jx a1;have c1:=(I.ag.cut ap hn hd (d:=d) rfl (λz hz=>by rw[List.mem_singleton.1 (show z∈[d] from hz)])).1;have G:=I.jx c1;have Yo:(((x.gI 0 d).fU 0).ag 0).tag=(x.ag 0).tag:=by show (at_ (x.gI 0 d).ag 0 ((x.gI 0 d).ag 0).cut.1 0).tag=_;rw[nK,(Ag.nN.cut _).tag];show (at_ x.ag 0 ((x.ag 0).fX d).1 0).tag=_;rw[nK,(Ag.nN.fX _ _).tag]
 obtain⟨t,L⟩:=SW.lN (x:=(x.gI 0 d).fU 0) G hd ⟨by omega,by omega⟩ (by rw[Yo];exact ht);exact⟨t,(((x.gI 0 d).fU 0).ag 0).tag+1,by rw[Yo];omega,L,a2⟩
end SW
end Go.Proofs.YtpeepcmdehhbgaaGreatDoor
