/- Qadd2, Qidx, Qdel, Qdn, Qany. -/
import Derived.Test.YtpeepcmdehhbgaaGreatDoorJs11
import Derived.Test.YtpeepcmdehhbgaaGreatDoorJs09
set_option linter.all false
set_option maxRecDepth 100000
set_option maxHeartbeats 2000000
open Go.Value renaming int->ae,slice->Z,string->aX,bool->aY,agg->aZ,tuple->a_
open Go.Ending renaming returned->b5
open Go.IntKind renaming i64->af,u64->ah
open Go (J az aE aA aB aC aD ay aj am ap aw aL aK aJ aI aH aV aU aT aR aQ aP aO aN)
open Go.Proofs.Tryz renaming prog->W
open Go.Lib renaming hid->Q
open List renaming length_append->bd,length_map->bj,append_nil->bm,length_take->bn,append_assoc->bp,length_singleton->bv,getElem_mem->bF,map_append->bI,flatMap_cons->bJ,flatMap_append->bL,length_drop->bO,map_cons->bQ,mem_of_mem_take->bW,flatMap_nil->cE,map_nil->cQ,mem_map_of_mem->cT,mem_of_mem_drop->cX
open Nat renaming le_refl->bh,lt_of_lt_of_le->bw,le_trans->bB,min_eq_left->cz
open Go.Builtin renaming zeroCells->bM
open Go renaming Value->K,World->X,Calls->dz,Addr->dA,Oper->dE,maxLen->dG
variable{w O:X}{u:K}{ρ:Go.Operand->K}{o:dE}{x y:Go.Operand}{g B:Nat}{last seq s:Int}
namespace Go.Proofs.YtpeepcmdehhbgaaGreatDoor.abo
open RowKit Hop
def NN(B:Nat)(seq:Int)(ds:List Dl)(u:K)(w:X):Prop:=∃(b:iE)(abj:Nat),b.seq=seq∧b.ds=ds∧u=aZ #[J b.seq,Z b.A b.m b.c]∧iQ w (λx=>B<=x∧x<abj) b∧abj<=(w:Nat)
def NP(B:Nat)(seq:Int)(ds:List Dl)(u:K)(w:X):Prop:=∃(b:iE)(abj:Nat)(A:aU),b.seq=seq∧b.ds=ds∧u=Z A 1 1∧In w (λx=>B<=x) 2 A 1 b.cells∧iQ w (λx=>B<=x∧x<abj) b∧abj<=(w:Nat)
def Fin(R:aV)(B:Nat)(q:List iE)(seq:Int)(ds:List Dl)(u:K)(w:X):Prop:=
 ∃(b:iE)(R' D':aV),b.seq=seq∧b.ds=ds∧Row w R' 196 2 u (q.length+1) ((q++[b]).flatMap iE.cells)∧iQ w D' b∧
   (∀x,R' x->(R x∨B<=x)∧x<(w:Nat)∧¬ D' x)∧(∀x,D' x->B<=x∧x<(w:Nat))
section
variable{R abe:aV}{A:aU}{m:Nat}{v:K}{q:List iE}{ds:List Dl}
def Uv(vu:¬ R g)(pG:g<B){x:Nat}(I:R x∨B<=x)(G:x=g):False:=by
 rw[G] at I;rcases I with I|I
 ·exact vu I
 ·omega
theorem Fin.just{U:aV}{u:K}{w O:X}(h:Fin R B q seq ds u w)(hj:dM U w O)(hd:∀x,x<(w:Nat)->(R x∨B<=x)->¬ U x):Fin R B q seq ds u O:=by obtain⟨b,R',D',I,G,L,h4,h5,h6⟩:=h;exact⟨b,R',D',I,G,L.just hj λx Y=>hd x (h5 x Y).2.1 (h5 x Y).1,h4.just hj λx Y=>hd x (h6 x Y).2 (.inr (h6 x Y).1),λx Y=>⟨(h5 x Y).1,bw (h5 x Y).2.1 hj.size,(h5 x Y).2.2⟩,λx Y=>⟨(h6 x Y).1,bw (h6 x Y).2 hj.size⟩⟩
def Fin.grow(h:Fin R B q seq ds u w)(H:Grow w O):Fin R B q seq ds u O:=h.just (U:=λ_=>False) (dM.dK H) λ_ _ _ h=>h
def vd{b:iE}{ds:List Dl}{args:aP}(hB:b.seq=seq∧b.ds=ds)
 (h:dz W 230 args w λe O=>∃A',e=b5 (aZ #[J b.seq,Z A' b.m b.m])∧iQ O (New w O) ⟨b.seq,A',b.m,b.m,b.ds⟩∧Grow w O) (hs:B<=(w:Nat)):dz W 230 args w λe O=>∃u,e=b5 u∧Grow w O∧NN B seq ds u O:=by obtain⟨G,L⟩:=hB;refine h.mono λe O ⟨A',he,lU,H⟩=>⟨_,he,H,⟨⟨b.seq,A',b.m,b.m,b.ds⟩,(O:Nat),G,L,rfl,lU.mono λx Y=>⟨bB hs Y.1,Y.2⟩,bh _⟩⟩
def pe(h:NN B seq ds u w)(hs:B<=(w:Nat))(I:ρ x=u)(ho:o.op=.buildSlice 193 1 #[(0,x)]):gE W (λv O=>Grow w O∧NP B seq ds v O) ((execOp ρ o).run W w):=by obtain⟨dst,op,ty,pos,after,guard⟩:=o;simp only at ho;subst ho;obtain⟨b,abj,e1,e2,rfl,hb,hH⟩:=h;have H:Grow w (w.alloc (.cells #[J b.seq,Z b.A b.m b.c] 196)):=(Below.refl _ w).alloc (bh _) _;refine gv (u := Z (some ⟨(w:Nat),0,none⟩) 1 1) (w:=w.alloc (.cells #[J b.seq,Z b.A b.m b.c] 196)) (by go_simp) ⟨H,b,abj,some ⟨(w:Nat),0,none⟩,e1,e2,rfl,?_,hb.grow H,bB hH H.size⟩;obtain⟨L,h4⟩:=fF w #[J b.seq,Z b.A b.m b.c] 196 (0,0) (n:=1) (size:=2) rfl _ rfl;exact⟨L,λhn=>⟨_,rfl,hs,by simp,by obtain⟨ad,e,_,E⟩:=h4 hn;injection e with e;rw[e];exact E⟩⟩
def rW{A0:aU}{c0:Nat}(Mi:∀x,R x->x<B)(vu:¬ R g)(h:Row w R 196 2 (Z A0 q.length c0) q.length (q.flatMap iE.cells))(H:eJ w g 266 #[Z A0 q.length c0,J last])(hq:q.length<16)(hu:NP B seq ds u w)(Mw:B<=(w:Nat))
 (I:ρ x=Z A0 q.length c0) (G:ρ y=u) (ho:o.op=.call { callee := .builtin .append,args:=#[x,y],argTypes:=#[193,193] }):gE W (λv O=>dM R w O∧eJ O g 266 #[Z A0 q.length c0,J last]∧Fin R B q seq ds v O) ((execOp ρ o).run W w):=by
 obtain⟨b,abj,A,e1,e2,rfl,hI,hb,hH⟩:=hu;refine pv xd ho I h G hI.reads (Bz b) ap λv' O T hj=>⟨hj,hj.blk H vu,b,iY R w O,λx=>B<=x∧x<abj,e1,e2,?_,hb.just hj λx Y hr=>?_,λx Y=>?_,λx Y=>⟨Y.1,bw Y.2 (bB hH hj.size)⟩⟩;·rw[bL,bJ,cE,bm];exact T
 ·have L:B<=x:=Y.1;have:=Mi x hr;omega
 ·rcases Y with Y|Y
  ·have:=Mi x Y
   exact⟨.inl Y,by have:=hj.size;omega,λhd=>by have L:B<=x:=hd.1;omega⟩
  ·exact⟨.inr (by have:=Y.1;omega),Y.2,λhd=>by have:=Y.1;have L:x<abj:=hd.2;omega⟩
def Gj(vu:¬ R g)(pG:g<B)(h:eJ w g 266 #[v,J last])(hu:Fin R B q seq ds u w)
 (I:ρ x=(g:K)) (G:ρ y=u) (ho:o.op=.store 193 x y):gE W (λv O=>v=undef∧dM (λb=>b=g) w O∧∃u,eJ O g 266 #[u,J last]∧Fin R B q seq ds u O) ((execOp ρ o).run W w):=by obtain⟨dst,op,ty,pos,after,guard⟩:=o;simp only at ho;subst ho;have hj:=kD w g 0 u;have hf:=hu.just hj λx _ I(G:x=g)=>Uv vu pG I G;obtain⟨b,R',D',e1,e2,T,_⟩:=hu;obtain⟨A,c,rfl,_⟩:=T.jL;have f0:=h.frozen 0;have c0:=h.cell 0;exact rB (O:=w.setCell (g,0) (Z A (q.length+1) c)) (by go_simp) ⟨rfl,hj,_,h.put 0 _,hf⟩
def Gk(vu:¬ R g)(pG:g<B)(h:∃u,eJ w g 266 #[u,J last]∧Fin R B q seq ds u w)
 (I:ρ x=((g,1):K)) (G:ρ y=J seq) (ho:o.op=.store 2 x y):gE W (λv O=>v=undef∧dM (λb=>b=g) w O∧∃u,eJ O g 266 #[u,J seq]∧Fin R B q seq ds u O) ((execOp ρ o).run W w):=by obtain⟨dst,op,ty,pos,after,guard⟩:=o;simp only at ho;subst ho;obtain⟨u,hB,hu⟩:=h;have hj:=kD w g 1 (J seq);have hf:=hu.just hj λx _ I(G:x=g)=>Uv vu pG I G;have f0:=hB.frozen 1;have c0:=hB.cell 1;exact rB (O:=w.setCell (g,1) (J seq)) (by go_simp) ⟨rfl,hj,u,hB.put 1 _,hf⟩
end
def Wb(w:X)(abe:aV)(g:Nat)(l:List Ab)(last seq:Int)(A:aU)(m c:Nat)(ds:List Dl)(Vf:jM w abe A m ds)(vt:m<=c)(iO:c<=dG)(ha:¬ seq<1)(hb:¬ seq<=last)(E:0<m)(hd:m<=8)(hl:l.length<16):ii W 368 #[g,aZ #[J seq,Z A m c]] (λe=>e=b5 (J 0)) (eh g l last) (eh g (l++[(seq,ds)]) seq) w:=by
 intro V hQ hV;obtain⟨I,v,q,R,D,ig,L,hB,kN,h6,h7,h8⟩:=hQ;obtain⟨A0,c0,rfl,hI,iS,su⟩:=kN.jL;have fu:Grow w (w.alloc (.cells #[J seq,Z A m c] 196)):=(Below.refl (w:Nat) w).alloc (bh _) _;have mw:=eJ.made w 196 #[J seq,Z A m c];obtain⟨x,HX⟩:=az ((w:Nat):Nat);obtain⟨wa,HA⟩:=az (w.alloc (.cells #[J seq,Z A m c] 196):X);have Yb:(wa:Nat)=x+1:=by rw[HA.out,HX.out];simp
 clear Yb;rw[<-HA.out] at fu;have rz:eJ wa x 196 #[J seq,Z A m c]:=by rw[HA.out,HX.out];exact mw
 clear mw;have tV:=hB.grow fu;have Zz:q.length<16:=by rw[<-ig,bj] at hl;exact hl
 have d1:=aD ha;have d2:=aD hb;have d3:((m:Int) == 0)=false:=by simp only[beq_eq_false_iff_ne];omega
 have d4:decide ((8:Int)<(m:Int))=false:=aD ap;clear ha hb;go_in;go_wp2_with fail;rw[<-HA.out,<-HX.out];have c0:=λw1(H:Grow _ w1)=>(rz.grow H).cell 0;have c1:=λw1(H:Grow _ w1)=>(tV.grow H).cell 1;have c2:=λw1(H:Grow _ w1)=>(rz.grow H).cell 1;refine fh ?_;intro w1 H;clear c0 c1 c2;have c00:=(tV.grow H).cell 0;go_wp2_with fail;have jU:=fu.trans H;have NH:=kN.grow jU;have NQ:=tV.grow H;have Cy:=rz.grow H;have Y9:∀b∈q,iQ w1 D b:=λb hb=>(h6 b hb).grow jU;have F6:=In.grow Vf jU;have pG:g<(w1:Nat):=NQ.lt;have vu:¬ R g:=λh=>(h7 g h).2.1 rfl;have Z0:(w:Nat)<=x:=by have:=HX.out;omega
 have ZA:∀x,R x->x<(w:Nat):=λb hb=>hV b (h7 b hb).1;have Mi:∀x,R x->x<(w1:Nat):=λb hb=>bw (ZA b hb) jU.size;have hxn:¬ (R x∨x=g):=λh=>by
  rcases h with h|h
  ·have:=ZA x h;omega
  ·have:=hB.lt;omega
 have hDw:∀x,D x->¬ (R x∨x=g):=λb hb h=>by
  rcases h with h|h
  ·exact (h7 b h).2.2 hb
  ·exact (h8 b hb).2 h
 obtain⟨B,Yv⟩:=az ((w1:Nat):Nat);have HB:∀w2,dM (λb=>R b∨b=g) w1 w2->B<=(w2:Nat):=λw2 h=>Yv.out▸h.size;have Mw:=Yv.out;rw[<-Mw] at pG Mi;have rz:=Cy;have a4d:=jU;have HBw:(w:Nat)<=B:=by rw[Mw];exact jU.size
 clear tV fu h6 c00 hB H jU Mw;have gd:Grow w1 w1.drew:=(Grow.refl _).drew;have jd:dM (λb=>R b∨b=g) w1 w1.drew:=dM.dK gd;refine dJ rfl ?_;refine fC (dM (λb=>R b∨b=g) w1) [15,16,17] 18 rfl [0,1,2,3,4,6,10,11] ?_;iterate 8 refine eV rfl jd (λw2 hj R' wI=>by have c:=(hj.blk rz hxn).cell 0;have c':=(hj.blk rz hxn).cell 1;go_simp;exact wI) ?_
 refine Rv 5 7 [] [] rfl rfl ?_ ?_;case' refine_1=>
  have cg:=(NQ.grow gd).cell 0;go_wp2_with fail;clear cg;refine⟨λ_=>jd,?_⟩;refine eZ 7 [] rfl ?_;go_wp2_with fail;refine (vd (b:=⟨seq,A,m,c,ds⟩) ⟨rfl,rfl⟩ (qH _ abe ⟨seq,A,m,c,ds⟩ ⟨In.grow F6 gd,vt,iO,hd⟩) (HB _ jd)).mono ?_;rintro en u2 ⟨v44,rfl,fk,hBN⟩;replace fk:=gd.trans fk;go_wp2_with fail;refine⟨λ_=>dM.dK fk,?_⟩;refine eZ 8 [] rfl ?_;refine fV rfl (pe (x := .tmp 44) hBN (HB u2 (dM.dK fk)) rfl rfl) ?_;rintro v45 u3 ⟨ib,Qx⟩;replace ib:=fk.trans ib;go_wp2_with fail;refine⟨λ_=>dM.dK ib,?_⟩
 case' refine_2=>
  go_wp2_with fail;refine (vd (b:=⟨seq,A,m,c,ds⟩) ⟨rfl,rfl⟩ (qH _ abe ⟨seq,A,m,c,ds⟩ ⟨In.grow F6 gd,vt,iO,hd⟩) (HB _ jd)).mono ?_;rintro en u2 ⟨v44,rfl,fk,hBN⟩;replace fk:=gd.trans fk;go_wp2_with fail;refine⟨λ_=>dM.dK fk,?_⟩;refine Rv 5 8 [] [] rfl rfl ?_ ?_;case' refine_1=>
   have cg:=(NQ.grow fk).cell 0;go_wp2_with fail;clear cg;refine⟨λ_=>dM.dK fk,?_⟩;refine eZ 8 [] rfl ?_;refine fV rfl (pe (x := .tmp 44) hBN (HB u2 (dM.dK fk)) rfl rfl) ?_;rintro v45 u3 ⟨ib,Qx⟩;replace ib:=fk.trans ib;go_wp2_with fail;refine⟨λ_=>dM.dK ib,?_⟩
  case' refine_2=>
   refine fV rfl (pe (x := .tmp 44) hBN (HB u2 (dM.dK fk)) rfl rfl) ?_;rintro v45 u3 ⟨ib,Qx⟩;replace ib:=fk.trans ib;go_wp2_with fail;refine⟨λ_=>dM.dK ib,?_⟩;refine eZ 5 [] rfl ?_;have cg:=(NQ.grow ib).cell 0;go_wp2_with fail;clear cg;refine⟨λ_=>dM.dK ib,?_⟩
 all_goals
  refine eZ 9 [] rfl ?_
  refine fV rfl (rW (x := .tmp 42) (y := .tmp 45) (last:=last) Mi vu (NH.grow ib) (NQ.grow ib) Zz Qx (HB u3 (dM.dK ib)) rfl rfl rfl) ?_
  rintro v46 u4 ⟨CG,Qn,hF4⟩
  have CG:dM (λb=>R b∨b=g) w1 u4:=(dM.dK ib).trans (CG.imp λ_ h => .inl h)
  go_wp2_with fail
  refine⟨λ_=>CG,?_⟩
  refine eZ 12 [] rfl ?_
  go_wp2_with fail
  refine⟨λ_=>CG,?_⟩
  refine eZ 13 [] rfl ?_
  go_wp2_with fail
  refine⟨λ_=>CG,?_⟩
  refine eZ 14 [] rfl ?_
  refine fV rfl (Gj (x := .tmp 50) (y := .tmp 46) vu pG Qn hF4 rfl rfl rfl) ?_
  rintro v5 u5 ⟨rfl,ra,hI5⟩
  replace ra:=CG.trans (ra.imp λ_ h => .inr h)
  go_wp2_with fail
  refine⟨λ_=>ra,?_⟩
  refine eZ 15 [] rfl ?_
  go_wp2_with fail
  refine⟨λ_=>ra,?_⟩
  refine eZ 16 [] rfl ?_
  go_wp2_with fail
  refine⟨λ_=>ra,?_⟩
  refine eZ 17 [] rfl ?_
  refine fV rfl (Gk (x := .tmp 52) (y := .tmp 48) vu pG hI5 rfl rfl rfl) ?_
  rintro v6 w1 ⟨rfl,Uw,hE⟩
  have H:=ra.trans (Uw.imp λ_ h => .inr h)
  go_wp2_with fail
  refine⟨λ_=>H,?_⟩
  refine gj ?_
  clear jd CG ra Uw Qn hF4 hI5 Qx hBN
  obtain⟨u,hBu,b,R',D',e1,e2,wI,vn,hRx,hDx⟩:=hE
  go_wp2
  go_ret
  have hjw:dM (λb=>R b∨b=g) w w1:=(dM.dK a4d).trans H
  refine⟨rfl,⟨.inl I,u,q++[b],R',λx=>D x∨D' x,?_,?_,hBu,?_,λb' hb=>?_,λx Y=>?_,λx Y=>?_⟩,hjw.imp λx Y=>?_⟩
  ·rw[bI,ig,bQ,cQ];simp only[iE.abs,e1,e2]
  ·rw[bd,bv];omega
  ·rw[bd,bv];exact wI
  ·rcases List.mem_append.1 hb with h|h
   ·exact ((Y9 b' h).just H hDw).mono λ_ => .inl
   ·rw[List.mem_singleton.1 h];exact vn.mono λ_ => .inr
  ·have G:=hRx x Y
   refine⟨?_,?_,λh=>?_⟩
   ·rcases G.1 with h|h
    ·exact .inl (h7 x h).1
    ·exact .inr ⟨by have:=HBw;omega,G.2.1⟩
   ·rcases G.1 with h|h
    ·exact (h7 x h).2.1
    ·omega
   ·rcases h with h|h
    ·rcases G.1 with L|L
     ·exact (h7 x L).2.2 h
     ·have:=hV x (h8 x h).1;have:=HBw;omega
    ·exact G.2.2 h
  ·rcases Y with h|h
   ·exact⟨.inl (h8 x h).1,(h8 x h).2⟩
   ·have G:=hDx x h
    exact⟨.inr ⟨by have:=HBw;omega,G.2⟩,by have:=G.1;omega⟩
  ·rcases Y with h|h
   ·exact (h7 x h).1
   ·rw[h];exact I
def Al(w:X)(sq s:Int)(sl:K)(y:Nat)(QI:sl.oneCell'=true)(hy:eJ w y 2 #[J s]):dz W 365 #[aZ #[J sq,sl],y] w λe O=>e=b5 (aY (sq == s))∧Grow w O:=by have fu:Grow w (w.alloc (.cells #[J sq,sl] 196)):=(Below.refl (w:Nat) w).alloc (bh _) _;have c0:=(hy.grow fu).cell 0;go_in;go_wp2;go_ret;exact⟨rfl,fu⟩
def Idx(q:List iE)(s r:Int):Prop:=(r=-1∧∀b∈q,b.seq≠s)∨∃(i:Nat)(h:i<q.length),r=(i:Int)∧q[i].seq=s∧∀(j:Nat)(hj:j<q.length),j<i->q[j].seq≠s
def zi(w:X)(V D:aV)(A:aU)(n c:Nat)(q:List iE)(h:lW w V D A n q)(hn:n<=1024)(s:Int)(y:Nat)(hy:eJ w y 2 #[J s]):dz W 364 #[Z A n c,.func (.func 365) #[] #[y]] w λe O=>∃r,e=b5 (J r)∧Idx q s r∧Grow w O:=by
 have ig:=h.len;go_in;go_wp2_with fail;go_loopw [8] (λi wr=>∃k:Nat,k<=n∧i=J k∧(∀(j:Nat)(hj:j<q.length),j<k->q[j].seq≠s)∧Grow w wr) (λi _=>n-(intOf i).toNat);case atStart=>exact⟨0,by omega,rfl,λj hj h0=>absurd h0 ap,Grow.refl _⟩
 case round=>
  obtain⟨k,oL,rfl,jT,H⟩:=hrel;by_cases N:k<n
  ·obtain⟨ad,vo,rfl,hV,hB,e0,e1⟩:=(h.row.grow H).mr ap nz N
   have e0:=e0 _ rfl;have e1:=e1 0 _ rfl;have a1L:q[k].seq≠s->∀(j:Nat)(hj:j<q.length),j<k+1->q[j].seq≠s:=λh0 j hj Vb=>by
    rcases Nat.lt_or_ge j k with I|I
    ·exact jT j hj I
    ·have:j=k:=by omega
     subst this;exact h0
   have Vh:q[k].seq=s->Idx q s (k:Int):=λh0 => .inr ⟨k,vo,rfl,h0,jT⟩;have HE:=Q Vh;have HN:=Q a1L;clear Vh a1L jT;generalize q[k].seq=sq at e0 HE HN;generalize q[k].c=cc at e1;by_cases hs:sq=s
   ·have hb:(sq == s)=true:=by rw[hs];exact beq_self_eq_true s
    have HI:=HE.out hs;clear hs HE HN;go_wp2_with (go_at_call 365;refine (Al _ sq s _ y rfl (hy.grow H)).mono ?_;rintro e w2 ⟨rfl,fk⟩);go_ret;exact⟨_,rfl,HI,H.trans fk⟩
   ·have hb:(sq == s)=false:=beq_eq_false_iff_ne.2 hs
    have HI:=Q (HN.out hs);clear hs HE HN;go_wp2_with (go_at_call 365;refine (Al _ sq s _ y rfl (hy.grow H)).mono ?_;rintro e w2 ⟨rfl,fk⟩);go_roundw;case rel=>exact⟨k+1,by omega,by go_num,HI.out,H.trans fk⟩
    case measure=>simp[intOf];omega
  ·obtain rfl:k=n:=by omega
   go_wp2;go_ret;refine⟨_,rfl,.inl ⟨rfl,λb hb=>?_⟩,H⟩;obtain⟨i,hi,rfl⟩:=List.mem_iff_getElem.1 hb;exact jT i hi ap
theorem pd(w:X)(R:aV)(A:aU)(n c i:Nat)(xs:List K)(h:Row w R 196 2 (Z A n c) n xs)(hi:i<n)(hn:n<=1048576)(rI:∀u∈xs,u.oneCell'=true):dz W 366 #[Z A n c,J i,J ((i:Int)+1)] w λe O=>e=b5 (Z A (n-1) c)∧Row O R 196 2 (Z A (n-1) c) (n-1) (xs.take (i*2)++xs.drop ((i+1)*2))∧dM R w O:=by
 obtain⟨fj,h|⟨g,cap,cur,e1,hV,H,iS,hm,iZ,j9⟩⟩:=h;·omega
 injection e1 with e1 _ e3;subst e1 e3;obtain⟨A2,HA2⟩:=az (if c=i+1 then some (g,0) else some ⟨g,(i+1)*2,none⟩:Option dA);have pK:(xs.drop ((i+1)*2)).length=(n-(i+1))*2:=by rw[bO,fj];omega
 have ia:∀j,w.cell? ⟨g,j,none⟩=cur[j]?:=λj=>cell_of_row w g j cur 196 (0,0) H;have hcx:∀j u,xs[j]?=some u->cur[j]?=some u:=λj u hu=>by
  rw[<-j9,List.getElem?_take] at hu;split at hu;·simpa using hu
  ·cases hu
 have rx:∀w1,Grow w w1->Reads w1 (w1:Nat) 2 A2 (n-(i+1)) (xs.drop ((i+1)*2)):=λw1 gP=>by refine⟨pK,λzD=>⟨⟨g,(i+1)*2,none⟩,by rw[HA2.out,aB ap],bw (Array.getElem?_eq_some_iff.1 H).1 gP.size,λj u hu=>?_⟩⟩;rw[List.getElem?_drop] at hu;rw[Addr.add_lit,gP.cell (show g<(w:Nat) from (Array.getElem?_eq_some_iff.1 H).1),ia];exact hcx _ u hu
 have hci:i<=c:=by omega
 have hni:¬ (n:Int)<(i:Int)+1:=by omega
 have a41:¬ (i:Int)+1<0:=by omega
 have jU:=H;go_in;go_wp2_with fail;have c0:=HA2.out.symm;go_still_tail 6,(by kernel_rfl);change wpList _ _ _ _ _ w.drew;generalize wv:w.drew=w1;have H:Grow w w1:=wv▸(Grow.refl w).drew;clear c0 wv;have eD:w1.heap[g]?=some (.cells cur 196 (0,0)):=(H.block g (Array.getElem?_eq_some_iff.1 jU).1).trans jU;have Iw:i+(n-(i+1))=n-1:=by omega
 refine pS rfl (.tmp 22) (.tmp 25) rfl rfl rfl (pw xd w1 _ eD (rx w1 H) (λu hu=>rI u (cX hu)) ap (by rw[Iw,iZ];omega)) ?_;rw[Iw];obtain⟨BR,k1,k2,k3⟩:=iC g 196 (0,0) (xs.drop ((i+1)*2)) (i*2) w1 cur eD (by rw[pK,<-Nat.add_mul,Iw,iZ];omega);have kv:=gM g (xs.drop ((i+1)*2)) (i*2) w1;have Ql:=setCells_size g (xs.drop ((i+1)*2)) (i*2) w1;generalize w1.setCells g (i*2) (xs.drop ((i+1)*2))=w2 at k1 kv Ql ⊢;have HK:=Q (And.intro k2 k3);have HD:=Q pK;have HZ:=Q iZ;have HKM:=Q Iw;have HL:=Q fj;have HT:=Q j9;clear k2 k3 pK iZ Iw fj j9 Ql hcx ia rx;have hcn:¬ c=n-1:=by omega
 have a43:¬ n<n-1:=by omega
 have oK:n-(n-1)=1:=by omega
 have za:∀ty,(Builtin.clear_ #[193] ty #[Z (some ⟨g,(n-1)*2,none⟩) (n-(n-1)) (c-(n-1))]).run W w2=.ok (a_ #[]) (w2.setCells g ((n-1)*2) (bM (aZ #[(),ay]:K).cells 1).toList):=λty=>by rw[oK];refine j_ xd (sG xd) (by simp[Value.cells,Value.oneCell']) w2 ty g ((n-1)*2) 1 _ ap (λj hj=>?_) (λj hj=>eJ.frozen (show eJ w2 g 196 BR from k1) _);have:=HK.out.1;have:=HZ.out;rw[cell_of_row w2 g _ BR 196 (0,0) k1,Array.getElem?_eq_getElem ap];rfl
 have YS:(bM (aZ #[(),ay]:K).cells 1).toList.length=2:=by kernel_rfl
 obtain⟨W5,m1,m2,m3⟩:=iC g 196 (0,0) (bM (aZ #[(),ay]:K).cells 1).toList ((n-1)*2) w2 BR k1 (by rw[YS];have:=HK.out.1;have:=HZ.out;omega);have sw:=gM g (bM (aZ #[(),ay]:K).cells 1).toList ((n-1)*2) w2;generalize w2.setCells g ((n-1)*2) (bM (aZ #[(),ay]:K).cells 1).toList=w3 at za m1 sw;have HM:=Q (And.intro m2 m3);clear m2 m3 YS oK;go_wp2;go_ret;have hj:dM R w w3:=(dM.dK H).trans (dM.jA (kv.trans sw) hV);obtain⟨k2,k3⟩:=HK.out;obtain⟨m2,m3⟩:=HM.out;have fj:=HL.out;have pK:=HD.out;have iZ:=HZ.out;have Iw:=HKM.out;have j9:=HT.out;have hti:cur.toList.take (i*2)=xs.take (i*2):=by rw[<-j9,List.take_take,cz ap]
 have W6:(xs.take (i*2)).length=i*2:=by rw[bn];omega
 have Be:(xs.take (i*2)++xs.drop ((i+1)*2)).length=(n-1)*2:=by rw[bd,W6,pK];omega
 refine⟨rfl,⟨Be,.inr ⟨g,c,W5,rfl,hV,m1,by omega,hm,by rw[m2,k2,iZ],?_⟩⟩,hj⟩;have I:BR.toList.take ((n-1)*2)=xs.take (i*2)++xs.drop ((i+1)*2):=by rw[k3,hti,<-Be];exact List.take_left
 rw[m3,I,bp,<-Be];exact List.take_left
def t6(s:Int)(b:Ab):Bool:=b.1 == s
def DF(l:List Ab)(s:Int):Bool:=l.any (t6 s)
def p_(l:List Ab)(s:Int):List Ab:=l.eraseP (t6 s)
theorem An{α:Type}{p:α->Bool}:∀{l:List α}{i:Nat}(hi:i<l.length),p l[i]=true->(∀(j:Nat)(hj:j<l.length),j<i->p l[j]=false)->l.eraseP p=l.take i++l.drop (i+1)
 | [],i,hi,_,_=>absurd hi (by simp)
 | a::l,0,_,h,_=>by have h:p a=true:=h;simp[List.eraseP_cons,h]
 | a::l,i+1,hi,h,hn=>by
   have h0:=hn 0 (by simp) ap;have tR:i<l.length:=by simpa using hi
   have h0:p a=false:=h0;rw[List.eraseP_cons,h0,cond_false,An tR (by simpa using h) (λj hj F3=>by have:=hn (j+1) (by simp;omega) ap;simpa using this)];simp
def KJ{q:List iE}(h:∀b∈q,b.seq≠s):DF (q.map iE.abs) s=false∧p_ (q.map iE.abs) s=q.map iE.abs:=by
 have I:∀a∈q.map iE.abs,¬ t6 s a=true:=λa ha=>by obtain⟨b,hb,rfl⟩:=List.mem_map.1 ha;simp[t6,iE.abs,h b hb]
 exact⟨by unfold DF;rw[List.any_eq_false];exact I,List.eraseP_of_forall_not I⟩
def KL{q:List iE}{i:Nat}(hi:i<q.length)(h:q[i].seq=s)(hn:∀(j:Nat)(hj:j<q.length),j<i->q[j].seq≠s):DF (q.map iE.abs) s=true∧p_ (q.map iE.abs) s=(q.take i++q.drop (i+1)).map iE.abs:=by
 have tR:i<(q.map iE.abs).length:=by simpa using hi
 refine⟨?_,?_⟩
 ·unfold DF
  rw[List.any_eq_true];exact⟨q[i].abs,cT (bF hi),by simp[t6,iE.abs,h]⟩
 ·unfold p_
  rw[An tR (by simp[t6,iE.abs,h]) (λj hj F3=>by have:=hn j (by simpa using hj) F3;simp[t6,iE.abs,this]),bI,List.map_take,List.map_drop]
def DG(w:X)(g:Nat)(l:List Ab)(last s:Int):ii W 330 #[g,J s] (λe=>e=b5 (aY (DF l s))) (eh g l last) (eh g (p_ l s) last) w:=by
 intro V hQ hV;have Mz:=hQ;obtain⟨I,v,q,R,D,ig,L,hB,kN,h6,h7,h8⟩:=hQ;obtain⟨A0,c0,rfl,hI,iS,su⟩:=kN.jL;have fu:Grow w (w.alloc (.cells #[J s] 2)):=(Below.refl (w:Nat) w).alloc (bh _) _;have mw:=eJ.made w 2 #[J s];have cc0:=(hB.grow fu).cell 0;have hIx:=zi _ R D A0 _ c0 q ⟨hI.grow fu,λb hb=>(h6 b hb).grow fu⟩ ap s (w:Nat) mw;have vu:¬ R g:=λh=>(h7 g h).2.1 rfl;go_in;go_wp2_with fail;refine hIx.mono ?_;clear hIx;rintro e w1 ⟨r,rfl,a6c,eD⟩;have jU:=fu.trans eD;rcases a6c with ⟨rfl,jT⟩|⟨i,hi,rfl,hs,hn⟩
 ·obtain⟨d1,d2⟩:=KJ jT
  rw[ig] at d1 d2;have HD:=Q (And.intro d1 d2);clear jT d1 d2 ig;go_wp2;go_ret;rw[HD.out.1,HD.out.2];exact⟨rfl,eh.wide (eh.framed _ _ _ w w1 V Mz λb hb=>jU.block b (hV b hb)) (λ_ => .inl),dM.dK jU⟩
 ·obtain⟨d1,d2⟩:=KL hi hs hn
  rw[ig] at d1 d2;have HD:=Q (And.intro d1 d2);clear d1 d2 ig hs hn;have ky:=hB.grow jU;have c1:=ky.cell 0;go_wp2_with fail;refine (pd w1 R A0 q.length c0 i _ (kN.grow jU) hi ap (MX q)).mono ?_;rintro e w2 ⟨rfl,gS,k7⟩;have lS:=k7.blk ky vu;have f0:=lS.frozen 0;have c2:=lS.cell 0;go_wp2;go_ret;rw[HD.out.1,HD.out.2];have W7:(q.take i++q.drop (i+1)).length=q.length-1:=by rw[bd,bn,bO];omega
  have jQ:(q.take i++q.drop (i+1)).flatMap iE.cells=(q.flatMap iE.cells).take (i*2)++(q.flatMap iE.cells).drop ((i+1)*2):=by rw[bL,ki iE.cells 2 nz,ob iE.cells 2 nz]
  have m9:∀b∈q.take i++q.drop (i+1),b∈q:=λb hb=>by
   rcases List.mem_append.1 hb with h|h
   ·exact bW h
   ·exact cX h
  have K3:=kD w2 g 0 (Z A0 (q.length-1) c0);refine⟨rfl,⟨.inl I,_,q.take i++q.drop (i+1),R,D,rfl,by omega,lS.put 0 _,?_,λb hb=>?_,λb hb=>⟨.inl (h7 b hb).1,(h7 b hb).2⟩,λb hb=>⟨.inl (h8 b hb).1,(h8 b hb).2⟩⟩,?_⟩
  ·rw[W7,jQ]
   exact gS.just K3 λb hb e=>vu (by rw[<-show b=g from e];exact hb)
  ·exact (((h6 b (m9 b hb)).grow jU).just k7 λx Y hr=>(h7 x hr).2.2 Y).just K3 λx Y e=>(h8 x Y).2 e
  ·exact ((dM.dK jU).trans (k7.imp λx Y=>(h7 x Y).1)).trans (K3.imp λx Y=>by rw[show x=g from Y];exact I)
def uB(l:List Ab)(last seq:Int)(m:Nat):Int:=if seq<1 then 1 else if seq<=last then 1 else if m=0 then 1 else if 8<m then 1 else if 16<=l.length then 24 else 0
def Gl(l:List Ab)(last seq:Int)(m:Nat)(ds:List Dl):List Ab:=if uB l last seq m=0 then l++[(seq,ds)] else l
def Gm(l:List Ab)(last seq:Int)(m:Nat):Int:=if uB l last seq m=0 then seq else last
def eh.le{l:List Ab}{V:aV}(h:eh g l last w V):l.length<=16:=by obtain⟨_,_,q,_,_,rfl,L,_⟩:=h;rw[bj];exact L
def sX(w:X)(abe:aV)(g:Nat)(l:List Ab)(last seq:Int)(A:aU)(m c:Nat)(ds:List Dl)(Vf:jM w abe A m ds)(vt:m<=c)(iO:c<=dG):ii W 368 #[g,aZ #[J seq,Z A m c]] (λe=>e=b5 (J (uB l last seq m))) (eh g l last) (eh g (Gl l last seq m ds) (Gm l last seq m)) w:=by
 intro V hQ hV;have mn:=hQ.le;have hE:(seq<1∨seq<=last∨m=0∨8<m)∧uB l last seq m=1∨1<=seq∧last<seq∧0<m∧m<=8∧(l.length=16∧uB l last seq m=24∨l.length<16∧uB l last seq m=0):=by
  unfold uB;repeat' split
  all_goals omega
 unfold Gl Gm;rcases hE with ⟨h,e⟩|⟨I,G,L,h4,⟨h5,e⟩|⟨h5,e⟩⟩<;>rw[e]
 ·exact Nq w g l last seq A m c _ (.inl ⟨h,rfl⟩) V hQ hV
 ·exact Nq w g l last seq A m c _ (.inr ⟨I,G,L,h4,h5,rfl⟩) V hQ hV
 ·exact Wb w abe g l last seq A m c ds Vf vt iO ap ap L h4 h5 V hQ hV
section
variable{P:aV}{S S':dW}
end
def KM(w:X)(g:Nat)(l:List Ab)(last:Int)(V:aV)(hQ:eh g l last w V)(k:Nat)(N:min l.length 4=k):dz W 271 #[g] w λe O=>∃A' q',e=b5 (Z A' k k)∧lW O (New w O) (New w O) A' k q'∧q'.map iE.abs=l.take 4∧Grow w O:=N▸G8 w g l last V hQ
def Wc(w:X)(g:Nat)(l:List Ab)(last:Int)(V:aV)(hQ:eh g l last w V)(k:Nat)(N:l.length=k):dz W 109 #[g] w λe O=>∃A' q',e=b5 (Z A' k k)∧lW O (New w O) (New w O) A' k q'∧q'.map iE.abs=l∧Grow w O:=N▸vU w g l last V hQ
end Go.Proofs.YtpeepcmdehhbgaaGreatDoor.abo
