/- Rg1, Rg3, Rg4, Rg2, Rz3. -/
import Derived.Test.YtpeepcmdehhbgaaGreatDoorJs27
import Derived.Test.YtpeepcmdehhbgaaGreatDoorJs29
set_option linter.all false
set_option maxRecDepth 100000
set_option maxHeartbeats 2000000
open Go.Value renaming int->ae,slice->Z,string->aX,bool->aY,agg->aZ,tuple->a_
open Go.Ending renaming returned->b5
open Go.IntKind renaming i64->af,u64->ah
open Go (J az aE aA aB aC aD ay aj am ap aw aL aK aJ aI aH aV aU aT aR aQ aP aO aN)
open Go.Proofs.Tryz renaming prog->W,underlying45->bG
open Go.Lib renaming hid->Q
open List renaming length_append->bd,length_map->bj,append_nil->bm,length_take->bn,length_singleton->bv,set_cons_succ->bz,set_cons_zero->bA,getElem_mem->bF,map_append->bI,drop_eq_getElem_cons->bP,range->bV,setIfInBounds_toArray->bY,size_toArray->cy,not_mem_nil->cF,mem_cons->cI,drop_eq_nil_of_le->cR
open Nat renaming le_of_ble_eq_true->bf,le_refl->bh,zero_le->bo,le_trans->bB
open Bool renaming eq_false_or_eq_true->bC
open Go renaming Value->K,World->X,Calls->dz,TypeId->dC,Program->dD,maxLen->dG
variable{w w0 O:X}{V:aV}{cs:aP}
section
namespace Go.Hop
open Go.RowKit
section
variable{P:dD}{D:aV}{f:FuncId}{args:aP}{ι:Type}{C:ι->Ending->Prop}{S:dW}{S':ι->dW}
theorem xX(h:S w V):dN [S] w V:=⟨V,λ_=>False,h,trivial,λ_ h=>h,λ_ h=>h.elim,λ_ _ h=>h⟩
theorem Lw.one(h:∀V:aV,S w V->(∀b,V b->b<(w:Nat)∧¬ D b)->dz P f args w λe O=>∃i,C i e∧S' i O (iY V w O)∧dM V w O):Lw P D f args [.o S] C (λi=>[.o (S' i)]) w:=λV hM hV=>by obtain⟨U,_,hS,_,k1,_⟩:=hM;exact (h U hS λb hb=>hV b (k1 b hb)).mono λe O ⟨i,hC,yP,hj⟩=>⟨i,hC,dN.wide [S' i] O _ _ (λb hb=>hb.imp (k1 b) id) (xX yP),hj.imp k1⟩
end
end Go.Hop
namespace Go.Proofs.YtpeepcmdehhbgaaGreatDoor
open Go.RowKit Go.Hop V
def En.zero:En:=⟨0,0,0,0,0,[],⟨#[]⟩,0,0⟩
structure Ms where
 (k:Int) (e:En) (tag code:Int) (n:Nat) (term had:Int) (log:List En) (commit len:Int)
structure Sd where
 (to:Int) (m:Ms) (A:aU) (c:Nat) (A2:aU) (q:List El) (c2:Nat)
def Ms.cells(m:Ms)(A:aU)(c:Nat)(A2:aU)(c2:Nat):List K:=[J m.k,J m.e.k,J m.e.ag,J m.e.sh,J m.e.sq,J m.e.ep,Z A m.e.ds.length c,aX m.e.se,J m.e.fr,J m.e.tg,J m.tag,J m.code,ae ah m.n,J m.term,J m.had,Z A2 m.log.length c2,J m.commit,J m.len]
def Sd.cells(s:Sd):List K := J s.to::s.m.cells s.A s.c s.A2 s.c2
structure Sd.In(w:X)(D:Nat->Prop)(s:Sd):Prop where
 e:kP w D ⟨s.m.e,s.A,s.c⟩
 q:jO w D s.A2 s.q
 eq:s.q.map El.e=s.m.log
 c2:s.q.length<=s.c2∧s.c2<=dG
theorem xY(s:Sd):s.cells.length=19:=rfl
theorem uH(s:Sd):∀u∈s.cells,u.oneCell'=true:=by intro u hu;simp only[Sd.cells,Ms.cells,cI,cF,or_false] at hu;rcases hu with rfl|rfl|rfl|rfl|rfl|rfl|rfl|rfl|rfl|rfl|rfl|rfl|rfl|rfl|rfl|rfl|rfl|rfl|rfl<;>rfl
theorem pm:lE (λw D s=>Sd.In w D s):=λw O D s h N=>⟨⟨In.keep h.e.1 λb hb _=>N b hb,h.e.2⟩,fT.framed s.A2 s.q w O D h.q N,h.eq,h.c2⟩
theorem po:iz (λw D s=>Sd.In w D s):=λw D D' s h hd=>⟨jg _ _ _ _ h.e hd,h.q.mono hd,h.eq,h.c2⟩
def dS(u:K)(q:List Sd):dW:=h_ 218 19 Sd.cells (λw D s=>Sd.In w D s) u q
theorem dS.framed(u:K)(q:List Sd):eu (dS u q):=h_.framed pm u q
theorem xZ{u:K}{q:List Sd}{l:List Bl}(h:St V w0 (.o (dS u q)::l) w):∃A c,u=Z A q.length c∧q.length<=c∧c<=dG:=St.sl (e:=218) (size:=19) (cells:=Sd.cells) (good:=λw D s=>Sd.In w D s) h
def rk(to tag code:Int)(n:Nat):Sd:=⟨to,⟨2,En.zero,tag,code,n,0,0,[],0,0⟩,none,0,none,[],0⟩
theorem nD(w:X)(D:aV)(to tag code:Int)(n:Nat):Sd.In w D (rk to tag code n):=⟨⟨⟨by simp[rk,En.zero,fm],λh=>by simp[rk,En.zero] at h⟩,bh _,bo _,bo _⟩,jO.nil,rfl,bh _,bo _⟩
def yb(x:El):dW:=λw V=>kP w V x
theorem yb.framed(x:El):eu (yb x):=λ_ _ _ h N=>⟨In.keep h.1 λb hb _=>N b hb,h.2⟩
theorem Ox(w:X)(m:Nat)(x:j4)(n:Nat)(e:En)(A:aU)(c:Nat)(D:aV)(gC:e.Ok)(hd:jM w D A e.ds.length e.ds)(j6:∀b,D b->b<(w:Nat))(Y:AL n x)(hn:n<=1048576):Lw W D 111 #[m,aZ (e.agg A c)] [.o (gR m x)] (λ(_:Unit)en=>en=b5 (a_ #[J (ei x e).1,ae ah ((ei x e).2.1:Nat)])) (λ_=>[.o (gR m (ei x e).2.2)]) w:=
 Lw.one (S':=λ_=>gR m (ei x e).2.2) λV h hV=>(Ll w m x n e A c D V (λb hb=>(hV b hb).1) gC (by
  rcases gC.2 with h|h
  ·rw[h.2.1];exact bo _
  ·have:=h.2.2.2.2.2.2.2;unfold dG;omega) hd j6 (λb hb h=>(hV b h).2 hb) Y hn h).mono λe O ⟨a,b,c⟩=>⟨(),a,b,c⟩
def pI(p:pj)(node nodes commit:Int)(v:K)(leads:Bool)(own:Int)(t h:Nat)(es:List En)(n:Int)(bs:aT)(ms:j4):List Bl:=[.c p.r 118 (iu p node nodes commit v leads own),.o (gR p.m ms),.o (gG p.s p.x p.d t h es n bs)]
theorem GR(p:pj)(node nodes commit:Int)(v:K)(leads:Bool)(own:Int)(t h:Nat)(es:List En)(n:Int)(bs:aT)(ms:j4):pF (pI p node nodes commit v leads own t h es n bs ms):=⟨trivial,gR.framed _ _,gG.framed _ _ _ _ _ _ _ _,trivial⟩
def CJ(leads:Bool)(own:Nat):List En->Nat->j4->List Sd->j4×List Sd
 | [],_,x,out=>(x,out)
 | e::l,k,x,out=>CJ leads own l (k+1) (ei x e).2.2 (if leads&&decide (own<=k) then out++[rk e.fr e.tg (ei x e).1 (ei x e).2.1] else out)
end Go.Proofs.YtpeepcmdehhbgaaGreatDoor
end
namespace Go.Proofs.YtpeepcmdehhbgaaGreatDoor
open RowKit Hop V
theorem Ln(w:X)(D:aV)(m:Ms)(A:aU)(c:Nat)(A2:aU)(c2:Nat)(q:List El)(he:kP w D ⟨m.e,A,c⟩)(hq:jO w D A2 q)(kZ:q.map El.e=m.log)(ig:q.length<=1048576):dz W 123 #[aZ (m.cells A c A2 c2).toArray] w λe O=>∃(A' A2':aU)(q':List El),e=b5 (aZ (m.cells A' m.e.ds.length A2' m.log.length).toArray)∧kP O (New w O) ⟨m.e,A',m.e.ds.length⟩∧jO O (New w O) A2' q'∧q'.map El.e=m.log∧Grow w O:=by
 obtain⟨k,⟨ek,ag,sh,sq,ep,ds,se,fr,tg⟩,tag,code,n,term,had,log,commit,len⟩:=m;unfold Ms.cells;dsimp only at he kZ ⊢;have wu:log.length=q.length:=by rw[<-kZ,bj]
 rw[wu];have hS:=St.begin_ (l:=[]) (w:=w) (V:=λ_=>False) trivial (λ_ h=>h.elim) trivial;obtain⟨y,wa,HY,HA,hS⟩:=hS.new' #[J k,J ek,J ag,J sh,J sq,J ep,Z A ds.length c,aX se,J fr,J tg,J tag,J code,ae ah n,J term,J had,Z A2 q.length c2,J commit,J len] 45;obtain⟨z,wb,HZ,HB,hS⟩:=hS.new' aJ 45;have HZ2:Hid (z=y+1):=by have I:=HY.out;have G:=HA.out;have L:=HZ.out;rw[G] at L;exact Q (by rw[L,I];simp)
 have gl:Grow w wb:=by have G:=HA.out;have L:=HB.out;rw[L,G];exact (dT w _).trans (dT _ _)
 have E:=hS.facts;simp only[ec] at E;have hC:=t7 wb D ⟨⟨ek,ag,sh,sq,ep,ds,se,fr,tg⟩,A,c⟩ ⟨In.grow he.1 gl,he.2⟩;unfold En.agg at hC;dsimp only at hC;go_in;go_wp2_with fail;rw[<-HA.out,<-HY.out,<-HB.out,<-HZ2.out];refine hC.mono ?_;rintro e w1 ⟨A',rfl,Md,eD⟩;have hS:=hS.join (yb.framed _) eD (U:=New wb w1) Md (λb hb=>hb);have E:=hS.facts;simp only[ec] at E;go_wp2_with (refine d_ hS 2 rfl 40 _ _ rfl 1 rfl [J ek,J ag,J sh,J sq,J ep,Z A' ds.length ds.length,aX se,J fr,J tg] rfl (bf rfl) rfl aw #[J k,J ek,J ag,J sh,J sq,J ep,Z A' ds.length ds.length,aX se,J fr,J tg,J tag,J code,ae ah n,J term,J had,Z A2 q.length c2,J commit,J len] rfl rfl ?_;clear hS E;intro w2 hS;refine stay ?_);refine dI ?_;have E:=hS.facts;simp only[bz,bA,ec] at E;have fk:=hS.grown;have hL:=mQ w2 D A2 c2 q (hq.grow fk) ig;go_wp2_with fail;refine hL.mono ?_;rintro e w3 ⟨u,rfl,⟨A3,c3,q3,rfl,Jd,Oy,hqc3,a4E⟩,-,ib⟩;have hl3:q3.length=q.length:=by rw[<-bj (f:=El.e),Oy,bj]
 have hS:=hS.join (fT.framed A3 q3) ib (U:=New w2 w3) Jd (λb hb=>hb);clear E;go_wp2_with fail;refine (DO w3 A3 q.length c3 ap).mono ?_;rintro e w4 ⟨rfl,rfl⟩;go_wp2_with (refine fv hS 3 rfl 43 _ _ rfl 15 rfl (Z A3 q.length q.length) rfl (bf rfl) rfl aw rfl ?_;clear hS;intro w5 hS;refine stay ?_);refine dI ?_;simp only[bY,bz,bA] at hS;go_wp2_with (refine kG hS 3 rfl 45 _ rfl rfl bG aw rfl ?_;refine stay ?_);refine dI ?_;go_wp2_with (refine d_ hS 2 rfl 45 _ _ rfl 0 rfl [J k,J ek,J ag,J sh,J sq,J ep,Z A' ds.length ds.length,aX se,J fr,J tg,J tag,J code,ae ah n,J term,J had,Z A3 q.length q.length,J commit,J len] rfl (bf rfl) rfl aw #[J k,J ek,J ag,J sh,J sq,J ep,Z A' ds.length ds.length,aX se,J fr,J tg,J tag,J code,ae ah n,J term,J had,Z A3 q.length q.length,J commit,J len] rfl rfl ?_;clear hS;intro w6 hS;refine stay ?_);refine dI ?_;go_wp2;refine bodyPost_ret (fy rfl _ z rfl (hS.blk 2 rfl) bG aw) rfl ?_;obtain⟨U1,I,k1⟩:=hS.own.see 0 rfl;obtain⟨U2,G,k2⟩:=hS.own.see 1 rfl;have N:∀{U:aV},(∀b,U b->nU (λ_=>False) w b∧b<(w6:Nat))->∀b,U b->New w w6 b:=λh b hb=>⟨(h b hb).1.elim False.elim id,(h b hb).2⟩;exact⟨A',A3,q3,rfl,jg _ _ _ _ G (N k2),jO.mono I (N k1),Oy.trans kZ,hS.grown⟩
def Sd.fn(s:Sd):Int×Ms:=(s.to,s.m)
def tD(node i:Nat)(m:Ms):List (Int×Ms):=((bV i).filter λj => !decide (j=node)).map λj:Nat=>((j:Int),m)
theorem AO(node i:Nat)(m:Ms):tD node (i+1) m=tD node i m++if i=node then [] else [((i:Int),m)]:=by unfold tD;rw[List.range_succ,List.filter_append,bI];by_cases h:i=node<;>simp[h]
def a4F(V:aV)(w:X)(p:pj)(node nodes:Nat)(commit:Int)(v:K)(leads:Bool)(own:Int)(y:Nat)(m:Ms)(cs:aP)(u c:K)(wr:X):Prop:=∃(i:Nat)(q:List Sd),c=J i∧i<=nodes∧q.map Sd.fn=tD node i m∧q.length<=i∧St V w [.o (dS u q),.c y 45 cs,.c p.r 118 (iu p node nodes commit v leads own)] wr
theorem AP(w:X)(D:aV)(p:pj)(node nodes:Nat)(h8:nodes<=8)(commit:Int)(v:K)(leads:Bool)(own:Int)(m:Ms)(A:aU)(c:Nat)(A2:aU)(c2:Nat)(q:List El)(he:kP w D ⟨m.e,A,c⟩)(hq:jO w D A2 q)(kZ:q.map El.e=m.log)(ig:q.length<=1048576)(j6:∀b,D b->b<(w:Nat)):Lw W D 64 #[.pointer (some ⟨p.r,0,none⟩),aZ (m.cells A c A2 c2).toArray] [.c p.r 118 (iu p node nodes commit v leads own)] (λ(i:K×List Sd)e=>e=b5 i.1∧i.2.map Sd.fn=tD node nodes m)
  (λi=>[.o (dS i.1 i.2),.c p.r 118 (iu p node nodes commit v leads own)]) w:=by
 intro V hM hV
 have kV:∀x,D x->x<(w:Nat)∧¬ V x:=λx Y=>⟨j6 x Y,λh=>(hV x h).2 Y⟩
 have hS:=St.begin_ hM (λb hb=>(hV b hb).1) ⟨trivial,trivial⟩
 have E:=(hS.new (m.cells A c A2 c2).toArray 45).facts
 obtain⟨y,wa,HY,HA,hS⟩:=hS.new' (m.cells A c A2 c2).toArray 45
 obtain⟨cs,HC⟩:=az ((m.cells A c A2 c2).toArray)
 simp only[ec,iu] at E
 unfold Ms.cells at HA E ⊢
 go_in
 go_wp2_with fail
 rw[<-HA.out,<-HY.out]
 unfold Ms.cells at HC
 clear E
 go_loopw [5,11] (λu x wr=>a4F V w p node nodes commit v leads own y m cs u x wr) (λ_ x _=>nodes-(intOf x).toNat)
 case atStart=>exact⟨0,[],rfl,bo _,rfl,bh _,HC.out▸St.join hS (dS.framed _ _) (Grow.refl _) (U:=λ_=>False) (h_.nil _ _) (λ_ h=>h.elim)⟩
 case round=>
  obtain⟨i,qs,rfl,kT,hfn,a4G,hS⟩:=hrel
  obtain⟨Au,cu,rfl,Uz⟩:=xZ hS
  have E:=hS.facts
  simp only[ec,iu] at E
  by_cases N:i<nodes
  ·have dk:decide ((i:Int)<(nodes:Int))=true:=aC ap
   by_cases jT:i=node
   ·have dn:((i:Int) != (node:Int))=false:=by simp[jT]
    have e:=AO node i m
    rw[aA jT,bm] at e
    replace jT:=Q jT
    replace e:=Q e
    go_wp2_with fail
    exact⟨⟨i+1,qs,rfl,by omega,hfn.trans e.out.symm,by omega,hS⟩,by simp only[intOf];omega⟩
   ·have dn:((i:Int) != (node:Int))=true:=by simp;omega
    have e:=AO node i m
    rw[aB jT] at e
    replace e:=Q e
    have hC:=Ln wr D m A c A2 c2 q ⟨In.keep he.1 λb hb _=>hS.keep kV b hb,he.2⟩ ⟨In.keep hq.1 λb hb _=>hS.keep kV b hb,λx Y=>⟨In.keep (hq.2 x Y).1 λb hb _=>hS.keep kV b hb,(hq.2 x Y).2⟩⟩ kZ ig
    unfold Ms.cells at hC
    rw[<-HC.out] at hC
    go_wp2_with (refine kG hS 1 rfl 45 _ rfl rfl bG (by rw[HC.out];kernel_rfl) rfl ?_;refine stay ?_)
    refine dI ?_
    go_wp2_with fail
    refine hC.mono ?_
    rintro en w1 ⟨A',A3,q3,rfl,Md,Jd,Oy,eD⟩
    go_wp2_with (at_builtin;refine stay ?_)
    refine dI ?_
    have hl3:q3.length=m.log.length:=by rw[<-Oy,bj]
    have Fv:m.log.length<=1048576:=by rw[<-kZ,bj];exact ig
    refine lb AH pm po xY uH rfl (.tmp 20) (.tmp 25) rfl rfl hS eD (b:=⟨i,m,A',m.e.ds.length,A3,q3,m.log.length⟩) ⟨Md,Jd,Oy,Nat.le_of_eq hl3,by show m.log.length<=dG;unfold dG;omega⟩ ap 1 rfl ?_
    intro v' O yP
    have yP:St V w [.o (dS v' (qs++[⟨(i:Int),m,A',m.e.ds.length,A3,q3,m.log.length⟩])),.c y 45 cs,.c p.r 118 (iu p node nodes commit v leads own)] O:=yP
    go_wp2_with fail
    exact⟨⟨i+1,qs++[⟨(i:Int),m,A',m.e.ds.length,A3,q3,m.log.length⟩],rfl,by omega,by rw[bI,hfn,e.out];rfl,by rw[bd,bv];omega,yP⟩,by simp only[intOf];omega⟩
  ·obtain rfl:i=nodes:=by omega
   have dk:decide ((i:Int)<(i:Int))=false:=aD ap
   go_wp2
   go_ret
   obtain⟨r1,r2⟩:=(hS.dO 1 rfl).fin
   exact⟨(_,qs),⟨rfl,hfn⟩,r1,r2⟩
def ApR(V:aV)(w:X)(p:pj)(node nodes:Int)(k0:Nat)(v:K)(leads:Bool)(own t h:Nat)(es:List En)(n:Int)(bs:aT)(ms0:j4)(abp M:Nat)(A:aU)(q:List El)(u:K)(wr:X):Prop:=∃(k:Nat)(ms:j4)(out:List Sd),k0<=k∧k<=max k0 M∧CJ leads own ((es.take abp).drop k) k ms out=CJ leads own ((es.take abp).drop k0) k0 ms0 []∧AL (8*k) ms∧out.length<=k∧St V w (.o (dS u out)::.o (fT A q)::pI p node nodes (k:Int) v leads (own:Int) t h es n bs ms) wr
theorem Oz{e:En}(h:e.Ok):e.ds.length<=8∧e.sq<=9223372036854775807:=by
 rcases h.2 with h|h
 ·exact⟨h.2.2.2.2.2.2.1.2,h.2.2.2.2.1.2⟩
 ·rw[h.2.2.2.2.2.1,h.2.2.2.1];exact⟨bo _,by decide⟩
theorem Ed(w:X)(p:pj)(node nodes:Int)(k0:Nat)(v:K)(leads:Bool)(own t h:Nat)(es:List En)(n:Int)(bs:aT)(ms0:j4)(abp:Nat)(gC:∀e∈es,e.Ok)(fj:es.length<=128)(hm:AL (8*k0) ms0)(ja:k0<=128):Lw W (λ_=>False) 127 #[.pointer (some ⟨p.r,0,none⟩),J abp] (pI p node nodes (k0:Int) v leads (own:Int) t h es n bs ms0) (λu e=>e=b5 u)
  (λu => .o (dS u (CJ leads own ((es.take abp).drop k0) k0 ms0 []).2)::pI p node nodes (max k0 (min abp es.length):Nat) v leads (own:Int) t h es n bs (CJ leads own ((es.take abp).drop k0) k0 ms0 []).1) w:=by
 intro V hM hV
 have hS:=St.begin_ hM (λb hb=>(hV b hb).1) (GR _ _ _ _ _ _ _ _ _ _ _ _ _)
 obtain⟨U,MD,hU⟩:=hS.own.see 2 rfl
 have hL:=qd w p.s p.x p.d t h es n bs U MD ap
 have E:=hS.facts
 simp only[pI,ec,iu] at E
 go_in
 go_wp2_with fail
 refine hL.mono ?_
 rintro e wl ⟨u,rfl,⟨A,c,q,rfl,hEn,kZ,Z2,iO⟩,-,H⟩
 have hS:=hS.join (fT.framed A q) H (U:=New w wl) hEn (λb hb=>hb)
 clear MD hU hL E
 have wK:q.length=es.length:=by rw[<-kZ,bj]
 obtain⟨M,HM⟩:=az (min abp es.length:Nat)
 have Qf:∀ts t w,(Builtin.min_ ts t #[J abp,J es.length]).run W w=.ok (J M) w:=λts t w=>by rw[run_min_int2,HM.out];congr 2;split<;>omega
 go_wp2_with fail
 go_loopw [5] (λu wr=>ApR V w p node nodes k0 v leads own t h es n bs ms0 abp M A q u wr) (λ_ wr=>M-(intOf ((wr.cell? ⟨p.r,4,none⟩).getD undef)).toNat)
 case atStart=>exact⟨k0,ms0,[],bh _,by omega,rfl,hm,bo _,St.join hS (dS.framed _ _) (Grow.refl _) (U:=λ_=>False) (h_.nil _ _) (λ_ h=>h.elim)⟩
 case round=>
  obtain⟨k,ms,out,ja,hkM,Ub,hmk,hol,hS⟩:=hrel
  obtain⟨Au,cu,rfl,Uz⟩:=xZ hS
  have E:=hS.facts
  simp only[pI,ec,iu] at E
  by_cases N:k<M
  ·have dk:decide (k<M)=true:=aC N
   obtain⟨UE,hE,_⟩:=hS.own.see 1 rfl
   have hE:jO _ UE A q:=hE
   obtain⟨ad,vo,rfl,hVk,i4,e0,e1⟩:=hE.1.mr ap pf (k:=k) (by have:=HM.out;omega)
   have hbe:q[k]∈q:=bF vo
   have re:q[k].e.Ok:=gC _ (by rw[<-kZ];exact List.mem_map.2 ⟨_,hbe,rfl⟩)
   have Fy:(es.take abp).drop k=q[k].e::(es.take abp).drop (k+1):=by rw[bP (by rw[bn,<-HM.out];exact N)];congr 1;rw[List.getElem_take];simp[<-kZ]
   rw[Fy] at Ub
   generalize q[k]=b at e0 e1 hbe re Ub Fy
   obtain⟨⟨ek,ag,sh,sq,ep,ds,se,fr,tg⟩,Ab,cb⟩:=b
   dsimp only[El.cells,En.agg] at e0 e1
   have f0:=e0 _ rfl
   have f1:=e1 0 _ rfl
   have f2:=e1 1 _ rfl
   have f3:=e1 2 _ rfl
   have f4:=e1 3 _ rfl
   have f5:=e1 4 _ rfl
   have f6:=e1 5 _ rfl
   have f7:=e1 6 _ rfl
   have f8:=e1 7 _ rfl
   obtain⟨y,wa,HY,HA,mh⟩:=hS.new' #[J ek,J ag,J sh,J sq,J ep,Z Ab ds.length cb,aX se,J fr,J tg] 40
   clear e0 e1
   have o9:wr.cell? ⟨p.r,4,none⟩=some (J k):=E.1.1 4
   have fin:∀(u:K)(O:X),St V w (.o (dS u (if leads&&decide (own<=k) then out++[rk fr tg (ei ms ⟨ek,ag,sh,sq,ep,ds,se,fr,tg⟩).1 (ei ms ⟨ek,ag,sh,sq,ep,ds,se,fr,tg⟩).2.1] else out))::.o (fT (some ad) q)::pI p node nodes (k:Int) v leads (own:Int) t h es n bs (ei ms ⟨ek,ag,sh,sq,ep,ds,se,fr,tg⟩).2.2) O->
    ApR V w p node nodes k0 v leads own t h es n bs ms0 abp M (some ad) q u (O.setCell ⟨p.r,4,none⟩ (J ((k:Int)+1)))∧M-(intOf (((O.setCell ⟨p.r,4,none⟩ (J ((k:Int)+1))).cell? ⟨p.r,4,none⟩).getD undef)).toNat<M-(intOf ((wr.cell? ⟨p.r,4,none⟩).getD undef)).toNat:=λu O hS=>by
    obtain⟨h8,pi⟩:=Oz re;have I:=hS.put 2 rfl 4 (J ((k:Int)+1));have G:=I.facts;refine⟨⟨k+1,_,_,by omega,by omega,Ub,(hmk.step _ pi).more ap,?_,I⟩,?_⟩
    ·split
     ·rw[bd,bv];omega
     ·omega
    ·have L:(O.setCell ⟨p.r,4,none⟩ (J ((k:Int)+1))).cell? ⟨p.r,4,none⟩=some (J ((k:Int)+1)):=G.1.1 4
     rw[L,o9];simp only[Option.getD_some,intOf];omega
   go_wp2_with fail
   rw[<-HA.out,<-HY.out]
   have eW:=mh.grow (Grow.refl _).drew
   have E:=eW.facts
   simp only[pI,ec,iu] at E
   refine dJ rfl ?_
   have QO:=eW.facts
   apply gi (ec _) 11 rfl
   refine held 0 rfl QO (λw1 E R T=>by simp only[pI,ec,iu] at E;go_simp;exact T) ?_
   refine held 1 rfl QO (λw1 E R T=>by simp only[pI,ec,iu] at E;go_simp;exact T) ?_
   refine held 2 rfl QO (λw1 E R T=>by simp only[pI,ec,iu] at E;go_simp;exact T) ?_
   refine held 3 rfl QO (λw1 E R T=>by simp only[pI,ec,iu] at E;go_simp;exact T) ?_
   refine held 4 rfl QO (λw1 E R T=>by simp only[pI,ec,iu] at E;go_simp;exact T) ?_
   refine dY 5 rfl ?_
   go_wp2_with fail
   refine (eW.atR 4 2 rfl rfl (λ_=>gR.framed _ _) (λU hU jR=>Ox _ p.m ms (8*k) ⟨ek,ag,sh,sq,ep,ds,se,fr,tg⟩ Ab cb U re (hU.2 _ hbe).1 jR hmk ap)).mono ?_
   rintro en w2 ⟨_,rfl,dV⟩
   go_wp2_with fail
   refine⟨dV.facts,?_⟩
   refine held 6 rfl dV.facts (λw1 E=>aM) ?_
   refine held 7 rfl dV.facts (λw1 E=>aM) ?_
   refine held 8 rfl dV.facts (λw1 E=>aM) ?_
   refine held 9 rfl dV.facts (λw1 E=>aM) ?_
   refine held 10 rfl dV.facts (λw1 E=>aM) ?_
   refine eU ?_
   clear E eW mh hS f0 f1 f2 f3 f4 f5 f6 f7 f8
   go_wp2_with fail
   have hS:=dV.grow (Grow.refl _).drew
   have E:=hS.facts
   simp only[pI,bz,bA,ec,iu] at E
   clear dV
   have oN:=hS.facts
   clear E
   refine dJ rfl ?_
   apply gi (ec _) 15 rfl
   rcases bC leads with hl|hl
   case' inl=>
    refine held 0 rfl oN (λw1 E R T=>by simp only[pI,bz,bA,ec,iu] at E;go_simp;exact T) ?_
    refine held 1 rfl oN (λw1 E R T=>by simp only[pI,bz,bA,ec,iu] at E;go_simp;exact T) ?_
    refine held 2 rfl oN (λw1 E R T=>by simp only[pI,bz,bA,ec,iu] at E;go_simp;exact T) ?_
    refine held 3 rfl oN (λw1 E R T=>by simp only[pI,bz,bA,ec,iu] at E;go_simp;exact T) ?_
    refine held 4 rfl oN (λw1 E R T=>by simp only[pI,bz,bA,ec,iu] at E;go_simp;exact T) ?_
    refine held 5 rfl oN (λw1 E R T=>by simp only[pI,bz,bA,ec,iu] at E;go_simp;exact T) ?_
    refine held 6 rfl oN (λw1 E R T=>by simp only[pI,bz,bA,ec,iu] at E;go_simp;exact T) ?_
    refine held 7 rfl oN (λw1 E R T=>by simp only[pI,bz,bA,ec,iu] at E;go_simp;exact T) ?_
    refine held 8 rfl oN (λw1 E R T=>by simp only[pI,bz,bA,ec,iu] at E;go_simp;exact T) ?_
    refine held 9 rfl oN (λw1 E R T=>by simp only[pI,bz,bA,ec,iu] at E;go_simp;exact T) ?_
    refine held 10 rfl oN (λw1 E R T=>by simp only[pI,bz,bA,ec,iu] at E;go_simp;exact T) ?_
    refine held 11 rfl oN (λw1 E R T=>by simp only[pI,bz,bA,ec,iu] at E;go_simp;exact T) ?_
    refine held 12 rfl oN (λw1 E R T=>by simp only[pI,bz,bA,ec,iu] at E;go_simp;exact T) ?_
    refine held 13 rfl oN (λw1 E R T=>by simp only[pI,bz,bA,ec,iu] at E;go_simp;exact T) ?_
    refine held 14 rfl oN (λw1 E R T=>by simp only[pI,bz,bA,ec,iu] at E;go_simp;exact T) ?_
   case' inr=>
    refine held 0 rfl oN (λw1 E R T=>by simp only[pI,bz,bA,ec,iu] at E;go_simp;exact T) ?_
    refine held 1 rfl oN (λw1 E R T=>by simp only[pI,bz,bA,ec,iu] at E;go_simp;exact T) ?_
    refine held 2 rfl oN (λw1 E R T=>by simp only[pI,bz,bA,ec,iu] at E;go_simp;exact T) ?_
    refine held 3 rfl oN (λw1 E R T=>by simp only[pI,bz,bA,ec,iu] at E;go_simp;exact T) ?_
    refine held 4 rfl oN (λw1 E R T=>by simp only[pI,bz,bA,ec,iu] at E;go_simp;exact T) ?_
    refine dQ 5 rfl oN ?_
    refine dQ 6 rfl oN ?_
    refine dQ 7 rfl oN ?_
    refine dQ 8 rfl oN ?_
    refine dQ 9 rfl oN ?_
    refine dQ 10 rfl oN ?_
    refine dQ 11 rfl oN ?_
    refine dQ 12 rfl oN ?_
    refine dQ 13 rfl oN ?_
    refine held 14 rfl oN (λw1 E R T=>by simp only[pI,bz,bA,ec,iu] at E;go_simp;exact T) ?_
   all_goals refine eU ?_
   all_goals (have E:=hS.facts;simp only[pI,bz,bA,ec,iu] at E)
   all_goals go_wp2_with (at_builtin;refine stay ?_)
   ·exact fin _ _ (by rw[hl];exact hl▸hS.dO 0 rfl)
   ·rename_i hb
    refine dI ?_
    refine lb AH pm po xY uH rfl (.tmp 55) (.tmp 64) rfl rfl (hS.front 1 rfl) (Grow.refl _) (b:=rk fr tg (ei ms ⟨ek,ag,sh,sq,ep,ds,se,fr,tg⟩).1 (ei ms ⟨ek,ag,sh,sq,ep,ds,se,fr,tg⟩).2.1) (nD _ _ _ _ _ _) ap 1 rfl ?_
    intro v' O hS
    have E:=hS.facts
    simp only[pI,bz,bA,List.eraseIdx_cons_succ,List.eraseIdx_cons_zero,ec,iu] at E
    go_wp2_with fail
    exact fin _ _ (by rw[hl,Bool.true_and,aA (aC hb)];exact hl▸hS.dO 1 rfl)
   ·rename_i hb
    exact fin _ _ (by rw[hl,Bool.true_and,aB (by simpa using hb)];exact hl▸hS.dO 0 rfl)
  ·have uY:k=max k0 M:=by omega
   have kS:(es.take abp).drop k=[]:=cR (by rw[bn,<-HM.out];omega)
   rw[kS] at Ub
   have dk:decide (k<M)=false:=aD N
   go_wp2
   go_ret
   rw[<-Ub,<-HM.out,<-uY]
   obtain⟨r1,r2⟩:=(hS.dO 1 rfl).fin
   exact⟨_,rfl,r1,r2⟩
end Go.Proofs.YtpeepcmdehhbgaaGreatDoor
section
namespace Go.Hop
open Go.RowKit
theorem St.qg{l:List Bl}{p:Nat}{t:dC}{cs':aP}{S:dW}{U:aV}(h:St V w0 (.c p t cs::l) w)(hj:dM (λb=>b=p) w O)(hB:eJ O p t cs')(hS:eu S)(T:S O U)(hU:∀b,U b->(w:Nat)<=b∧b<(O:Nat)):St V w0 (.o S::.c p t cs'::l) O:=
 St.step (a:=[.c p t cs]) (a2:=[.o S,.c p t cs']) h ⟨hS,trivial,trivial⟩ λU1 hM fS=>by obtain⟨U2,U3,hC,_,k1,_,_⟩:=hM;have hp:U1 p:=k1 p hC.1;refine⟨⟨U,λb=>b=p,T,⟨λb=>b=p,λ_=>False,⟨rfl,hB⟩,trivial,λ_ h=>h,λ_ h=>h.elim,λ_ _ h=>h⟩,λb hb => .inr (hU b hb),λb hb => .inl (hb▸hp),λb hb e=>by have I:=(hU b hb).1;have G:=fS p hp;have L:b=p:=e;omega⟩,hj.imp λb hb=>hb▸hp⟩
end Go.Hop
namespace Go.Proofs.YtpeepcmdehhbgaaGreatDoor
open Go.RowKit Go.Hop V
theorem OA(w:X)(A:aU)(n c:Nat):dz W 77 #[Z A n c] w λe O=>∃r,e=b5 (((r:Nat):K))∧(w:Nat)<=r∧eJ O r 237 #[Z A n c,aY false]∧Grow w O:=by go_in;go_wp2;go_ret;exact⟨_,rfl,bh _,eJ.made w _ _,(Below.refl _ w).alloc (bh _) _⟩
section
variable{l l':List Bl}{r abp:Nat}{s:RS}
theorem kH(hS:St (λ_=>False) w0 l w)(i:Nat)(hi:l[i]?=some (.c r 237 cs))(h:km r (w0:Nat) abp s O)(ho:fI r w O):∃cs',St (λ_=>False) w0 (l.set i (.c r 237 cs')) O:=by obtain⟨_,A,n,c,l1,b,_,hB,_⟩:=h;exact⟨_,hS.turned i hi (dM.jA ho rfl) hB⟩
theorem kI(h:km r (w0:Nat) abp s w)(hS:St (λ_=>False) w0 l w)(yP:St (λ_=>False) w0 l' O)(i i':Nat)(hi:l[i]?=some (.c r 237 cs))(tR:l'[i']?=some (.c r 237 cs)):km r (w0:Nat) abp s O:=by
 obtain⟨h0,A,n,c,l1,b,I,hB,G,L⟩:=h;have e:#[Z A n c,aY b]=cs:=by have h4:=hB.symm.trans (hS.blk i hi);injection h4 with h4;injection h4
 have N:∀b,b<(w0:Nat)->O.heap[b]?=w.heap[b]?:=λb hb=>(yP.keep (D:=λb=>b<(w0:Nat)) (λ_ h=>⟨h,λh=>h⟩) b hb).trans (hS.keep (D:=λb=>b<(w0:Nat)) (λ_ h=>⟨h,λh=>h⟩) b hb).symm;exact⟨h0,A,n,c,l1,b,I,e▸yP.blk i' tR,Reads.keep G λp hp=>World.cell?_of_block (N _ hp),L⟩
end
def WC(A:aU)(n:Nat)(ds:List Dl):dW:=λw V=>jM w V A n ds
theorem WC.framed(A:aU)(n:Nat)(ds:List Dl):eu (WC A n ds):=λ_ _ _ h N=>In.keep h λb hb _=>N b hb
def yc(l:aT):En×RS:=
 let k:=nB (some l)
 let f:=gb 8 k.2
 let tg:=gu f.2
 if k.1=2 then (⟨(k.1:Int),0,0,0,0,[],⟨(gn tg.2).1.toArray⟩,(f.1:Int),(tg.1:Int)⟩,(gn tg.2).2) else
 let ag:=gb 8 tg.2
 let sh:=gb 4 ag.2
 let sq:=gu sh.2
 let ep:=gu sq.2
 let n:=gb 8 ep.2
 (⟨(k.1:Int),(ag.1:Int),(sh.1:Int),(sq.1:Int),(ep.1:Int),(mg n.1 n.2).1,⟨#[]⟩,(f.1:Int),(tg.1:Int)⟩,(mg n.1 n.2).2)
def C5(l:aT)(e:En):Prop:=yc l=(e,some [])∧e.Ok
def a06(l:aT)(w O:X)(en:Ending):Prop:=(∃(e:En)(A:aU)(c:Nat),en=b5 (a_ #[aZ (e.agg A c),()])∧C5 l e∧kP O (New w O) ⟨e,A,c⟩)∨∃abl:Int,abl≠0∧en=b5 (a_ #[aZ (En.zero.agg none 0),J abl])∧∀e,¬ C5 l e
set_option maxRecDepth 100000
set_option maxHeartbeats 1000000
theorem Jl(w:X)(A:aU)(n c abp:Nat)(l:aT)(hb:Bytes w (w:Nat) A n l)(hl:l.length<=abp)(hN:abp<=1000000)(iS:n<=c)(iO:c<=dG):dz W 137 #[Z A n c] w λen O=>a06 l w O en∧Grow w O:=by
 have hS:=St.begin_ (l:=[]) (w:=w) (V:=λ_=>False) trivial (λ_ h=>h.elim) trivial;obtain⟨x,wa,HX,HA,hS⟩:=hS.new' aK 40;have hNw:=OA wa A n c;go_in;go_wp2_with fail;rw[<-HA.out,<-HX.out];refine hNw.mono ?_;rintro e w1 ⟨r,rfl,hr,Qk,eD⟩;have ej:=hS.made eD Qk hr;have zh:Grow w w1:=ej.grown;have lT:km r (w:Nat) abp (some l) w1:=⟨bB hS.grown.size hr,A,n,c,l,false,hl,Qk,Reads.below hb zh,⟨iS,iO⟩,rfl⟩;clear hNw Qk hb hS;go_wp2_with fail;refine (I_ w1 r _ abp _ lT).mono ?_;rintro e w2 ⟨k,s2,q2,N,rfl,gS,pN⟩;obtain⟨cs2,dV⟩:=kH ej 0 rfl gS pN;have dV:St (λ_=>False) w [.c r 237 cs2,.c x 40 aK] w2:=dV;have hwk:IntKind.i64.wrap (k:Int)=(k:Int):=by rw[IntKind.wrap_i64];omega
 obtain⟨y,w3,HY,H3,dX⟩:=dV.new' #[J k,(),(),(),(),ay,"",(),()] 40;have jN:=kI gS dV dX 0 1 rfl rfl;clear lT gS ej dV;go_wp2_with fail;rw[<-H3.out,<-HY.out];refine (lK w3 r _ abp 8 _ jN).mono ?_;rintro e w4 ⟨f,s4,q4,hf,rfl,om,S4⟩;obtain⟨cs4,eO⟩:=kH dX 1 rfl om S4;clear jN dX;go_wp2_with fail;refine (mO w4 r _ abp _ om).mono ?_;rintro e w5 ⟨tg,s5,q5,KS,rfl,qM,Sp⟩;obtain⟨cs5,eF⟩:=kH eO 1 rfl qM Sp;clear om eO;go_wp2_with (refine fv eF 0 rfl 3 _ _ rfl 7 rfl (J f) rfl (bf rfl) rfl aw rfl ?_;intro w6 eN;refine stay ?_);refine dI ?_;have vC:=kI qM eF eN 1 1 rfl rfl;clear qM eF;go_wp2_with (refine fv eN 0 rfl 2 _ _ rfl 8 rfl (J tg) rfl (bf rfl) rfl aw rfl ?_;intro w7 fH;refine stay ?_);refine dI ?_;have yd:=kI vC eN fH 1 1 rfl rfl;clear vC eN;simp only[bY,bz,bA] at fH;have eA:w7.cell? ⟨y,0,none⟩=some (J k):=(fH.facts.1.1 0).trans rfl;by_cases ip:k=2;case' pos=>
  have dk:((k:Int) == 2)=true:=by simp[ip]
  replace ip:=Q ip;go_wp2_with fail;refine (BV w7 r _ abp _ yd).mono ?_;rintro e w8 ⟨s,s8,q8,hs,rfl,Lp,ho8⟩;obtain⟨cs8,fD⟩:=kH fH 1 rfl Lp ho8;clear yd fH eA;go_wp2_with (refine fv fD 0 rfl 9 _ _ rfl 6 rfl (aX ⟨s.toArray⟩) rfl (bf rfl) rfl aw rfl ?_;intro w9 gy;refine stay ?_);refine dI ?_;have QC:=kI Lp fD gy 1 1 rfl rfl;clear Lp fD;simp only[bY,bz,bA] at gy;have gy:=St.join gy (WC.framed none 0 []) (Grow.refl _) (U:=λ_=>False) ⟨by simp[fm],λh=>by omega⟩ (λ_ h=>h.elim);have WE:En.Rt ⟨(k:Int),0,0,0,0,[],⟨s.toArray⟩,(f:Int),(tg:Int)⟩:=⟨by show (0:Int)<=_;decide,by show (0:Int)<=_;decide,by show (tg:Int)<=_;omega,λd hd=>absurd hd (by simp),by show s.toArray.size<=_;rw[cy];omega,bo _⟩;obtain⟨abl,HE⟩:=aE (⟨(k:Int),0,0,0,0,[],⟨s.toArray⟩,(f:Int),(tg:Int)⟩:En);obtain⟨A9,UN⟩:=aE (none:aU);obtain⟨c9,HC9⟩:=aE (0:Nat);have hcE:abl.ds.length<=c9∧c9<=dG:=by rw[HE,HC9];exact⟨bh _,bo _⟩
  have gy:St (λ_=>False) w [.o (WC A9 abl.ds.length abl.ds),.c y 40 (abl.agg A9 c9),.c r 237 cs8,.c x 40 aK] w9:=by rw[HE,UN,HC9];exact gy
  have rx:Hid (yc l=(abl,s8)):=Q (by unfold yc;dsimp only;rw[q2.out,q4.out,q5.out];dsimp only;rw[aA ip.out,q8.out,HE])
  rw[<-HE] at WE;obtain⟨s9,es9⟩:=aE s8;rw[<-es9] at rx QC;replace HE:=Q HE;replace UN:=Q UN;replace HC9:=Q HC9
 case' neg=>
  have dk:((k:Int) == 2)=false:=by simp;omega
  replace ip:=Q ip;go_wp2_with fail;refine (lK w7 r _ abp 8 _ yd).mono ?_;rintro e w8 ⟨ag,s8,q8,Qt,rfl,Lp,ho8⟩;obtain⟨cs8,fD⟩:=kH fH 1 rfl Lp ho8;clear yd fH eA;go_wp2_with fail;refine (lK w8 r _ abp 4 _ Lp).mono ?_;rintro e w9 ⟨sh,s9,q9,YW,rfl,QC,ho9⟩;obtain⟨cs9,gy⟩:=kH fD 1 rfl QC ho9;clear Lp fD;have gy:St (λ_=>False) w [.c y 40 #[J k,(),(),(),(),ay,"",J f,J tg],.c r 237 cs9,.c x 40 aK] w9:=gy;go_wp2_with (refine d_ gy 0 rfl 37 _ _ rfl 1 rfl [J ag,J sh,()] rfl (bf rfl) rfl aw #[J k,J ag,J sh,(),(),ay,"",J f,J tg] rfl rfl ?_;intro UO iA;refine stay ?_);refine dI ?_;have a07:=kI QC gy iA 1 1 rfl rfl;clear QC gy;go_wp2_with fail;refine (mO UO r _ abp _ a07).mono ?_;rintro e w11 ⟨sq,s11,q11,pi,rfl,WG,a4K⟩;obtain⟨cs11,kQ⟩:=kH iA 1 rfl WG a4K;clear a07 iA;go_wp2_with fail;refine (mO w11 r _ abp _ WG).mono ?_;rintro e w12 ⟨ep,s12,q12,Ov,rfl,WH,a4L⟩;obtain⟨cs12,ll⟩:=kH kQ 1 rfl WH a4L;clear WG kQ;go_wp2_with (refine fv ll 0 rfl 2 _ _ rfl 3 rfl (J sq) rfl (bf rfl) rfl aw rfl ?_;intro w13 nm;refine stay ?_);refine dI ?_;have a08:=kI WH ll nm 1 1 rfl rfl;clear WH ll;go_wp2_with (refine fv nm 0 rfl 2 _ _ rfl 4 rfl (J ep) rfl (bf rfl) rfl aw rfl ?_;intro w14 C6;refine stay ?_);refine dI ?_;have a09:=kI a08 nm C6 1 1 rfl rfl;clear a08 nm;go_wp2_with fail;refine (lK w14 r _ abp 8 _ a09).mono ?_;rintro e w15 ⟨nd,s15,q15,pJ,rfl,WI,a4M⟩;obtain⟨cs15,Sq⟩:=kH C6 1 rfl WI a4M;clear a09 C6;go_wp2_with fail;refine (Wi w15 r _ abp nd _ WI ap).mono ?_;rintro e w16 ⟨⟨A9,c9,ds⟩,rfl,⟨hdq,tS⟩,Sr,hD,hc9,hm9,a4N⟩;dsimp only at hdq tS hD hc9 hm9;obtain rfl:ds.length=nd:=by rw[hdq,AA]
  obtain⟨s16,q16⟩:∃s16,Hid (mg ds.length s15=(ds,s16)):=⟨_,Q (Prod.ext hdq.symm rfl)⟩;rw[show (mg ds.length s15).2=s16 by rw[q16.out]] at Sr;clear hdq;have Mi:=Sr;obtain⟨_,A',n',c',l',b',_,a0a,_⟩:=Mi;have GU:=((Sq.front 1 rfl).qg (dM.jA a4N rfl) a0a (WC.framed A9 ds.length ds) (U:=New w15 w16) hD (λb hb=>hb)).perm (List.Perm.cons _ (List.Perm.swap _ _ _));have GU:St (λ_=>False) w [.o (WC A9 ds.length ds),.c y 40 #[J k,J ag,J sh,J sq,J ep,ay,"",J f,J tg],.c r 237 #[Z A' n' c',aY b'],.c x 40 aK] w16:=GU;clear Sq WI a0a hD;go_wp2_with (refine fv GU 1 rfl 38 _ _ rfl 5 rfl (Z A9 ds.length c9) rfl (bf rfl) rfl aw rfl ?_;intro w9 gy;refine stay ?_);refine dI ?_;have QC:=kI Sr GU gy 2 2 rfl rfl;clear Sr GU;simp only[bY,bz,bA] at gy;have WE:En.Rt ⟨(k:Int),(ag:Int),(sh:Int),(sq:Int),(ep:Int),ds,⟨#[]⟩,(f:Int),(tg:Int)⟩:=⟨by show (sq:Int)<=_;omega,by show (ep:Int)<=_;omega,by show (tg:Int)<=_;omega,λd hd=>⟨(tS d hd).2,bB (tS d hd).1 hN⟩,by show (0:Nat)<=_;omega,by show ds.length<=_;omega⟩;obtain⟨abl,HE⟩:=aE (⟨(k:Int),(ag:Int),(sh:Int),(sq:Int),(ep:Int),ds,⟨#[]⟩,(f:Int),(tg:Int)⟩:En);have hcE:abl.ds.length<=c9∧c9<=dG:=by rw[HE];exact⟨hc9,hm9⟩
  have gy:St (λ_=>False) w [.o (WC A9 abl.ds.length abl.ds),.c y 40 (abl.agg A9 c9),.c r 237 #[Z A' n' c',aY b'],.c x 40 aK] w9:=by rw[HE];exact gy
  have rx:Hid (yc l=(abl,s16)):=Q (by unfold yc;dsimp only;rw[q2.out,q4.out,q5.out];dsimp only;rw[aB ip.out,q8.out];dsimp only;rw[q9.out];dsimp only;rw[q11.out];dsimp only;rw[q12.out];dsimp only;rw[q15.out];dsimp only;rw[q16.out,HE])
  rw[<-HE] at WE;obtain⟨s9,es9⟩:=aE s16;rw[<-es9] at rx QC;replace HE:=Q HE
 all_goals
  have m6:=λU(hU:jM w9 U A9 abl.ds.length abl.ds)=>oy w9 abl U A9 c9 WE hU
  obtain⟨U9,hD9,_⟩:=gy.own.see 0 rfl
  have m6:=m6 U9 hD9
  obtain⟨E0,HE0⟩:=az abl
  rw[<-HE0.out] at rx
  obtain⟨ek,eag,esh,esq,eep,eds,ese,efr,etg⟩:=abl
  unfold En.agg at m6 gy
  dsimp only at m6 gy hcE hD9
  have E:=gy.facts
  simp only[ec] at E
  go_wp2_with fail
  refine (BP w9 r _ abp _ QC).mono ?_
  rintro e w17 ⟨rfl,rfl⟩
  obtain⟨b,Hb⟩:=az (decide (s9=some []))
  rw[<-Hb.out]
  rcases bC b with K8|K8
  case' inr=>
   subst K8
   go_wp2_with fail
   change bodyPost _ _ _ _ _ (World.setCells w9 x 0 [(),(),(),(),(),ay,"",(),()])
   have C7:=gy.turned 3 rfl (uq x [(),(),(),(),(),ay,"",(),()] w9) ((gy.blk 3 rfl).fill [(),(),(),(),(),ay,"",(),()] rfl)
   refine bodyPost_ret (dZ rfl _ x rfl (C7.blk 3 rfl) Tryz.underlying40 aw) rfl ?_
   exact⟨.inr ⟨12,by decide,rfl,λe1 I=>by have G:=(Prod.mk.inj (rx.out.symm.trans I.1)).2;have L:=Hb.out;rw[G,aC rfl] at L;cases L⟩,C7.grown⟩
  case' inl=>
   subst K8
   go_wp2_with fail
   refine m6.mono ?_
   rintro e w17 ⟨⟨F,rfl,hF⟩,a4P⟩
   have OB:=gy.grow a4P
   replace hF:=Q hF
   clear E
   have E:=OB.facts
   simp only[ec] at E
   by_cases Jm:F=0
   ·subst Jm
    have gC:=hF.out.1 rfl
    go_wp2_with fail
    change bodyPost _ _ _ _ _ (World.setCells w17 x 0 [J ek,J eag,J esh,J esq,J eep,Z A9 eds.length c9,aX ese,J efr,J etg])
    have C7:=OB.turned 3 rfl (uq x [J ek,J eag,J esh,J esq,J eep,Z A9 eds.length c9,aX ese,J efr,J etg] w17) ((OB.blk 3 rfl).fill [J ek,J eag,J esh,J esq,J eep,Z A9 eds.length c9,aX ese,J efr,J etg] rfl)
    refine bodyPost_ret (dZ rfl _ x rfl (C7.blk 3 rfl) Tryz.underlying40 aw) rfl ?_
    obtain⟨U1,I,k1⟩:=C7.own.see 0 rfl
    exact⟨.inl ⟨⟨ek,eag,esh,esq,eep,eds,ese,efr,etg⟩,A9,c9,rfl,⟨by rw[rx.out,HE0.out,of_decide_eq_true Hb.out.symm],gC⟩,In.mono I (λb hb=>⟨(k1 b hb).1.elim False.elim id,(k1 b hb).2⟩),hcE.1,hcE.2,WE.n⟩,C7.grown⟩
   ·have ME:(F != 0)=true:=by simp[Jm]
    replace Jm:=Q Jm
    go_wp2_with fail
    change bodyPost _ _ _ _ _ (World.setCells w17 x 0 [(),(),(),(),(),ay,"",(),()])
    have C7:=OB.turned 3 rfl (uq x [(),(),(),(),(),ay,"",(),()] w17) ((OB.blk 3 rfl).fill [(),(),(),(),(),ay,"",(),()] rfl)
    refine bodyPost_ret (dZ rfl _ x rfl (C7.blk 3 rfl) Tryz.underlying40 aw) rfl ?_
    exact⟨.inr ⟨12,by decide,rfl,λe1 I=>Jm.out (hF.out.2 (by have G:=(Prod.mk.inj (rx.out.symm.trans I.1)).1;rw[<-HE0.out,G];exact I.2))⟩,C7.grown⟩
end Go.Proofs.YtpeepcmdehhbgaaGreatDoor
end
