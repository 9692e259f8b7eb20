/- Bo4. -/
import Derived.Test.YtpeepcmdehhbgaaGreatDoorJs20
import Derived.Test.YtpeepcmdehhbgaaGreatDoorJs16
set_option linter.all false
set_option maxRecDepth 100000
set_option maxHeartbeats 2000000
open Go.Value renaming int->ae,slice->Z,string->aX,bool->aY,agg->aZ,tuple->a_
open Go.Ending renaming returned->b5
open Go.IntKind renaming i64->af,u64->ah
open Go (J az aE aA aB aC aD ay aj am ap aw aL aK aJ aI aH aV aU aT aR aQ aP aO aN)
open Go.Proofs.Tryz renaming prog->W
open Go.Lib renaming hid->Q
open List renaming length_append->bd,append_nil->bm,set_cons_succ->bz,set_cons_zero->bA,flatMap_append->bL,length_set->dh
open Nat renaming lt_of_lt_of_le->bw
open Option renaming map_some->df
open Go renaming Value->K,World->X,maxLen->dG
variable{z:aQ}{k:Nat}
namespace Go.Proofs.YtpeepcmdehhbgaaGreatDoor
open RowKit Hop
structure Qu where
 (l:List abo.Ab) (k:Int)
structure Bk where
 (ep:Int) (eP:List Dl) (sh:Nat) (q:List Qu) (cuts:List (Int×Int))
def Qu.new:Qu:=⟨[],0⟩
def Bk.new:Bk:=⟨0,[],1,[.new,.new,.new,.new],[]⟩
def Bk.qu(b:Bk)(k:Nat):Qu:=b.q.getD k .new
def Bk.add(b:Bk)(k:Nat)(sq:Int)(ds:List Dl):Bk:=if abo.uB (b.qu k).l (b.qu k).k sq ds.length=0 then { b with eP:=b.eP.filter (λd => !Mn ds d),q:=b.q.set k ⟨(b.qu k).l++[(sq,ds)],sq⟩,cuts:=b.cuts++[((k:Int),sq)] } else b
def ZM(c:Int×Int):List K:=[(),J c.1,J c.2]
def pz(z:aQ)(i:Nat):K := .pointer (some ⟨z.getD i 0,0,none⟩)
def Fp(z:aQ)(sl cu:K)(b:Bk):Array K:=#[J b.ep,sl,J b.sh,pz z 0,pz z 1,pz z 2,pz z 3,cu]
def n_(z:aQ)(q:List Qu):List Bl:=(z.zip q).map λp => .o (abo.eh p.1 p.2.l p.2.k)
theorem KV(z:aQ)(q:List Qu):pF (n_ z q):=pT λx Y=>by obtain⟨p,_,rfl⟩:=List.mem_map.1 Y;exact abo.eh.framed _ _ _
theorem lh{q:List Qu}(hz:z.length=4)(hq:q.length=4)(N:k<4):(n_ z q)[k]?=some (.o (abo.eh (z.getD k 0) (q.getD k .new).l (q.getD k .new).k)):=by unfold n_;rw[List.getElem?_map,List.getElem?_eq_getElem (by simp;omega),df,List.getElem_zip];simp[List.getD_eq_getElem?_getD,List.getElem?_eq_getElem (show k<z.length by omega),List.getElem?_eq_getElem (show k<q.length by omega)]
theorem rZ{q:List Qu}(hz:z.length=4)(hq:q.length=4)(N:k<4)(x:Qu):(n_ z q).set k (.o (abo.eh (z.getD k 0) x.l x.k))=n_ z (q.set k x):=by
 unfold n_;apply List.ext_getElem?;intro i;rw[List.getElem?_map,List.getElem?_set,List.getElem?_map];by_cases hi:i<4
 ·rw[List.getElem?_eq_getElem (l:=z.zip q) (by simp;omega),List.getElem?_eq_getElem (l:=z.zip (q.set k x)) (by simp;omega),df,df,List.getElem_zip,List.getElem_zip,List.getElem_set]
  by_cases YY:k=i
  ·subst YY
   simp[hz,hq,N,List.getD_eq_getElem?_getD,List.getElem?_eq_getElem (show k<z.length by omega)]
  ·rw[aB YY];simp[YY]
 ·rw[List.getElem?_eq_none (l:=z.zip q) (by simp;omega),List.getElem?_eq_none (l:=z.zip (q.set k x)) (by simp;omega)]
  split;·omega
  ·rfl
theorem Wm{b:Bk}(hq:b.q.length=4)(N:k<4):b.q.set k ⟨(b.qu k).l,(b.qu k).k⟩=b.q:=by
 unfold Bk.qu;apply List.ext_getElem?;intro i;rw[List.getElem?_set];split
 ·rename_i h
  subst h;rw[aA ap,List.getD_eq_getElem?_getD,List.getElem?_eq_getElem (show k<b.q.length by omega)];rfl
 ·rfl
def gQ(st:Nat)(z:aQ)(sl cu:K)(b:Bk):List Bl := .c st 186 (Fp z sl cu b)::.o (fK 147 2 sl b.eP.length (fm b.eP))::.o (fK 37 3 cu b.cuts.length (b.cuts.flatMap ZM))::n_ z b.q
theorem AB(st:Nat)(z:aQ)(sl cu:K)(b:Bk):pF (gQ st z sl cu b):=⟨trivial,fK.framed _ _ _ _ _,fK.framed _ _ _ _ _,KV _ _⟩
def iq(st:Nat)(z:aQ)(b:Bk):dW:=λw V=>(z.length=4∧b.q.length=4)∧∃sl cu,dN (px (gQ st z sl cu b)) w V
theorem iq.framed(st:Nat)(z:aQ)(b:Bk):eu (iq st z b):=λw O V ⟨I,sl,cu,G⟩ N=>⟨I,sl,cu,dN.framed _ (fP (AB _ _ _ _ _)) w O V G N⟩
section
variable{V:aV}{w0 w O:X}{l:List Bl}{st:Nat}{b:Bk}
theorem iq.opn(h:St V w0 (.o (iq st z b)::l) w):(z.length=4∧b.q.length=4)∧∃sl cu,St V w0 (gQ st z sl cu b++l) w:=by obtain⟨U,hU,_⟩:=h.own.see 0 rfl;obtain⟨k,N⟩:=St.opn (κ:=K×K) (o:=λk=>gQ st z k.1 k.2 b) h λU ⟨_,sl,cu,hM⟩=>⟨(sl,cu),hM,AB _ _ _ _ _⟩;exact⟨hU.1,k.1,k.2,N⟩
theorem iq.cls{sl cu:K}(hz:z.length=4∧b.q.length=4)(h:St V w0 (gQ st z sl cu b++l) w):St V w0 (.o (iq st z b)::l) w:=h.cls (iq.framed _ _ _) λU hM=>⟨hz,sl,cu,hM⟩
end
theorem Wn(w:X)(U D D2:aV)(sl:K)(l:List Dl)(y m c:Nat)(sq:Int)(A:aU)(ds:List Dl)(hl:l.length<=1048576)(hU:∀b,D2 b->U b∨D b)(jR:∀b,U b∨D b->b<(w:Nat))(hd:jM w D2 A m ds)(hm:m<=1048576)(hy:U y)(hB:eJ w y 196 #[J sq,Z A m c]):Lw W (λb=>U b∨D b) 369 #[sl,.func (.func 370) #[] #[y]] [.o (fK 147 2 sl l.length (fm l))] (λsl' e=>e=b5 sl') (λsl'=>[.o (fK 147 2 sl' (l.filter λd => !Mn ds d).length (fm (l.filter λd => !Mn ds d)))]) w:=λV hM hV=>by
 obtain⟨V1,_,T,_,k1,_⟩:=hM;have hT:∀O,dM V1 w O->tc 370 #[y] (Mn ds) l O:=λO hj=>⟨λvs w=>by kernel_rfl,λw2 H d _=>by have lS:eJ w2 y 196 #[J sq,Z A m c]:=eJ.grow ((hj.block y (jR y (.inl hy)) λh=>(hV y (k1 y h)).2 (.inl hy)).trans hB) H;have Ye:jM w2 D2 A m ds:=In.grow (In.just hd hj λb hb h=>(hV b (k1 b h)).2 (hU b hb)) H;exact R_ w2 d.1 d.2 y m c sq A D2 ds Ye hm lS⟩
 refine (Wg w l V1 sl l.length T hl 370 y (Mn ds) (hT w (dM.dK (Grow.refl w))) hT).mono ?_;rintro e O ⟨sl',rfl,wI,hj⟩;exact⟨sl',rfl,⟨_,λ_=>False,wI.mono λb hb => .inl (k1 b hb),trivial,λ_ h=>h,λ_ h=>h.elim,λ_ _ h=>h⟩,hj.imp k1⟩
theorem O1:(Tryz.prog.info? 37).map (λi=>(i.zero,i.size,i.bytes))=some (some (aZ #[(),(),()]),3,24):=by kernel_rfl
theorem Wp:Elem W 81 37 3 24 (aZ #[(),(),()]):=⟨Tryz.underlying81,info_parts O1,rfl,by decide,by decide⟩
theorem O2(w:X)(D:aV)(st:Nat)(z:aQ)(b:Bk)(k:Nat)(N:k<4)(sq:Int)(ds:List Dl)(A:aU)(c:Nat)(hd:jM w D A ds.length ds)(vt:ds.length<=c)(iO:c<=dG)(tS:ds.length<=1048576)(j6:∀b,D b->b<(w:Nat))(hs:b.eP.length<=1048576)(E:b.cuts.length<=1048576):Lw W D 337 #[st,J k,aZ #[J sq,Z A ds.length c]] [.o (iq st z b)] (λ(_:Unit)e=>e=b5 (a_ #[])) (λ_=>[.o (iq st z (b.add k sq ds))]) w:=by
 intro V hM hV;have kV:∀x,D x->x<(w:Nat)∧¬ V x:=λx Y=>⟨j6 x Y,λh=>(hV x h).2 Y⟩;have hS:=St.begin_ hM (λb hb=>(hV b hb).1) ⟨iq.framed _ _ _,trivial⟩;obtain⟨⟨hz,hq⟩,sl,cu,hS⟩:=iq.opn hS;rw[bm] at hS;obtain⟨A1,c1,rfl,kM,ry⟩:=fK.nW hS 1 rfl;obtain⟨A2,c2,rfl,lV,zE⟩:=fK.nW hS 2 rfl;obtain⟨y,wa,HY,HA,hS⟩:=hS.new' #[J sq,Z A ds.length c] 196;obtain⟨g,Hg⟩:=az (z.getD k 0);have K5:(Fp z (Z A1 b.eP.length c1) (Z A2 b.cuts.length c2) b)[3+k]?=some ((g:K)):=by
  have h4:k=0∨k=1∨k=2∨k=3:=by omega
  rw[Hg.out];rcases h4 with rfl|rfl|rfl|rfl<;>rfl
 have vB:∀O,St V w (.c y 196 #[J sq,Z A ds.length c]::gQ st z (Z A1 b.eP.length c1) (Z A2 b.cuts.length c2) b) O->O.cell? ⟨st,3+k,none⟩=some ((g:K))∧O.cell? ⟨y,0,none⟩=some (J sq)∧O.cell? ⟨y,1,none⟩=some (Z A ds.length c):=λO h=>by have hf:=h.facts;exact⟨(hf.2.1.1 (3+k)).trans K5,hf.1.1 0,hf.1.1 1⟩
 go_in;go_wp2_with fail;rw[<-HA.out,<-HY.out];have eW:=hS.grow (Grow.refl _).drew;have CF:=vB _ eW;refine dJ rfl ?_;refine fC (λO=>O.cell? ⟨st,3+k,none⟩=some ((g:K))∧O.cell? ⟨y,0,none⟩=some (J sq)∧O.cell? ⟨y,1,none⟩=some (Z A ds.length c)) [] 9 rfl [0,1,2,3,4,5,6] ?_;iterate 4 (refine eV rfl CF (λw1 ⟨I,G,L⟩=>aM) ?_)
 refine eV rfl CF (λw1 ⟨I,G,L⟩ R T=>by go_simp;rw[aA ap];go_simp;exact T) ?_;iterate 2 (refine eV rfl CF (λw1 ⟨I,G,L⟩=>aM) ?_)
 refine eZ 7 [8] rfl ?_;go_wp2_with fail;rw[Hg.out];have Qz:∀l' O,St V w l' O->jM O D A ds.length ds:=λl' O h=>In.keep hd λb hb _=>h.keep kV b hb;obtain⟨abl,HE⟩:=az (abo.uB (b.qu k).l (b.qu k).k sq ds.length);refine (eW.Fo (k+4) (S:=abo.eh (z.getD k 0) (b.qu k).l (b.qu k).k) (lh hz hq N) (λ_=>abo.eh.framed _ _ _) (St.far kV) (λU hU jR=>Lw.turns (abo.sX _ D _ _ _ sq A ds.length c ds (Qz _ _ eW) vt iO))).mono ?_;rw[<-HE.out];rintro e w1 ⟨_,rfl,ej⟩;have ej:St V w (.c y 196 #[J sq,Z A ds.length c]::.c st 186 (Fp z (Z A1 b.eP.length c1) (Z A2 b.cuts.length c2) b)::.o (fK 147 2 (Z A1 b.eP.length c1) b.eP.length (fm b.eP))::.o (fK 37 3 (Z A2 b.cuts.length c2) b.cuts.length (b.cuts.flatMap ZM))::n_ z (b.q.set k ⟨abo.Gl (b.qu k).l (b.qu k).k sq ds.length ds,abo.Gm (b.qu k).l (b.qu k).k sq ds.length⟩)) w1:=by rw[<-rZ hz hq N];exact ej
 have CF:w1.cell? ⟨st,3+k,none⟩=some ((g:K))∧w1.cell? ⟨y,0,none⟩=some (J sq)∧w1.cell? ⟨y,1,none⟩=some (Z A ds.length c):=by have hf:=ej.facts;exact⟨(hf.2.1.1 (3+k)).trans K5,hf.1.1 0,hf.1.1 1⟩
 clear eW hS;have lA:b.add k sq ds=if abl=0 then { b with eP:=b.eP.filter (λd => !Mn ds d),q:=b.q.set k ⟨(b.qu k).l++[(sq,ds)],sq⟩,cuts:=b.cuts++[((k:Int),sq)] } else b:=by rw[HE.out];rfl
 by_cases h0:abl=0
 ·rw[aA h0] at lA
  have hL:abo.Gl (b.qu k).l (b.qu k).k sq ds.length ds=(b.qu k).l++[(sq,ds)]:=by unfold abo.Gl;rw[aA (by rw[<-HE.out];exact h0)]
  have hK:abo.Gm (b.qu k).l (b.qu k).k sq ds.length=sq:=by unfold abo.Gm;rw[aA (by rw[<-HE.out];exact h0)]
  rw[hL,hK] at ej;replace lA:=Q lA;subst h0;go_wp2_with fail;refine⟨λ_=>CF,?_⟩;refine eV rfl CF (λw1 ⟨I,G,L⟩=>aM) ?_;refine gj ?_;have jQ:w1.cell? ⟨st,1,none⟩=some (Z A1 b.eP.length c1):=ej.facts.2.1.1 1;go_wp2_with fail;refine (ej.Fo 2 rfl (λ_=>fK.framed _ _ _ _ _) (St.far kV) (λU hU jR=>Wn w1 U D D (Z A1 b.eP.length c1) b.eP y ds.length c sq A ds hs (λ_ h => .inr h) (λx Y=>Y.elim (jR x) λh=>bw (j6 x h) ej.size) (Qz _ _ ej) tS (xe hU 0 rfl).1 (xe hU 0 rfl).2)).mono ?_;rintro e w2 ⟨sl',rfl,dV⟩;simp only[bz,bA] at dV;obtain⟨A3,c3,rfl,sy,R4⟩:=fK.nW dV 2 rfl;clear CF jQ ej;have QO:=dV.facts.2.1;simp only[Fp] at QO;go_wp2_with fail;have dX:=dV.put 1 rfl 1 (Z A3 (b.eP.filter λd => !Mn ds d).length c3);clear dV QO;generalize (w2.setCell ⟨st,1,none⟩ (Z A3 (b.eP.filter λd => !Mn ds d).length c3))=w3 at dX;obtain⟨y2,wb,xL,HB,eO⟩:=dX.new' #[(),J k,J sq] 37;have sy:w3.drew.cell? ⟨st,7,none⟩=some (Z A2 b.cuts.length c2)∧w3.drew.cell? ⟨y,0,none⟩=some (J sq):=by have hf:=(dX.grow (Grow.refl _).drew).facts;exact⟨hf.2.1.1 7,hf.1.1 0⟩
  refine dJ rfl ?_;refine fC (λO=>O.cell? ⟨st,7,none⟩=some (Z A2 b.cuts.length c2)∧O.cell? ⟨y,0,none⟩=some (J sq)) [11,12,13] 14 rfl [0,1,2,3,4,5,6,7,8] ?_;iterate 9 (refine eV rfl sy (λw1 ⟨I,G⟩=>aM) ?_)
  refine eZ 9 [] rfl ?_;go_wp2_with fail;rw[<-HB.out,<-xL.out];have eF:=eO.grow (Grow.refl _).drew;refine⟨λ_=>⟨eF.facts.2.2.1.1 7,eF.facts.2.1.1 0⟩,?_⟩;refine eZ 10 [] rfl ?_;refine g_ Wp rfl (.tmp 28) (.tmp 33) rfl rfl (eF.front 4 rfl) (A:=some ⟨y2,0,none⟩) (m:=1) (c:=1) (news:=[(),J k,J sq]) rfl (In.reads ((eF.blk 0 rfl).jL (size:=3) (n:=1) rfl)) (by simp[Value.oneCell']) ap ?_;intro v' w4 eN;obtain⟨A6,c6,rfl,kU,hm6⟩:=fK.nW eN 0 rfl;refine wpList_nil ⟨λ_=>⟨eN.facts.2.2.1.1 7,eN.facts.2.1.1 0⟩,?_⟩;refine fY 11 rfl aw ?_;have hf6:=eN.facts.2.2.1;simp only[Fp] at hf6;go_wp2_with fail;have fH:=((eN.put 3 rfl 7 (Z A6 (b.cuts.length+1) c6)).dO 1 rfl).dO 1 rfl;go_end0;have fD:=iq.cls (l:=[]) (st:=st) (z:=z) (b:=b.add k sq ds) (sl := Z A3 (b.eP.filter λd => !Mn ds d).length c3) (cu := Z A6 (b.cuts.length+1) c6) (by rw[lA.out];exact⟨hz,by rw[dh];exact hq⟩) (by rw[bm,lA.out];have h9:=fH.perm ((List.Perm.swap _ _ _).trans (List.Perm.cons _ (List.Perm.swap _ _ _)));unfold gQ;dsimp only;rw[bd,bL];exact h9)
  obtain⟨r1,r2⟩:=fD.fin;exact⟨(),rfl,r1,r2⟩
 ·rw[aB h0] at lA
  have hL:abo.Gl (b.qu k).l (b.qu k).k sq ds.length ds=(b.qu k).l:=by unfold abo.Gl;rw[aB (by rw[<-HE.out];exact h0)]
  have hK:abo.Gm (b.qu k).l (b.qu k).k sq ds.length=(b.qu k).k:=by unfold abo.Gm;rw[aB (by rw[<-HE.out];exact h0)]
  rw[hL,hK,Wm hq N] at ej;have Mc:(abl != 0)=true:=by simp[h0]
  replace lA:=Q lA;replace h0:=Q h0;go_wp2_with fail;refine⟨λ_=>CF,?_⟩;refine eV rfl CF (λw1 ⟨I,G,L⟩=>aM) ?_;refine gj ?_;go_wp2;refine bodyPost_ret (results_none rfl _ _ _) rfl ?_;obtain⟨r1,r2⟩:=(iq.cls (l:=[]) ⟨hz,hq⟩ (by rw[bm];exact ej.dO 0 rfl)).fin;exact⟨(),rfl,by rw[lA.out];exact r1,r2⟩
end Go.Proofs.YtpeepcmdehhbgaaGreatDoor
