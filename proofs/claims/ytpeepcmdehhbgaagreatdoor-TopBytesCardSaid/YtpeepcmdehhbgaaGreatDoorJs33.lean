/- Ao5, Aq2, Rg8, Rg9, Rga, Rgb, Rgc. -/
import Derived.Test.YtpeepcmdehhbgaaGreatDoorJs32
import Derived.Test.YtpeepcmdehhbgaaGreatDoorJs25
set_option linter.all false
set_option maxRecDepth 100000
set_option maxHeartbeats 2000000
open Go.Value renaming int->ae,slice->Z,string->aX,bool->aY,agg->aZ,tuple->a_
open Go.Ending renaming returned->b5
open Go.IntKind renaming i64->af,u64->ah
open Go (J az aE aA aB aC aD ay aj am ap aw aL aK aJ aI aH aV aU aT aR aQ aP aO aN)
open Go.Proofs.Tryz renaming prog->W
open Go.Lib renaming hid->Q
open List renaming length_append->bd,perm_append_comm->bg,length_map->bj,append_nil->bm,length_take->bn,length_singleton->bv,set_cons_succ->bz,set_cons_zero->bA,length_cons->bD,take_of_length_le->bH,map_append->bI,flatMap_cons->bJ,flatMap_append->bL,length_drop->bO,map_cons->bQ,range->bV,setIfInBounds_toArray->bY,flatMap_nil->cE,map_nil->cQ,map_toArray->cV,length_filter_le->c_
open Nat renaming le_of_ble_eq_true->bf,le_refl->bh,zero_le->bo,le_trans->bB
open Bool renaming eq_false_or_eq_true->bC,and_eq_true->bU
open Go.Region renaming wanted->bN
open Go.Builtin renaming append_->cn
open Go renaming Value->K,World->X,Calls->dz,Addr->dA,TypeId->dC,Oper->dE,Act->dF,maxLen->dG
open Go.Hop (Bl)
variable{w w0:X}{l:List Bl}{k j g:Nat}{A:aU}
namespace Go.Proofs.YtpeepcmdehhbgaaGreatDoor
open RowKit Hop V
theorem In.cut{V:aV}{size n c:Nat}{xs:List K}(h:In w V size A n xs)(N:k<=n)(E:n<=c):In w V size (if c=k then A else A.map (·.add (k*size))) (n-k) (xs.drop (k*size)):=by refine⟨by rw[bO,h.1,Nat.sub_mul],λhn=>?_⟩;obtain⟨ad,rfl,hV,hb,ia⟩:=h.2 ap;rw[aB ap];refine⟨ad.add (k*size),rfl,by rw[block_add];exact hV,by rw[block_add];exact hb,λj u hu=>?_⟩;rw[add_add];exact ia _ u (by rw[<-hu,List.getElem?_drop])
def Ag.kb(k:Nat):Nat->Ag->List Dl->Ag×List Int×Bool
 | 0,x,_=>(x,[],true)
 | f+1,x,l=>if l=[] then (x,[],true) else match x.kx k (l.take 8) with
   | none=>(x,[],false)
   | some y=>((y.kb k f (l.drop 8)).1,(y.b.qu k).k::(y.kb k f (l.drop 8)).2.1,(y.kb k f (l.drop 8)).2.2)
def Ag.jI(x:Ag)(k:Nat):List Dl:=pE (x.b.eP.filter λd=>decide (abn.lX d.1 x.b.sh=k))
def Ag.kg(x:Ag)(k:Nat):Ag×List Int×Bool:=x.kb k (x.jI k).length (x.jI k)
def Ag.ey:List Nat->Ag->Ag×List (Nat×Int)
 | [],x=>(x,[])
 | k::ks,x=>if (x.kg k).2.2=true then (((x.kg k).1.ey ks).1,(x.kg k).2.1.map (k,·)++((x.kg k).1.ey ks).2) else ((x.kg k).1,(x.kg k).2.1.map (k,·))
def Ag.cut(x:Ag):Ag×List (Nat×Int):=if (x.ey (bV x.b.sh)).2=[] then x.ey (bV x.b.sh) else ((x.ey (bV x.b.sh)).1.sync,(x.ey (bV x.b.sh)).2)
theorem Cb{b:Bk}{q:Qu}{P:Qu->Prop}(hq:P q)(hj:P (b.qu j)):P ((b.q.set k q).getD j .new):=by
 rw[List.getD_eq_getElem?_getD,List.getElem?_set];split
 ·rename_i h
  split;·exact hq
  ·rename_i G
   subst h;unfold Bk.qu at hj;rw[List.getD_eq_getElem?_getD,List.getElem?_eq_none ap] at hj;exact hj
 ·unfold Bk.qu at hj
  rw[List.getD_eq_getElem?_getD] at hj;exact hj
theorem AV{x y:Ag}{ds:List Dl}(h:x.kx k ds=some y):(x.b.qu k).l.length<16∧(x.b.qu k).k≠9223372036854775807∧x.i6 (x.pH k ds)=0∧y={ x with b:=x.b.add k ((x.b.qu k).k+1) ds,rs:=x.rs++[x.pH k ds] }:=by
 unfold Ag.kx at h;split at h;·cases h
 ·rename_i I
  cases h;simp only[not_or,Nat.not_le,ne_eq,Decidable.not_not] at I;exact⟨I.1,I.2.1,I.2.2,rfl⟩
theorem Ag.Ok.mr{x:Ag}(Y:x.Ok){r:Rc}(hr:x.i6 r=0):(rm (x.rs++[r])).length<=1048576:=by have h:=(mJ hr).2;rw[oD,bd];exact (oB.1 h).2
theorem uM(b:Bk)(k:Nat)(sq:Int)(ds:List Dl):(b.add k sq ds).sh=b.sh:=by unfold Bk.add;split<;>rfl
theorem AW(b:Bk)(k:Nat)(sq:Int)(ds:List Dl)(hs:0<=sq∧sq<=9223372036854775807)(h:∀j,0<=(b.qu j).k∧(b.qu j).k<=9223372036854775807)(j:Nat):0<=((b.add k sq ds).qu j).k∧((b.add k sq ds).qu j).k<=9223372036854775807:=by
 unfold Bk.add;split;·exact Cb (P:=λq=>0<=q.k∧q.k<=9223372036854775807) hs (h j)
 ·exact h j
theorem Ag.Ok.kx{x y:Ag}(Y:x.Ok){k:Nat}(N:k<4){ds:List Dl}(tS:ds.length<=8)(hf:∀d∈ds,jh d)(h:x.kx k ds=some y):y.Ok∧y.node=x.node∧y.b.sh=x.b.sh:=by
 obtain⟨_,G,L,rfl⟩:=AV h;have hq:=Y.qk k;refine⟨⟨Y.node,Y.eX,Y.last,?_,?_,Y.mr L,λr hr=>?_,λj=>AW _ _ _ _ ap Y.qk j⟩,rfl,uM _ _ _ _⟩
 ·show (x.b.add k ((x.b.qu k).k+1) ds).Lm (x.rs++[x.pH k ds]).length
  rw[bd,bv];exact Y.b.add k _ ds
 ·show 1<=(x.b.add k ((x.b.qu k).k+1) ds).sh∧(x.b.add k ((x.b.qu k).k+1) ds).sh<=4
  rw[uM];exact Y.sh
 ·rcases List.mem_append.1 hr with hr|hr
  ·exact Y.rs r hr
  ·rw[List.mem_singleton.1 hr]
   exact⟨N,by omega,tS,hf⟩
theorem Lu{l:List Dl}{d:Dl}(h:∀x∈l,jh x)(hd:jh d):∀x∈lL l d,jh x:=by
 induction l with
 | nil=>intro x Y;simp[lL] at Y;subst Y;exact hd
 | cons y l ih=>
   intro x Y;unfold lL at Y;have hy:=h y (by simp);split at Y
   ·rcases List.mem_cons.1 Y with rfl|Y
    ·obtain⟨I,G,L⟩:=hy
     have F6:0<d.2:=by have:=hd.1;simp[gZ] at this;exact this.2
     simp only[gZ,bU,decide_eq_true_eq] at I;exact⟨by simp only[gZ,bU,decide_eq_true_eq];exact⟨I.1,by omega⟩,G,by show min _ _<_;omega⟩
    ·exact h x (by simp[Y])
   ·rcases List.mem_cons.1 Y with rfl|Y
    ·exact hy
    ·exact ih (λz hz=>h z (by simp[hz])) x Y
theorem H1{q:List Dl}(h:∀x∈q,jh x):∀x∈pE q,jh x:=by
 have main:∀(q r:List Dl),(∀x∈q,jh x)->(∀x∈r,jh x)->∀x∈q.foldl lL r,jh x:=by
  intro q;induction q with
  | nil=>intro r _ hr;exact hr
  | cons d q ih=>intro r hq hr;exact ih _ (λx Y=>hq x (by simp[Y])) (Lu hr (hq d (by simp)))
 exact main q [] h (λ_ h=>absurd h (by simp))
theorem Lv(q:List Dl):(pE q).length<=q.length:=by
 have main:∀(q r:List Dl),(q.foldl lL r).length<=r.length+q.length:=by
  intro q;induction q with
  | nil=>intro r;simp
  | cons d q ih=>intro r;have:=ih (lL r d);have:=Oc r d;simp;omega
 have h:=main q [];unfold pE;simpa using h
theorem Ag.Ok.shard{x:Ag}(Y:x.Ok)(k:Nat):(x.jI k).length<=32∧∀d∈x.jI k,jh d:=by refine⟨?_,H1 λd hd=>Y.b.fine d (List.mem_filter.1 hd).1⟩;have I:=Lv (x.b.eP.filter λd=>decide (abn.lX d.1 x.b.sh=k));have G:(x.b.eP.filter λd=>decide (abn.lX d.1 x.b.sh=k)).length<=x.b.eP.length:=c_ _ _;have:=Y.b.eP;unfold Ag.jI;omega
theorem _root_.Go.Hop.St.OQ{κ:Type}[DecidableEq κ]{ke:κ->K}{V:aV}(h:St V w0 l w):∃b wa,Hid (b=(w:Nat))∧Hid (wa=w.alloc (.map #[] 0))∧St V w0 (.o (eI ke b [])::l) wa:=⟨_,_,rfl,rfl,h.join (eI.framed _ _) (fb _ _) (eI.made w) (λb hb=>by rw[show b=(w:Nat) from hb];exact⟨bh _,by simp⟩)⟩
def tG(rs:List Rc):Bk:=rs.foldl Bk.take Bk.new
def Ag.new(node eX:Nat)(rs:List Rc)(n:Nat):Ag:=⟨node,eX,{ tG rs with ep:=(n:Int) },0,n*4294967296,0,[],[],rs++[.ep n],(rm (rs++[.ep n])).length⟩
theorem Jr:∀(rs:List Rc)(b:Bk)(n:Nat),b.Lm n->(∀r∈rs,r.Ok)->(rs.foldl Bk.take b).Lm (n+rs.length)
 | [],_,_,h,_=>h
 | r::rs,b,n,h,hr=>by
   have G:=Jr rs (b.take r) (n+1) (h.take (hr r (by simp))) (λx Y=>hr x (by simp[Y]));rw[bD,List.foldl_cons,show n+(rs.length+1)=n+1+rs.length by omega];exact G
theorem OR{l:aT}{rs:List Rc}(hs:l8 l (rs.map Rc.B) j):l.take j=rm rs∧j=(rm rs).length:=by
 have h0:rm rs=(rs.map Rc.B).flatMap frame:=by rw[List.flatMap_map];rfl
 have I:=hs.1;have G:=hs.2.1;rw[<-h0] at I G;refine⟨?_,G⟩;conv=>lhs;rw[<-I]
 rw[G,List.take_left' rfl]
theorem WU(w:X)(D:aV)(d k node eX n:Nat)(l:aT)(rs:List Rc)(j:Nat)(hs:l8 l (rs.map Rc.B) j)(gC:∀r∈rs,r.Ok)(pJ:node<8)(hrp:1<=eX∧eX<=8)(hn:(tG rs).ep+1=(n:Int))(Ya:n<=1073741824)(hrm:V.i6 (rm rs) (Rc.ep n).B=0):Lw W D 144 #[J node,J eX,d] [.o (jK d l k)] (λ(p:vE)e=>p.d=d∧e=b5 (.pointer (some ⟨p.a,0,none⟩))) (λp=>dR p (Ag.new node eX rs n)) w:=by
 intro V hM hV;have hS:=St.begin_ hM (λb hb=>(hV b hb).1) ⟨jK.framed _ _ _,trivial⟩;obtain⟨U0,hU0,_⟩:=hS.own.see 0 rfl;have wu:l.length<=1048576:=(show g9 120 d l k w U0 from hU0).2.2.1;have d1:decide ((node:Int)<0)=false:=aD ap;have d2:decide ((8:Int)<=(node:Int))=false:=aD ap;have d3:decide ((eX:Int)<1)=false:=aD ap;have d4:decide ((8:Int)<(eX:Int))=false:=aD ap;have QK:=@run_makeMap W;go_in;go_wp2_with fail;refine (St.call (a:=[.o (jK d l k)]) (b:=[]) (hS.cast (by simp)) (a':=λ(i:OpI)=>[.o (eC i.x d (i.xs.length:Int) (l.take i.j) i.j),.o (CL i.u i.xs)]) (λi=>⟨eC.framed _ _ _ _ _,CL.framed _ _,trivial⟩) hS.no (OM w _ d k l)).mono ?_;rintro e w1 ⟨⟨x,u,xs,j'⟩,⟨vQ,rfl⟩,ej⟩;dsimp only at vQ ej;obtain⟨rfl,rfl⟩:=vQ.one hs;obtain⟨hl,Ix⟩:=OR hs;rw[hl,bj,Ix] at ej;go_wp2_with fail;refine (Sj w1).mono ?_;rintro e w2 ⟨st,z,rfl,hBo,fk⟩;have dV:=ej.join (iq.framed st z Bk.new) fk hBo (λb hb=>hb);obtain⟨bT,wa,HbT,HA,dX⟩:=dV.OQ (κ:=lp) (ke:=iK);obtain⟨bK,wb,HbK,HB,eO⟩:=dX.OQ (κ:=Int) (ke:=o0);have z1:(w2.alloc (.map #[] 0)).heap.size=(w2:Nat)+1:=by simp
 have z2:(wa.alloc (.map #[] 0)).heap.size=(wa:Nat)+1:=by simp
 rw[<-HA.out] at z1;rw[<-HB.out] at z2;have eK:bK=bT+1:=by rw[HbK.out,z1,<-HbT.out]
 obtain⟨a,wc,Ha,HC,eF⟩:=eO.new' #[J node,J eX,x,st,(),(),(),.map (some bT),.map (some bK)] 192;have ea:a=bK+1:=by rw[Ha.out,z2,z1,eK,HbT.out]
 go_wp2_with fail;rw[<-HA.out,<-HB.out,<-HbT.out,<-eK,<-HC.out,<-ea];have a0f:5*rs.length<=(rm rs).length:=Ca rs;have hjl2:(rm rs).length<=l.length:=by rw[<-hl,bn];omega
 clear eK ea z1 z2 HA HB HC HbT HbK Ha ej dV dX eO hBo QK hl hs vQ;replace eF:St V w [.c a 192 #[J node,J eX,x,st,(),(),(),.map (some bT),.map (some bK)],.o (eI o0 bK []),.o (eI iK bT []),.o (iq st z Bk.new),.o (eC x d (rs.length:Int) (rm rs) (rm rs).length),.o (CL u (rs.map Rc.B))] wc:=eF;obtain⟨U1,jV,_⟩:=eF.own.see 5 rfl;obtain⟨A1,c1,q1,rfl,_⟩:=jV;refine (eF.Fo 3 rfl (S':=λ(_:Unit)=>iq st z (tG rs)) (C:=λ_ e=>e=b5 (a_ #[])) (λ_=>iq.framed _ _ _) eF.no (λU hU jR=>by obtain⟨U',hX,hs⟩:=nV hU 4 rfl;obtain⟨A',c',q',e1,hB,kZ,_,_⟩:=hX;rw[e1];exact Si wc _ st z Bk.new rs gC 0 ⟨bo _,λ_ h=>absurd h (by simp[Bk.new]),bh _⟩ ap A' q' c' (hB.mono (λb hb => .inl (hs b hb)) (λb hb => .inl (hs b hb))) kZ (λb hb=>hb.elim (jR b) False.elim))).mono ?_
 rintro e w3 ⟨_,rfl,eN⟩;obtain⟨hz,sl,cu,fH⟩:=iq.nH eN 3 rfl;replace fH:St V w ([.c a 192 #[J node,J eX,x,st,(),(),(),.map (some bT),.map (some bK)],.o (eI o0 bK []),.o (eI iK bT []),.o (eC x d (rs.length:Int) (rm rs) (rm rs).length),.o (CL (Z A1 q1.length c1) (rs.map Rc.B))]++gQ st z sl cu (tG rs)) w3:=fH;clear eN eF;have f1:w3.cell? ⟨a,3,none⟩=some ((st:K)):=fH.facts.1.1 3;have f2:w3.cell? ⟨st,0,none⟩=some (J (tG rs).ep):=(fH.front 5 rfl).facts.1.1 0;have hwn:IntKind.i64.wrap ((tG rs).ep+1)=(n:Int):=by rw[hn,IntKind.wrap_i64];omega
 go_wp2_with (refine fv fH 5 rfl 2 _ _ rfl 0 rfl (J n) rfl (bf rfl) rfl aw rfl ?_;intro w4 fD;refine stay ?_);refine dI ?_;replace fD:St V w ([.c a 192 #[J node,J eX,x,st,(),(),(),.map (some bT),.map (some bK)],.o (eI o0 bK []),.o (eI iK bT []),.o (eC x d (rs.length:Int) (rm rs) (rm rs).length),.o (CL (Z A1 q1.length c1) (rs.map Rc.B))]++gQ st z sl cu { tG rs with ep:=(n:Int) }) w4:=fD;clear f1 f2 fH;have f1:w4.cell? ⟨a,3,none⟩=some ((st:K)):=fD.facts.1.1 3;have f2:w4.cell? ⟨st,0,none⟩=some (J n):=(fD.front 5 rfl).facts.1.1 0;have dn:decide ((1073741824:Int)<(n:Int))=false:=aD ap;have hBE:=Gw w4 n ap;go_wp2_with fail;refine hBE.mono ?_;rintro e w5 ⟨v,rfl,ng,hI⟩;have gy:=fD.grow ng;clear f1 f2 hBE fD;obtain⟨Au,mu,cu',rfl,ON⟩:=id hI;go_wp2_with fail;refine (gy.Fo 3 rfl (λ_=>Ei _ _ _ _ _ _ _) gy.no (λU _ _=>OO w5 _ x d rs.length (rm rs).length (rm rs) (iJ 1 [n]) _ hI ap)).mono ?_;rintro e w6 ⟨_,rfl,iA⟩;rw[show i6 (rm rs) (iJ 1 [n])=0 from hrm];replace iA:St V w ([.c a 192 #[J node,J eX,x,st,(),(),(),.map (some bT),.map (some bK)],.o (eI o0 bK []),.o (eI iK bT []),.o (eC x d ((rs++[Rc.ep n]).length:Nat) (rm (rs++[Rc.ep n])) (rm (rs++[Rc.ep n])).length),.o (CL (Z A1 q1.length c1) (rs.map Rc.B))]++gQ st z sl cu { tG rs with ep:=(n:Int) }) w6:=by have:=iA;unfold G_ at this;rw[aA (show i6 (rm rs) (iJ 1 [n])=0 from hrm)] at this;rw[oD,bd,bv];exact this
 clear gy hI ON;have f1:w6.cell? ⟨a,3,none⟩=some ((st:K)):=iA.facts.1.1 3;have f2:w6.cell? ⟨st,0,none⟩=some (J n):=(iA.front 5 rfl).facts.1.1 0;go_wp2_with (refine fv iA 0 rfl 2 (.tmp 88) (.tmp 86) rfl 5 rfl (J ((n*4294967296:Nat):Int)) (congrArg (Value.int .i64) (show (n:Int)*4294967296=_ by omega)) (bf rfl) rfl aw rfl ?_;intro w7 kQ;refine stay ?_);refine dI ?_;go_wp2;go_ret;have ll:=kQ.dO 4 rfl;replace ll:St V w ([.c a 192 #[J node,J eX,x,st,(),J ((n*4294967296:Nat):Int),(),.map (some bT),.map (some bK)],.o (eI o0 bK []),.o (eI iK bT []),.o (eC x d ((rs++[Rc.ep n]).length:Nat) (rm (rs++[Rc.ep n])) (rm (rs++[Rc.ep n])).length)]++gQ st z sl cu { tG rs with ep:=(n:Int) }) w7:=ll;have nm:=iq.yl (b:={ tG rs with ep:=(n:Int) }) hz ll;have C6:St V w (dR ⟨a,st,x,d,bT,bK,z⟩ (Ag.new node eX rs n)) w7:=nm.perm (by unfold dR qm Ag.new;refine (List.Perm.swap _ _ _).trans (.cons _ (.cons _ ?_));exact bg (l₁:=[_,_]) (l₂:=[_]))
 obtain⟨r1,r2⟩:=C6.fin;exact⟨⟨a,st,x,d,bT,bK,z⟩,⟨rfl,rfl⟩,r1,r2⟩
def Sy(A:aU)(n:Nat)(xs:List K):dW:=λw V=>In w V 9 A n xs
theorem Sy.framed(A:aU)(n:Nat)(xs:List K):eu (Sy A n xs):=λ_ _ _ h N=>In.keep h λb hb _=>N b hb
section
variable{V:aV}{q:List El}{x:El}
theorem Sz(h:St V w0 (.o (fT A q)::.o (yb x)::l) w)(hn:q.length<=1000)(ty:dC)(c:Nat):∃A' c' O,(cn #[43,43] ty #[Z A q.length q.length,Z (some ⟨(w:Nat),0,none⟩) 1 c]).run W (w.alloc (.cells x.cells.toArray 40))=.ok (Z A' (q.length+1) c') O∧(q.length+1<=c'∧c'<=dG)∧St V w0 (.o (fT A' (q++[x]))::l) O:=by
 have fu:Grow w (w.alloc (.cells x.cells.toArray 40)):=fb w _;have I:=h.grow fu;obtain⟨U,hE,_⟩:=I.own.see 0 rfl;have hE:jO _ U A q:=hE;have rx:Reads (w.alloc (.cells x.cells.toArray 40)) ((w:Nat)+1) 9 (some ⟨(w:Nat),0,none⟩) 1 x.cells:=by have:=fF w x.cells.toArray 40 (0,0) (n:=1) (size:=9) (by simp[pf]) _ rfl;simpa using this
 obtain⟨v',O,eR,H,hO⟩:=uA Gs (w.alloc (.cells x.cells.toArray 40)) ty hE.1.reads (c:=c) am rx (Gq x) ap;obtain⟨A',c',rfl,hI,kM,lV⟩:=hO.jL;refine⟨A',c',O,eR,⟨kM,lV⟩,?_⟩;have G:=I.join (Sy.framed A' (q.length+1) _) H (U:=New (w.alloc (.cells x.cells.toArray 40)) O) hI (λb hb=>hb);refine St.cls (a:=[.o (Sy A' (q.length+1) _),.o (fT A q),.o (yb x)]) G (fT.framed _ _) λU hM=>?_;obtain⟨U1,U2,hA,⟨U3,U4,hB,⟨U5,U6,hC,_,n1,_,_⟩,m1,m2,_⟩,k1,k2,_⟩:=hM;refine⟨?_,λy hy=>?_⟩
 ·rw[bd,bL,bJ,cE,bm]
  exact In.mono hA k1
 ·rcases List.mem_append.1 hy with hy|hy
  ·exact jg _ _ _ _ (hB.2 y hy) λb hb=>k2 b (m1 b hb)
  ·rw[List.mem_singleton.1 hy]
   exact jg _ _ _ _ hC λb hb=>k2 b (m2 b (n1 b hb))
theorem H2{ops:Array dE}{rest:List dE}{o:dE}{a:dF}{abo:Exit->dF->X->Prop}(hw:bN o (yielded ops a.tmps)=true)(s y:Operand)
 (ho:o.op=.call { callee := .builtin .append,args:=#[s,y],argTypes:=#[43,43] }) (h:St V w0 (.o (fT A q)::.o (yb x)::l) w) (hn:q.length<=1000) (c:Nat) (hs:a.eval s=Z A q.length q.length) (hy:a.eval y=Z (some ⟨(w:Nat),0,none⟩) 1 c)
 (N:∀A' c' O,(q.length+1<=c'∧c'<=dG)->St V w0 (.o (fT A' (q++[x]))::l) O->wpList W ops abo rest (a.put o.dst (Z A' (q.length+1) c')) O):wpList W ops abo (o::rest) a (w.alloc (.cells x.cells.toArray 40)):=by obtain⟨A',c',O,eR,I,G⟩:=Sz h hn o.type c;unfold wpList;rw[aA hw];refine .inl ?_;unfold Oper.wp execOp;simp only[ho,resolve,invoke,builtin,Sem.run_bind,Sem.run_pure,Result.andThen_ok,cV,bQ,cQ,hs,hy,eR];exact N A' c' O I G
end
section
variable{V:aV}
theorem AX{e size:Nat}{cs:aP}(h:eJ w g e cs)(E:cs.size=size):Own w (λb=>b=g) e size (Z (some ⟨g,0,none⟩) 1 1) 1 cs.toList:=⟨by simp[E],.inr ⟨g,1,cs,rfl,rfl,h,bh _,by unfold dG;omega,.inl ap,by rw[bH (by simp[E])]⟩⟩
theorem Lx{S:dW}(h:St V w0 (.o S::l) w)(b:Sd)(hb:∀O U,S O U->Sd.In O U b):St V w0 (.o (dS (Z (some ⟨(w:Nat),0,none⟩) 1 1) [b])::l) (w.alloc (.cells b.cells.toArray 218)):=by
 refine St.cls (a:=[.c (w:Nat) 218 b.cells.toArray,.o S]) (h.new _ _) (dS.framed _ _) λU hM=>?_;obtain⟨U1,U2,hA,⟨U3,U4,hB,_,m1,_,_⟩,k1,k2,k3⟩:=hM;have hB':eJ (w.alloc (.cells b.cells.toArray 218)) (w:Nat) 218 b.cells.toArray:=hA.2;refine⟨λb=>b=(w:Nat),U3,?_,λy hy=>?_,λy hy=>?_,λy hy=>k2 y (m1 y hy)⟩
 ·have:=AX (size:=19) hB' (by simp[xY])
  simpa using this
 ·rw[List.mem_singleton.1 hy];exact hb _ _ hB
 ·rw[hy];exact⟨k1 _ hA.1,λh=>k3 _ hA.1 (m1 _ h)⟩
theorem mU(h:St V w0 l w)(b:Sd)(hb:∀O U,Sd.In O U b):St V w0 (.o (dS (Z (some ⟨(w:Nat),0,none⟩) 1 1) [b])::l) (w.alloc (.cells b.cells.toArray 218)):=by
 refine St.cls (a:=[.c (w:Nat) 218 b.cells.toArray]) (h.new _ _) (dS.framed _ _) λU hM=>?_;obtain⟨U1,U2,hA,_,k1,k2,k3⟩:=hM;have hB':eJ (w.alloc (.cells b.cells.toArray 218)) (w:Nat) 218 b.cells.toArray:=hA.2;refine⟨λb=>b=(w:Nat),λ_=>False,?_,λy hy=>?_,λy hy=>?_,λy hy=>hy.elim⟩
 ·have:=AX (size:=19) hB' (by simp[xY])
  simpa using this
 ·rw[List.mem_singleton.1 hy];exact hb _ _
 ·rw[hy];exact⟨k1 _ hA.1,λh=>h⟩
end
theorem Js{O:X}{D:aV}{x:El}(h:kP w D x)(N:∀b,D b->O.heap[b]?=w.heap[b]?):kP O D x:=yb.framed x w O D h N
theorem Cc{e:En}(h:e.Ok)(f:Int):En.Ok { e with fr:=f }↔0<=f∧f<8:=⟨λk=>k.1.1,λk=>⟨⟨k,h.1.2⟩,h.2⟩⟩
theorem Ej{e:En}(h:e.Ok)(f:Int):En.Rt { e with fr:=f }:=by
 rcases h.2 with G|G
 ·exact⟨G.2.2.2.2.1.2,G.2.2.2.2.2.1.2,h.1.2.2,λd hd=>⟨(G.2.2.2.2.2.2.2 d hd).2.1,bB (G.2.2.2.2.2.2.2 d hd).2.2.2 am⟩,by show e.se.size<=1000000;rw[G.2.1];decide,bB G.2.2.2.2.2.2.1.2 am⟩
 ·exact⟨by show e.sq<=9223372036854775807;rw[G.2.2.2.1];decide,by show e.ep<=9223372036854775807;rw[G.2.2.2.2.1];decide,h.1.2.2,λd hd=>(by have Iv:d∈e.ds:=hd;rw[G.2.2.2.2.2.1] at Iv;cases Iv),bB G.2.2.2.2.2.2.2 am,(by show e.ds.length<=1048576;rw[G.2.2.2.2.2.1];decide)⟩
theorem WV{e:En}(h:e.Ok):e.Rt:=Ej h e.fr
def a0k(x:Rp)(from_ tg:Int)(v:Vt):Option Vs->Rp×Sends
 | none=>(x,[(from_,fx tg 7 0)])
 | some s=>Rp.told { x with s:=s } v
def QE(p:pj)(node:Nat)(w:X):Prop:=w.cell? ⟨p.r,0,none⟩=some (J node)∧w.cell? ⟨p.r,2,none⟩=some (.pointer (some ⟨p.s,0,none⟩))
theorem Ly{V:aV}{p:pj}{z:Rp}(h:St V w0 (dP p g z++l) w):QE p z.node w:=⟨h.facts.1.1 0,h.facts.1.1 2⟩
theorem SB(w:X)(D:aV)(p:pj)(g:Nat)(x:Rp)(Y:x.Ok)(from_:Int)(e:En)(A:aU)(c:Nat)(he:kP w D ⟨e,A,c⟩)(gC:e.Ok)(j6:∀b,D b->b<(w:Nat)):Lw W D 66 #[.pointer (some ⟨p.r,0,none⟩),J from_,aZ (e.agg A c)] (dP p g x) (λ(j:K×List Sd)en=>en=b5 j.1∧eS j.2=(x.ask from_ e).2) (λj => .o (dS j.1 j.2)::dP p g (x.ask from_ e).1) w:=by
 obtain⟨R,HR⟩:=aE (x.ask from_ e);rw[<-HR];replace HR:=Q HR;intro V hM hV;have kV:∀x,D x->x<(w:Nat)∧¬ V x:=λx Y=>⟨j6 x Y,λh=>(hV x h).2 Y⟩;have hS:=St.begin_ hM (λb hb=>(hV b hb).1) (eL _ _ _);have hen:x.s.c.es.length<=128:=Y.s.c.len;have Fi:=Y.s;obtain⟨abl,HE⟩:=az e;obtain⟨ek,ag,sh,sq,ep,ds,se,fr,tg⟩:=e;unfold En.agg;dsimp only;unfold dP at hS;have E:=(hS.new #[J ek,J ag,J sh,J sq,J ep,Z A ds.length c,aX se,J fr,J tg] 40).facts;simp only[ec,iu] at E;obtain⟨y,wa,HY,HA,hS⟩:=hS.new' #[J ek,J ag,J sh,J sq,J ep,Z A ds.length c,aX se,J fr,J tg] 40;go_in;go_wp2_with fail;rw[<-HA.out,<-HY.out];obtain⟨U,hE,_⟩:=hS.own.see 3 rfl;refine (qd wa p.s p.x p.d _ _ _ _ _ U hE ap).mono ?_;rintro en w1 ⟨u,rfl,⟨A1,c1,q1,rfl,Fg,o3,zn,zG⟩,⟨ZU,Z3⟩,eD⟩;have wK:q1.length=x.s.c.es.length:=by rw[<-o3,bj]
 obtain rfl:c1=q1.length:=by injection Z3 with _ I G;omega
 clear Z3 hE E;have hS:=hS.join (fT.framed A1 q1) eD (U:=New wa w1) Fg (λb hb=>hb);have E:=hS.facts;simp only[ec,iu] at E;replace wK:=Q wK;go_wp2_with (refine fv hS 1 rfl 3 _ _ rfl 7 rfl (J from_) rfl (bf rfl) rfl aw rfl ?_;clear hS E;intro w2 hS;refine stay ?_);refine dI ?_;simp only[bY,bz,bA] at hS;have E:=hS.facts;simp only[ec,iu] at E;rcases bC x.leads with hl|hl
 case inr=>
  have T:R=(x,[(from_,fx tg 6 0)]):=by rw[HR.out];unfold Rp.ask;rw[hl]
  clear HR;replace T:=Q T;rw[hl] at E hS;go_wp2_with fail;have dV:=((mU hS (rk from_ tg 6 0) (λO U=>nD O U _ _ _ _)).dO 1 rfl).dO 1 rfl;go_ret;obtain⟨r1,r2⟩:=dV.fin;rw[T.out];refine⟨(_,[rk from_ tg 6 0]),⟨rfl,rfl⟩,?_,r2⟩;unfold dP;rw[hl];exact r1
 obtain⟨v,hv⟩:=Y.lv hl;obtain⟨yW,zf⟩:=Y.v v hv;rw[hl,hv] at E hS;simp only[jH] at E;by_cases a6t:128<=x.s.c.es.length
 ·have T:R=(x,[(from_,fx tg 7 0)]):=by rw[HR.out];unfold Rp.ask;rw[hl,hv];simp only[];rw[aA (.inl a6t)]
  clear HR;replace T:=Q T;have d1:decide ((q1.length:Int) >= 128)=true:=aC (by rw[wK.out];omega);go_wp2_with fail;have eW:=hS.grow (Grow.refl _).drew;have eA:ec [.c y 40 #[J ek,J ag,J sh,J sq,J ep,Z A ds.length c,aX se,J from_,J tg],.c p.r 118 (iu p x.node x.nodes x.commit ((g:K)) true x.own)] w2.drew:=by have h:=eW.facts;exact⟨h.1,h.2.1,trivial⟩
  refine dJ rfl ?_;refine gi (ec [.c y 40 #[J ek,J ag,J sh,J sq,J ep,Z A ds.length c,aX se,J from_,J tg],.c p.r 118 (iu p x.node x.nodes x.commit ((g:K)) true x.own)]) 22 rfl ?_;refine fA 0 eA ?_;refine fA 1 eA ?_;refine fA 2 eA ?_;refine fA 3 eA ?_;refine dQ 4 rfl eA ?_;refine dQ 5 rfl eA ?_;refine dQ 6 rfl eA ?_;refine dQ 7 rfl eA ?_;refine dQ 8 rfl eA ?_;refine dQ 9 rfl eA ?_;refine dQ 10 rfl eA ?_;refine dQ 11 rfl eA ?_;refine dQ 12 rfl eA ?_;refine dQ 13 rfl eA ?_;refine dQ 14 rfl eA ?_;refine dQ 15 rfl eA ?_;refine dQ 16 rfl eA ?_;refine dQ 17 rfl eA ?_;refine dQ 18 rfl eA ?_;refine dQ 19 rfl eA ?_;refine fA 20 eA ?_;refine fA 21 eA ?_;refine eU ?_;go_wp2_with fail;have dV:=((mU eW (rk from_ tg 7 0) (λO U=>nD O U _ _ _ _)).dO 1 rfl).dO 1 rfl;go_ret;obtain⟨r1,r2⟩:=dV.fin;rw[T.out];refine⟨(_,[rk from_ tg 7 0]),⟨rfl,rfl⟩,?_,r2⟩;unfold dP;rw[hl,hv];exact r1
 have d1:decide ((q1.length:Int) >= 128)=false:=aD (by rw[wK.out];omega);go_wp2_with fail;have eW:=hS.grow (Grow.refl _).drew;have eA:ec [.c y 40 #[J ek,J ag,J sh,J sq,J ep,Z A ds.length c,aX se,J from_,J tg],.c p.r 118 (iu p x.node x.nodes x.commit ((g:K)) true x.own)] w2.drew:=by have h:=eW.facts;exact⟨h.1,h.2.1,trivial⟩
 refine dJ rfl ?_;refine gi (ec [.c y 40 #[J ek,J ag,J sh,J sq,J ep,Z A ds.length c,aX se,J from_,J tg],.c p.r 118 (iu p x.node x.nodes x.commit ((g:K)) true x.own)]) 22 rfl ?_;refine fA 0 eA ?_;refine fA 1 eA ?_;refine fA 2 eA ?_;refine fA 3 eA ?_;refine fA 4 eA ?_;refine fA 5 eA ?_;refine fA 6 eA ?_;refine fA 7 eA ?_;refine fA 8 eA ?_;refine fA 9 eA ?_;refine fA 10 eA ?_;refine fA 11 eA ?_;refine fA 13 eA ?_;refine fA 14 eA ?_;clear E hS;refine dY 12 rfl ?_;go_wp2_with fail;refine (eW.at_ 5 rfl (λ_=>fJ.framed _ _) (D:=λ_=>False) (λ_ h=>h.elim) (qQ w2.drew _ g v yW)).mono ?_;rintro en w3 ⟨_,rfl,dX⟩;go_wp2_with fail;have dX:St V w [.o (fT A1 q1),.c y 40 #[J ek,J ag,J sh,J sq,J ep,Z A ds.length c,aX se,J from_,J tg],.c p.r 118 (iu p x.node x.nodes x.commit ((g:K)) true x.own),.o (gR p.m x.m),.o (qP p.s p.x p.d x.s),.o (fJ g v)] w3:=dX;have gD:∀O,Grow w3 O->ec [.c y 40 #[J ek,J ag,J sh,J sq,J ep,Z A ds.length c,aX se,J from_,J tg],.c p.r 118 (iu p x.node x.nodes x.commit ((g:K)) true x.own)] O:=λO H=>by have h:=(dX.grow H).facts;exact⟨h.1,h.2.1,trivial⟩
 refine⟨gD _ (Grow.refl _),?_⟩;have he3:kP w3 D ⟨⟨ek,ag,sh,sq,ep,ds,se,from_,tg⟩,A,c⟩:=Js (x:=⟨⟨ek,ag,sh,sq,ep,ds,se,from_,tg⟩,A,c⟩) he λb hb=>dX.keep kV b hb;have Ot:=t7 w3 D ⟨⟨ek,ag,sh,sq,ep,ds,se,from_,tg⟩,A,c⟩ he3;unfold En.agg at Ot;dsimp only at Ot;refine dY 15 rfl ?_;go_wp2_with fail;refine Ot.mono ?_;rintro en w4 ⟨A3,rfl,Jd,Bi⟩;have eO:=(dX.join (yb.framed _) Bi (U:=New w3 w4) Jd (λb hb=>hb)).perm (List.Perm.swap _ _ _);clear Ot;go_wp2_with fail;refine⟨gD _ Bi,?_⟩;refine dY 16 rfl ?_;go_wp2_with fail;refine⟨gD _ (Bi.trans (fb w4 _)),?_⟩;refine dY 17 rfl ?_;refine H2 rfl (.tmp 39) (.tmp 42) rfl eO (by rw[wK.out];omega) 1 rfl rfl ?_;intro A5 c5 w5 C9 eF;refine wpList_nil ?_;have C9:ec [.c y 40 #[J ek,J ag,J sh,J sq,J ep,Z A ds.length c,aX se,J from_,J tg],.c p.r 118 (iu p x.node x.nodes x.commit ((g:K)) true x.own)] w5:=by have h:=eF.facts;exact⟨h.1,h.2.1,trivial⟩
 refine⟨C9,?_⟩;have Yj:(q1++[(⟨⟨ek,ag,sh,sq,ep,ds,se,from_,tg⟩,A3,ds.length⟩:El)]).map El.e=x.s.c.es++[⟨ek,ag,sh,sq,ep,ds,se,from_,tg⟩]:=by rw[bI,o3];rfl
 obtain⟨q5,Yu⟩:=az (q1++[(⟨⟨ek,ag,sh,sq,ep,ds,se,from_,tg⟩,A3,ds.length⟩:El)]);rw[<-Yu.out] at Yj eF;have hl5:Hid (q5.length=q1.length+1):=Q (by rw[Yu.out,bd,bv]);have a0l:q5.length<=128:=by rw[hl5.out,wK.out];omega
 have UQ:∀z∈q5,z.e∈x.s.c.es∨z.e=⟨ek,ag,sh,sq,ep,ds,se,from_,tg⟩:=λz hz=>by
  have h:z.e∈q5.map El.e:=List.mem_map.2 ⟨z,hz,rfl⟩;rw[Yj] at h;rcases List.mem_append.1 h with h|h
  ·exact .inl h
  ·exact .inr (List.mem_singleton.1 h)
 obtain⟨abg,Lz⟩:=az (if 0<=from_∧from_<8 then x.s.accept v.t (x.s.c.es++[(⟨ek,ag,sh,sq,ep,ds,se,from_,tg⟩:En)]) else none:Option Vs);have WW:dz W 121 #[.pointer (some ⟨p.s,0,none⟩),J v.t,Z A5 (q1.length+1) c5] w5 λen O=>∃_:Unit,en=b5 (aY abg.isSome)∧St V w [.o (fT A5 q5),.c y 40 #[J ek,J ag,J sh,J sq,J ep,Z A ds.length c,aX se,J from_,J tg],.c p.r 118 (iu p x.node x.nodes x.commit ((g:K)) true x.own),.o (gR p.m x.m),.o (qP p.s p.x p.d (abg.getD x.s)),.o (fJ g v)] O:=by
  by_cases qX:0<=from_∧from_<8
  ·have h:=Lz.out
   rw[aA qX,<-Yj] at h;rw[<-hl5.out,h];exact eF.atR 4 0 rfl rfl (λ_=>gG.framed _ _ _ _ _ _ _ _) (λU hU jR=>uK w5 U p.s p.x p.d x.s Fi v.t yW.t A5 c5 q5 hU jR (λz hz=>(UQ z hz).elim (λh=>Fi.c.es _ h) (λh=>by rw[h];exact (Cc gC from_).2 qX)) a0l)
  ·have h:=Lz.out
   rw[aB qX] at h;rw[<-hl5.out,h];exact eF.atR 4 0 rfl rfl (λ_=>gG.framed _ _ _ _ _ _ _ _) (λU hU jR=>GY w5 U p.s p.x p.d x.s v.t A5 c5 q5 hU jR (λz hz=>(UQ z hz).elim (λh=>WV (Fi.c.es _ h)) (λh=>by rw[h];exact Ej gC from_)) ⟨⟨⟨ek,ag,sh,sq,ep,ds,se,from_,tg⟩,A3,ds.length⟩,by rw[Yu.out];simp,λh=>qX ((Cc gC from_).1 h)⟩ a0l)
 refine dY 18 rfl ?_;go_wp2_with fail;refine WW.mono ?_;rintro en w6 ⟨_,rfl,eN⟩;clear WW gD;go_wp2_with fail;have kU:ec [.c y 40 #[J ek,J ag,J sh,J sq,J ep,Z A ds.length c,aX se,J from_,J tg],.c p.r 118 (iu p x.node x.nodes x.commit ((g:K)) true x.own)] w6:=by have h:=eN.facts;exact⟨h.1,h.2.1,trivial⟩
 refine⟨kU,?_⟩;have WX:R=a0k x from_ tg v abg:=by
  rw[HR.out,Lz.out];unfold Rp.ask;rw[hl,hv];simp only[];by_cases qX:0<=from_∧from_<8
  ·rw[aB ap,aA qX]
   cases x.s.accept v.t (x.s.c.es++[(⟨ek,ag,sh,sq,ep,ds,se,from_,tg⟩:En)])<;>simp only[a0k,hl,hv]
  ·rw[aA (.inr qX),aB qX]
   rfl
 clear HR HE;rcases abg with _|s
 ·replace WX:=Q WX
  simp only[Option.isSome_none];refine fL 19 kU ?_;refine fL 20 kU ?_;refine fL 21 kU ?_;refine eU ?_;clear kU C9 eA;have E:=eN.facts;simp only[ec,iu] at E;go_wp2_with fail;have fH:=((mU eN (rk from_ tg 7 0) (λO U=>nD O U _ _ _ _)).dO 1 rfl).dO 1 rfl;go_ret;obtain⟨r1,r2⟩:=fH.fin;rw[WX.out];refine⟨(_,[rk from_ tg 7 0]),⟨rfl,rfl⟩,?_,r2⟩;change dN (px (Bl.o (dS _ [rk from_ tg 7 0])::dP p g x)) _ _;unfold dP;rw[hl,hv];exact r1
 ·replace WX:=Q WX
  simp only[Option.isSome_some];refine fL 19 kU ?_;refine fL 20 kU ?_;refine fL 21 kU ?_;refine eU ?_;clear kU C9 eA;have E:=eN.facts;simp only[ec,iu] at E;go_wp2_with fail;clear E;obtain⟨X2,jS⟩:=aE ({ x with s:=s }:Rp);have WY:s.Ok:=by
   have h:=Lz.out;by_cases qX:0<=from_∧from_<8
   ·rw[aA qX] at h
    exact Vs.kp Fi yW.t (λz hz=>by
     rcases List.mem_append.1 hz with hz|hz
     ·exact Fi.c.es _ hz
     ·rw[List.mem_singleton.1 hz]
      exact (Cc gC from_).2 qX) h.symm
   ·rw[aB qX] at h
    cases h
  have lw:X2.Ok:=by rw[jS];exact Y.word WY _ _ (λ_=>⟨v,hv⟩)
  have rK:X2.v=some v:=by rw[jS];exact hv
  have fH:St V w (dP p g X2) w6:=by have h:=(eN.dO 0 rfl).dO 0 rfl;rw[jS];unfold dP;rw[hl,hv];exact h
  have gS:R=Rp.told X2 v:=by rw[WX.out,jS];rfl
  clear WX eN;replace jS:=Q jS;replace gS:=Q gS;have fD:=fH.grow (Grow.refl _).drew;have ja:=Ly (l:=[]) (by rw[bm];exact fD);refine dJ rfl ?_;refine gi (QE p X2.node) 15 rfl ?_;refine gw 0 ja ?_;refine gw 1 ja ?_;refine gw 2 ja ?_;refine gw 3 ja ?_;refine gw 4 ja ?_;refine gw 5 ja ?_;refine gw 6 ja ?_;refine gw 7 ja ?_;refine gw 8 ja ?_;refine gw 11 ja ?_;refine dY 9 rfl ?_;obtain⟨U2,Ff,_⟩:=fD.own.see 2 rfl;go_wp2_with fail;refine (tp w6.drew p.s p.x p.d _ _ _ _ _ U2 Ff).mono ?_;rintro en w7 ⟨rfl,rfl⟩;go_wp2_with fail;refine⟨ja,?_⟩;refine dY 10 rfl ?_;go_wp2_with fail;refine (St.call (a:=dP p g X2) (b:=[]) (a':=λj:K×List Sd => .o (dS j.1 j.2)::dP p g (X2.counted v X2.node X2.s.c.es.length).1) (by rw[bm];exact fD) (λ_=>⟨dS.framed _ _,eL _ _ _⟩) (λ_ h=>h.elim) (qj w6.drew p g X2 lw v rK X2.node lw.node.1 X2.s.c.es.length)).mono ?_;rintro en w8 ⟨⟨u1,o1⟩,⟨rfl,yQ⟩,gy⟩;rw[bm] at gy;have yS:=lw.counted rK X2.node X2.s.c.es.length;have U8:o1.length<=128:=by rw[<-bj (f:=Sd.fn)];exact (congrArg List.length yQ)▸nF X2 lw v X2.node X2.s.c.es.length
  obtain⟨X3,qn⟩:=aE (X2.counted v X2.node X2.s.c.es.length);have Ul:X3.1.node=X2.node:=by rw[qn];rfl
  rw[<-qn] at gy yS yQ;have iA:=gy.perm (bg (l₁:=[Bl.o (dS u1 o1)]) (l₂:=dP p g X3.1));go_wp2_with fail;refine⟨Ul▸Ly iA,?_⟩;refine dY 12 rfl ?_;go_wp2_with fail;refine (St.call (a:=dP p g X3.1) (b:=[.o (dS u1 o1)]) (a':=λj:K×List Sd => .o (dS j.1 j.2)::dP p g X3.1) iA (λ_=>⟨dS.framed _ _,eL _ _ _⟩) (λ_ h=>h.elim) (qi w8 p g X3.1 yS)).mono ?_;rintro en w9 ⟨⟨u2,o2⟩,⟨rfl,pN⟩,kQ⟩;have Be:o2.length<=8:=by rw[<-bj (f:=Sd.fn)];exact (congrArg List.length pN)▸nG X3.1 yS
  have ll:=kQ.perm (bg (l₁:=Bl.o (dS u2 o2)::dP p g X3.1) (l₂:=[Bl.o (dS u1 o1)]));go_wp2_with fail;refine⟨Ul▸Ly (l:=[.o (dS u1 o1),.o (dS u2 o2)]) (ll.perm (bg (l₁:=[Bl.o (dS u1 o1),Bl.o (dS u2 o2)]) (l₂:=dP p g X3.1))),?_⟩;refine dY 13 rfl ?_;refine xr AH pm po uH rfl (.tmp 65) (.tmp 67) rfl rfl rfl ll ap ?_;intro v5 UO nm;refine wpList_nil ?_;have iP:QE p X2.node UO:=Ul▸Ly (l:=[.o (dS v5 (o1++o2))]) (nm.perm (bg (l₁:=[Bl.o (dS v5 (o1++o2))]) (l₂:=dP p g X3.1)));refine⟨iP,?_⟩;refine fL 14 iP ?_;refine eU ?_;go_wp2;go_ret;obtain⟨r1,r2⟩:=nm.fin;have hT:Rp.told X2 v=(X3.1,X3.2++X3.1.accepts):=by rw[qn];rfl
  rw[gS.out,hT];exact⟨(v5,o1++o2),⟨rfl,by show eS (o1++o2)=X3.2++X3.1.accepts;rw[<-yQ,<-pN];exact bI⟩,r1,r2⟩
theorem tH(w:X)(p:pj)(g:Nat)(x:Rp):Lw W (λ_=>False) 58 #[.pointer (some ⟨p.r,0,none⟩)] (dP p g x) (λ(_:Unit)e=>e=b5 (a_ #[])) (λ_=>dP p g x.down) w:=by
 intro V hM hV;have hS:=St.begin_ hM (λb hb=>(hV b hb).1) (eL _ _ _);obtain⟨vp,hvp⟩:=aE (jH g x.v);unfold dP at hS;rw[<-hvp] at hS;have E:=hS.facts;simp only[ec,iu] at E;go_in;go_wp2_with (refine fv hS 0 rfl 4 _ _ rfl 6 rfl (aY false) rfl (bf rfl) rfl aw rfl ?_;clear hS E;intro w2 hS;refine stay ?_);refine dI ?_;go_wp2_with (refine fv hS 0 rfl 116 _ _ rfl 5 rfl (.pointer none) rfl (bf rfl) rfl aw rfl ?_;clear hS;intro w3 hS;refine stay ?_);refine dI ?_;go_wp2;go_end0;have dV:St V w (dP p g x.down++WM g x.v) w3:=hS;have dX:St V w (dP p g x.down) w3:=by
  cases hv:x.v with
  | none=>rw[hv] at dV;simpa [WM] using dV
  | some v=>rw[hv] at dV;exact dV.dO 3 rfl
 obtain⟨r1,r2⟩:=dX.fin;first|exact⟨(),rfl,r1,r2⟩|exact⟨rfl,r1,r2⟩
theorem Jt(w:X)(p:pj)(g:Nat)(x:Rp)(Y:x.Ok)(v:Vt)(hv:x.v=some v):Lw W (λ_=>False) 63 #[.pointer (some ⟨p.r,0,none⟩)] (dP p g x) (λ(j:K×List Sd)en=>en=b5 j.1∧eS j.2=(x.won v).2) (λj => .o (dS j.1 j.2)::dP p g (x.won v).1) w:=by
 obtain⟨R,HR⟩:=aE (x.won v);rw[<-HR];replace HR:=Q HR;intro V hM hV;obtain⟨yW,zf⟩:=Y.v v hv;have Fi:=Y.s;have hS:=St.begin_ hM (λb hb=>(hV b hb).1) (eL _ _ _);unfold dP at hS;rw[hv] at hS;have hS:St V w [.c p.r 118 (iu p x.node x.nodes x.commit ((g:K)) x.leads x.own),.o (gR p.m x.m),.o (qP p.s p.x p.d x.s),.o (fJ g v)] w:=hS;have E:=hS.facts;simp only[ec,iu] at E;go_in;go_wp2_with fail;have Ft:St V w ([.o (fJ g v)]++[.c p.r 118 (iu p x.node x.nodes x.commit ((g:K)) x.leads x.own),.o (gR p.m x.m),.o (qP p.s p.x p.d x.s)]) w:=hS.front 3 rfl;have hCB:=St.call (a:=[.o (fJ g v)]) (b:=[.c p.r 118 (iu p x.node x.nodes x.commit ((g:K)) x.leads x.own),.o (gR p.m x.m),.o (qP p.s p.x p.d x.s)]) (a':=λz:Option dA×Nat×List El=>[.o (fT z.1 z.2.2),.o (fJ g v)]) Ft (λ_=>⟨fT.framed _ _,fJ.framed _ _,trivial⟩) (D:=λ_=>False) (λ_ h=>h.elim) (Sx w _ g v yW);refine hCB.mono ?_;rintro en w1 ⟨⟨A1,c1,q1⟩,⟨rfl,o3,zn,zG⟩,ej⟩;have ej:St V w [.o (fT A1 q1),.o (fJ g v),.c p.r 118 (iu p x.node x.nodes x.commit ((g:K)) x.leads x.own),.o (gR p.m x.m),.o (qP p.s p.x p.d x.s)] w1:=ej;clear E hS;have E:=ej.facts;simp only[ec,iu] at E;have U8:q1.length<=128:=by rw[<-bj (f:=El.e),o3];exact yW.len
 go_wp2_with fail;have eW:=ej.grow (Grow.refl _).drew;have gD:∀{l:List Bl}{O:X},St V w (.o (fT A1 q1)::.o (fJ g v)::.c p.r 118 (iu p x.node x.nodes x.commit ((g:K)) x.leads x.own)::l) O->ec [.c p.r 118 (iu p x.node x.nodes x.commit ((g:K)) x.leads x.own)] O:=λh=>⟨h.facts.1,trivial⟩;have eA:=gD eW;refine dJ rfl ?_;refine gi (ec [.c p.r 118 (iu p x.node x.nodes x.commit ((g:K)) x.leads x.own)]) 12 rfl ?_;refine fA 0 eA ?_;refine fA 1 eA ?_;refine fA 2 eA ?_;refine fA 3 eA ?_;refine fA 4 eA ?_;refine fA 5 eA ?_;refine fA 6 eA ?_;refine fA 7 eA ?_;refine fA 9 eA ?_;refine dY 8 rfl ?_;go_wp2_with fail;refine (eW.at_ 1 rfl (λ_=>fJ.framed _ _) (D:=λ_=>False) (λ_ h=>h.elim) (qQ w1.drew _ g v yW)).mono ?_;rintro en w3 ⟨_,rfl,dX⟩;have dX:St V w [.o (fT A1 q1),.o (fJ g v),.c p.r 118 (iu p x.node x.nodes x.commit ((g:K)) x.leads x.own),.o (gR p.m x.m),.o (qP p.s p.x p.d x.s)] w3:=dX;go_wp2_with fail;refine⟨gD dX,?_⟩;have WW:=dX.atR 4 0 rfl rfl (λ_=>gG.framed _ _ _ _ _ _ _ _) (λU hU jR=>uK w3 U p.s p.x p.d x.s Fi v.t yW.t A1 c1 q1 hU jR (λz hz=>yW.best _ (by rw[<-o3];exact List.mem_map.2 ⟨z,hz,rfl⟩)) U8);rw[o3] at WW;have HR2:Hid (R=match x.s.accept v.t v.best with|none=>(x.down,[])|some s=>Rp.told { x with s:=s,leads:=true,own:=s.c.es.length } v):=HR;clear HR;obtain⟨abg,HY⟩:=az (x.s.accept v.t v.best);rw[<-HY.out] at WW HR2;refine dY 10 rfl ?_;go_wp2_with fail;refine WW.mono ?_;rintro en w6 ⟨_,rfl,eN⟩;clear WW;have eN:St V w [.o (fT A1 q1),.o (fJ g v),.c p.r 118 (iu p x.node x.nodes x.commit ((g:K)) x.leads x.own),.o (gR p.m x.m),.o (qP p.s p.x p.d (abg.getD x.s))] w6:=eN;go_wp2_with fail;have kU:=gD eN;refine⟨kU,?_⟩;clear eA E;rcases abg with _|s
 ·simp only[Option.isSome_none]
  refine fL 11 kU ?_;refine eU ?_;have fH:St V w (dP p g x) w6:=by unfold dP;rw[hv];exact (eN.dO 0 rfl).perm ((List.Perm.swap _ _ _).trans (List.Perm.cons _ ((List.Perm.swap _ _ _).trans (List.Perm.cons _ (List.Perm.swap _ _ _)))))
  clear gD kU;go_wp2_with fail;refine (St.call (a:=dP p g x) (b:=[]) (a':=λ_:Unit=>dP p g x.down) (by rw[bm];exact fH) (λ_=>eL _ _ _) (λ_ h=>h.elim) (tH w6 p g x)).mono ?_;rintro en w7 ⟨_,rfl,fD⟩;rw[bm] at fD;go_wp2;go_ret;have gy:=St.join fD (dS.framed (Z none 0 0) []) (Grow.refl _) (U:=λ_=>False) (h_.nil _ _) (λ_ h=>h.elim);obtain⟨r1,r2⟩:=gy.fin;rw[HR2.out];exact⟨(Z none 0 0,[]),⟨rfl,rfl⟩,r1,r2⟩
 ·simp only[Option.isSome_some]
  refine fL 11 kU ?_;refine eU ?_;have WY:s.Ok:=Vs.kp Fi yW.t yW.best HY.out.symm;clear gD kU;have E:=eN.facts;simp only[ec,iu] at E;obtain⟨U,hE,_⟩:=eN.own.see 4 rfl;have Me:=tp w6 p.s p.x p.d _ _ _ _ _ U hE;go_wp2_with fail;refine Me.mono ?_;rintro en w7 ⟨rfl,rfl⟩;clear Me hE;go_wp2_with (refine fv eN 2 rfl 4 _ _ rfl 6 rfl (aY true) rfl (bf rfl) rfl aw rfl ?_;clear eN E;intro w8 fH;refine stay ?_);refine dI ?_;go_wp2_with (refine fv fH 2 rfl 3 _ _ rfl 7 rfl (J s.c.es.length) rfl (bf rfl) rfl aw rfl ?_;clear fH;intro w9 fD;refine stay ?_);refine dI ?_;simp only[iu,bY,bz,bA] at fD;obtain⟨X2,jS⟩:=aE ({ x with s:=s,leads:=true,own:=s.c.es.length }:Rp);have lw:X2.Ok:=by rw[jS];exact Y.word WY _ _ (λ_=>⟨v,hv⟩)
  have rK:X2.v=some v:=by rw[jS];exact hv
  have fH:St V w (dP p g X2) w9:=by rw[jS];unfold dP;rw[hv];exact (fD.dO 0 rfl).perm ((List.Perm.swap _ _ _).trans (List.Perm.cons _ ((List.Perm.swap _ _ _).trans (List.Perm.cons _ (List.Perm.swap _ _ _)))))
  have gS:R=Rp.told X2 v:=by rw[HR2.out,jS]
  clear HR2 fD;replace jS:=Q jS;replace gS:=Q gS;have E:=fH.facts;go_wp2_with fail;clear E;have fD:=fH.grow (Grow.refl _).drew;have ja:=Ly (l:=[]) (by rw[bm];exact fD);refine dJ rfl ?_;refine gi (QE p X2.node) 15 rfl ?_;refine gw 0 ja ?_;refine gw 1 ja ?_;refine gw 2 ja ?_;refine gw 3 ja ?_;refine gw 4 ja ?_;refine gw 5 ja ?_;refine gw 6 ja ?_;refine gw 7 ja ?_;refine gw 8 ja ?_;refine gw 11 ja ?_;refine dY 9 rfl ?_;obtain⟨U2,Ff,_⟩:=fD.own.see 2 rfl;go_wp2_with fail;refine (tp w9.drew p.s p.x p.d _ _ _ _ _ U2 Ff).mono ?_;rintro en w7 ⟨rfl,rfl⟩;go_wp2_with fail;refine⟨ja,?_⟩;refine dY 10 rfl ?_;go_wp2_with fail;refine (St.call (a:=dP p g X2) (b:=[]) (a':=λj:K×List Sd => .o (dS j.1 j.2)::dP p g (X2.counted v X2.node X2.s.c.es.length).1) (by rw[bm];exact fD) (λ_=>⟨dS.framed _ _,eL _ _ _⟩) (λ_ h=>h.elim) (qj w9.drew p g X2 lw v rK X2.node lw.node.1 X2.s.c.es.length)).mono ?_;rintro en w8 ⟨⟨u1,o1⟩,⟨rfl,yQ⟩,gy⟩;rw[bm] at gy;have yS:=lw.counted rK X2.node X2.s.c.es.length;have U8:o1.length<=128:=by rw[<-bj (f:=Sd.fn)];exact (congrArg List.length yQ)▸nF X2 lw v X2.node X2.s.c.es.length
  obtain⟨X3,qn⟩:=aE (X2.counted v X2.node X2.s.c.es.length);have Ul:X3.1.node=X2.node:=by rw[qn];rfl
  rw[<-qn] at gy yS yQ;have iA:=gy.perm (bg (l₁:=[Bl.o (dS u1 o1)]) (l₂:=dP p g X3.1));go_wp2_with fail;refine⟨Ul▸Ly iA,?_⟩;refine dY 12 rfl ?_;go_wp2_with fail;refine (St.call (a:=dP p g X3.1) (b:=[.o (dS u1 o1)]) (a':=λj:K×List Sd => .o (dS j.1 j.2)::dP p g X3.1) iA (λ_=>⟨dS.framed _ _,eL _ _ _⟩) (λ_ h=>h.elim) (qi w8 p g X3.1 yS)).mono ?_;rintro en w9 ⟨⟨u2,o2⟩,⟨rfl,pN⟩,kQ⟩;have Be:o2.length<=8:=by rw[<-bj (f:=Sd.fn)];exact (congrArg List.length pN)▸nG X3.1 yS
  have ll:=kQ.perm (bg (l₁:=Bl.o (dS u2 o2)::dP p g X3.1) (l₂:=[Bl.o (dS u1 o1)]));go_wp2_with fail;refine⟨Ul▸Ly (l:=[.o (dS u1 o1),.o (dS u2 o2)]) (ll.perm (bg (l₁:=[Bl.o (dS u1 o1),Bl.o (dS u2 o2)]) (l₂:=dP p g X3.1))),?_⟩;refine dY 13 rfl ?_;refine xr AH pm po uH rfl (.tmp 44) (.tmp 46) rfl rfl rfl ll ap ?_;intro v5 UO nm;refine wpList_nil ?_;have iP:QE p X2.node UO:=Ul▸Ly (l:=[.o (dS v5 (o1++o2))]) (nm.perm (bg (l₁:=[Bl.o (dS v5 (o1++o2))]) (l₂:=dP p g X3.1)));refine⟨iP,?_⟩;refine fL 14 iP ?_;refine eU ?_;go_wp2;go_ret;obtain⟨r1,r2⟩:=nm.fin;have hT:Rp.told X2 v=(X3.1,X3.2++X3.1.accepts):=by rw[qn];rfl
  rw[gS.out,hT];exact⟨(v5,o1++o2),⟨rfl,by show eS (o1++o2)=X3.2++X3.1.accepts;rw[<-yQ,<-pN];exact bI⟩,r1,r2⟩
theorem Vs.lq{s s':Vs}(h:s.Ok){t:Nat}(ht:t<=9223372036854775807)(he:s.promise t=some s'):s'.Ok∧s'.c=⟨t,s.c.h,s.c.es⟩:=by
 unfold Vs.promise at he;split at he;·exact Vs.Ok.keep h ⟨ht,h.c.h,h.c.es,h.c.len⟩ he
 ·cases he
def Ek(from_:Int)(t h:Nat)(A:aU)(c:Nat)(q:List El):Sd:=⟨from_,i9 t h (q.map El.e),none,0,A,q,c⟩
theorem OS(w:X)(U:aV)(from_:Int)(t h:Nat)(A:aU)(c:Nat)(q:List El)(hq:jO w U A q)(E:q.length<=c∧c<=dG):Sd.In w U (Ek from_ t h A c q):=⟨(nD w U 0 0 0 0).e,hq,rfl,E⟩
theorem Em(from_:Int)(t h:Nat)(A:aU)(c:Nat)(q:List El):(Ek from_ t h A c q).cells.toArray=#[J from_,J 4,(),(),(),(),(),ay,"",(),(),(),(),ae ah 0,J t,J h,Z A q.length c,(),()]:=by unfold Ek Sd.cells Ms.cells i9;dsimp only;rw[bj];rfl
def a0m(x:Rp)(from_:Int)(t:Nat):Option Vs->Rp×Sends
 | none=>(x,[])
 | some s=>(({ x with s:=s }:Rp).down,[(from_,i9 t s.c.h s.c.es)])
theorem Eo(w:X)(p:pj)(g:Nat)(x:Rp)(Y:x.Ok)(from_:Int)(t:Nat)(ht:t<=9223372036854775807):Lw W (λ_=>False) 67 #[.pointer (some ⟨p.r,0,none⟩),J from_,J t] (dP p g x) (λ(j:K×List Sd)en=>en=b5 j.1∧eS j.2=(x.prepare from_ t).2) (λj => .o (dS j.1 j.2)::dP p g (x.prepare from_ t).1) w:=by
 obtain⟨R,HR⟩:=aE (x.prepare from_ t);rw[<-HR];intro V hM hV;have Fi:=Y.s;have hS:=St.begin_ hM (λb hb=>(hV b hb).1) (eL _ _ _);have E:=Ly (l:=[]) (by rw[bm];exact hS);obtain⟨kM,lV⟩:=E;obtain⟨abg,HY⟩:=az (x.s.promise t);replace HR:Hid (R=a0m x from_ t abg):=Q (by rw[HR,HY.out];unfold Rp.prepare;cases x.s.promise t<;>rfl);have hP:=hS.at_ 2 rfl (λ_=>gG.framed _ _ _ _ _ _ _ _) (D:=λ_=>False) (λ_ h=>h.elim) (yg w _ p.s p.x p.d x.s Fi t ht);rw[<-HY.out] at hP;go_in;go_wp2_with fail;refine hP.mono ?_;rintro en w1 ⟨_,rfl,ej⟩;clear hP kM lV hS;have ej:St V w (dP p g { x with s:=abg.getD x.s }) w1:=ej;rcases abg with _|s
 ·simp only[Option.isSome_none]
  go_wp2;go_ret;have gy:=St.join ej (dS.framed (Z none 0 0) []) (Grow.refl _) (U:=λ_=>False) (h_.nil _ _) (λ_ h=>h.elim);obtain⟨r1,r2⟩:=gy.fin;rw[HR.out];exact⟨(Z none 0 0,[]),⟨rfl,rfl⟩,r1,r2⟩
 ·simp only[Option.isSome_some]
  obtain⟨Qm,Y5⟩:=Vs.lq Fi ht HY.out.symm;have lw:Rp.Ok { x with s:=s }:=Y.word Qm _ _ Y.lv;obtain⟨X2,jS⟩:=aE ({ x with s:=s }:Rp);have ej:St V w (dP p g X2) w1:=by rw[jS];exact ej
  rw[<-jS] at lw;replace jS:=Q jS;go_wp2_with fail;refine (St.call (a:=dP p g X2) (b:=[]) (a':=λ_:Unit=>dP p g X2.down) (by rw[bm];exact ej) (λ_=>eL _ _ _) (λ_ h=>h.elim) (tH w1 p g X2)).mono ?_;rintro en w2 ⟨_,rfl,dV⟩;rw[bm] at dV;have E:=dV.facts;go_wp2_with fail;clear E;have dX:=dV.grow (Grow.refl _).drew;have ja:=Ly (l:=[]) (by rw[bm];exact dX);obtain⟨U,hE,_⟩:=dX.own.see 2 rfl;refine dJ rfl ?_;refine gi (QE p X2.down.node) 16 rfl ?_;refine gw 0 ja ?_;refine gw 1 ja ?_;refine gw 2 ja ?_;refine gw 3 ja ?_;refine gw 4 ja ?_;refine gw 5 ja ?_;refine gw 7 ja ?_;refine gw 8 ja ?_;refine gw 9 ja ?_;refine gw 10 ja ?_;refine dY 6 rfl ?_;go_wp2_with fail;refine (E3 w2.drew p.s p.x p.d _ _ _ _ _ U hE).mono ?_;rintro en w3 ⟨rfl,rfl⟩;go_wp2_with fail;refine⟨ja,?_⟩;refine dY 11 rfl ?_;go_wp2_with fail;refine (qd w2.drew p.s p.x p.d _ _ _ _ _ U hE (by have:=lw.s.c.len;show X2.s.c.es.length<=1048576;omega)).mono ?_;rintro en w3 ⟨u,rfl,⟨A1,c1,q1,rfl,Fg,o3,zn,zG⟩,-,eD⟩;have eO:=dX.join (fT.framed A1 q1) eD (U:=New w2.drew w3) Fg (λb hb=>hb);have iP:QE p X2.down.node w3:=Ly (l:=[]) (by rw[bm];exact dX.grow eD);go_wp2_with fail;refine⟨iP,?_⟩;refine gw 12 iP ?_;refine gw 13 iP ?_;refine dY 14 rfl ?_;go_wp2_with fail;have eF:=Lx eO (Ek from_ t X2.s.c.h A1 c1 q1) (λO U hU=>OS O U _ _ _ _ _ _ hU ⟨zn,zG⟩);rw[Em] at eF;have ip:∀O,Grow w3 O->QE p X2.down.node O:=λO H=>Ly (l:=[]) (by rw[bm];exact dX.grow (eD.trans H));have zd:=ip _ (fb w3 (.cells #[J from_,J 4,(),(),(),(),(),ay,"",(),(),(),(),ae ah 0,J t,J X2.s.c.h,Z A1 q1.length c1,(),()] 218));refine⟨zd,?_⟩;refine fL 15 zd ?_;refine eU ?_;go_wp2;go_ret;obtain⟨r1,r2⟩:=eF.fin;rw[HR.out];have e1:q1.map El.e=s.c.es:=by rw[o3];show X2.s.c.es=s.c.es;rw[jS.out]
  have e2:X2.s.c.h=s.c.h:=by rw[jS.out]
  refine⟨(_,[Ek from_ t X2.s.c.h A1 c1 q1]),⟨rfl,?_⟩,?_,r2⟩
  ·show [(from_,i9 t X2.s.c.h (q1.map El.e))]=[(from_,i9 t s.c.h s.c.es)]
   rw[e1,e2]
  ·rw[jS.out] at r1 ⊢
   exact r1
end Go.Proofs.YtpeepcmdehhbgaaGreatDoor
