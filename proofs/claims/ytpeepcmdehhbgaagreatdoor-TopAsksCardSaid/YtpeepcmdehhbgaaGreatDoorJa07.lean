import Derived.Test.YtpeepcmdehhbgaaGreatDoorJa06
import Derived.WalkMore
set_option linter.all false
set_option maxRecDepth 100000
set_option maxHeartbeats 2000000
open Go.Value renaming int->ae,slice->Z,string->aX,bool->aY,agg->aZ,tuple->a_
open Go.Ending renaming returned->b5
open Go.IntKind renaming i64->af,u64->ah
open Go.Proofs.Tryz renaming prog->W,underlying45->bG
open Go.Lib renaming hid->Q
open List renaming length_append->bd,perm_append_comm->bg,length_map->bj,append_nil->bm,length_take->bn,length_singleton->bv,set_cons_succ->bz,set_cons_zero->bA,length_cons->bD,take_of_length_le->bH,map_append->bI,flatMap_cons->bJ,flatMap_append->bL,length_drop->bO,map_cons->bQ,range->bV,setIfInBounds_toArray->bY,flatMap_nil->cE,map_nil->cQ,map_toArray->cV,length_filter_le->c_,replicate->cS
open Nat renaming le_of_ble_eq_true->bf,le_refl->bh,zero_le->bo,le_trans->bB,lt_of_lt_of_le->bw
open Bool renaming eq_false_or_eq_true->bC,and_eq_true->bU,false_ne_true->cB
open Go.Region renaming wanted->bN
open Go.Builtin renaming append_->cn
open Go renaming Value->K,World->X,Calls->dz,Addr->dA,TypeId->dC,Oper->dE,Act->dF,maxLen->dG
open Go (J az aE aA aB aC aD ay aj am ap aw aL aK aJ aI aH aV aU aT aR aQ aP aO aN)
section
open Go.Hop (Bl)
variable{w w0:X}{l:List Bl}{k j g:Nat}{A:aU}
namespace Go.Proofs.YtpeepcmdehhbgaaGreatDoor
open RowKit Hop V
theorem In.cut{V:aV}{size n c:Nat}{xs:List K}(h:In w V size A n xs)(N:k<=n)(E:n<=c):In w V size (if c=k then A else A.map (·.add (k*size))) (n-k) (xs.drop (k*size)):=by refine⟨by rw[bO,h.1,Nat.sub_mul],λhn=>?_⟩;obtain⟨ad,rfl,hV,hb,ia⟩:=h.2 ap;rw[aB ap];refine⟨ad.add (k*size),rfl,by rw[block_add];exact hV,by rw[block_add];exact hb,λj u hu=>?_⟩;rw[add_add];exact ia _ u (by rw[<-hu,List.getElem?_drop])
def Ag.kb(k:Nat):Nat->Ag->List Dl->Ag×List Int×Bool
 | 0,x,_=>(x,[],true)
 | f+1,x,l=>if l=[] then (x,[],true) else match x.kx k (l.take 8) with
   | none=>(x,[],false)
   | some y=>((y.kb k f (l.drop 8)).1,(y.b.qu k).k::(y.kb k f (l.drop 8)).2.1,(y.kb k f (l.drop 8)).2.2)
def Ag.jI(x:Ag)(k:Nat):List Dl:=pE (x.b.eP.filter λd=>decide (abn.lX d.1 x.b.sh=k))
def Ag.kg(x:Ag)(k:Nat):Ag×List Int×Bool:=x.kb k (x.jI k).length (x.jI k)
def Ag.ey:List Nat->Ag->Ag×List (Nat×Int)
 | [],x=>(x,[])
 | k::ks,x=>if (x.kg k).2.2=true then (((x.kg k).1.ey ks).1,(x.kg k).2.1.map (k,·)++((x.kg k).1.ey ks).2) else ((x.kg k).1,(x.kg k).2.1.map (k,·))
def Ag.cut(x:Ag):Ag×List (Nat×Int):=if (x.ey (bV x.b.sh)).2=[] then x.ey (bV x.b.sh) else ((x.ey (bV x.b.sh)).1.sync,(x.ey (bV x.b.sh)).2)
theorem Cb{b:Bk}{q:Qu}{P:Qu->Prop}(hq:P q)(hj:P (b.qu j)):P ((b.q.set k q).getD j .new):=by
 rw[List.getD_eq_getElem?_getD,List.getElem?_set];split
 ·rename_i h
  split;·exact hq
  ·rename_i G
   subst h;unfold Bk.qu at hj;rw[List.getD_eq_getElem?_getD,List.getElem?_eq_none ap] at hj;exact hj
 ·unfold Bk.qu at hj
  rw[List.getD_eq_getElem?_getD] at hj;exact hj
theorem AV{x y:Ag}{ds:List Dl}(h:x.kx k ds=some y):(x.b.qu k).l.length<16∧(x.b.qu k).k≠9223372036854775807∧x.i6 (x.pH k ds)=0∧y={ x with b:=x.b.add k ((x.b.qu k).k+1) ds,rs:=x.rs++[x.pH k ds] }:=by
 unfold Ag.kx at h;split at h;·cases h
 ·rename_i I
  cases h;simp only[not_or,Nat.not_le,ne_eq,Decidable.not_not] at I;exact⟨I.1,I.2.1,I.2.2,rfl⟩
theorem Ag.Ok.mr{x:Ag}(Y:x.Ok){r:Rc}(hr:x.i6 r=0):(rm (x.rs++[r])).length<=1048576:=by have h:=(mJ hr).2;rw[oD,bd];exact (oB.1 h).2
theorem uM(b:Bk)(k:Nat)(sq:Int)(ds:List Dl):(b.add k sq ds).sh=b.sh:=by unfold Bk.add;split<;>rfl
theorem AW(b:Bk)(k:Nat)(sq:Int)(ds:List Dl)(hs:0<=sq∧sq<=9223372036854775807)(h:∀j,0<=(b.qu j).k∧(b.qu j).k<=9223372036854775807)(j:Nat):0<=((b.add k sq ds).qu j).k∧((b.add k sq ds).qu j).k<=9223372036854775807:=by
 unfold Bk.add;split;·exact Cb (P:=λq=>0<=q.k∧q.k<=9223372036854775807) hs (h j)
 ·exact h j
theorem Ag.Ok.kx{x y:Ag}(Y:x.Ok){k:Nat}(N:k<4){ds:List Dl}(tS:ds.length<=8)(hf:∀d∈ds,jh d)(h:x.kx k ds=some y):y.Ok∧y.node=x.node∧y.b.sh=x.b.sh:=by
 obtain⟨_,G,L,rfl⟩:=AV h;have hq:=Y.qk k;refine⟨⟨Y.node,Y.eX,Y.last,?_,?_,Y.mr L,λr hr=>?_,λj=>AW _ _ _ _ ap Y.qk j⟩,rfl,uM _ _ _ _⟩
 ·show (x.b.add k ((x.b.qu k).k+1) ds).Lm (x.rs++[x.pH k ds]).length
  rw[bd,bv];exact Y.b.add k _ ds
 ·show 1<=(x.b.add k ((x.b.qu k).k+1) ds).sh∧(x.b.add k ((x.b.qu k).k+1) ds).sh<=4
  rw[uM];exact Y.sh
 ·rcases List.mem_append.1 hr with hr|hr
  ·exact Y.rs r hr
  ·rw[List.mem_singleton.1 hr]
   exact⟨N,by omega,tS,hf⟩
theorem Lu{l:List Dl}{d:Dl}(h:∀x∈l,jh x)(hd:jh d):∀x∈lL l d,jh x:=by
 induction l with
 | nil=>intro x Y;simp[lL] at Y;subst Y;exact hd
 | cons y l ih=>
   intro x Y;unfold lL at Y;have hy:=h y (by simp);split at Y
   ·rcases List.mem_cons.1 Y with rfl|Y
    ·obtain⟨I,G,L⟩:=hy
     have F6:0<d.2:=by have:=hd.1;simp[gZ] at this;exact this.2
     simp only[gZ,bU,decide_eq_true_eq] at I;exact⟨by simp only[gZ,bU,decide_eq_true_eq];exact⟨I.1,by omega⟩,G,by show min _ _<_;omega⟩
    ·exact h x (by simp[Y])
   ·rcases List.mem_cons.1 Y with rfl|Y
    ·exact hy
    ·exact ih (λz hz=>h z (by simp[hz])) x Y
theorem H1{q:List Dl}(h:∀x∈q,jh x):∀x∈pE q,jh x:=by
 have main:∀(q r:List Dl),(∀x∈q,jh x)->(∀x∈r,jh x)->∀x∈q.foldl lL r,jh x:=by
  intro q;induction q with
  | nil=>intro r _ hr;exact hr
  | cons d q ih=>intro r hq hr;exact ih _ (λx Y=>hq x (by simp[Y])) (Lu hr (hq d (by simp)))
 exact main q [] h (λ_ h=>absurd h (by simp))
theorem Lv(q:List Dl):(pE q).length<=q.length:=by
 have main:∀(q r:List Dl),(q.foldl lL r).length<=r.length+q.length:=by
  intro q;induction q with
  | nil=>intro r;simp
  | cons d q ih=>intro r;have:=ih (lL r d);have:=Oc r d;simp;omega
 have h:=main q [];unfold pE;simpa using h
theorem Ag.Ok.shard{x:Ag}(Y:x.Ok)(k:Nat):(x.jI k).length<=32∧∀d∈x.jI k,jh d:=by refine⟨?_,H1 λd hd=>Y.b.fine d (List.mem_filter.1 hd).1⟩;have I:=Lv (x.b.eP.filter λd=>decide (abn.lX d.1 x.b.sh=k));have G:(x.b.eP.filter λd=>decide (abn.lX d.1 x.b.sh=k)).length<=x.b.eP.length:=c_ _ _;have:=Y.b.eP;unfold Ag.jI;omega
theorem _root_.Go.Hop.St.OQ{κ:Type}[DecidableEq κ]{ke:κ->K}{V:aV}(h:St V w0 l w):∃b wa,Hid (b=(w:Nat))∧Hid (wa=w.alloc (.map #[] 0))∧St V w0 (.o (eI ke b [])::l) wa:=⟨_,_,rfl,rfl,h.join (eI.framed _ _) (fb _ _) (eI.made w) (λb hb=>by rw[show b=(w:Nat) from hb];exact⟨bh _,by simp⟩)⟩
def tG(rs:List Rc):Bk:=rs.foldl Bk.take Bk.new
def Ag.new(node eX:Nat)(rs:List Rc)(n:Nat):Ag:=⟨node,eX,{ tG rs with ep:=(n:Int) },0,n*4294967296,0,[],[],rs++[.ep n],(rm (rs++[.ep n])).length⟩
theorem Jr:∀(rs:List Rc)(b:Bk)(n:Nat),b.Lm n->(∀r∈rs,r.Ok)->(rs.foldl Bk.take b).Lm (n+rs.length)
 | [],_,_,h,_=>h
 | r::rs,b,n,h,hr=>by
   have G:=Jr rs (b.take r) (n+1) (h.take (hr r (by simp))) (λx Y=>hr x (by simp[Y]));rw[bD,List.foldl_cons,show n+(rs.length+1)=n+1+rs.length by omega];exact G
theorem OR{l:aT}{rs:List Rc}(hs:l8 l (rs.map Rc.B) j):l.take j=rm rs∧j=(rm rs).length:=by
 have h0:rm rs=(rs.map Rc.B).flatMap frame:=by rw[List.flatMap_map];rfl
 have I:=hs.1;have G:=hs.2.1;rw[<-h0] at I G;refine⟨?_,G⟩;conv=>lhs;rw[<-I]
 rw[G,List.take_left' rfl]
theorem WU(w:X)(D:aV)(d k node eX n:Nat)(l:aT)(rs:List Rc)(j:Nat)(hs:l8 l (rs.map Rc.B) j)(gC:∀r∈rs,r.Ok)(pJ:node<8)(hrp:1<=eX∧eX<=8)(hn:(tG rs).ep+1=(n:Int))(Ya:n<=1073741824)(hrm:V.i6 (rm rs) (Rc.ep n).B=0):Lw W D 144 #[J node,J eX,d] [.o (jK d l k)] (λ(p:vE)e=>p.d=d∧e=b5 (.pointer (some ⟨p.a,0,none⟩))) (λp=>dR p (Ag.new node eX rs n)) w:=by
 intro V hM hV;have hS:=St.begin_ hM (λb hb=>(hV b hb).1) ⟨jK.framed _ _ _,trivial⟩;obtain⟨U0,hU0,_⟩:=hS.own.see 0 rfl;have wu:l.length<=1048576:=(show g9 120 d l k w U0 from hU0).2.2.1;have d1:decide ((node:Int)<0)=false:=aD ap;have d2:decide ((8:Int)<=(node:Int))=false:=aD ap;have d3:decide ((eX:Int)<1)=false:=aD ap;have d4:decide ((8:Int)<(eX:Int))=false:=aD ap;have QK:=@run_makeMap W;go_in;go_wp2_with fail;refine (St.call (a:=[.o (jK d l k)]) (b:=[]) (hS.cast (by simp)) (a':=λ(i:OpI)=>[.o (eC i.x d (i.xs.length:Int) (l.take i.j) i.j),.o (CL i.u i.xs)]) (λi=>⟨eC.framed _ _ _ _ _,CL.framed _ _,trivial⟩) hS.no (OM w _ d k l)).mono ?_;rintro e w1 ⟨⟨x,u,xs,j'⟩,⟨vQ,rfl⟩,ej⟩;dsimp only at vQ ej;obtain⟨rfl,rfl⟩:=vQ.one hs;obtain⟨hl,Ix⟩:=OR hs;rw[hl,bj,Ix] at ej;go_wp2_with fail;refine (Sj w1).mono ?_;rintro e w2 ⟨st,z,rfl,hBo,fk⟩;have dV:=ej.join (iq.framed st z Bk.new) fk hBo (λb hb=>hb);obtain⟨bT,wa,HbT,HA,dX⟩:=dV.OQ (κ:=lp) (ke:=iK);obtain⟨bK,wb,HbK,HB,eO⟩:=dX.OQ (κ:=Int) (ke:=o0);have z1:(w2.alloc (.map #[] 0)).heap.size=(w2:Nat)+1:=by simp
 have z2:(wa.alloc (.map #[] 0)).heap.size=(wa:Nat)+1:=by simp
 rw[<-HA.out] at z1;rw[<-HB.out] at z2;have eK:bK=bT+1:=by rw[HbK.out,z1,<-HbT.out]
 obtain⟨a,wc,Ha,HC,eF⟩:=eO.new' #[J node,J eX,x,st,(),(),(),.map (some bT),.map (some bK)] 192;have ea:a=bK+1:=by rw[Ha.out,z2,z1,eK,HbT.out]
 go_wp2_with fail;rw[<-HA.out,<-HB.out,<-HbT.out,<-eK,<-HC.out,<-ea];have a0f:5*rs.length<=(rm rs).length:=Ca rs;have hjl2:(rm rs).length<=l.length:=by rw[<-hl,bn];omega
 clear eK ea z1 z2 HA HB HC HbT HbK Ha ej dV dX eO hBo QK hl hs vQ;replace eF:St V w [.c a 192 #[J node,J eX,x,st,(),(),(),.map (some bT),.map (some bK)],.o (eI o0 bK []),.o (eI iK bT []),.o (iq st z Bk.new),.o (eC x d (rs.length:Int) (rm rs) (rm rs).length),.o (CL u (rs.map Rc.B))] wc:=eF;obtain⟨U1,jV,_⟩:=eF.own.see 5 rfl;obtain⟨A1,c1,q1,rfl,_⟩:=jV;refine (eF.Fo 3 rfl (S':=λ(_:Unit)=>iq st z (tG rs)) (C:=λ_ e=>e=b5 (a_ #[])) (λ_=>iq.framed _ _ _) eF.no (λU hU jR=>by obtain⟨U',hX,hs⟩:=nV hU 4 rfl;obtain⟨A',c',q',e1,hB,kZ,_,_⟩:=hX;rw[e1];exact Si wc _ st z Bk.new rs gC 0 ⟨bo _,λ_ h=>absurd h (by simp[Bk.new]),bh _⟩ ap A' q' c' (hB.mono (λb hb => .inl (hs b hb)) (λb hb => .inl (hs b hb))) kZ (λb hb=>hb.elim (jR b) False.elim))).mono ?_
 rintro e w3 ⟨_,rfl,eN⟩;obtain⟨hz,sl,cu,fH⟩:=iq.nH eN 3 rfl;replace fH:St V w ([.c a 192 #[J node,J eX,x,st,(),(),(),.map (some bT),.map (some bK)],.o (eI o0 bK []),.o (eI iK bT []),.o (eC x d (rs.length:Int) (rm rs) (rm rs).length),.o (CL (Z A1 q1.length c1) (rs.map Rc.B))]++gQ st z sl cu (tG rs)) w3:=fH;clear eN eF;have f1:w3.cell? ⟨a,3,none⟩=some ((st:K)):=fH.facts.1.1 3;have f2:w3.cell? ⟨st,0,none⟩=some (J (tG rs).ep):=(fH.front 5 rfl).facts.1.1 0;have hwn:IntKind.i64.wrap ((tG rs).ep+1)=(n:Int):=by rw[hn,IntKind.wrap_i64];omega
 go_wp2_with (refine fv fH 5 rfl 2 _ _ rfl 0 rfl (J n) rfl (bf rfl) rfl aw rfl ?_;intro w4 fD;refine stay ?_);refine dI ?_;replace fD:St V w ([.c a 192 #[J node,J eX,x,st,(),(),(),.map (some bT),.map (some bK)],.o (eI o0 bK []),.o (eI iK bT []),.o (eC x d (rs.length:Int) (rm rs) (rm rs).length),.o (CL (Z A1 q1.length c1) (rs.map Rc.B))]++gQ st z sl cu { tG rs with ep:=(n:Int) }) w4:=fD;clear f1 f2 fH;have f1:w4.cell? ⟨a,3,none⟩=some ((st:K)):=fD.facts.1.1 3;have f2:w4.cell? ⟨st,0,none⟩=some (J n):=(fD.front 5 rfl).facts.1.1 0;have dn:decide ((1073741824:Int)<(n:Int))=false:=aD ap;have hBE:=Gw w4 n ap;go_wp2_with fail;refine hBE.mono ?_;rintro e w5 ⟨v,rfl,ng,hI⟩;have gy:=fD.grow ng;clear f1 f2 hBE fD;obtain⟨Au,mu,cu',rfl,ON⟩:=id hI;go_wp2_with fail;refine (gy.Fo 3 rfl (λ_=>Ei _ _ _ _ _ _ _) gy.no (λU _ _=>OO w5 _ x d rs.length (rm rs).length (rm rs) (iJ 1 [n]) _ hI ap)).mono ?_;rintro e w6 ⟨_,rfl,iA⟩;rw[show i6 (rm rs) (iJ 1 [n])=0 from hrm];replace iA:St V w ([.c a 192 #[J node,J eX,x,st,(),(),(),.map (some bT),.map (some bK)],.o (eI o0 bK []),.o (eI iK bT []),.o (eC x d ((rs++[Rc.ep n]).length:Nat) (rm (rs++[Rc.ep n])) (rm (rs++[Rc.ep n])).length),.o (CL (Z A1 q1.length c1) (rs.map Rc.B))]++gQ st z sl cu { tG rs with ep:=(n:Int) }) w6:=by have:=iA;unfold G_ at this;rw[aA (show i6 (rm rs) (iJ 1 [n])=0 from hrm)] at this;rw[oD,bd,bv];exact this
 clear gy hI ON;have f1:w6.cell? ⟨a,3,none⟩=some ((st:K)):=iA.facts.1.1 3;have f2:w6.cell? ⟨st,0,none⟩=some (J n):=(iA.front 5 rfl).facts.1.1 0;go_wp2_with (refine fv iA 0 rfl 2 (.tmp 88) (.tmp 86) rfl 5 rfl (J ((n*4294967296:Nat):Int)) (congrArg (Value.int .i64) (show (n:Int)*4294967296=_ by omega)) (bf rfl) rfl aw rfl ?_;intro w7 kQ;refine stay ?_);refine dI ?_;go_wp2;go_ret;have ll:=kQ.dO 4 rfl;replace ll:St V w ([.c a 192 #[J node,J eX,x,st,(),J ((n*4294967296:Nat):Int),(),.map (some bT),.map (some bK)],.o (eI o0 bK []),.o (eI iK bT []),.o (eC x d ((rs++[Rc.ep n]).length:Nat) (rm (rs++[Rc.ep n])) (rm (rs++[Rc.ep n])).length)]++gQ st z sl cu { tG rs with ep:=(n:Int) }) w7:=ll;have nm:=iq.yl (b:={ tG rs with ep:=(n:Int) }) hz ll;have C6:St V w (dR ⟨a,st,x,d,bT,bK,z⟩ (Ag.new node eX rs n)) w7:=nm.perm (by unfold dR qm Ag.new;refine (List.Perm.swap _ _ _).trans (.cons _ (.cons _ ?_));exact bg (l₁:=[_,_]) (l₂:=[_]))
 obtain⟨r1,r2⟩:=C6.fin;exact⟨⟨a,st,x,d,bT,bK,z⟩,⟨rfl,rfl⟩,r1,r2⟩
def Sy(A:aU)(n:Nat)(xs:List K):dW:=λw V=>In w V 9 A n xs
theorem Sy.framed(A:aU)(n:Nat)(xs:List K):eu (Sy A n xs):=λ_ _ _ h N=>In.keep h λb hb _=>N b hb
section
variable{V:aV}{q:List El}{x:El}
theorem Sz(h:St V w0 (.o (fT A q)::.o (yb x)::l) w)(hn:q.length<=1000)(ty:dC)(c:Nat):∃A' c' O,(cn #[43,43] ty #[Z A q.length q.length,Z (some ⟨(w:Nat),0,none⟩) 1 c]).run W (w.alloc (.cells x.cells.toArray 40))=.ok (Z A' (q.length+1) c') O∧(q.length+1<=c'∧c'<=dG)∧St V w0 (.o (fT A' (q++[x]))::l) O:=by
 have fu:Grow w (w.alloc (.cells x.cells.toArray 40)):=fb w _;have I:=h.grow fu;obtain⟨U,hE,_⟩:=I.own.see 0 rfl;have hE:jO _ U A q:=hE;have rx:Reads (w.alloc (.cells x.cells.toArray 40)) ((w:Nat)+1) 9 (some ⟨(w:Nat),0,none⟩) 1 x.cells:=by have:=fF w x.cells.toArray 40 (0,0) (n:=1) (size:=9) (by simp[pf]) _ rfl;simpa using this
 obtain⟨v',O,eR,H,hO⟩:=uA Gs (w.alloc (.cells x.cells.toArray 40)) ty hE.1.reads (c:=c) am rx (Gq x) ap;obtain⟨A',c',rfl,hI,kM,lV⟩:=hO.jL;refine⟨A',c',O,eR,⟨kM,lV⟩,?_⟩;have G:=I.join (Sy.framed A' (q.length+1) _) H (U:=New (w.alloc (.cells x.cells.toArray 40)) O) hI (λb hb=>hb);refine St.cls (a:=[.o (Sy A' (q.length+1) _),.o (fT A q),.o (yb x)]) G (fT.framed _ _) λU hM=>?_;obtain⟨U1,U2,hA,⟨U3,U4,hB,⟨U5,U6,hC,_,n1,_,_⟩,m1,m2,_⟩,k1,k2,_⟩:=hM;refine⟨?_,λy hy=>?_⟩
 ·rw[bd,bL,bJ,cE,bm]
  exact In.mono hA k1
 ·rcases List.mem_append.1 hy with hy|hy
  ·exact jg _ _ _ _ (hB.2 y hy) λb hb=>k2 b (m1 b hb)
  ·rw[List.mem_singleton.1 hy]
   exact jg _ _ _ _ hC λb hb=>k2 b (m2 b (n1 b hb))
theorem H2{ops:Array dE}{rest:List dE}{o:dE}{a:dF}{abo:Exit->dF->X->Prop}(hw:bN o (yielded ops a.tmps)=true)(s y:Operand)
 (ho:o.op=.call { callee := .builtin .append,args:=#[s,y],argTypes:=#[43,43] }) (h:St V w0 (.o (fT A q)::.o (yb x)::l) w) (hn:q.length<=1000) (c:Nat) (hs:a.eval s=Z A q.length q.length) (hy:a.eval y=Z (some ⟨(w:Nat),0,none⟩) 1 c)
 (N:∀A' c' O,(q.length+1<=c'∧c'<=dG)->St V w0 (.o (fT A' (q++[x]))::l) O->wpList W ops abo rest (a.put o.dst (Z A' (q.length+1) c')) O):wpList W ops abo (o::rest) a (w.alloc (.cells x.cells.toArray 40)):=by obtain⟨A',c',O,eR,I,G⟩:=Sz h hn o.type c;unfold wpList;rw[aA hw];refine .inl ?_;unfold Oper.wp execOp;simp only[ho,resolve,invoke,builtin,Sem.run_bind,Sem.run_pure,Result.andThen_ok,cV,bQ,cQ,hs,hy,eR];exact N A' c' O I G
end
section
variable{V:aV}
theorem AX{e size:Nat}{cs:aP}(h:eJ w g e cs)(E:cs.size=size):Own w (λb=>b=g) e size (Z (some ⟨g,0,none⟩) 1 1) 1 cs.toList:=⟨by simp[E],.inr ⟨g,1,cs,rfl,rfl,h,bh _,by unfold dG;omega,.inl ap,by rw[bH (by simp[E])]⟩⟩
theorem Lx{S:dW}(h:St V w0 (.o S::l) w)(b:Sd)(hb:∀O U,S O U->Sd.In O U b):St V w0 (.o (dS (Z (some ⟨(w:Nat),0,none⟩) 1 1) [b])::l) (w.alloc (.cells b.cells.toArray 218)):=by
 refine St.cls (a:=[.c (w:Nat) 218 b.cells.toArray,.o S]) (h.new _ _) (dS.framed _ _) λU hM=>?_;obtain⟨U1,U2,hA,⟨U3,U4,hB,_,m1,_,_⟩,k1,k2,k3⟩:=hM;have hB':eJ (w.alloc (.cells b.cells.toArray 218)) (w:Nat) 218 b.cells.toArray:=hA.2;refine⟨λb=>b=(w:Nat),U3,?_,λy hy=>?_,λy hy=>?_,λy hy=>k2 y (m1 y hy)⟩
 ·have:=AX (size:=19) hB' (by simp[xY])
  simpa using this
 ·rw[List.mem_singleton.1 hy];exact hb _ _ hB
 ·rw[hy];exact⟨k1 _ hA.1,λh=>k3 _ hA.1 (m1 _ h)⟩
theorem mU(h:St V w0 l w)(b:Sd)(hb:∀O U,Sd.In O U b):St V w0 (.o (dS (Z (some ⟨(w:Nat),0,none⟩) 1 1) [b])::l) (w.alloc (.cells b.cells.toArray 218)):=by
 refine St.cls (a:=[.c (w:Nat) 218 b.cells.toArray]) (h.new _ _) (dS.framed _ _) λU hM=>?_;obtain⟨U1,U2,hA,_,k1,k2,k3⟩:=hM;have hB':eJ (w.alloc (.cells b.cells.toArray 218)) (w:Nat) 218 b.cells.toArray:=hA.2;refine⟨λb=>b=(w:Nat),λ_=>False,?_,λy hy=>?_,λy hy=>?_,λy hy=>hy.elim⟩
 ·have:=AX (size:=19) hB' (by simp[xY])
  simpa using this
 ·rw[List.mem_singleton.1 hy];exact hb _ _
 ·rw[hy];exact⟨k1 _ hA.1,λh=>h⟩
end
theorem Js{O:X}{D:aV}{x:El}(h:kP w D x)(N:∀b,D b->O.heap[b]?=w.heap[b]?):kP O D x:=yb.framed x w O D h N
theorem Cc{e:En}(h:e.Ok)(f:Int):En.Ok { e with fr:=f }↔0<=f∧f<8:=⟨λk=>k.1.1,λk=>⟨⟨k,h.1.2⟩,h.2⟩⟩
theorem Ej{e:En}(h:e.Ok)(f:Int):En.Rt { e with fr:=f }:=by
 rcases h.2 with G|G
 ·exact⟨G.2.2.2.2.1.2,G.2.2.2.2.2.1.2,h.1.2.2,λd hd=>⟨(G.2.2.2.2.2.2.2 d hd).2.1,bB (G.2.2.2.2.2.2.2 d hd).2.2.2 am⟩,by show e.se.size<=1000000;rw[G.2.1];decide,bB G.2.2.2.2.2.2.1.2 am⟩
 ·exact⟨by show e.sq<=9223372036854775807;rw[G.2.2.2.1];decide,by show e.ep<=9223372036854775807;rw[G.2.2.2.2.1];decide,h.1.2.2,λd hd=>(by have Iv:d∈e.ds:=hd;rw[G.2.2.2.2.2.1] at Iv;cases Iv),bB G.2.2.2.2.2.2.2 am,(by show e.ds.length<=1048576;rw[G.2.2.2.2.2.1];decide)⟩
theorem WV{e:En}(h:e.Ok):e.Rt:=Ej h e.fr
def a0k(x:Rp)(from_ tg:Int)(v:Vt):Option Vs->Rp×Sends
 | none=>(x,[(from_,fx tg 7 0)])
 | some s=>Rp.told { x with s:=s } v
def QE(p:pj)(node:Nat)(w:X):Prop:=w.cell? ⟨p.r,0,none⟩=some (J node)∧w.cell? ⟨p.r,2,none⟩=some (.pointer (some ⟨p.s,0,none⟩))
theorem Ly{V:aV}{p:pj}{z:Rp}(h:St V w0 (dP p g z++l) w):QE p z.node w:=⟨h.facts.1.1 0,h.facts.1.1 2⟩
theorem SB(w:X)(D:aV)(p:pj)(g:Nat)(x:Rp)(Y:x.Ok)(from_:Int)(e:En)(A:aU)(c:Nat)(he:kP w D ⟨e,A,c⟩)(gC:e.Ok)(j6:∀b,D b->b<(w:Nat)):Lw W D 66 #[.pointer (some ⟨p.r,0,none⟩),J from_,aZ (e.agg A c)] (dP p g x) (λ(j:K×List Sd)en=>en=b5 j.1∧eS j.2=(x.ask from_ e).2) (λj => .o (dS j.1 j.2)::dP p g (x.ask from_ e).1) w:=by
 obtain⟨R,HR⟩:=aE (x.ask from_ e);rw[<-HR];replace HR:=Q HR;intro V hM hV;have kV:∀x,D x->x<(w:Nat)∧¬ V x:=λx Y=>⟨j6 x Y,λh=>(hV x h).2 Y⟩;have hS:=St.begin_ hM (λb hb=>(hV b hb).1) (eL _ _ _);have hen:x.s.c.es.length<=128:=Y.s.c.len;have Fi:=Y.s;obtain⟨abl,HE⟩:=az e;obtain⟨ek,ag,sh,sq,ep,ds,se,fr,tg⟩:=e;unfold En.agg;dsimp only;unfold dP at hS;have E:=(hS.new #[J ek,J ag,J sh,J sq,J ep,Z A ds.length c,aX se,J fr,J tg] 40).facts;simp only[ec,iu] at E;obtain⟨y,wa,HY,HA,hS⟩:=hS.new' #[J ek,J ag,J sh,J sq,J ep,Z A ds.length c,aX se,J fr,J tg] 40;go_in;go_wp2_with fail;rw[<-HA.out,<-HY.out];obtain⟨U,hE,_⟩:=hS.own.see 3 rfl;refine (qd wa p.s p.x p.d _ _ _ _ _ U hE ap).mono ?_;rintro en w1 ⟨u,rfl,⟨A1,c1,q1,rfl,Fg,o3,zn,zG⟩,⟨ZU,Z3⟩,eD⟩;have wK:q1.length=x.s.c.es.length:=by rw[<-o3,bj]
 obtain rfl:c1=q1.length:=by injection Z3 with _ I G;omega
 clear Z3 hE E;have hS:=hS.join (fT.framed A1 q1) eD (U:=New wa w1) Fg (λb hb=>hb);have E:=hS.facts;simp only[ec,iu] at E;replace wK:=Q wK;go_wp2_with (refine fv hS 1 rfl 3 _ _ rfl 7 rfl (J from_) rfl (bf rfl) rfl aw rfl ?_;clear hS E;intro w2 hS;refine stay ?_);refine dI ?_;simp only[bY,bz,bA] at hS;have E:=hS.facts;simp only[ec,iu] at E;rcases bC x.leads with hl|hl
 case inr=>
  have T:R=(x,[(from_,fx tg 6 0)]):=by rw[HR.out];unfold Rp.ask;rw[hl]
  clear HR;replace T:=Q T;rw[hl] at E hS;go_wp2_with fail;have dV:=((mU hS (rk from_ tg 6 0) (λO U=>nD O U _ _ _ _)).dO 1 rfl).dO 1 rfl;go_ret;obtain⟨r1,r2⟩:=dV.fin;rw[T.out];refine⟨(_,[rk from_ tg 6 0]),⟨rfl,rfl⟩,?_,r2⟩;unfold dP;rw[hl];exact r1
 obtain⟨v,hv⟩:=Y.lv hl;obtain⟨yW,zf⟩:=Y.v v hv;rw[hl,hv] at E hS;simp only[jH] at E;by_cases a6t:128<=x.s.c.es.length
 ·have T:R=(x,[(from_,fx tg 7 0)]):=by rw[HR.out];unfold Rp.ask;rw[hl,hv];simp only[];rw[aA (.inl a6t)]
  clear HR;replace T:=Q T;have d1:decide ((q1.length:Int) >= 128)=true:=aC (by rw[wK.out];omega);go_wp2_with fail;have eW:=hS.grow (Grow.refl _).drew;have eA:ec [.c y 40 #[J ek,J ag,J sh,J sq,J ep,Z A ds.length c,aX se,J from_,J tg],.c p.r 118 (iu p x.node x.nodes x.commit ((g:K)) true x.own)] w2.drew:=by have h:=eW.facts;exact⟨h.1,h.2.1,trivial⟩
  refine dJ rfl ?_;refine gi (ec [.c y 40 #[J ek,J ag,J sh,J sq,J ep,Z A ds.length c,aX se,J from_,J tg],.c p.r 118 (iu p x.node x.nodes x.commit ((g:K)) true x.own)]) 22 rfl ?_;refine fA 0 eA ?_;refine fA 1 eA ?_;refine fA 2 eA ?_;refine fA 3 eA ?_;refine dQ 4 rfl eA ?_;refine dQ 5 rfl eA ?_;refine dQ 6 rfl eA ?_;refine dQ 7 rfl eA ?_;refine dQ 8 rfl eA ?_;refine dQ 9 rfl eA ?_;refine dQ 10 rfl eA ?_;refine dQ 11 rfl eA ?_;refine dQ 12 rfl eA ?_;refine dQ 13 rfl eA ?_;refine dQ 14 rfl eA ?_;refine dQ 15 rfl eA ?_;refine dQ 16 rfl eA ?_;refine dQ 17 rfl eA ?_;refine dQ 18 rfl eA ?_;refine dQ 19 rfl eA ?_;refine fA 20 eA ?_;refine fA 21 eA ?_;refine eU ?_;go_wp2_with fail;have dV:=((mU eW (rk from_ tg 7 0) (λO U=>nD O U _ _ _ _)).dO 1 rfl).dO 1 rfl;go_ret;obtain⟨r1,r2⟩:=dV.fin;rw[T.out];refine⟨(_,[rk from_ tg 7 0]),⟨rfl,rfl⟩,?_,r2⟩;unfold dP;rw[hl,hv];exact r1
 have d1:decide ((q1.length:Int) >= 128)=false:=aD (by rw[wK.out];omega);go_wp2_with fail;have eW:=hS.grow (Grow.refl _).drew;have eA:ec [.c y 40 #[J ek,J ag,J sh,J sq,J ep,Z A ds.length c,aX se,J from_,J tg],.c p.r 118 (iu p x.node x.nodes x.commit ((g:K)) true x.own)] w2.drew:=by have h:=eW.facts;exact⟨h.1,h.2.1,trivial⟩
 refine dJ rfl ?_;refine gi (ec [.c y 40 #[J ek,J ag,J sh,J sq,J ep,Z A ds.length c,aX se,J from_,J tg],.c p.r 118 (iu p x.node x.nodes x.commit ((g:K)) true x.own)]) 22 rfl ?_;refine fA 0 eA ?_;refine fA 1 eA ?_;refine fA 2 eA ?_;refine fA 3 eA ?_;refine fA 4 eA ?_;refine fA 5 eA ?_;refine fA 6 eA ?_;refine fA 7 eA ?_;refine fA 8 eA ?_;refine fA 9 eA ?_;refine fA 10 eA ?_;refine fA 11 eA ?_;refine fA 13 eA ?_;refine fA 14 eA ?_;clear E hS;refine dY 12 rfl ?_;go_wp2_with fail;refine (eW.at_ 5 rfl (λ_=>fJ.framed _ _) (D:=λ_=>False) (λ_ h=>h.elim) (qQ w2.drew _ g v yW)).mono ?_;rintro en w3 ⟨_,rfl,dX⟩;go_wp2_with fail;have dX:St V w [.o (fT A1 q1),.c y 40 #[J ek,J ag,J sh,J sq,J ep,Z A ds.length c,aX se,J from_,J tg],.c p.r 118 (iu p x.node x.nodes x.commit ((g:K)) true x.own),.o (gR p.m x.m),.o (qP p.s p.x p.d x.s),.o (fJ g v)] w3:=dX;have gD:∀O,Grow w3 O->ec [.c y 40 #[J ek,J ag,J sh,J sq,J ep,Z A ds.length c,aX se,J from_,J tg],.c p.r 118 (iu p x.node x.nodes x.commit ((g:K)) true x.own)] O:=λO H=>by have h:=(dX.grow H).facts;exact⟨h.1,h.2.1,trivial⟩
 refine⟨gD _ (Grow.refl _),?_⟩;have he3:kP w3 D ⟨⟨ek,ag,sh,sq,ep,ds,se,from_,tg⟩,A,c⟩:=Js (x:=⟨⟨ek,ag,sh,sq,ep,ds,se,from_,tg⟩,A,c⟩) he λb hb=>dX.keep kV b hb;have Ot:=t7 w3 D ⟨⟨ek,ag,sh,sq,ep,ds,se,from_,tg⟩,A,c⟩ he3;unfold En.agg at Ot;dsimp only at Ot;refine dY 15 rfl ?_;go_wp2_with fail;refine Ot.mono ?_;rintro en w4 ⟨A3,rfl,Jd,Bi⟩;have eO:=(dX.join (yb.framed _) Bi (U:=New w3 w4) Jd (λb hb=>hb)).perm (List.Perm.swap _ _ _);clear Ot;go_wp2_with fail;refine⟨gD _ Bi,?_⟩;refine dY 16 rfl ?_;go_wp2_with fail;refine⟨gD _ (Bi.trans (fb w4 _)),?_⟩;refine dY 17 rfl ?_;refine H2 rfl (.tmp 39) (.tmp 42) rfl eO (by rw[wK.out];omega) 1 rfl rfl ?_;intro A5 c5 w5 C9 eF;refine wpList_nil ?_;have C9:ec [.c y 40 #[J ek,J ag,J sh,J sq,J ep,Z A ds.length c,aX se,J from_,J tg],.c p.r 118 (iu p x.node x.nodes x.commit ((g:K)) true x.own)] w5:=by have h:=eF.facts;exact⟨h.1,h.2.1,trivial⟩
 refine⟨C9,?_⟩;have Yj:(q1++[(⟨⟨ek,ag,sh,sq,ep,ds,se,from_,tg⟩,A3,ds.length⟩:El)]).map El.e=x.s.c.es++[⟨ek,ag,sh,sq,ep,ds,se,from_,tg⟩]:=by rw[bI,o3];rfl
 obtain⟨q5,Yu⟩:=az (q1++[(⟨⟨ek,ag,sh,sq,ep,ds,se,from_,tg⟩,A3,ds.length⟩:El)]);rw[<-Yu.out] at Yj eF;have hl5:Hid (q5.length=q1.length+1):=Q (by rw[Yu.out,bd,bv]);have a0l:q5.length<=128:=by rw[hl5.out,wK.out];omega
 have UQ:∀z∈q5,z.e∈x.s.c.es∨z.e=⟨ek,ag,sh,sq,ep,ds,se,from_,tg⟩:=λz hz=>by
  have h:z.e∈q5.map El.e:=List.mem_map.2 ⟨z,hz,rfl⟩;rw[Yj] at h;rcases List.mem_append.1 h with h|h
  ·exact .inl h
  ·exact .inr (List.mem_singleton.1 h)
 obtain⟨abg,Lz⟩:=az (if 0<=from_∧from_<8 then x.s.accept v.t (x.s.c.es++[(⟨ek,ag,sh,sq,ep,ds,se,from_,tg⟩:En)]) else none:Option Vs);have WW:dz W 121 #[.pointer (some ⟨p.s,0,none⟩),J v.t,Z A5 (q1.length+1) c5] w5 λen O=>∃_:Unit,en=b5 (aY abg.isSome)∧St V w [.o (fT A5 q5),.c y 40 #[J ek,J ag,J sh,J sq,J ep,Z A ds.length c,aX se,J from_,J tg],.c p.r 118 (iu p x.node x.nodes x.commit ((g:K)) true x.own),.o (gR p.m x.m),.o (qP p.s p.x p.d (abg.getD x.s)),.o (fJ g v)] O:=by
  by_cases qX:0<=from_∧from_<8
  ·have h:=Lz.out
   rw[aA qX,<-Yj] at h;rw[<-hl5.out,h];exact eF.atR 4 0 rfl rfl (λ_=>gG.framed _ _ _ _ _ _ _ _) (λU hU jR=>uK w5 U p.s p.x p.d x.s Fi v.t yW.t A5 c5 q5 hU jR (λz hz=>(UQ z hz).elim (λh=>Fi.c.es _ h) (λh=>by rw[h];exact (Cc gC from_).2 qX)) a0l)
  ·have h:=Lz.out
   rw[aB qX] at h;rw[<-hl5.out,h];exact eF.atR 4 0 rfl rfl (λ_=>gG.framed _ _ _ _ _ _ _ _) (λU hU jR=>GY w5 U p.s p.x p.d x.s v.t A5 c5 q5 hU jR (λz hz=>(UQ z hz).elim (λh=>WV (Fi.c.es _ h)) (λh=>by rw[h];exact Ej gC from_)) ⟨⟨⟨ek,ag,sh,sq,ep,ds,se,from_,tg⟩,A3,ds.length⟩,by rw[Yu.out];simp,λh=>qX ((Cc gC from_).1 h)⟩ a0l)
 refine dY 18 rfl ?_;go_wp2_with fail;refine WW.mono ?_;rintro en w6 ⟨_,rfl,eN⟩;clear WW gD;go_wp2_with fail;have kU:ec [.c y 40 #[J ek,J ag,J sh,J sq,J ep,Z A ds.length c,aX se,J from_,J tg],.c p.r 118 (iu p x.node x.nodes x.commit ((g:K)) true x.own)] w6:=by have h:=eN.facts;exact⟨h.1,h.2.1,trivial⟩
 refine⟨kU,?_⟩;have WX:R=a0k x from_ tg v abg:=by
  rw[HR.out,Lz.out];unfold Rp.ask;rw[hl,hv];simp only[];by_cases qX:0<=from_∧from_<8
  ·rw[aB ap,aA qX]
   cases x.s.accept v.t (x.s.c.es++[(⟨ek,ag,sh,sq,ep,ds,se,from_,tg⟩:En)])<;>simp only[a0k,hl,hv]
  ·rw[aA (.inr qX),aB qX]
   rfl
 clear HR HE;rcases abg with _|s
 ·replace WX:=Q WX
  simp only[Option.isSome_none];refine fL 19 kU ?_;refine fL 20 kU ?_;refine fL 21 kU ?_;refine eU ?_;clear kU C9 eA;have E:=eN.facts;simp only[ec,iu] at E;go_wp2_with fail;have fH:=((mU eN (rk from_ tg 7 0) (λO U=>nD O U _ _ _ _)).dO 1 rfl).dO 1 rfl;go_ret;obtain⟨r1,r2⟩:=fH.fin;rw[WX.out];refine⟨(_,[rk from_ tg 7 0]),⟨rfl,rfl⟩,?_,r2⟩;change dN (px (Bl.o (dS _ [rk from_ tg 7 0])::dP p g x)) _ _;unfold dP;rw[hl,hv];exact r1
 ·replace WX:=Q WX
  simp only[Option.isSome_some];refine fL 19 kU ?_;refine fL 20 kU ?_;refine fL 21 kU ?_;refine eU ?_;clear kU C9 eA;have E:=eN.facts;simp only[ec,iu] at E;go_wp2_with fail;clear E;obtain⟨X2,jS⟩:=aE ({ x with s:=s }:Rp);have WY:s.Ok:=by
   have h:=Lz.out;by_cases qX:0<=from_∧from_<8
   ·rw[aA qX] at h
    exact Vs.kp Fi yW.t (λz hz=>by
     rcases List.mem_append.1 hz with hz|hz
     ·exact Fi.c.es _ hz
     ·rw[List.mem_singleton.1 hz]
      exact (Cc gC from_).2 qX) h.symm
   ·rw[aB qX] at h
    cases h
  have lw:X2.Ok:=by rw[jS];exact Y.word WY _ _ (λ_=>⟨v,hv⟩)
  have rK:X2.v=some v:=by rw[jS];exact hv
  have fH:St V w (dP p g X2) w6:=by have h:=(eN.dO 0 rfl).dO 0 rfl;rw[jS];unfold dP;rw[hl,hv];exact h
  have gS:R=Rp.told X2 v:=by rw[WX.out,jS];rfl
  clear WX eN;replace jS:=Q jS;replace gS:=Q gS;have fD:=fH.grow (Grow.refl _).drew;have ja:=Ly (l:=[]) (by rw[bm];exact fD);refine dJ rfl ?_;refine gi (QE p X2.node) 15 rfl ?_;refine gw 0 ja ?_;refine gw 1 ja ?_;refine gw 2 ja ?_;refine gw 3 ja ?_;refine gw 4 ja ?_;refine gw 5 ja ?_;refine gw 6 ja ?_;refine gw 7 ja ?_;refine gw 8 ja ?_;refine gw 11 ja ?_;refine dY 9 rfl ?_;obtain⟨U2,Ff,_⟩:=fD.own.see 2 rfl;go_wp2_with fail;refine (tp w6.drew p.s p.x p.d _ _ _ _ _ U2 Ff).mono ?_;rintro en w7 ⟨rfl,rfl⟩;go_wp2_with fail;refine⟨ja,?_⟩;refine dY 10 rfl ?_;go_wp2_with fail;refine (St.call (a:=dP p g X2) (b:=[]) (a':=λj:K×List Sd => .o (dS j.1 j.2)::dP p g (X2.counted v X2.node X2.s.c.es.length).1) (by rw[bm];exact fD) (λ_=>⟨dS.framed _ _,eL _ _ _⟩) (λ_ h=>h.elim) (qj w6.drew p g X2 lw v rK X2.node lw.node.1 X2.s.c.es.length)).mono ?_;rintro en w8 ⟨⟨u1,o1⟩,⟨rfl,yQ⟩,gy⟩;rw[bm] at gy;have yS:=lw.counted rK X2.node X2.s.c.es.length;have U8:o1.length<=128:=by rw[<-bj (f:=Sd.fn)];exact (congrArg List.length yQ)▸nF X2 lw v X2.node X2.s.c.es.length
  obtain⟨X3,qn⟩:=aE (X2.counted v X2.node X2.s.c.es.length);have Ul:X3.1.node=X2.node:=by rw[qn];rfl
  rw[<-qn] at gy yS yQ;have iA:=gy.perm (bg (l₁:=[Bl.o (dS u1 o1)]) (l₂:=dP p g X3.1));go_wp2_with fail;refine⟨Ul▸Ly iA,?_⟩;refine dY 12 rfl ?_;go_wp2_with fail;refine (St.call (a:=dP p g X3.1) (b:=[.o (dS u1 o1)]) (a':=λj:K×List Sd => .o (dS j.1 j.2)::dP p g X3.1) iA (λ_=>⟨dS.framed _ _,eL _ _ _⟩) (λ_ h=>h.elim) (qi w8 p g X3.1 yS)).mono ?_;rintro en w9 ⟨⟨u2,o2⟩,⟨rfl,pN⟩,kQ⟩;have Be:o2.length<=8:=by rw[<-bj (f:=Sd.fn)];exact (congrArg List.length pN)▸nG X3.1 yS
  have ll:=kQ.perm (bg (l₁:=Bl.o (dS u2 o2)::dP p g X3.1) (l₂:=[Bl.o (dS u1 o1)]));go_wp2_with fail;refine⟨Ul▸Ly (l:=[.o (dS u1 o1),.o (dS u2 o2)]) (ll.perm (bg (l₁:=[Bl.o (dS u1 o1),Bl.o (dS u2 o2)]) (l₂:=dP p g X3.1))),?_⟩;refine dY 13 rfl ?_;refine xr AH pm po uH rfl (.tmp 65) (.tmp 67) rfl rfl rfl ll ap ?_;intro v5 UO nm;refine wpList_nil ?_;have iP:QE p X2.node UO:=Ul▸Ly (l:=[.o (dS v5 (o1++o2))]) (nm.perm (bg (l₁:=[Bl.o (dS v5 (o1++o2))]) (l₂:=dP p g X3.1)));refine⟨iP,?_⟩;refine fL 14 iP ?_;refine eU ?_;go_wp2;go_ret;obtain⟨r1,r2⟩:=nm.fin;have hT:Rp.told X2 v=(X3.1,X3.2++X3.1.accepts):=by rw[qn];rfl
  rw[gS.out,hT];exact⟨(v5,o1++o2),⟨rfl,by show eS (o1++o2)=X3.2++X3.1.accepts;rw[<-yQ,<-pN];exact bI⟩,r1,r2⟩
theorem tH(w:X)(p:pj)(g:Nat)(x:Rp):Lw W (λ_=>False) 58 #[.pointer (some ⟨p.r,0,none⟩)] (dP p g x) (λ(_:Unit)e=>e=b5 (a_ #[])) (λ_=>dP p g x.down) w:=by
 intro V hM hV;have hS:=St.begin_ hM (λb hb=>(hV b hb).1) (eL _ _ _);obtain⟨vp,hvp⟩:=aE (jH g x.v);unfold dP at hS;rw[<-hvp] at hS;have E:=hS.facts;simp only[ec,iu] at E;go_in;go_wp2_with (refine fv hS 0 rfl 4 _ _ rfl 6 rfl (aY false) rfl (bf rfl) rfl aw rfl ?_;clear hS E;intro w2 hS;refine stay ?_);refine dI ?_;go_wp2_with (refine fv hS 0 rfl 116 _ _ rfl 5 rfl (.pointer none) rfl (bf rfl) rfl aw rfl ?_;clear hS;intro w3 hS;refine stay ?_);refine dI ?_;go_wp2;go_end0;have dV:St V w (dP p g x.down++WM g x.v) w3:=hS;have dX:St V w (dP p g x.down) w3:=by
  cases hv:x.v with
  | none=>rw[hv] at dV;simpa [WM] using dV
  | some v=>rw[hv] at dV;exact dV.dO 3 rfl
 obtain⟨r1,r2⟩:=dX.fin;first|exact⟨(),rfl,r1,r2⟩|exact⟨rfl,r1,r2⟩
theorem Jt(w:X)(p:pj)(g:Nat)(x:Rp)(Y:x.Ok)(v:Vt)(hv:x.v=some v):Lw W (λ_=>False) 63 #[.pointer (some ⟨p.r,0,none⟩)] (dP p g x) (λ(j:K×List Sd)en=>en=b5 j.1∧eS j.2=(x.won v).2) (λj => .o (dS j.1 j.2)::dP p g (x.won v).1) w:=by
 obtain⟨R,HR⟩:=aE (x.won v);rw[<-HR];replace HR:=Q HR;intro V hM hV;obtain⟨yW,zf⟩:=Y.v v hv;have Fi:=Y.s;have hS:=St.begin_ hM (λb hb=>(hV b hb).1) (eL _ _ _);unfold dP at hS;rw[hv] at hS;have hS:St V w [.c p.r 118 (iu p x.node x.nodes x.commit ((g:K)) x.leads x.own),.o (gR p.m x.m),.o (qP p.s p.x p.d x.s),.o (fJ g v)] w:=hS;have E:=hS.facts;simp only[ec,iu] at E;go_in;go_wp2_with fail;have Ft:St V w ([.o (fJ g v)]++[.c p.r 118 (iu p x.node x.nodes x.commit ((g:K)) x.leads x.own),.o (gR p.m x.m),.o (qP p.s p.x p.d x.s)]) w:=hS.front 3 rfl;have hCB:=St.call (a:=[.o (fJ g v)]) (b:=[.c p.r 118 (iu p x.node x.nodes x.commit ((g:K)) x.leads x.own),.o (gR p.m x.m),.o (qP p.s p.x p.d x.s)]) (a':=λz:Option dA×Nat×List El=>[.o (fT z.1 z.2.2),.o (fJ g v)]) Ft (λ_=>⟨fT.framed _ _,fJ.framed _ _,trivial⟩) (D:=λ_=>False) (λ_ h=>h.elim) (Sx w _ g v yW);refine hCB.mono ?_;rintro en w1 ⟨⟨A1,c1,q1⟩,⟨rfl,o3,zn,zG⟩,ej⟩;have ej:St V w [.o (fT A1 q1),.o (fJ g v),.c p.r 118 (iu p x.node x.nodes x.commit ((g:K)) x.leads x.own),.o (gR p.m x.m),.o (qP p.s p.x p.d x.s)] w1:=ej;clear E hS;have E:=ej.facts;simp only[ec,iu] at E;have U8:q1.length<=128:=by rw[<-bj (f:=El.e),o3];exact yW.len
 go_wp2_with fail;have eW:=ej.grow (Grow.refl _).drew;have gD:∀{l:List Bl}{O:X},St V w (.o (fT A1 q1)::.o (fJ g v)::.c p.r 118 (iu p x.node x.nodes x.commit ((g:K)) x.leads x.own)::l) O->ec [.c p.r 118 (iu p x.node x.nodes x.commit ((g:K)) x.leads x.own)] O:=λh=>⟨h.facts.1,trivial⟩;have eA:=gD eW;refine dJ rfl ?_;refine gi (ec [.c p.r 118 (iu p x.node x.nodes x.commit ((g:K)) x.leads x.own)]) 12 rfl ?_;refine fA 0 eA ?_;refine fA 1 eA ?_;refine fA 2 eA ?_;refine fA 3 eA ?_;refine fA 4 eA ?_;refine fA 5 eA ?_;refine fA 6 eA ?_;refine fA 7 eA ?_;refine fA 9 eA ?_;refine dY 8 rfl ?_;go_wp2_with fail;refine (eW.at_ 1 rfl (λ_=>fJ.framed _ _) (D:=λ_=>False) (λ_ h=>h.elim) (qQ w1.drew _ g v yW)).mono ?_;rintro en w3 ⟨_,rfl,dX⟩;have dX:St V w [.o (fT A1 q1),.o (fJ g v),.c p.r 118 (iu p x.node x.nodes x.commit ((g:K)) x.leads x.own),.o (gR p.m x.m),.o (qP p.s p.x p.d x.s)] w3:=dX;go_wp2_with fail;refine⟨gD dX,?_⟩;have WW:=dX.atR 4 0 rfl rfl (λ_=>gG.framed _ _ _ _ _ _ _ _) (λU hU jR=>uK w3 U p.s p.x p.d x.s Fi v.t yW.t A1 c1 q1 hU jR (λz hz=>yW.best _ (by rw[<-o3];exact List.mem_map.2 ⟨z,hz,rfl⟩)) U8);rw[o3] at WW;have HR2:Hid (R=match x.s.accept v.t v.best with|none=>(x.down,[])|some s=>Rp.told { x with s:=s,leads:=true,own:=s.c.es.length } v):=HR;clear HR;obtain⟨abg,HY⟩:=az (x.s.accept v.t v.best);rw[<-HY.out] at WW HR2;refine dY 10 rfl ?_;go_wp2_with fail;refine WW.mono ?_;rintro en w6 ⟨_,rfl,eN⟩;clear WW;have eN:St V w [.o (fT A1 q1),.o (fJ g v),.c p.r 118 (iu p x.node x.nodes x.commit ((g:K)) x.leads x.own),.o (gR p.m x.m),.o (qP p.s p.x p.d (abg.getD x.s))] w6:=eN;go_wp2_with fail;have kU:=gD eN;refine⟨kU,?_⟩;clear eA E;rcases abg with _|s
 ·simp only[Option.isSome_none]
  refine fL 11 kU ?_;refine eU ?_;have fH:St V w (dP p g x) w6:=by unfold dP;rw[hv];exact (eN.dO 0 rfl).perm ((List.Perm.swap _ _ _).trans (List.Perm.cons _ ((List.Perm.swap _ _ _).trans (List.Perm.cons _ (List.Perm.swap _ _ _)))))
  clear gD kU;go_wp2_with fail;refine (St.call (a:=dP p g x) (b:=[]) (a':=λ_:Unit=>dP p g x.down) (by rw[bm];exact fH) (λ_=>eL _ _ _) (λ_ h=>h.elim) (tH w6 p g x)).mono ?_;rintro en w7 ⟨_,rfl,fD⟩;rw[bm] at fD;go_wp2;go_ret;have gy:=St.join fD (dS.framed (Z none 0 0) []) (Grow.refl _) (U:=λ_=>False) (h_.nil _ _) (λ_ h=>h.elim);obtain⟨r1,r2⟩:=gy.fin;rw[HR2.out];exact⟨(Z none 0 0,[]),⟨rfl,rfl⟩,r1,r2⟩
 ·simp only[Option.isSome_some]
  refine fL 11 kU ?_;refine eU ?_;have WY:s.Ok:=Vs.kp Fi yW.t yW.best HY.out.symm;clear gD kU;have E:=eN.facts;simp only[ec,iu] at E;obtain⟨U,hE,_⟩:=eN.own.see 4 rfl;have Me:=tp w6 p.s p.x p.d _ _ _ _ _ U hE;go_wp2_with fail;refine Me.mono ?_;rintro en w7 ⟨rfl,rfl⟩;clear Me hE;go_wp2_with (refine fv eN 2 rfl 4 _ _ rfl 6 rfl (aY true) rfl (bf rfl) rfl aw rfl ?_;clear eN E;intro w8 fH;refine stay ?_);refine dI ?_;go_wp2_with (refine fv fH 2 rfl 3 _ _ rfl 7 rfl (J s.c.es.length) rfl (bf rfl) rfl aw rfl ?_;clear fH;intro w9 fD;refine stay ?_);refine dI ?_;simp only[iu,bY,bz,bA] at fD;obtain⟨X2,jS⟩:=aE ({ x with s:=s,leads:=true,own:=s.c.es.length }:Rp);have lw:X2.Ok:=by rw[jS];exact Y.word WY _ _ (λ_=>⟨v,hv⟩)
  have rK:X2.v=some v:=by rw[jS];exact hv
  have fH:St V w (dP p g X2) w9:=by rw[jS];unfold dP;rw[hv];exact (fD.dO 0 rfl).perm ((List.Perm.swap _ _ _).trans (List.Perm.cons _ ((List.Perm.swap _ _ _).trans (List.Perm.cons _ (List.Perm.swap _ _ _)))))
  have gS:R=Rp.told X2 v:=by rw[HR2.out,jS]
  clear HR2 fD;replace jS:=Q jS;replace gS:=Q gS;have E:=fH.facts;go_wp2_with fail;clear E;have fD:=fH.grow (Grow.refl _).drew;have ja:=Ly (l:=[]) (by rw[bm];exact fD);refine dJ rfl ?_;refine gi (QE p X2.node) 15 rfl ?_;refine gw 0 ja ?_;refine gw 1 ja ?_;refine gw 2 ja ?_;refine gw 3 ja ?_;refine gw 4 ja ?_;refine gw 5 ja ?_;refine gw 6 ja ?_;refine gw 7 ja ?_;refine gw 8 ja ?_;refine gw 11 ja ?_;refine dY 9 rfl ?_;obtain⟨U2,Ff,_⟩:=fD.own.see 2 rfl;go_wp2_with fail;refine (tp w9.drew p.s p.x p.d _ _ _ _ _ U2 Ff).mono ?_;rintro en w7 ⟨rfl,rfl⟩;go_wp2_with fail;refine⟨ja,?_⟩;refine dY 10 rfl ?_;go_wp2_with fail;refine (St.call (a:=dP p g X2) (b:=[]) (a':=λj:K×List Sd => .o (dS j.1 j.2)::dP p g (X2.counted v X2.node X2.s.c.es.length).1) (by rw[bm];exact fD) (λ_=>⟨dS.framed _ _,eL _ _ _⟩) (λ_ h=>h.elim) (qj w9.drew p g X2 lw v rK X2.node lw.node.1 X2.s.c.es.length)).mono ?_;rintro en w8 ⟨⟨u1,o1⟩,⟨rfl,yQ⟩,gy⟩;rw[bm] at gy;have yS:=lw.counted rK X2.node X2.s.c.es.length;have U8:o1.length<=128:=by rw[<-bj (f:=Sd.fn)];exact (congrArg List.length yQ)▸nF X2 lw v X2.node X2.s.c.es.length
  obtain⟨X3,qn⟩:=aE (X2.counted v X2.node X2.s.c.es.length);have Ul:X3.1.node=X2.node:=by rw[qn];rfl
  rw[<-qn] at gy yS yQ;have iA:=gy.perm (bg (l₁:=[Bl.o (dS u1 o1)]) (l₂:=dP p g X3.1));go_wp2_with fail;refine⟨Ul▸Ly iA,?_⟩;refine dY 12 rfl ?_;go_wp2_with fail;refine (St.call (a:=dP p g X3.1) (b:=[.o (dS u1 o1)]) (a':=λj:K×List Sd => .o (dS j.1 j.2)::dP p g X3.1) iA (λ_=>⟨dS.framed _ _,eL _ _ _⟩) (λ_ h=>h.elim) (qi w8 p g X3.1 yS)).mono ?_;rintro en w9 ⟨⟨u2,o2⟩,⟨rfl,pN⟩,kQ⟩;have Be:o2.length<=8:=by rw[<-bj (f:=Sd.fn)];exact (congrArg List.length pN)▸nG X3.1 yS
  have ll:=kQ.perm (bg (l₁:=Bl.o (dS u2 o2)::dP p g X3.1) (l₂:=[Bl.o (dS u1 o1)]));go_wp2_with fail;refine⟨Ul▸Ly (l:=[.o (dS u1 o1),.o (dS u2 o2)]) (ll.perm (bg (l₁:=[Bl.o (dS u1 o1),Bl.o (dS u2 o2)]) (l₂:=dP p g X3.1))),?_⟩;refine dY 13 rfl ?_;refine xr AH pm po uH rfl (.tmp 44) (.tmp 46) rfl rfl rfl ll ap ?_;intro v5 UO nm;refine wpList_nil ?_;have iP:QE p X2.node UO:=Ul▸Ly (l:=[.o (dS v5 (o1++o2))]) (nm.perm (bg (l₁:=[Bl.o (dS v5 (o1++o2))]) (l₂:=dP p g X3.1)));refine⟨iP,?_⟩;refine fL 14 iP ?_;refine eU ?_;go_wp2;go_ret;obtain⟨r1,r2⟩:=nm.fin;have hT:Rp.told X2 v=(X3.1,X3.2++X3.1.accepts):=by rw[qn];rfl
  rw[gS.out,hT];exact⟨(v5,o1++o2),⟨rfl,by show eS (o1++o2)=X3.2++X3.1.accepts;rw[<-yQ,<-pN];exact bI⟩,r1,r2⟩
theorem Vs.lq{s s':Vs}(h:s.Ok){t:Nat}(ht:t<=9223372036854775807)(he:s.promise t=some s'):s'.Ok∧s'.c=⟨t,s.c.h,s.c.es⟩:=by
 unfold Vs.promise at he;split at he;·exact Vs.Ok.keep h ⟨ht,h.c.h,h.c.es,h.c.len⟩ he
 ·cases he
def Ek(from_:Int)(t h:Nat)(A:aU)(c:Nat)(q:List El):Sd:=⟨from_,i9 t h (q.map El.e),none,0,A,q,c⟩
theorem OS(w:X)(U:aV)(from_:Int)(t h:Nat)(A:aU)(c:Nat)(q:List El)(hq:jO w U A q)(E:q.length<=c∧c<=dG):Sd.In w U (Ek from_ t h A c q):=⟨(nD w U 0 0 0 0).e,hq,rfl,E⟩
theorem Em(from_:Int)(t h:Nat)(A:aU)(c:Nat)(q:List El):(Ek from_ t h A c q).cells.toArray=#[J from_,J 4,(),(),(),(),(),ay,"",(),(),(),(),ae ah 0,J t,J h,Z A q.length c,(),()]:=by unfold Ek Sd.cells Ms.cells i9;dsimp only;rw[bj];rfl
def a0m(x:Rp)(from_:Int)(t:Nat):Option Vs->Rp×Sends
 | none=>(x,[])
 | some s=>(({ x with s:=s }:Rp).down,[(from_,i9 t s.c.h s.c.es)])
theorem Eo(w:X)(p:pj)(g:Nat)(x:Rp)(Y:x.Ok)(from_:Int)(t:Nat)(ht:t<=9223372036854775807):Lw W (λ_=>False) 67 #[.pointer (some ⟨p.r,0,none⟩),J from_,J t] (dP p g x) (λ(j:K×List Sd)en=>en=b5 j.1∧eS j.2=(x.prepare from_ t).2) (λj => .o (dS j.1 j.2)::dP p g (x.prepare from_ t).1) w:=by
 obtain⟨R,HR⟩:=aE (x.prepare from_ t);rw[<-HR];intro V hM hV;have Fi:=Y.s;have hS:=St.begin_ hM (λb hb=>(hV b hb).1) (eL _ _ _);have E:=Ly (l:=[]) (by rw[bm];exact hS);obtain⟨kM,lV⟩:=E;obtain⟨abg,HY⟩:=az (x.s.promise t);replace HR:Hid (R=a0m x from_ t abg):=Q (by rw[HR,HY.out];unfold Rp.prepare;cases x.s.promise t<;>rfl);have hP:=hS.at_ 2 rfl (λ_=>gG.framed _ _ _ _ _ _ _ _) (D:=λ_=>False) (λ_ h=>h.elim) (yg w _ p.s p.x p.d x.s Fi t ht);rw[<-HY.out] at hP;go_in;go_wp2_with fail;refine hP.mono ?_;rintro en w1 ⟨_,rfl,ej⟩;clear hP kM lV hS;have ej:St V w (dP p g { x with s:=abg.getD x.s }) w1:=ej;rcases abg with _|s
 ·simp only[Option.isSome_none]
  go_wp2;go_ret;have gy:=St.join ej (dS.framed (Z none 0 0) []) (Grow.refl _) (U:=λ_=>False) (h_.nil _ _) (λ_ h=>h.elim);obtain⟨r1,r2⟩:=gy.fin;rw[HR.out];exact⟨(Z none 0 0,[]),⟨rfl,rfl⟩,r1,r2⟩
 ·simp only[Option.isSome_some]
  obtain⟨Qm,Y5⟩:=Vs.lq Fi ht HY.out.symm;have lw:Rp.Ok { x with s:=s }:=Y.word Qm _ _ Y.lv;obtain⟨X2,jS⟩:=aE ({ x with s:=s }:Rp);have ej:St V w (dP p g X2) w1:=by rw[jS];exact ej
  rw[<-jS] at lw;replace jS:=Q jS;go_wp2_with fail;refine (St.call (a:=dP p g X2) (b:=[]) (a':=λ_:Unit=>dP p g X2.down) (by rw[bm];exact ej) (λ_=>eL _ _ _) (λ_ h=>h.elim) (tH w1 p g X2)).mono ?_;rintro en w2 ⟨_,rfl,dV⟩;rw[bm] at dV;have E:=dV.facts;go_wp2_with fail;clear E;have dX:=dV.grow (Grow.refl _).drew;have ja:=Ly (l:=[]) (by rw[bm];exact dX);obtain⟨U,hE,_⟩:=dX.own.see 2 rfl;refine dJ rfl ?_;refine gi (QE p X2.down.node) 16 rfl ?_;refine gw 0 ja ?_;refine gw 1 ja ?_;refine gw 2 ja ?_;refine gw 3 ja ?_;refine gw 4 ja ?_;refine gw 5 ja ?_;refine gw 7 ja ?_;refine gw 8 ja ?_;refine gw 9 ja ?_;refine gw 10 ja ?_;refine dY 6 rfl ?_;go_wp2_with fail;refine (E3 w2.drew p.s p.x p.d _ _ _ _ _ U hE).mono ?_;rintro en w3 ⟨rfl,rfl⟩;go_wp2_with fail;refine⟨ja,?_⟩;refine dY 11 rfl ?_;go_wp2_with fail;refine (qd w2.drew p.s p.x p.d _ _ _ _ _ U hE (by have:=lw.s.c.len;show X2.s.c.es.length<=1048576;omega)).mono ?_;rintro en w3 ⟨u,rfl,⟨A1,c1,q1,rfl,Fg,o3,zn,zG⟩,-,eD⟩;have eO:=dX.join (fT.framed A1 q1) eD (U:=New w2.drew w3) Fg (λb hb=>hb);have iP:QE p X2.down.node w3:=Ly (l:=[]) (by rw[bm];exact dX.grow eD);go_wp2_with fail;refine⟨iP,?_⟩;refine gw 12 iP ?_;refine gw 13 iP ?_;refine dY 14 rfl ?_;go_wp2_with fail;have eF:=Lx eO (Ek from_ t X2.s.c.h A1 c1 q1) (λO U hU=>OS O U _ _ _ _ _ _ hU ⟨zn,zG⟩);rw[Em] at eF;have ip:∀O,Grow w3 O->QE p X2.down.node O:=λO H=>Ly (l:=[]) (by rw[bm];exact dX.grow (eD.trans H));have zd:=ip _ (fb w3 (.cells #[J from_,J 4,(),(),(),(),(),ay,"",(),(),(),(),ae ah 0,J t,J X2.s.c.h,Z A1 q1.length c1,(),()] 218));refine⟨zd,?_⟩;refine fL 15 zd ?_;refine eU ?_;go_wp2;go_ret;obtain⟨r1,r2⟩:=eF.fin;rw[HR.out];have e1:q1.map El.e=s.c.es:=by rw[o3];show X2.s.c.es=s.c.es;rw[jS.out]
  have e2:X2.s.c.h=s.c.h:=by rw[jS.out]
  refine⟨(_,[Ek from_ t X2.s.c.h A1 c1 q1]),⟨rfl,?_⟩,?_,r2⟩
  ·show [(from_,i9 t X2.s.c.h (q1.map El.e))]=[(from_,i9 t s.c.h s.c.es)]
   rw[e1,e2]
  ·rw[jS.out] at r1 ⊢
   exact r1
end Go.Proofs.YtpeepcmdehhbgaaGreatDoor
end
section
open Go.Proofs.YtpeepcmdehhbgaaGreatDoor (pj)
variable{w w0 O:X}{g t y:Nat}{V:aV}{p:pj}{sl:K}{cs:aP}
namespace Go.Proofs.YtpeepcmdehhbgaaGreatDoor
open RowKit Hop V
def SC(from_:Int)(t n:Nat):Sd:=⟨from_,m8 t n,none,0,none,[],0⟩
theorem SD(w:X)(U:aV)(from_:Int)(t n:Nat):Sd.In w U (SC from_ t n):=⟨(nD w U 0 0 0 0).e,jO.nil,rfl,bh _,bo _⟩
def AcS(p:pj)(node y t:Nat)(sl:K)(cm:Nat)(vp:K)(w:X):Prop:=QE p node w∧w.cell? ⟨y,13,none⟩=some (J t)∧w.cell? ⟨y,15,none⟩=some sl∧w.cell? ⟨y,16,none⟩=some (J cm)∧w.cell? ⟨p.r,5,none⟩=some vp
theorem WZ{z:Rp}{l:List Bl}{cm:Nat}(h:St V w0 (.c y 45 cs::dP p g z++l) w)(I:cs[13]?=some (J t))(G:cs[15]?=some sl)(L:cs[16]?=some (J cm)):AcS p z.node y t sl cm (jH g z.v) w:=⟨⟨h.facts.2.1.1 0,h.facts.2.1.1 2⟩,(h.facts.1.1 13).trans I,(h.facts.1.1 15).trans G,(h.facts.1.1 16).trans L,h.facts.2.1.1 5⟩
def a52(x:Rp)(from_:Int)(t cm:Nat):Option Vs->Rp×Sends
 | none=>(x,[])
 | some s=>((Rp.apply (if (x.v.any λv=>decide (v.t≠t))=true then ({ x with s:=s }:Rp).down else { x with s:=s }) cm).1,[(from_,m8 t s.c.es.length)])
instance(A B:Option dA)(c t n d m:Nat):CoeDep (Option dA×Nat×Nat×Option dA×Nat×Nat×Nat) (A,c,t,B,n,d,m) (Array K):=⟨#[J 5,(),(),(),(),(),Z A 0 c,"",(),(),(),(),ae ah 0,J t,(),Z B n d,J m,()]⟩
theorem H4(w:X)(D:aV)(p:pj)(g:Nat)(x:Rp)(Y:x.Ok)(from_:Int)(t cm:Nat)(A:aU)(c:Nat)(A2:aU)(c2:Nat)(q:List El)(ht:t<=9223372036854775807)(hq:jO w D A2 q)(gC:∀z∈q,z.e.Ok)(hl:q.length<=128)(j6:∀b,D b->b<(w:Nat)):Lw W D 70 #[.pointer (some ⟨p.r,0,none⟩),J from_,aZ (A,c,t,A2,q.length,c2,cm)] (dP p g x) (λ(j:K×List Sd)en=>en=b5 j.1∧eS j.2=(x.accept from_ t (q.map El.e) cm).2) (λj => .o (dS j.1 j.2)::dP p g (x.accept from_ t (q.map El.e) cm).1) w:=by
 obtain⟨R,HR⟩:=aE (x.accept from_ t (q.map El.e) cm);rw[<-HR];intro V hM hV;have kV:∀x,D x->x<(w:Nat)∧¬ V x:=λx Y=>⟨j6 x Y,λh=>(hV x h).2 Y⟩;have Fi:=Y.s;have hS:=St.begin_ hM (λb hb=>(hV b hb).1) (eL _ _ _);obtain⟨abg,HY⟩:=az (x.s.accept t (q.map El.e));replace HR:Hid (R=a52 x from_ t cm abg):=Q (by rw[HR,HY.out];unfold Rp.accept;cases x.s.accept t (q.map El.e)<;>rfl);obtain⟨y,wa,HYa,HA,hS⟩:=hS.new' (A,c,t,A2,q.length,c2,cm) 45;go_in;go_wp2_with fail;rw[<-HA.out,<-HYa.out];have hS:=hS.grow (Grow.refl _).drew;have ja:=WZ (l:=[]) (t:=t) (cm:=cm) (by rw[bm];exact hS) rfl rfl rfl;have hP:=hS.at_ 3 rfl (λ_=>gG.framed _ _ _ _ _ _ _ _) (D:=D) (St.far kV) (uK wa.drew D p.s p.x p.d x.s Fi t ht A2 c2 q (fT.framed A2 q w _ D hq λb hb=>hS.keep kV b hb) (λb hb=>bw (j6 b hb) hS.size) gC hl);rw[<-HY.out] at hP;refine dJ rfl ?_;refine gi (AcS p x.node y t (Z A2 q.length c2) cm (jH g x.v)) 10 rfl ?_;refine fz 0 ja ?_;refine fz 1 ja ?_;refine fz 2 ja ?_;refine fz 3 ja ?_;refine fz 4 ja ?_;refine fz 5 ja ?_;refine fz 6 ja ?_;refine fz 7 ja ?_;refine dY 8 rfl ?_;go_wp2_with fail;refine hP.mono ?_;rintro en w1 ⟨_,rfl,ej⟩;clear hP;have ej:St V w (.c y 45 (A,c,t,A2,q.length,c2,cm)::dP p g { x with s:=abg.getD x.s }) w1:=ej;go_wp2_with fail;have iP:=WZ (l:=[]) (t:=t) (cm:=cm) (by rw[bm];exact ej) rfl rfl rfl;refine⟨iP,?_⟩;clear hS ja;rcases abg with _|s
 ·simp only[Option.isSome_none]
  refine fL 9 iP ?_;refine eU ?_;go_wp2;go_ret;have gy:=St.join (ej.dO 0 rfl) (dS.framed (Z none 0 0) []) (Grow.refl _) (U:=λ_=>False) (h_.nil _ _) (λ_ h=>h.elim);obtain⟨r1,r2⟩:=gy.fin;rw[HR.out];first|exact⟨(Z none 0 0,[]),⟨rfl,rfl⟩,r1,r2⟩|exact⟨Z none 0 0,[],⟨rfl,rfl⟩,r1,r2⟩
 ·simp only[Option.isSome_some]
  refine fL 9 iP ?_;refine eU ?_;have Qm:=Vs.kp Fi ht (λe he=>by obtain⟨z,hz,rfl⟩:=List.mem_map.1 he;exact gC z hz) HY.out.symm;obtain⟨X2,jS⟩:=aE ({ x with s:=s }:Rp);have lw:X2.Ok:=by rw[jS];exact Y.word Qm _ _ Y.lv
  have ej:St V w (.c y 45 (A,c,t,A2,q.length,c2,cm)::dP p g X2) w1:=by rw[jS];exact ej
  replace jS:=Q jS;clear iP;obtain⟨b,Hb⟩:=az (x.v.any λv=>decide (v.t≠t));obtain⟨X3,qn⟩:=aE (if b=true then X2.down else X2:Rp);have yS:X3.Ok:=by rw[qn];split;exact lw.down;exact lw
  have HR2:Hid (R=((X3.apply cm).1,[(from_,m8 t s.c.es.length)])):=Q (by rw[HR.out,qn,jS.out,Hb.out];rfl);have Mb:Hid (X3.s=s):=Q (by rw[qn,jS.out];split<;>rfl);clear HR;have dV:=ej.grow (Grow.refl _).drew;have ip:=WZ (l:=[]) (t:=t) (cm:=cm) (by rw[bm];exact dV) rfl rfl rfl;go_wp2_with fail;refine dJ rfl ?_;refine gi (AcS p X2.node y t (Z A2 q.length c2) cm (jH g X2.v)) 15 rfl ?_;refine fz 0 ip ?_;refine fz 1 ip ?_;refine fz 2 ip ?_;refine fz 3 ip ?_;have sj:X2.v=x.v:=by rw[jS.out]
  have hgo:∀O,St V w (.c y 45 (A,c,t,A2,q.length,c2,cm)::dP p g X3) O->St V w (dP p g X3++[.c y 45 (A,c,t,A2,q.length,c2,cm)]) O:=λO h=>h.perm (bg (l₁:=[Bl.c y 45 (A,c,t,A2,q.length,c2,cm)]) (l₂:=dP p g X3));have hX:(x.v=none∧b=false)∨(∃v,x.v=some v∧v.t=t∧b=false)∨(∃v,x.v=some v∧v.t≠t∧b=true):=by
   rw[Hb.out];cases x.v with
   | none=>exact .inl ⟨rfl,rfl⟩
   | some v=>
     by_cases h:v.t=t;·exact .inr (.inl ⟨v,rfl,h,by simp[h]⟩)
     ·exact .inr (.inr ⟨v,rfl,h,by simp[h]⟩)
  have hfc:∀O g'(abe:Rp),St V w (.c y 45 (A,c,t,A2,q.length,c2,cm)::dP p g' abe) O->O.cell? ⟨y,16,none⟩=some (J cm):=λO g' abe h=>(h.facts.1.1 16).trans rfl;clear Hb;rcases hX with ⟨qE,hb⟩|⟨v,qE,zp,hb⟩|⟨v,qE,zp,hb⟩
  case' inl=>
   rw[hb,aB cB] at qn;rw[sj,qE] at ip ⊢;simp only[jH] at ip ⊢;refine fz 4 ip ?_;refine fz 5 ip ?_;refine dQ 6 rfl ip ?_;refine dQ 7 rfl ip ?_;refine dQ 8 rfl ip ?_;refine dQ 9 rfl ip ?_;refine dQ 10 rfl ip ?_;refine dQ 11 rfl ip ?_;refine dQ 12 rfl ip ?_;refine dQ 13 rfl ip ?_;refine fz 14 ip ?_;refine eU ?_;have eF:=hgo _ (by rw[qn];exact dV);replace qn:=Q qn;replace qE:=Q qE;replace sj:=Q sj;replace hb:=Q hb;obtain⟨⟨kM,lV⟩,_,_,kU,_⟩:=ip;go_wp2_with fail
  case' inr.inl=>
   rw[hb,aB cB] at qn;rw[sj,qE] at ip ⊢;simp only[jH] at ip ⊢;have OT:((v.t:Int) != (t:Int))=false:=by rw[zp];simp
   replace zp:=Q zp;refine fz 4 ip ?_;refine fz 5 ip ?_;refine fz 6 ip ?_;refine fz 7 ip ?_;refine fz 8 ip ?_;refine fz 9 ip ?_;refine fz 11 ip ?_;refine fz 12 ip ?_;have OU:St V w [.c y 45 (A,c,t,A2,q.length,c2,cm),.c p.r 118 (iu p X2.node X2.nodes X2.commit ((g:K)) X2.leads X2.own),.o (gR p.m X2.m),.o (qP p.s p.x p.d X2.s),.o (fJ g v)] w1.drew:=by have h:=dV;unfold dP at h;rw[sj,qE] at h;exact h
   refine dY 10 rfl ?_;go_wp2_with fail;refine (OU.at_ 4 rfl (λ_=>fJ.framed _ _) (D:=λ_=>False) (λ_ h=>h.elim) (qQ w1.drew _ g v (Y.v v qE).1)).mono ?_;rintro en w3 ⟨_,rfl,dX⟩;have dX:St V w (.c y 45 (A,c,t,A2,q.length,c2,cm)::dP p g X2) w3:=by unfold dP;rw[sj,qE];exact dX
   have zd:=WZ (l:=[]) (t:=t) (cm:=cm) (by rw[bm];exact dX) rfl rfl rfl;rw[sj,qE] at zd;simp only[jH] at zd;clear ip OU;go_wp2_with fail;refine⟨zd,?_⟩;refine fz 13 zd ?_;refine fz 14 zd ?_;refine eU ?_;have eF:=hgo _ (by rw[qn];exact dX);replace qn:=Q qn;replace qE:=Q qE;replace sj:=Q sj;replace hb:=Q hb;obtain⟨⟨kM,lV⟩,_,_,kU,_⟩:=zd;go_wp2_with fail
  case' inr.inr=>
   rw[hb,aA rfl] at qn;rw[sj,qE] at ip ⊢;simp only[jH] at ip ⊢;have OT:((v.t:Int) != (t:Int))=true:=by simp;omega
   replace zp:=Q zp;refine fz 4 ip ?_;refine fz 5 ip ?_;refine fz 6 ip ?_;refine fz 7 ip ?_;refine fz 8 ip ?_;refine fz 9 ip ?_;refine fz 11 ip ?_;refine fz 12 ip ?_;have OU:St V w [.c y 45 (A,c,t,A2,q.length,c2,cm),.c p.r 118 (iu p X2.node X2.nodes X2.commit ((g:K)) X2.leads X2.own),.o (gR p.m X2.m),.o (qP p.s p.x p.d X2.s),.o (fJ g v)] w1.drew:=by have h:=dV;unfold dP at h;rw[sj,qE] at h;exact h
   refine dY 10 rfl ?_;go_wp2_with fail;refine (OU.at_ 4 rfl (λ_=>fJ.framed _ _) (D:=λ_=>False) (λ_ h=>h.elim) (qQ w1.drew _ g v (Y.v v qE).1)).mono ?_;rintro en w3 ⟨_,rfl,dX⟩;have dX:St V w (.c y 45 (A,c,t,A2,q.length,c2,cm)::dP p g X2) w3:=by unfold dP;rw[sj,qE];exact dX
   have zd:=WZ (l:=[]) (t:=t) (cm:=cm) (by rw[bm];exact dX) rfl rfl rfl;rw[sj,qE] at zd;simp only[jH] at zd;clear ip OU;go_wp2_with fail;refine⟨zd,?_⟩;refine fz 13 zd ?_;refine fz 14 zd ?_;refine eU ?_;replace qE:=Q qE;replace sj:=Q sj;replace hb:=Q hb;replace qn:=Q qn;clear zd;go_wp2_with fail;refine (St.call (a:=dP p g X2) (b:=[.c y 45 (A,c,t,A2,q.length,c2,cm)]) (a':=λ_:Unit=>dP p g X2.down) (dX.perm (bg (l₁:=[Bl.c y 45 (A,c,t,A2,q.length,c2,cm)]) (l₂:=dP p g X2))) (λ_=>eL _ _ _) (λ_ h=>h.elim) (tH w3 p g X2)).mono ?_;rintro en w4 ⟨_,rfl,eO⟩;have eF:St V w (dP p g X3++[.c y 45 (A,c,t,A2,q.length,c2,cm)]) w4:=by rw[qn.out];exact eO
   have kU:=hfc w4 g X3 (eF.perm (bg (l₁:=dP p g X3) (l₂:=[Bl.c y 45 (A,c,t,A2,q.length,c2,cm)])));go_wp2_with fail
  all_goals
   refine (St.call (a:=dP p g X3) (b:=[.c y 45 (A,c,t,A2,q.length,c2,cm)]) (a':=λj:K×List Sd => .o (dS j.1 j.2)::dP p g (X3.apply cm).1) eF (λ_=>⟨dS.framed _ _,eL _ _ _⟩) (λ_ h=>h.elim) (AU _ p g X3 yS cm)).mono ?_
   rintro en w7 ⟨⟨u1,o1⟩,⟨rfl,yQ⟩,eN⟩
   have hx4:=yS.apply cm
   have TV:Hid ((X3.apply cm).1.s=s):=Q Mb.out
   obtain⟨X4,Mr⟩:=az ((X3.apply cm).1)
   rw[<-Mr.out] at eN hx4 TV HR2
   have fH:St V w (.c y 45 (A,c,t,A2,q.length,c2,cm)::dP p g X4) w7:=(eN.dO 0 rfl).perm (bg (l₁:=dP p g X4) (l₂:=[Bl.c y 45 (A,c,t,A2,q.length,c2,cm)]))
   clear eN eF hgo hfc
   go_wp2_with fail
   have fD:=fH.grow (Grow.refl _).drew
   have j5:=WZ (l:=[]) (t:=t) (cm:=cm) (by rw[bm];exact fD) rfl rfl rfl
   refine dJ rfl ?_
   refine gi (AcS p X4.node y t (Z A2 q.length c2) cm (jH g X4.v)) 12 rfl ?_
   refine fz 0 j5 ?_
   refine fz 1 j5 ?_
   refine fz 2 j5 ?_
   refine fz 3 j5 ?_
   refine fz 4 j5 ?_
   refine fz 5 j5 ?_
   refine fz 6 j5 ?_
   refine dY 7 rfl ?_
   obtain⟨U,hE,_⟩:=fD.own.see 3 rfl
   go_wp2_with fail
   refine (tp w7.drew p.s p.x p.d _ _ _ _ _ U hE).mono ?_
   rintro en w8 ⟨rfl,rfl⟩
   go_wp2_with fail
   refine⟨j5,?_⟩
   refine fz 8 j5 ?_
   refine fz 9 j5 ?_
   refine dY 10 rfl ?_
   go_wp2_with fail
   have gy:=mU fD (SC from_ t X4.s.c.es.length) (λO U=>SD O U _ _ _)
   have nS:AcS p X4.node y t (Z A2 q.length c2) cm (jH g X4.v) (w7.drew.alloc (.cells (SC from_ t X4.s.c.es.length).cells.toArray 218)):=WZ (l:=[]) (t:=t) (cm:=cm) (by rw[bm];exact gy.dO 0 rfl) rfl rfl rfl
   refine⟨nS,?_⟩
   refine fL 11 nS ?_
   refine eU ?_
   go_wp2
   go_ret
   obtain⟨r1,r2⟩:=(gy.dO 1 rfl).fin
   rw[HR2.out]
   exact⟨(_,[SC from_ t X4.s.c.es.length]),⟨rfl,by rw[TV.out];rfl⟩,r1,r2⟩
theorem OV{nodes:Nat}(h:Cell g 213 (nX t nodes (cS 8 false) (cS 8 0) 0 (Z none 0 0) 0) O (New w O)):fJ g (Vt.new t nodes) O (New w O):=⟨none,0,[],⟨rfl,bh _,bo _⟩,New w O,λ_=>False,h,⟨λ_=>False,λ_=>False,jO.nil,trivial,λ_ h=>h,λ_ h=>h,λ_ h _=>h⟩,λ_ h=>h,λ_ h=>h.elim,λ_ _ h=>h⟩
def LdS(p:pj)(node nodes:Nat)(vp:K)(w:X):Prop:=QE p node w∧w.cell? ⟨p.r,1,none⟩=some (J nodes)∧w.cell? ⟨p.r,5,none⟩=some vp
theorem ldS{z:Rp}{l:List Bl}(h:St V w0 (dP p g z++l) w):LdS p z.node z.nodes (jH g z.v) w:=⟨Ly h,h.facts.1.1 1,h.facts.1.1 5⟩
def a0p(x:Rp):Option Vs->Rp×Sends
 | none=>(x,[])
 | some s=>if ((Vt.new s.c.t x.nodes).promise x.node s.c.h s.c.es).1=true then Rp.won { x with s:=s,leads:=false,v:=some ((Vt.new s.c.t x.nodes).promise x.node s.c.h s.c.es).2 } ((Vt.new s.c.t x.nodes).promise x.node s.c.h s.c.es).2
   else ({ x with s:=s,leads:=false,v:=some ((Vt.new s.c.t x.nodes).promise x.node s.c.h s.c.es).2 },tD x.node x.nodes (jX s.c.t))
theorem OW(w:X)(p:pj)(g:Nat)(x:Rp)(Y:x.Ok)(ht:x.s.c.t<=1099511627776):Lw W (λ_=>False) 18 #[.pointer (some ⟨p.r,0,none⟩)] (dP p g x) (λ(j:(K×List Sd)×Nat)en=>en=b5 j.1.1∧eS j.1.2=x.lead.2) (λj => .o (dS j.1.1 j.1.2)::dP p j.2 x.lead.1) w:=by
 obtain⟨R,HR⟩:=aE (x.lead);rw[<-HR];intro V hM hV;have Fi:=Y.s;obtain⟨oK,Ux⟩:=Y.node;obtain⟨f1,f2,f3,f4⟩:=Ee x.s.c.t oK Ux;obtain⟨abm,HT⟩:=az (lM x.s.c.t x.node x.nodes);rw[<-HT.out] at f2 f3;have ZJ:abm<=9223372036854775807:=by omega
 obtain⟨abg,HY⟩:=az (x.s.promise abm);replace HR:Hid (R=a0p x abg):=Q (by rw[HR,HY.out,HT.out];unfold Rp.lead;rw[aB ap];cases x.s.promise (lM x.s.c.t x.node x.nodes)<;>rfl)
 clear f1 f4;have hS:=(St.begin_ hM (λb hb=>(hV b hb).1) (eL _ _ _)).grow (Grow.refl _).drew;have ja:=ldS (l:=[]) (by rw[bm];exact hS);obtain⟨U,hE,_⟩:=hS.own.see 2 rfl;go_in;go_wp2_with fail;refine dJ rfl ?_;refine gi (LdS p x.node x.nodes (jH g x.v)) 15 rfl ?_;refine gL 0 ja ?_;refine gL 1 ja ?_;refine gL 2 ja ?_;refine gL 3 ja ?_;refine gL 5 ja ?_;refine gL 6 ja ?_;refine gL 7 ja ?_;refine gL 8 ja ?_;refine gL 9 ja ?_;refine gL 10 ja ?_;refine gL 11 ja ?_;refine gL 12 ja ?_;refine dY 4 rfl ?_;go_wp2_with fail;refine (AE w.drew p.s p.x p.d _ _ _ _ _ U hE).mono ?_;rintro en w1 ⟨rfl,rfl⟩;go_wp2_with fail;refine⟨ja,?_⟩;refine dY 13 rfl ?_;have hLT:=Sw w.drew x.s.c.t x.node x.nodes oK Ux ht;rw[<-HT.out] at hLT;go_wp2_with fail;refine hLT.mono ?_;rintro en w1 ⟨rfl,rfl⟩;clear hLT;go_wp2_with fail;refine⟨ja,?_⟩;refine fL 14 ja ?_;refine eU ?_;have hP:=hS.at_ 2 rfl (λ_=>gG.framed _ _ _ _ _ _ _ _) (D:=λ_=>False) (λ_ h=>h.elim) (yg w.drew _ p.s p.x p.d x.s Fi abm ZJ);rw[<-HY.out] at hP;obtain⟨⟨kM,lV⟩,sy,q_⟩:=ja;go_wp2_with fail;refine hP.mono ?_;rintro en w2 ⟨_,rfl,dV⟩;clear hP kM lV sy q_ hS hE;have dV:St V w (dP p g { x with s:=abg.getD x.s }) w2:=dV;rcases abg with _|s
 ·simp only[Option.isSome_none]
  go_wp2;go_ret;have gy:=St.join dV (dS.framed (Z none 0 0) []) (Grow.refl _) (U:=λ_=>False) (h_.nil _ _) (λ_ h=>h.elim);obtain⟨r1,r2⟩:=gy.fin;rw[HR.out];first|exact⟨((Z none 0 0,[]),g),⟨rfl,rfl⟩,r1,r2⟩|exact⟨Z none 0 0,[],g,⟨rfl,rfl⟩,r1,r2⟩|exact⟨(Z none 0 0,[]),g,⟨rfl,rfl⟩,r1,r2⟩
 ·simp only[Option.isSome_some]
  obtain⟨Qm,Y5⟩:=Vs.lq Fi ZJ HY.out.symm;have kY:Hid (s.c.t=abm):=Q (by rw[Y5]);clear Y5;obtain⟨X2,jS⟩:=aE ({ x with s:=s }:Rp);have lw:X2.Ok:=by rw[jS];exact Y.word Qm _ _ Y.lv
  have dV:St V w (dP p g X2) w2:=by rw[jS];exact dV
  replace jS:=Q jS;go_wp2_with fail;refine (St.call (a:=dP p g X2) (b:=[]) (a':=λ_:Unit=>dP p g X2.down) (by rw[bm];exact dV) (λ_=>eL _ _ _) (λ_ h=>h.elim) (tH w2 p g X2)).mono ?_;rintro en w3 ⟨_,rfl,dX⟩;rw[bm] at dX;have dX:St V w [.c p.r 118 (iu p X2.node X2.nodes X2.commit (.pointer none) false X2.own),.o (gR p.m X2.m),.o (qP p.s p.x p.d X2.s)] w3:=dX;have hN:=W4 w3 abm X2.nodes (by have:=lw.node;omega) lw.node.2;have E:=dX.facts;simp only[ec,iu] at E;go_wp2_with fail;refine hN.mono ?_;rintro en w4 ⟨g',rfl,hCg,Bi⟩;have eO:=dX.join (fJ.framed _ _) Bi (U:=New w3 w4) (OV hCg) (λb hb=>hb);clear hN E hCg;go_wp2_with (refine fv eO 1 rfl 116 _ _ rfl 5 rfl ((g':K)) rfl (bf rfl) rfl aw rfl ?_;clear eO;intro w5 eF;refine stay ?_);refine dI ?_;simp only[iu,bY,bz,bA] at eF;obtain⟨X3,qn⟩:=aE ({ X2 with leads:=false,v:=some (Vt.new abm X2.nodes) }:Rp);have zf:(Vt.new abm X2.nodes).Ok:=Vt.Ok.new ZJ ⟨by have:=lw.node;omega,lw.node.2⟩;have yS:X3.Ok:=by rw[qn];exact lw.down.vote zf rfl
  have eN:St V w (dP p g' X3) w5:=by rw[qn];exact eF.perm ((List.Perm.swap _ _ _).trans (List.Perm.cons _ ((List.Perm.swap _ _ _).trans (List.Perm.cons _ (List.Perm.swap _ _ _)))))
  have SE:X3.v=some (Vt.new abm X2.nodes):=by rw[qn]
  have SF:X3.node=X2.node∧X3.nodes=X2.nodes∧X3.s=X2.s:=by rw[qn];exact⟨rfl,rfl,rfl⟩
  clear eF;replace qn:=Q qn;go_wp2_with fail;have fH:=eN.grow (Grow.refl _).drew;have iP:=ldS (l:=[]) (by rw[bm];exact fH);rw[SE] at iP;simp only[jH] at iP;replace SE:=Q SE;replace SF:=Q SF;obtain⟨U3,Jd,_⟩:=fH.own.see 2 rfl;refine dJ rfl ?_;refine gi (LdS p X3.node X3.nodes ((g':K))) 19 rfl ?_;refine gL 0 iP ?_;refine gL 1 iP ?_;refine gL 2 iP ?_;refine gL 3 iP ?_;refine gL 4 iP ?_;refine gL 5 iP ?_;refine gL 6 iP ?_;refine gL 7 iP ?_;refine gL 8 iP ?_;refine gL 9 iP ?_;refine gL 10 iP ?_;refine gL 11 iP ?_;refine gL 13 iP ?_;refine gL 14 iP ?_;refine gL 15 iP ?_;refine gL 16 iP ?_;refine dY 12 rfl ?_;go_wp2_with fail;refine (E3 w5.drew p.s p.x p.d _ _ _ _ _ U3 Jd).mono ?_;rintro en w6 ⟨rfl,rfl⟩;go_wp2_with fail;refine⟨iP,?_⟩;refine dY 17 rfl ?_;go_wp2_with fail;refine (qd w5.drew p.s p.x p.d _ _ _ _ _ U3 Jd (by have:=yS.s.c.len;show X3.s.c.es.length<=1048576;omega)).mono ?_;rintro en w6 ⟨u,rfl,⟨A1,c1,q1,rfl,Fg,o3,zn,zG⟩,-,tW⟩;have U8:q1.length<=128:=by rw[<-bj (f:=El.e),o3];exact yS.s.c.len
  have fD:St V w [.o (fT A1 q1),.c p.r 118 (iu p X3.node X3.nodes X3.commit ((g':K)) X3.leads X3.own),.o (gR p.m X3.m),.o (qP p.s p.x p.d X3.s),.o (fJ g' (Vt.new abm X2.nodes))] w6:=by have h:=fH.join (fT.framed A1 q1) tW (U:=New w5.drew w6) Fg (λb hb=>hb);unfold dP at h;rw[SE.out] at h;exact h
  have ip:LdS p X3.node X3.nodes ((g':K)) w6:=⟨⟨fD.facts.1.1 0,fD.facts.1.1 2⟩,fD.facts.1.1 1,fD.facts.1.1 5⟩;clear iP;go_wp2_with fail;refine⟨ip,?_⟩;obtain⟨r,Hr⟩:=az ((Vt.new abm X2.nodes).promise X3.node X3.s.c.h X3.s.c.es);have SG:=fD.atR 4 0 rfl rfl (λ_=>fJ.framed _ _) (λU hU jR=>yi w6 U g' (Vt.new abm X2.nodes) zf X3.node X3.s.c.h (by have I:=yS.node.1;rw[SF.out.2.1] at I;exact I) A1 c1 q1 hU U8 yS.s.c.h jR (λz hz=>yS.s.c.es _ (by have h:z.e∈q1.map El.e:=List.mem_map.2 ⟨z,hz,rfl⟩;rw[o3] at h;exact h)))
  rw[o3] at SG;change dz _ _ _ _ (λe O=>∃_:Unit,e=b5 (aY ((Vt.new abm X2.nodes).promise X3.node X3.s.c.h X3.s.c.es).1)∧St V w _ O) at SG;rw[<-Hr.out] at SG;refine dY 18 rfl ?_;go_wp2_with fail;refine SG.mono ?_;rintro en w7 ⟨_,rfl,gy⟩;clear SG;have hro:r.2.Ok:=by rw[Hr.out];exact zf.promise (by have:=yS.node;omega) yS.s.c.h yS.s.c.es yS.s.c.len
  have Z5:r.2.nodes=X3.nodes:=by
   rw[Hr.out,SF.out.2.1];unfold Vt.promise;split;·rfl
   ·split
    ·rfl
    ·split<;>rfl
  obtain⟨X4,Mr⟩:=aE ({ X3 with v:=some r.2 }:Rp);have hx4:X4.Ok:=by rw[Mr];exact yS.vote hro Z5
  have hv4:X4.v=some r.2:=by rw[Mr]
  have iA:St V w (dP p g' X4) w7:=by rw[Mr];exact gy.dO 0 rfl
  have zd:LdS p X3.node X3.nodes ((g':K)) w7:=by have h:=ldS (l:=[]) (by rw[bm];exact iA);rw[hv4] at h;rw[Mr] at h;exact h
  clear ip;go_wp2_with fail;refine⟨zd,?_⟩;refine eU ?_;have gS:Hid (R=if r.1=true then X4.won r.2 else (X4,tD X4.node X4.nodes (jX abm))):=Q (by
   rw[HR.out,Mr,qn.out,jS.out];have hr2:r=(Vt.new s.c.t x.nodes).promise x.node s.c.h s.c.es:=by rw[Hr.out,qn.out,jS.out,kY.out]
   rw[hr2,<-kY.out];rfl)
  clear HR gy;replace Mr:=Q Mr;replace hv4:=Q hv4;clear zd;rcases bC r.1 with hr|hr
  ·rw[hr] at gS ⊢
   go_wp2_with fail;refine (St.call (a:=dP p g' X4) (b:=[]) (a':=λj:K×List Sd => .o (dS j.1 j.2)::dP p g' (X4.won r.2).1) (by rw[bm];exact iA) (λ_=>⟨dS.framed _ _,eL _ _ _⟩) (λ_ h=>h.elim) (Jt w7 p g' X4 hx4 r.2 hv4.out)).mono ?_;rintro en w8 ⟨j,⟨rfl,hj⟩,kQ⟩;rw[bm] at kQ;go_wp2;go_ret;obtain⟨r1,r2⟩:=kQ.fin;have jN:=gS.out;first|rw[aA rfl] at jN|rw[aA trivial] at jN
   rw[jN];first|exact⟨(j,g'),⟨rfl,hj⟩,r1,r2⟩|exact⟨j,g',⟨rfl,hj⟩,r1,r2⟩|exact⟨j.1,j.2,g',⟨rfl,hj⟩,r1,r2⟩
  ·rw[hr] at gS ⊢
   have hCA:=St.call (a:=[.c p.r 118 (iu p X4.node X4.nodes X4.commit (jH g' X4.v) X4.leads X4.own)]) (b := .o (gR p.m X4.m)::.o (qP p.s p.x p.d X4.s)::WM g' X4.v) iA
    (a':=λi:K×List Sd=>[.o (dS i.1 i.2),.c p.r 118 (iu p X4.node X4.nodes X4.commit (jH g' X4.v) X4.leads X4.own)]) (λi=>⟨dS.framed _ _,trivial,trivial⟩) (D:=λ_=>False) (λ_ h=>h.elim)
    (AP w7 (λ_=>False) p X4.node X4.nodes hx4.node.2 X4.commit (jH g' X4.v) X4.leads X4.own (jX abm) none 0 none 0 [] (nD w7 _ 0 0 0 0).e jO.nil rfl am (λ_ h=>h.elim))
   have jQ:(jX abm).cells none 0 none 0=[J 3,(),(),(),(),(),ay,"",(),(),(),(),ae ah 0,J abm,(),ay,(),()]:=rfl;rw[jQ] at hCA;go_wp2_with fail;refine hCA.mono ?_;rintro en w8 ⟨j,⟨rfl,hj⟩,kQ⟩;go_wp2;go_ret;obtain⟨r1,r2⟩:=St.fin kQ;have jN:=gS.out;first|rw[aB cB] at jN|rw[aB not_false] at jN
   rw[jN];first|exact⟨(j,g'),⟨rfl,hj⟩,r1,r2⟩|exact⟨j,g',⟨rfl,hj⟩,r1,r2⟩|exact⟨j.1,j.2,g',⟨rfl,hj⟩,r1,r2⟩
def Rp.hears(x:Rp)(f:Int):Prop:=0<=f∧f<x.nodes∧f≠x.node
instance(x:Rp)(f:Int):Decidable (x.hears f):=by unfold Rp.hears;infer_instance
def vF(x:Rp):Rp×Sends:=(x,[])
theorem nI{x:Rp}(h:St V w (dP p g x) O):dN (px (.o (dS (Z none 0 0) [])::dP p g x)) O (iY V w O)∧dM V w O:=(St.join h (dS.framed (Z none 0 0) []) (Grow.refl _) (U:=λ_=>False) (h_.nil _ _) (λ_ h=>h.elim)).fin
theorem Ep(w:X)(D:aV)(p:pj)(g:Nat)(x:Rp)(Y:x.Ok)(f:Int)(e:En)(A:aU)(c:Nat)(he:kP w D ⟨e,A,c⟩)(gC:e.Ok)(j6:∀b,D b->b<(w:Nat)):Lw W D 19 #[.pointer (some ⟨p.r,0,none⟩),J f,aZ (S5 e A c)] (dP p g x) (λ(j:K×List Sd)en=>en=b5 j.1∧eS j.2=(x.ask f e).2) (λj => .o (dS j.1 j.2)::dP p g (x.ask f e).1) w:=by
 obtain⟨R,HR⟩:=az (x.ask f e);rw[<-HR.out];intro V hM hV;have kV:∀x,D x->x<(w:Nat)∧¬ V x:=λx Y=>⟨j6 x Y,λh=>(hV x h).2 Y⟩;have hS:=St.begin_ hM (λb hb=>(hV b hb).1) (eL _ _ _);obtain⟨y,wa,HY,HA,hS⟩:=hS.new' (S5 e A c) 45;have gl:Grow w wa:=by rw[HA.out];exact fb w _
 have T:=GZ wa e D A c gC (In.grow he.1 gl);have hC:=λO(H:Grow w O)(h:St V w (dP p g x) O)=>SB O D p g x Y f e A c (Js he λb hb=>H.block b (j6 b hb)) gC (λb hb=>bw (j6 b hb) H.size);unfold S5 at T HA hS ⊢;unfold En.agg at hC;obtain⟨ek,ag,sh,sq,ep,ds,se,fr,tg⟩:=e;dsimp only at T HA hS hC ⊢;go_in;go_wp2_with (refine dU rfl 45 _ rfl _ rfl (HA.out▸HY.out▸hS.blk 0 rfl) bG aw ?_);rw[<-HA.out];refine T.mono ?_;rintro en w1 ⟨rfl,eD⟩;rw[<-HY.out];have jV:=(hS.grow eD).blk 0 rfl;have c0:=jV.cell 0;have c1:=jV.cell 1;have c2:=jV.cell 2;have c3:=jV.cell 3;have c4:=jV.cell 4;have c5:=jV.cell 5;have c6:=jV.cell 6;have c7:=jV.cell 7;have c8:=jV.cell 8;have c9:=jV.cell 9;have ej:=(hS.grow eD).dO 0 rfl;clear T jV;have hC:=hC w1 (gl.trans eD) ej;go_wp2_with fail;refine (St.call (a:=dP p g x) (b:=[]) (a':=λj:K×List Sd => .o (dS j.1 j.2)::dP p g (x.ask f ⟨ek,ag,sh,sq,ep,ds,se,fr,tg⟩).1) (by rw[bm];exact ej) (λ_=>⟨dS.framed _ _,eL _ _ _⟩) (St.far kV) hC).mono ?_;rintro en w2 ⟨j,⟨rfl,hj⟩,dV⟩;rw[bm] at dV;go_wp2;go_ret;obtain⟨r1,r2⟩:=dV.fin;rw[HR.out];first|exact⟨j,⟨rfl,hj⟩,r1,r2⟩|exact⟨j.1,j.2,⟨rfl,hj⟩,r1,r2⟩
theorem OX(w:X)(D:aV)(p:pj)(g:Nat)(x:Rp)(f:Int)(hf:¬ x.hears f)(m:Ms)(A:aU)(c:Nat)(A2:aU)(c2:Nat)(q:List El)(h:m.Gd)(N:m.k≠1)(hA:A=none∧c=0)(qZ:m.k≠4->m.k≠5->A2=none∧c2=0)(he:jM w D A m.e.ds.length m.e.ds)(hq:jO w D A2 q)(kZ:q.map El.e=m.log)(j6:∀b,D b->b<(w:Nat)):Lw W D 19 #[.pointer (some ⟨p.r,0,none⟩),J f,aZ (mH m A c A2 c2)] (dP p g x) (λ(j:K×List Sd)en=>en=b5 j.1∧eS j.2=(vF x).2) (λj => .o (dS j.1 j.2)::dP p g (vF x).1) w:=by
 have I:(m.k == 1)=false:=beq_eq_false_iff_ne.2 N;intro V hM hV;have hS:=St.begin_ hM (λb hb=>(hV b hb).1) (eL _ _ _);obtain⟨y,wa,HY,HA,hS⟩:=hS.new' (mH m A c A2 c2) 45;have gl:Grow w wa:=by rw[HA.out];exact fb w _
 have yX:jO wa D A2 q:=fT.framed A2 q w wa D hq λb hb=>gl.block b (j6 b hb);have T:=ln wa D m A c A2 c2 q h (λ_=>hA) qZ (In.grow he gl) yX kZ;clear h N hA qZ he hq kZ yX;obtain⟨k,⟨ek,ag,sh,sq,ep,ds,se,fr,tg⟩,tag,code,n,term,had,log,commit,len⟩:=m;unfold mH Ms.cells at hS T HA ⊢;dsimp only at hS T HA I ⊢;go_in;go_wp2_with (refine dU rfl 45 _ rfl _ rfl (HA.out▸HY.out▸hS.blk 0 rfl) bG aw ?_);rw[<-HA.out];refine T.mono ?_;rintro en w1 ⟨rfl,eD⟩;rw[<-HY.out];have AY:=hS.grow eD;have jV:=AY.blk 0 rfl;have c0:=jV.cell 0;have ej:=AY.dO 0 rfl;clear T;have y_:w1.cell? ⟨p.r,0,none⟩=some (J x.node):=ej.facts.1.1 0;have oK:w1.cell? ⟨p.r,1,none⟩=some (J x.nodes):=ej.facts.1.1 1;have hX:decide (f<0)=true∨(decide (f<0)=false∧decide ((x.nodes:Int)<=f)=true)∨(decide (f<0)=false∧decide ((x.nodes:Int)<=f)=false∧(f == (x.node:Int))=true):=by unfold Rp.hears at hf;simp only[decide_eq_true_eq,decide_eq_false_iff_not,beq_iff_eq];omega
 clear hf jV;rcases hX with e1|⟨e1,e2⟩|⟨e1,e2,e3⟩
 all_goals
  go_wp2
  go_ret
  obtain⟨r1,r2⟩:=nI ej
  first|exact⟨(Z none 0 0,[]),⟨rfl,rfl⟩,r1,r2⟩|exact⟨Z none 0 0,[],⟨rfl,rfl⟩,r1,r2⟩
theorem LA(w:X)(D:aV)(p:pj)(g:Nat)(x:Rp)(Y:x.Ok)(f:Int)(hf:x.hears f)(t:Nat)(ht:t<=9223372036854775807)(A2:aU)(c2:Nat)(q:List El)(qZ:A2=none∧c2=0)(hq:jO w D A2 q)(RV:q=[])(j6:∀b,D b->b<(w:Nat)):Lw W D 19 #[.pointer (some ⟨p.r,0,none⟩),J f,aZ #[J 3,(),(),(),(),(),ay,"",(),(),(),(),ae ah 0,J t,(),ay,(),()]] (dP p g x) (λ(j:K×List Sd)en=>en=b5 j.1∧eS j.2=(x.prepare f t).2) (λj => .o (dS j.1 j.2)::dP p g (x.prepare f t).1) w:=by
 have jQ:mH (jX t) none 0 A2 c2=#[J 3,(),(),(),(),(),ay,"",(),(),(),(),ae ah 0,J t,(),ay,(),()]:=by obtain⟨rfl,rfl⟩:=qZ;unfold mH Ms.cells;first|rfl|(dsimp only[i9,kR];rw[bj];rfl)
 obtain⟨R,HR⟩:=az (x.prepare f t);rw[<-HR.out];intro V hM hV;have hS:=St.begin_ hM (λb hb=>(hV b hb).1) (eL _ _ _);obtain⟨y,wa,HY,HA,hS⟩:=hS.new' #[J 3,(),(),(),(),(),ay,"",(),(),(),(),ae ah 0,J t,(),ay,(),()] 45;have gl:Grow w wa:=by rw[HA.out];exact fb w _
 have yX:jO wa D A2 q:=fT.framed A2 q w wa D hq λb hb=>gl.block b (j6 b hb);have T:=ln wa D (jX t) none 0 A2 c2 q (.vD t ht) (λ_=>⟨rfl,rfl⟩) (λ_ _=>qZ) In.nil yX (by rw[RV];rfl);rw[jQ] at T;clear jQ;go_in;go_wp2_with (refine dU rfl 45 _ rfl _ rfl (HA.out▸HY.out▸hS.blk 0 rfl) bG aw ?_);rw[<-HA.out];refine T.mono ?_;rintro en w1 ⟨rfl,eD⟩;rw[<-HY.out];have AY:=hS.grow eD;have jV:=AY.blk 0 rfl;have c0:=jV.cell 0;have c13:=jV.cell 13;have ej:=AY.dO 0 rfl;clear T;have y_:w1.cell? ⟨p.r,0,none⟩=some (J x.node):=ej.facts.1.1 0;have oK:w1.cell? ⟨p.r,1,none⟩=some (J x.nodes):=ej.facts.1.1 1;obtain⟨F,rfl,ME,hF2⟩:∃F:Nat,f=(F:Int)∧F<x.nodes∧F≠x.node:=by obtain⟨I,G,L⟩:=hf;exact⟨f.toNat,by omega,by omega,by omega⟩
 clear hf;have e1:decide ((F:Int)<0)=false:=aD ap;have e2:decide (x.nodes<=F)=false:=aD ap;have e3:((F:Int) == (x.node:Int))=false:=beq_eq_false_iff_ne.2 ap;clear jV;go_wp2_with fail;refine (St.call (a:=dP p g x) (b:=[]) (a':=λj:K×List Sd => .o (dS j.1 j.2)::dP p g (x.prepare (F:Int) t).1) (by rw[bm];exact ej) (λ_=>⟨dS.framed _ _,eL _ _ _⟩) (D:=λ_=>False) (λ_ h=>h.elim) (Eo w1 p g x Y (F:Int) t ht)).mono ?_;rintro en w2 ⟨j,⟨rfl,hj⟩,dV⟩;rw[bm] at dV;go_wp2;go_ret;obtain⟨r1,r2⟩:=dV.fin;rw[HR.out];first|exact⟨j,⟨rfl,hj⟩,r1,r2⟩|exact⟨j.1,j.2,⟨rfl,hj⟩,r1,r2⟩
theorem OY(w:X)(D:aV)(p:pj)(g:Nat)(x:Rp)(Y:x.Ok)(f:Int)(hf:x.hears f)(tag code n:Nat)(I:tag<=9223372036854775807)(G:code<=255)(L:n<18446744073709551616)(A2:aU)(c2:Nat)(q:List El)(qZ:A2=none∧c2=0)(hq:jO w D A2 q)(RV:q=[])(j6:∀b,D b->b<(w:Nat)):Lw W D 19 #[.pointer (some ⟨p.r,0,none⟩),J f,aZ #[J 2,(),(),(),(),(),ay,"",(),(),J tag,J code,ae ah n,(),(),ay,(),()]] (dP p g x) (λ(j:K×List Sd)en=>en=b5 j.1∧eS j.2=(vF x).2) (λj => .o (dS j.1 j.2)::dP p g (vF x).1) w:=by
 have jQ:mH (fx (tag:Int) (code:Int) n) none 0 A2 c2=#[J 2,(),(),(),(),(),ay,"",(),(),J tag,J code,ae ah n,(),(),ay,(),()]:=by obtain⟨rfl,rfl⟩:=qZ;unfold mH Ms.cells;first|rfl|(dsimp only[i9,kR];rw[bj];rfl)
 obtain⟨R,HR⟩:=az (vF x);rw[<-HR.out];intro V hM hV;have hS:=St.begin_ hM (λb hb=>(hV b hb).1) (eL _ _ _);obtain⟨y,wa,HY,HA,hS⟩:=hS.new' #[J 2,(),(),(),(),(),ay,"",(),(),J tag,J code,ae ah n,(),(),ay,(),()] 45;have gl:Grow w wa:=by rw[HA.out];exact fb w _
 have yX:jO wa D A2 q:=fT.framed A2 q w wa D hq λb hb=>gl.block b (j6 b hb);have T:=ln wa D (fx (tag:Int) (code:Int) n) none 0 A2 c2 q (.ans tag code n I G L) (λ_=>⟨rfl,rfl⟩) (λ_ _=>qZ) In.nil yX (by rw[RV];rfl);rw[jQ] at T;clear jQ;go_in;go_wp2_with (refine dU rfl 45 _ rfl _ rfl (HA.out▸HY.out▸hS.blk 0 rfl) bG aw ?_);rw[<-HA.out];refine T.mono ?_;rintro en w1 ⟨rfl,eD⟩;rw[<-HY.out];have AY:=hS.grow eD;have jV:=AY.blk 0 rfl;have c0:=jV.cell 0;have ej:=AY.dO 0 rfl;clear T;have y_:w1.cell? ⟨p.r,0,none⟩=some (J x.node):=ej.facts.1.1 0;have oK:w1.cell? ⟨p.r,1,none⟩=some (J x.nodes):=ej.facts.1.1 1;obtain⟨F,rfl,ME,hF2⟩:∃F:Nat,f=(F:Int)∧F<x.nodes∧F≠x.node:=by obtain⟨I,G,L⟩:=hf;exact⟨f.toNat,by omega,by omega,by omega⟩
 clear hf;have e1:decide ((F:Int)<0)=false:=aD ap;have e2:decide (x.nodes<=F)=false:=aD ap;have e3:((F:Int) == (x.node:Int))=false:=beq_eq_false_iff_ne.2 ap;clear jV;go_wp2;go_ret;obtain⟨r1,r2⟩:=nI ej;rw[HR.out];first|exact⟨(Z none 0 0,[]),⟨rfl,rfl⟩,r1,r2⟩|exact⟨Z none 0 0,[],⟨rfl,rfl⟩,r1,r2⟩
def W_(p:pj)(y t had:Nat)(sl vp:K)(leads:Bool)(w:X):Prop:=w.cell? ⟨y,13,none⟩=some (J t)∧w.cell? ⟨y,14,none⟩=some (J had)∧w.cell? ⟨y,15,none⟩=some sl∧w.cell? ⟨p.r,5,none⟩=some vp∧w.cell? ⟨p.r,6,none⟩=some (aY leads)
theorem rcS{z:Rp}{l:List Bl}{had:Nat}(h:St V w0 (.c y 45 cs::dP p g z++l) w)(I:cs[13]?=some (J t))(G:cs[14]?=some (J had))(L:cs[15]?=some sl):W_ p y t had sl (jH g z.v) z.leads w:=⟨(h.facts.1.1 13).trans I,(h.facts.1.1 14).trans G,(h.facts.1.1 15).trans L,h.facts.2.1.1 5,h.facts.2.1.1 6⟩
def mV(x:Rp)(F t n:Nat):Rp×Sends:=if x.leads=true then (match x.v with|some v=>if v.t=t then x.counted v F n else (x,[])|none=>(x,[])) else (x,[])
def ji(x:Rp)(F t had:Nat)(l:List En):Rp×Sends:=match x.v with
 | none=>(x,[])
 | some v=>if v.t=t∧v.won=false then (if (v.promise F had l).1=true then Rp.won { x with v:=some (v.promise F had l).2 } (v.promise F had l).2 else ({ x with v:=some (v.promise F had l).2 },[])) else (x,[])
theorem OZ(w:X)(D:aV)(p:pj)(g:Nat)(x:Rp)(Y:x.Ok)(f:Int)(hf:x.hears f)(t cm:Nat)(ht:t<=9223372036854775807)(iO:cm<=128)(A2:aU)(c2:Nat)(q:List El)(hq:jO w D A2 q)(gC:∀z∈q,z.e.Ok)(hl:q.length<=128)(j6:∀b,D b->b<(w:Nat)):Lw W D 19 #[.pointer (some ⟨p.r,0,none⟩),J f,aZ #[J 5,(),(),(),(),(),ay,"",(),(),(),(),ae ah 0,J t,(),Z A2 q.length c2,J cm,()]] (dP p g x) (λ(j:K×List Sd)en=>en=b5 j.1∧eS j.2=(x.accept f t (q.map El.e) cm).2) (λj => .o (dS j.1 j.2)::dP p g (x.accept f t (q.map El.e) cm).1) w:=by
 have jQ:mH (kR t (q.map El.e) cm) none 0 A2 c2=#[J 5,(),(),(),(),(),ay,"",(),(),(),(),ae ah 0,J t,(),Z A2 q.length c2,J cm,()]:=by unfold mH Ms.cells;first|rfl|(dsimp only[i9,kR];rw[bj];rfl)
 obtain⟨R,HR⟩:=az (x.accept f t (q.map El.e) cm);rw[<-HR.out];intro V hM hV;have kV:∀x,D x->x<(w:Nat)∧¬ V x:=λx Y=>⟨j6 x Y,λh=>(hV x h).2 Y⟩;have hS:=St.begin_ hM (λb hb=>(hV b hb).1) (eL _ _ _);obtain⟨y,wa,HY,HA,hS⟩:=hS.new' #[J 5,(),(),(),(),(),ay,"",(),(),(),(),ae ah 0,J t,(),Z A2 q.length c2,J cm,()] 45;have gl:Grow w wa:=by rw[HA.out];exact fb w _
 have yX:jO wa D A2 q:=fT.framed A2 q w wa D hq λb hb=>gl.block b (j6 b hb);have T:=ln wa D (kR t (q.map El.e) cm) none 0 A2 c2 q (.acc t (q.map El.e) cm ht iO (λe he=>by obtain⟨z,hz,rfl⟩:=List.mem_map.1 he;exact gC z hz) (by rw[bj];exact hl)) (λ_=>⟨rfl,rfl⟩) (λ_ h=>absurd rfl h) In.nil yX rfl;rw[jQ] at T;clear jQ;go_in;go_wp2_with (refine dU rfl 45 _ rfl _ rfl (HA.out▸HY.out▸hS.blk 0 rfl) bG aw ?_);rw[<-HA.out];refine T.mono ?_;rintro en w1 ⟨rfl,eD⟩;rw[<-HY.out];have AY:=hS.grow eD;have jV:=AY.blk 0 rfl;have c0:=jV.cell 0;have ej:=AY.dO 0 rfl;clear T;have y_:w1.cell? ⟨p.r,0,none⟩=some (J x.node):=ej.facts.1.1 0;have oK:w1.cell? ⟨p.r,1,none⟩=some (J x.nodes):=ej.facts.1.1 1;obtain⟨F,rfl,ME,hF2⟩:∃F:Nat,f=(F:Int)∧F<x.nodes∧F≠x.node:=by obtain⟨I,G,L⟩:=hf;exact⟨f.toNat,by omega,by omega,by omega⟩
 clear hf;have e1:decide ((F:Int)<0)=false:=aD ap;have e2:decide (x.nodes<=F)=false:=aD ap;have e3:((F:Int) == (x.node:Int))=false:=beq_eq_false_iff_ne.2 ap;clear jV;have hC:=H4 w1 D p g x Y (F:Int) t cm none 0 A2 c2 q ht (fT.framed A2 q w w1 D hq λb hb=>(gl.trans eD).block b (j6 b hb)) gC hl (λb hb=>bw (j6 b hb) (gl.trans eD).size);have hX2:=AY.blk 0 rfl;go_wp2_with (refine dU rfl 45 _ rfl _ rfl hX2 bG aw ?_);refine (St.call (a:=dP p g x) (b:=[]) (a':=λj:K×List Sd => .o (dS j.1 j.2)::dP p g (x.accept (F:Int) t (q.map El.e) cm).1) (by rw[bm];exact ej) (λ_=>⟨dS.framed _ _,eL _ _ _⟩) (D:=D) (St.far kV) (hC)).mono ?_;rintro en w2 ⟨j,⟨rfl,hj⟩,dV⟩;rw[bm] at dV;go_wp2;go_ret;obtain⟨r1,r2⟩:=dV.fin;rw[HR.out];first|exact⟨j,⟨rfl,hj⟩,r1,r2⟩|exact⟨j.1,j.2,⟨rfl,hj⟩,r1,r2⟩
theorem O_(w:X)(D:aV)(p:pj)(g:Nat)(x:Rp)(Y:x.Ok)(f:Int)(hf:x.hears f)(t n:Nat)(I:t<=9223372036854775807)(G:n<=128)(A2:aU)(c2:Nat)(q:List El)(qZ:A2=none∧c2=0)(hq:jO w D A2 q)(RV:q=[])(j6:∀b,D b->b<(w:Nat)):Lw W D 19 #[.pointer (some ⟨p.r,0,none⟩),J f,aZ #[J 6,(),(),(),(),(),ay,"",(),(),(),(),ae ah 0,J t,(),ay,(),J n]] (dP p g x) (λ(j:K×List Sd)en=>en=b5 j.1∧eS j.2=(mV x f.toNat t n).2) (λj => .o (dS j.1 j.2)::dP p g (mV x f.toNat t n).1) w:=by
 have jQ:mH (m8 t n) none 0 A2 c2=#[J 6,(),(),(),(),(),ay,"",(),(),(),(),ae ah 0,J t,(),ay,(),J n]:=by obtain⟨rfl,rfl⟩:=qZ;rfl
 obtain⟨R,HR⟩:=az (mV x f.toNat t n);rw[<-HR.out];intro V hM hV;have hS:=St.begin_ hM (λb hb=>(hV b hb).1) (eL _ _ _);obtain⟨y,wa,HY,HA,hS⟩:=hS.new' #[J 6,(),(),(),(),(),ay,"",(),(),(),(),ae ah 0,J t,(),ay,(),J n] 45;have gl:Grow w wa:=by rw[HA.out];exact fb w _
 have yX:jO wa D A2 q:=fT.framed A2 q w wa D hq λb hb=>gl.block b (j6 b hb);have T:=ln wa D (m8 t n) none 0 A2 c2 q (.Mq t n I G) (λ_=>⟨rfl,rfl⟩) (λ_ _=>qZ) In.nil yX (by rw[RV];rfl);rw[jQ] at T;clear jQ;go_in;go_wp2_with (refine dU rfl 45 _ rfl _ rfl (HA.out▸HY.out▸hS.blk 0 rfl) bG aw ?_);rw[<-HA.out];refine T.mono ?_;rintro en w1 ⟨rfl,eD⟩;rw[<-HY.out];have AY:=hS.grow eD;have jV:=AY.blk 0 rfl;have c0:=jV.cell 0;have ej:=AY.dO 0 rfl;clear T;have y_:w1.cell? ⟨p.r,0,none⟩=some (J x.node):=ej.facts.1.1 0;have oK:w1.cell? ⟨p.r,1,none⟩=some (J x.nodes):=ej.facts.1.1 1;obtain⟨F,rfl,ME,hF2⟩:∃F:Nat,f=(F:Int)∧F<x.nodes∧F≠x.node:=by obtain⟨I,G,L⟩:=hf;exact⟨f.toNat,by omega,by omega,by omega⟩
 clear hf;have e1:decide ((F:Int)<0)=false:=aD ap;have e2:decide (x.nodes<=F)=false:=aD ap;have e3:((F:Int) == (x.node:Int))=false:=beq_eq_false_iff_ne.2 ap;clear jV;have dX:=AY.grow (Grow.refl _).drew;have N:=rcS (l:=[]) (t:=t) (had:=0) (sl := Z none 0 0) (by rw[bm];exact dX) rfl rfl rfl;go_wp2_with fail;refine dJ rfl ?_;clear y_ oK;rcases bC x.leads with hl|hl
 case' inr=>
  rw[hl] at N;refine gi (W_ p y t 0 (Z none 0 0) (jH g x.v) false) 14 rfl ?_;refine f9 0 N ?_;refine f9 1 N ?_;refine f9 2 N ?_;refine f9 3 N ?_;refine f9 4 N ?_;refine dQ 5 rfl N ?_;refine dQ 6 rfl N ?_;refine dQ 7 rfl N ?_;refine dQ 8 rfl N ?_;refine dQ 9 rfl N ?_;refine dQ 10 rfl N ?_;refine dQ 11 rfl N ?_;refine dQ 12 rfl N ?_;refine fL 13 N ?_;refine eU ?_;have hN:R=vF x:=by rw[HR.out];unfold mV;rw[aB (by rw[hl];exact cB)];rfl
  clear HR;have HR:=Q hN;clear hN N;replace hl:=Q hl
 case' inl=>
  obtain⟨v,hv⟩:=Y.lv hl;obtain⟨yW,zf⟩:=Y.v v hv;rw[hl,hv] at N;simp only[jH] at N;refine gi (W_ p y t 0 (Z none 0 0) ((g:K)) true) 14 rfl ?_;refine f9 0 N ?_;refine f9 1 N ?_;refine f9 2 N ?_;refine f9 3 N ?_;refine f9 4 N ?_;refine f9 5 N ?_;refine f9 6 N ?_;refine f9 7 N ?_;refine f9 8 N ?_;refine f9 10 N ?_;refine f9 11 N ?_;have P0:St V w [.c y 45 #[J 6,(),(),(),(),(),ay,"",(),(),(),(),ae ah 0,J t,(),ay,(),J n],.c p.r 118 (iu p x.node x.nodes x.commit ((g:K)) true x.own),.o (gR p.m x.m),.o (qP p.s p.x p.d x.s),.o (fJ g v)] w1.drew:=by have h:=dX;unfold dP at h;rw[hl,hv] at h;exact h
  refine dY 9 rfl ?_;go_wp2_with fail;refine (P0.at_ 4 rfl (λ_=>fJ.framed _ _) (D:=λ_=>False) (λ_ h=>h.elim) (qQ w1.drew _ g v yW)).mono ?_;rintro en w3 ⟨_,rfl,eO⟩;have eO:St V w (.c y 45 #[J 6,(),(),(),(),(),ay,"",(),(),(),(),ae ah 0,J t,(),ay,(),J n]::dP p g x) w3:=by unfold dP;rw[hl,hv];exact eO
  have j5:=rcS (l:=[]) (t:=t) (had:=0) (sl := Z none 0 0) (by rw[bm];exact eO) rfl rfl rfl;rw[hl,hv] at j5;simp only[jH] at j5;clear N P0;go_wp2_with fail;refine⟨j5,?_⟩;have hcn:w3.cell? ⟨y,17,none⟩=some (J n):=(eO.facts.1.1 17).trans rfl;by_cases zp:v.t=t
 case' neg=>
  have OT:((v.t:Int) == (t:Int))=false:=by simp;omega
  have hN:R=vF x:=by rw[HR.out];unfold mV;rw[aA hl,hv];simp only[];rw[aB zp];rfl
  clear HR;have HR:=Q hN;clear hN;replace zp:=Q zp;refine f9 12 j5 ?_;refine fL 13 j5 ?_;refine eU ?_;replace hl:=Q hl;replace hv:=Q hv;clear j5 hcn dX;have dX:=eO
 case' pos=>
  have OT:((v.t:Int) == (t:Int))=true:=by rw[zp];simp
  have hN:R=x.counted v F n:=by rw[HR.out];unfold mV;rw[aA hl,hv];simp only[];rw[aA zp];rfl
  clear HR;have HR:=Q hN;clear hN;replace zp:=Q zp;refine f9 12 j5 ?_;refine fL 13 j5 ?_;refine eU ?_;replace hl:=Q hl;clear j5 dX;go_wp2_with fail;refine (St.call (a:=dP p g x) (b:=[]) (a':=λj:K×List Sd => .o (dS j.1 j.2)::dP p g (x.counted v F n).1) (by rw[bm];exact eO.dO 0 rfl) (λ_=>⟨dS.framed _ _,eL _ _ _⟩) (D:=λ_=>False) (λ_ h=>h.elim) (qj w3 p g x Y v hv F ME n)).mono ?_;rintro en w5 ⟨j,⟨rfl,hj⟩,eF⟩;rw[bm] at eF;go_wp2;go_ret;obtain⟨r1,r2⟩:=eF.fin;rw[HR.out];first|exact⟨j,⟨rfl,hj⟩,r1,r2⟩|exact⟨j.1,j.2,⟨rfl,hj⟩,r1,r2⟩
 all_goals
  go_wp2
  go_ret
  obtain⟨r1,r2⟩:=nI (dX.dO 0 rfl)
  rw[HR.out]
  first|exact⟨(Z none 0 0,[]),⟨rfl,rfl⟩,r1,r2⟩|exact⟨Z none 0 0,[],⟨rfl,rfl⟩,r1,r2⟩
def Sd.val(s:Sd):K := aZ s.cells.toArray
def tU:Array K:=aK
def nJ:Sd:=⟨0,⟨0,En.zero,0,0,0,0,0,[],0,0⟩,none,0,none,[],0⟩
def o4(to:Nat)(e:En)(A:aU)(c:Nat):Sd:=⟨(to:Int),⟨1,e,0,0,0,0,0,[],0,0⟩,A,c,none,[],0⟩
def kq(s:aR)(node tag:Nat):En:=⟨2,0,0,0,0,[],s,(node:Int),(tag:Int)⟩
def Ag.look(x:Ag)(s:aR):Ag×Sd×Int:=if abn.fW s≠0 then (x,nJ,1) else (x.next (0,0,0),o4 x.last (kq s x.node (x.tag+1)) none 0,0)
theorem SI(w:X)(D:aV)(p:vE)(x:Ag)(s:aR)(hs:s.size<=1000000)(ht:x.tag<=4611686018427387904):Lw W D 222 #[.pointer (some ⟨p.a,0,none⟩),aX s] (dR p x) (λ(_:Unit)e=>e=b5 (a_ #[(x.look s).2.1.val,J (x.look s).2.2])) (λ_=>dR p (x.look s).1) w:=by
 obtain⟨R,HR⟩:=az (x.look s);rw[<-HR.out];intro V hM hV;have fN:=St.begin_ hM (λb hb=>(hV b hb).1) (fB _ _);obtain⟨y,wa,HY,HA,hS⟩:=fN.new' aI 218;have hP:=abn.qL wa s hs;obtain⟨abl,HE⟩:=az (abn.fW s);rw[<-HE.out] at hP;have jJ:R=if abl≠0 then (x,nJ,1) else (x.next (0,0,0),o4 x.last (kq s x.node (x.tag+1)) none 0,0):=by rw[HR.out,HE.out];rfl
 go_in;go_wp2_with fail;rw[<-HA.out,<-HY.out];refine hP.mono ?_;rintro e w1 ⟨A,c,rfl,_,_,H⟩;have ej:=hS.grow H;clear HA HY hS fN hP;by_cases h0:abl=0;case neg=>
  rw[aA h0] at jJ;have Mc:(abl != 0)=true:=by simp[h0]
  replace h0:=Q h0;replace jJ:=Q jJ;go_wp2_with (refine d_ ej 0 rfl 218 _ _ rfl 0 rfl nJ.cells rfl (bf rfl) rfl aw nJ.cells.toArray rfl rfl ?_;intro w2 dV;refine stay ?_);refine dI ?_;go_wp2;refine bodyPost_ret (dZ rfl _ y rfl (dV.blk 0 rfl) Tryz.underlying218 aw) rfl ?_;obtain⟨r1,r2⟩:=(dV.dO 0 rfl).fin;rw[jJ.out];exact⟨(),rfl,r1,r2⟩
 case pos=>
 subst h0;rw[aB (by simp)] at jJ;replace jJ:=Q jJ;clear HE;obtain⟨tg,X0⟩:=az (x.tag+1);rw[<-X0.out] at jJ;have hN:∀(O:X)(U:aV),Lw W (λy=>U y∨False) 285 #[.pointer (some ⟨p.a,0,none⟩),aZ #[(),(),()]] (dR p x) (λ(_:Unit)e=>e=b5 (J tg)) (λ_=>dR p (x.next (0,0,0))) O:=λO U=>by rw[X0.out];exact Jq O _ p x ht (0,0,0)
 go_wp2_with fail;have eW:=ej.grow (Grow.refl _).drew;have gD:∀(l:List Bl)O,St V w (.c y 218 nJ.cells.toArray::.c p.a 192 (qm p x)::l) O->O.cell? ⟨p.a,0,none⟩=some (J x.node):=λl O h=>h.facts.2.1.1 0;have hcN:∀(l:List Bl)O,St V w (.c p.a 192 (qm p (x.next (0,0,0)))::l) O->O.cell? ⟨p.a,0,none⟩=some (J x.node):=λl O h=>h.facts.1.1 0;have eA:=gD _ _ eW;refine dJ rfl ?_;refine fC (λO=>O.cell? ⟨p.a,0,none⟩=some (J x.node)) [10] 11 rfl [0,1,2,3,4,5,6] ?_;iterate 7 (refine eV rfl eA (λw1 I=>aM) ?_)
 refine Rv 7 9 [8] [] rfl rfl ?_ ?_;case' refine_1=>
  go_wp2_with fail;refine (St.py (a:=dR p x) (b:=[.c y 218 nJ.cells.toArray]) (D:=λ_=>False) (eW.back 5) (a':=λ_=>dR p (x.next (0,0,0))) (λ_=>fB _ _) eW.no (λU _ _=>hN _ U)).mono ?_;rintro e w2 ⟨_,rfl,dV⟩;have lV:=hcN _ _ dV;go_wp2_with fail;refine⟨λ_=>lV,?_⟩;refine eV rfl lV (λw1 I=>aM) ?_;refine eZ 9 [] rfl ?_;obtain⟨y5,w3,Lz,H3,dX⟩:=dV.new' tU 40;unfold tU at H3;go_wp2_with fail;rw[<-H3.out,<-Lz.out];have eO:St V w (.c y5 40 tU::(dR p (x.next (0,0,0))++[.c y 218 nJ.cells.toArray])) w3:=dX;refine⟨λ_=>hcN _ _ (dX.dO 0 rfl),?_⟩;clear H3 Lz dX dV eW ej lV eA
 case' refine_2=>
  obtain⟨y5,w2,Lz,H3,dX⟩:=ej.new' tU 40;unfold tU at H3;go_wp2_with fail;rw[<-H3.out,<-Lz.out];replace dX:=dX.grow (Grow.refl _).drew;refine⟨λ_=>gD _ _ (dX.dO 0 rfl),?_⟩;refine eZ 7 [8] rfl ?_;go_wp2_with fail;refine (St.py (a:=dR p x) (b:=[.c y 218 nJ.cells.toArray,.c y5 40 tU]) (D:=λ_=>False) ((dX.back 6).back 5) (a':=λ_=>dR p (x.next (0,0,0))) (λ_=>fB _ _) dX.no (λU _ _=>hN _ U)).mono ?_;rintro e w3 ⟨_,rfl,dV⟩;have lV:=hcN _ _ dV;go_wp2_with fail;refine⟨λ_=>lV,?_⟩;refine eV rfl lV (λw1 I=>aM) ?_;have eO:St V w (.c y5 40 tU::(dR p (x.next (0,0,0))++[.c y 218 nJ.cells.toArray])) w3:=dV.front 6 rfl;clear H3 Lz dX dV eW ej lV eA
 all_goals
  clear hcN gD hN
  refine eZ 10 [] rfl ?_
  go_wp2_with (refine d_ eO 0 rfl 40 _ _ rfl 0 rfl [J 2,(),(),(),(),ay,aX s,J x.node,J tg] rfl (bf rfl) rfl aw #[J 2,(),(),(),(),ay,aX s,J x.node,J tg] rfl rfl ?_;intro w5 eF;refine stay ?_)
  refine dI ?_
  go_wp2_with fail
  refine⟨λh=>absurd h am,?_⟩
  refine gj ?_
  go_wp2_with fail
  have eN:=eF.grow (Grow.refl _).drew
  clear eO eF
  have hB:=eN.blk 0 rfl
  have hl:w5.drew.cell? ⟨p.a,6,none⟩=some (J x.last):=eN.facts.2.1.1 6
  refine dJ rfl ?_
  refine fC (λO=>eJ O y5 40 #[J 2,(),(),(),(),ay,aX s,J x.node,J tg]∧O.cell? ⟨p.a,6,none⟩=some (J x.last)) [7,8] 9 rfl [0,1,2,3,4,5,6] ?_
  have eA:=And.intro hB hl
  iterate 4 (refine eV rfl eA (λw1 ⟨I,G⟩=>aM) ?_)
  refine eV rfl eA (λw1 ⟨I,G⟩ R T=>by have c0:=I.cell 0;have c1:=I.cell 1;have c2:=I.cell 2;have c3:=I.cell 3;have c4:=I.cell 4;have c5:=I.cell 5;have c6:=I.cell 6;have c7:=I.cell 7;have c8:=I.cell 8;go_simp;exact T) ?_
  iterate 2 (refine eV rfl eA (λw1 ⟨I,G⟩=>aM) ?_)
  refine fY 7 rfl aw ?_
  clear hB hl eA
  refine d_ eN 6 rfl 218 (.tmp 4) (.tmp 32) rfl 0 rfl (o4 x.last (kq s x.node tg) none 0).cells rfl (bf rfl) rfl aw (o4 x.last (kq s x.node tg) none 0).cells.toArray rfl rfl ?_
  intro w7 fH
  go_wp2
  refine bodyPost_ret (dZ rfl _ y rfl (fH.blk 6 rfl) Tryz.underlying218 aw) rfl ?_
  obtain⟨r1,r2⟩:=((fH.dO 6 rfl).dO 0 rfl).fin
  rw[jJ.out]
  exact⟨(),rfl,r1,r2⟩
end Go.Proofs.YtpeepcmdehhbgaaGreatDoor
end
