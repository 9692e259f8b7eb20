/- Mg2, Mg4, Mg5, Mg6, Mg3, Mg7, Rg1, Rz3, Rg3, Rg4, Rp, Vg1, Vg2, Vg3, Ld4, Ld5, Rg5, Rg2, Vg4, Mr1, Me1, Aq1, Rg6, Ao1, Rg7, Rg8, Rg9, Rga, Rgb, Rgc, Rgd, Rge, Rgf, Rgg, Rgh. -/
import Derived.Test.YtpeepcmdehhbgaaGreatDoorJr02
set_option linter.all false
set_option maxRecDepth 100000
set_option maxHeartbeats 2000000
open Go.Value renaming int->ae,slice->Y,string->aX,bool->aY,agg->aZ,tuple->a_
open Go.Ending renaming returned->b5
open Go.IntKind renaming i64->af,u64->ah
open Go (J az aE aA aB aC aD ay aj am ap aw aL aK aJ aI aH aV aU aT aR aQ aP aO aN)
open Go.Proofs.Tryz renaming prog->N,underlying45->bG
open Go.Lib renaming hid->Q
open List renaming length_append->bd,perm_append_comm->bg,length_map->bj,append_nil->bm,length_take->bn,take_succ_eq_append_getElem->br,length_singleton->bw,length_cons->bC,getElem_mem->bD,range->bF,take_of_length_le->bH,set_cons_succ->bI,setIfInBounds_toArray->bJ,set_cons_zero->bL,map_append->bM,flatMap_cons->bN,flatMap_append->bO,drop_eq_getElem_cons->bR,length_drop->bU,not_mem_nil->bW,map_cons->bX,mem_of_mem_take->bY,mem_cons->b_,length_nil->cx,nil_append->cC,take_succ_cons->cD,size_toArray->cE,cons_append->cH,flatMap_nil->cI,drop_succ_cons->cJ,map_congr_left->cP,map_nil->cS,drop_eq_nil_of_le->cT,replicate->cU,map_toArray->cZ,drop_zero->d9,mem_of_mem_drop->da,length_filter_le->df,length_range->di,length_set->dq,take_length->dy
open Nat renaming le_of_ble_eq_true->bf,le_refl->bh,zero_le->bo,lt_of_lt_of_le->bu,le_trans->bA
open Go.Region renaming wanted->bz,ready->cz,noSelect->cY
open Bool renaming eq_false_or_eq_true->bB,and_eq_true->bP,false_ne_true->cj
open Go.Builtin renaming append_->cA
open Go renaming Value->E,World->G,Calls->dF,Addr->dG,TypeId->dH,Program->dI,Oper->dJ,Act->dK,maxLen->dL
open Go.Hop (Bl)
open Go.Proofs.YtpeepcmdehhbgaaGreatDoor (El En qi)
variable{w w0 O:G}{V D:aV}{l:List Bl}{P:dI}{o:dJ}{g t nodes s x d y:Nat}{v sl:E}{ops:Array dJ}{aes:Go.Exit->dK->G->Prop}{a a':dK}{A:aU}{S:G->Prop}{aev:Array Bool}{e:En}{cs args:aP}{q:List El}{p:qi}{b:aT}{ρ:Go.Operand->E}
namespace Go.Proofs.YtpeepcmdehhbgaaGreatDoor
open RowKit Hop
def JR(w:G)(m s bE bS p g:Nat)(Ab:aU)(nb cb:Nat)(q:aer.Sm)(gp:List (Int×E))(ie:List (Key×E))(F:Int)(M:Nat)(B:aN)(R:ei)(W:eQ R)(e:En)(A:aU)(c:Nat)(D V:aV)(hM:dU (g_ m s bE bS p g (Y Ab nb cb) q gp ie F M B R) w V)(hV:∀b,V b->b<(w:Nat))(hd:kg w D A e.ds.length e.ds)(jv:∀b,D b->b<(w:Nat))(lG:∀b,D b->¬ V b)(jo:∀d∈e.ds,d.1.size<=dL∧d.2<=aer.oU)(hn:e.ds.length<=1048576)(hq:q.length<=1048576)(hI:aeu.kC F M)(qh:-9223372036854775808<=e.sq∧e.sq<=9223372036854775807)(AP:aer.jl q e.ds=0):dF N 178 #[m,p,aZ (e.agg A c)] w λen O=>en=b5 (J 1)∧dU (g_ m s bE bS p g (Y Ab nb cb) (aer.o5 q e.ds) gp (lN ie (e.ag,e.sh) ((p:E))) (aeu.iJ F M e.sq).1 (aeu.iJ F M e.sq).2 B R) O (ju V w O)∧dP V w O:=by
 have a2T:∀(vs:aP)(w:G),(callFunc 235 vs).run N w=.ok (.enter 235 vs) w:=λvs w=>by go_simp
 have a7A:∀(vs:aP)(w:G),(callFunc 237 vs).run N w=.ok (.enter 237 vs) w:=λvs w=>by go_simp
 have hF:=fL m s bE bS p g (Y Ab nb cb) q gp ie F M B W;have L:=Solo.begin_ hM hV;have gN:=dZ w (.cells (e.agg A c) 40);have iN:=eL.made w 40 (e.agg A c);obtain⟨y,HY⟩:=az ((w:Nat):Nat);obtain⟨wa,mP⟩:=az (w.alloc (.cells (e.agg A c) 40):G);rw[<-mP.out] at gN iN;rw[<-HY.out] at iN;unfold En.agg at mP ⊢;have mX:=L.join hF gN (R:=Cell y 40 (e,A,c)) (U:=λb=>b=y) ⟨rfl,iN⟩ (λb hb=>by have:=HY.out;have:=iN.lt;omega);have sv:=hF.cons (Cell.framed y 40 (e,A,c));have Io:=mX.blk 0 rfl;have sF:=mX.blk 1 rfl;clear iN;go_in;go_wp2_with fail;rw[<-mP.out,<-HY.out];have c0:=λw1(H:Grow _ w1)=>(sF.grow H).cell 0;have c1:=λw1(H:Grow _ w1)=>(Io.grow H).cell 5;refine kA 6 λw1 H=>?_;clear c0 c1;have eC:=mX.grows sv H;have J1:=dP.dR (V:=pd V w) (gN.trans H);have Iv:=hd.grow (gN.trans H);have pK:=eC.atV 2 rfl sv (λU hU kp Xo=>aer.ut w1 s q U hU kp A e.ds.length c e.ds D Iv (λb hb hu=>(Xo b hu).elim (lG b hb) (λh=>by have:=jv b hb;omega)) jo hn hq);rw[AP] at pK;go_wp2_with fail;refine pK.mono ?_;rintro en w2 ⟨rfl,kI,ec⟩;obtain⟨q',HQ⟩:=az (aer.o5 q e.ds:aer.Sm);rw[<-HQ.out] at ec;have ec:Solo (pd V w) (dU (Cell y 40 (e,A,c)::g_ m s bE bS p g (Y Ab nb cb) q' gp ie F M B R)) w2:=ec;have R6:=(fL m s bE bS p g (Y Ab nb cb) q' gp ie F M B W).cons (Cell.framed y 40 (e,A,c));have EM:=ec.blk 5 rfl;have Mv:=ec.blk 0 rfl;go_wp2_with fail;have c0:=λw3(o9:Grow _ w3)=>(EM.grow o9).cell 0;have c1:=λw3(o9:Grow _ w3)=>(Mv.grow o9).cell 3;refine kA 7 λw3 o9=>?_;clear c0 c1;have eh:=ec.grows R6 o9;have tP:=eh.atV (S':=Cell g 328 #[J (aeu.iJ F M e.sq).1,ae ah ((aeu.iJ F M e.sq).2:Int)]) 6 rfl R6 (λU hU kp Xo=>(aeu.Lj w3 g F M e.sq hU.2 hI qh).mono λen O ⟨I,Z,T⟩=>⟨I,⟨.inl hU.1,Z⟩,dP.jW T hU.1⟩);go_wp2_with fail;refine tP.mono ?_;rintro en w4 ⟨rfl,Tt,eU⟩;have eU:Solo (pd V w) (dU (Cell y 40 (e,A,c)::g_ m s bE bS p g (Y Ab nb cb) q' gp ie (aeu.iJ F M e.sq).1 (aeu.iJ F M e.sq).2 B R)) w4:=eU;obtain⟨F',HF⟩:=az ((aeu.iJ F M e.sq).1:Int);obtain⟨M',HM'⟩:=az ((aeu.iJ F M e.sq).2:Nat);rw[<-HF.out,<-HM'.out] at eU;have hFc:=(fL m s bE bS p g (Y Ab nb cb) q' gp ie F' M' B W).cons (Cell.framed y 40 (e,A,c));have hY4:=eU.blk 0 rfl;have YZ:=eU.blk 1 rfl;go_wp2_with fail;have c0:=λw5(Gh:Grow _ w5)=>(YZ.grow Gh).cell 2;have c1:=λw5(Gh:Grow _ w5)=>(hY4.grow Gh).cell 1;have c2:=λw5(Gh:Grow _ w5)=>(hY4.grow Gh).cell 2;refine kA 12 λw5 Gh=>?_;clear c0 c1 c2;have eI:=eU.grows hFc Gh;obtain⟨w6,eM,eS,hj6⟩:=eI.TW (φ:=λO=>(Instr.mapUpdate 136 (.map (some bS)) (aZ #[J e.ag,J e.sh]) ((p:E))).run N w5=.ok () O) 4 rfl hFc (λU hU kp=>by obtain⟨O,I,Z,T⟩:=eR.put Z3 (t:=136) (et:=268) aw hU (e.ag,e.sh) ((p:E));exact⟨O,I,Z,T.imp λb hb=>hb▸hU.1⟩)
 go_wp2;go_ret;obtain⟨r1,r2⟩:=Solo.done (l:=g_ m s bE bS p g (Y Ab nb cb) q' gp (lN ie (e.ag,e.sh) ((p:E))) F' M' B R) eS.drop1 (((J1.trans kI).trans ((dP.dR o9).trans Tt)).trans ((dP.dR Gh).trans hj6)) hV;rw[<-HQ.out,<-HF.out,<-HM'.out];exact⟨rfl,r1,r2⟩
def Gi(w:G)(m s bE bS p g:Nat)(Ab:aU)(nb cb:Nat)(q:aer.Sm)(gp:List (Int×E))(ie:List (Key×E))(F:Int)(M:Nat)(B:aN)(R:ei)(W:eQ R)(e:En)(A:aU)(c:Nat)(D V:aV)(hM:dU (g_ m s bE bS p g (Y Ab nb cb) q gp ie F M B R) w V)(hV:∀b,V b->b<(w:Nat))(hd:kg w D A e.ds.length e.ds)(jv:∀b,D b->b<(w:Nat))(lG:∀b,D b->¬ V b)(jo:∀d∈e.ds,d.1.size<=dL∧d.2<=aer.oU)(hn:e.ds.length<=1048576)(hq:q.length<=1048576)(hI:aeu.kC F M)(qh:-9223372036854775808<=e.sq∧e.sq<=9223372036854775807)(AP:aer.jl q e.ds≠0)(Mr:8<=nb):dF N 178 #[m,p,aZ (e.agg A c)] w λen O=>en=b5 (J 5)∧dU (g_ m s bE bS p g (Y Ab nb cb) q gp ie F M B R) O (ju V w O)∧dP V w O:=by
 have a2T:∀(vs:aP)(w:G),(callFunc 235 vs).run N w=.ok (.enter 235 vs) w:=λvs w=>by go_simp
 have hF:=fL m s bE bS p g (Y Ab nb cb) q gp ie F M B W;have L:=Solo.begin_ hM hV;have gN:=dZ w (.cells (e.agg A c) 40);have iN:=eL.made w 40 (e.agg A c);obtain⟨y,HY⟩:=az ((w:Nat):Nat);obtain⟨wa,mP⟩:=az (w.alloc (.cells (e.agg A c) 40):G);rw[<-mP.out] at gN iN;rw[<-HY.out] at iN;unfold En.agg at mP ⊢;have mX:=L.join hF gN (R:=Cell y 40 (e,A,c)) (U:=λb=>b=y) ⟨rfl,iN⟩ (λb hb=>by have:=HY.out;have:=iN.lt;omega);have sv:=hF.cons (Cell.framed y 40 (e,A,c));have Io:=mX.blk 0 rfl;have sF:=mX.blk 1 rfl;clear iN;go_in;go_wp2_with fail;rw[<-mP.out,<-HY.out];have c0:=λw1(H:Grow _ w1)=>(sF.grow H).cell 0;have c1:=λw1(H:Grow _ w1)=>(Io.grow H).cell 5;refine kA 6 λw1 H=>?_;clear c0 c1;have eC:=mX.grows sv H;have J1:=dP.dR (V:=pd V w) (gN.trans H);have Iv:=hd.grow (gN.trans H);have pK:=eC.atV 2 rfl sv (λU hU kp Xo=>aer.ut w1 s q U hU kp A e.ds.length c e.ds D Iv (λb hb hu=>(Xo b hu).elim (lG b hb) (λh=>by have:=jv b hb;omega)) jo hn hq);have qG:aer.o5 q e.ds=q:=by unfold aer.o5;rw[aB AP]
 rw[qG] at pK;obtain⟨x,HX⟩:=az (aer.jl q e.ds:Int);rw[<-HX.out] at pK AP;have AQ:(x != 0)=true:=bne_iff_ne.2 AP;have sH:decide ((8:Int)<=(nb:Int))=true:=aC ap;go_wp2_with fail;refine pK.mono ?_;rintro en w2 ⟨rfl,kI,ec⟩;have ec:Solo (pd V w) (dU (Cell y 40 (e,A,c)::g_ m s bE bS p g (Y Ab nb cb) q gp ie F M B R)) w2:=ec;have EM:=ec.blk 5 rfl;have c1:=EM.cell 1;clear AP Mr;go_wp2;go_ret;obtain⟨r1,r2⟩:=Solo.done (l:=g_ m s bE bS p g (Y Ab nb cb) q gp ie F M B R) ec.drop1 (J1.trans kI) hV;exact⟨rfl,r1,r2⟩
def Gj(w:G)(m:Nat)(q:aer.Sm)(gp:List (Int×E))(lh:List (Key×Pl))(e:En)(A:aU)(c:Nat)(D V:aV)(hV:∀b,V b->b<(w:Nat))(gS:e.Ok)(K:e.k=1)(hd:kg w D A e.ds.length e.ds)(jv:∀b,D b->b<(w:Nat))(lG:∀b,D b->¬ V b)(F:Int)(M:Nat)(B:aN)(kc:ik lh (e.ag,e.sh)=⟨F,M,B⟩)(Mw:B.length<=1048576)(hI:aeu.kC F M)(qh:-9223372036854775808<=e.sq∧e.sq<=9223372036854775807)(B8:aeu.seen F M e.sq=true)(a0Q:e.sq∈B)(h:iI m q gp lh w V):dF N 111 #[m,aZ (e.agg A c)] w λen O=>en=b5 (a_ #[J 3,ae ah 0])∧iI m q gp lh O (ju V w O)∧dP V w O:=by
 have Vi:∀(vs:aP)(w:G),(callFunc 175 vs).run N w=.ok (.enter 175 vs) w:=λvs w=>by go_simp
 have a7B:∀(vs:aP)(w:G),(callFunc 176 vs).run N w=.ok (.enter 176 vs) w:=λvs w=>by go_simp
 have gN:=dZ w (.cells (e.agg A c) 40);have iN:=eL.made w 40 (e.agg A c);obtain⟨y,HY⟩:=az ((w:Nat):Nat);obtain⟨wa,mP⟩:=az (w.alloc (.cells (e.agg A c) 40):G);rw[<-mP.out] at gN iN;rw[<-HY.out] at iN;have mQ:=jN wa e D A c gS (In.grow hd gN);unfold En.agg at mP mQ iN ⊢;have iM:(e.k == 2)=false:=by rw[K];rfl
 clear K;go_in;go_wp2_with fail;rw[<-mP.out,<-HY.out];refine mQ.mono ?_;rintro en wb ⟨rfl,nI⟩;have sX:=iN.grow nI;have y0:=sX.cell 0;have y1:=sX.cell 1;have y2:=sX.cell 2;have LH:=uJ wb m q gp lh V (λb hb=>bu (hV b hb) (gN.trans nI).size) e.ag e.sh (iI.framed m q gp lh w wb V h λb hb=>(gN.trans nI).block b (hV b hb));rw[kc] at LH;clear h;go_wp2_with fail;clear y0 y1 y2;refine LH.mono ?_;rintro en w0 ⟨s,bE,bS,p,g,v,ie,R,rfl,hO,vj,U,wv,hU⟩;have W:=hO.framed;obtain⟨UB,LI,_⟩:=(dU.pick _ 6 _ rfl wv).fst;obtain⟨Ab,cb,rfl,BN,_,_⟩:=Own.reads (show Own w0 UB 2 1 v B.length (lI B) from LI);obtain⟨nb,TA⟩:∃nb:Nat,Hid (B.length=nb):=⟨_,Q rfl⟩;rw[TA.out] at wv BN Mw;clear LI;have vd:Grow w w0:=(gN.trans nI).trans vj;have T9:(w:Nat)<=y∧y<(wb:Nat):=by have:=HY.out;have:=sX.lt;omega
 have Vj:=vj.size;have lM:∀b,New wb w0 b->(w:Nat)<=b:=λb hb=>by have:=hb.1;have:=(gN.trans nI).size;omega
 have hF:=fL m s bE bS p g (Y Ab nb cb) q gp ie F M B W;have sv:=hF.cons (Cell.framed y 40 (e,A,c));have fY:Solo (pd V w) (dU (Cell y 40 (e,A,c)::g_ m s bE bS p g (Y Ab nb cb) q gp ie F M B R)) w0:=
  Solo.Fc (U:=λb=>b=y) (λb hb => .inr ap) wv (λb hb=>(hU b hb).elim (λh=>⟨.inl h,by have:=hV b h;omega⟩) (λh=>⟨.inr (lM b h),h.2⟩)) ⟨rfl,sX.grow vj⟩
   (λb hb=>by rw[hb];exact⟨.inr T9.1,by omega,λh=>(hU y h).elim (λh=>by have:=hV y h;omega) (λh=>by have:=h.1;omega)⟩)
 have J0:=dP.dR (V:=pd V w) vd;have KO:=fY.blk 0 rfl;have tO:=fY.blk 5 rfl;have zC:=fY.blk 6 rfl;have R7:∀w1,Grow w0 w1->dF N 176 #[Y Ab nb cb,J e.sq] w1 λen O=>en=b5 (aY true)∧Grow w1 O:=λw1 H=>by have h:=Cd w1 (λb=>b<(w0:Nat)) Ab nb cb B e.sq (In.grow (Reads.kB (V:=λb=>b<(w0:Nat)) BN (bh _) λ_ h=>h) H) Mw;rw[aC a0Q] at h;exact h
 have LJ:∀w1,Grow w0 w1->dF N 175 #[g,J e.sq] w1 λen O=>en=b5 (aY true)∧Grow w1 O:=λw1 H=>by have h:=aeu.pu w1 g F M e.sq (zC.grow H) hI qh;rw[B8] at h;exact h
 clear BN;go_wp2_with fail;have c0:=λw1(H:Grow _ w1)=>(tO.grow H).cell 0;have c1:=λw1(H:Grow _ w1)=>(KO.grow H).cell 3;have c2:=λw1(H:Grow _ w1)=>(tO.grow H).cell 1;refine fv ?_;intro w1 H;clear c0 c1 c2;have x9:=H;have eC:=fY.grows sv x9;go_wp2;go_ret2;obtain⟨r1,r2⟩:=Solo.done (l:=g_ m s bE bS p g (Y Ab nb cb) q gp ie F M B R) (eC.drop1) (J0.trans (dP.dR x9)) hV;exact⟨rfl,nT hO r1,r2⟩
def JS(w:G)(m:Nat)(q:aer.Sm)(gp:List (Int×E))(lh:List (Key×Pl))(e:En)(A:aU)(c:Nat)(D V:aV)(hV:∀b,V b->b<(w:Nat))(gS:e.Ok)(K:e.k=1)(hd:kg w D A e.ds.length e.ds)(jv:∀b,D b->b<(w:Nat))(lG:∀b,D b->¬ V b)(F:Int)(M:Nat)(B:aN)(kc:ik lh (e.ag,e.sh)=⟨F,M,B⟩)(Mw:B.length<=1048576)(hI:aeu.kC F M)(qh:-9223372036854775808<=e.sq∧e.sq<=9223372036854775807)(B8:aeu.seen F M e.sq=true)(a0Q:e.sq ∉ B)(h:iI m q gp lh w V):dF N 111 #[m,aZ (e.agg A c)] w λen O=>en=b5 (a_ #[J 2,ae ah 0])∧iI m q gp lh O (ju V w O)∧dP V w O:=by
 have Vi:∀(vs:aP)(w:G),(callFunc 175 vs).run N w=.ok (.enter 175 vs) w:=λvs w=>by go_simp
 have a7B:∀(vs:aP)(w:G),(callFunc 176 vs).run N w=.ok (.enter 176 vs) w:=λvs w=>by go_simp
 have gN:=dZ w (.cells (e.agg A c) 40);have iN:=eL.made w 40 (e.agg A c);obtain⟨y,HY⟩:=az ((w:Nat):Nat);obtain⟨wa,mP⟩:=az (w.alloc (.cells (e.agg A c) 40):G);rw[<-mP.out] at gN iN;rw[<-HY.out] at iN;have mQ:=jN wa e D A c gS (In.grow hd gN);unfold En.agg at mP mQ iN ⊢;have iM:(e.k == 2)=false:=by rw[K];rfl
 clear K;go_in;go_wp2_with fail;rw[<-mP.out,<-HY.out];refine mQ.mono ?_;rintro en wb ⟨rfl,nI⟩;have sX:=iN.grow nI;have y0:=sX.cell 0;have y1:=sX.cell 1;have y2:=sX.cell 2;have LH:=uJ wb m q gp lh V (λb hb=>bu (hV b hb) (gN.trans nI).size) e.ag e.sh (iI.framed m q gp lh w wb V h λb hb=>(gN.trans nI).block b (hV b hb));rw[kc] at LH;clear h;go_wp2_with fail;clear y0 y1 y2;refine LH.mono ?_;rintro en w0 ⟨s,bE,bS,p,g,v,ie,R,rfl,hO,vj,U,wv,hU⟩;have W:=hO.framed;obtain⟨UB,LI,_⟩:=(dU.pick _ 6 _ rfl wv).fst;obtain⟨Ab,cb,rfl,BN,_,_⟩:=Own.reads (show Own w0 UB 2 1 v B.length (lI B) from LI);obtain⟨nb,TA⟩:∃nb:Nat,Hid (B.length=nb):=⟨_,Q rfl⟩;rw[TA.out] at wv BN Mw;clear LI;have vd:Grow w w0:=(gN.trans nI).trans vj;have T9:(w:Nat)<=y∧y<(wb:Nat):=by have:=HY.out;have:=sX.lt;omega
 have Vj:=vj.size;have lM:∀b,New wb w0 b->(w:Nat)<=b:=λb hb=>by have:=hb.1;have:=(gN.trans nI).size;omega
 have hF:=fL m s bE bS p g (Y Ab nb cb) q gp ie F M B W;have sv:=hF.cons (Cell.framed y 40 (e,A,c));have fY:Solo (pd V w) (dU (Cell y 40 (e,A,c)::g_ m s bE bS p g (Y Ab nb cb) q gp ie F M B R)) w0:=
  Solo.Fc (U:=λb=>b=y) (λb hb => .inr ap) wv (λb hb=>(hU b hb).elim (λh=>⟨.inl h,by have:=hV b h;omega⟩) (λh=>⟨.inr (lM b h),h.2⟩)) ⟨rfl,sX.grow vj⟩
   (λb hb=>by rw[hb];exact⟨.inr T9.1,by omega,λh=>(hU y h).elim (λh=>by have:=hV y h;omega) (λh=>by have:=h.1;omega)⟩)
 have J0:=dP.dR (V:=pd V w) vd;have KO:=fY.blk 0 rfl;have tO:=fY.blk 5 rfl;have zC:=fY.blk 6 rfl;have R7:∀w1,Grow w0 w1->dF N 176 #[Y Ab nb cb,J e.sq] w1 λen O=>en=b5 (aY false)∧Grow w1 O:=λw1 H=>by have h:=Cd w1 (λb=>b<(w0:Nat)) Ab nb cb B e.sq (In.grow (Reads.kB (V:=λb=>b<(w0:Nat)) BN (bh _) λ_ h=>h) H) Mw;rw[aD a0Q] at h;exact h
 have LJ:∀w1,Grow w0 w1->dF N 175 #[g,J e.sq] w1 λen O=>en=b5 (aY true)∧Grow w1 O:=λw1 H=>by have h:=aeu.pu w1 g F M e.sq (zC.grow H) hI qh;rw[B8] at h;exact h
 clear BN;go_wp2_with fail;have c0:=λw1(H:Grow _ w1)=>(tO.grow H).cell 0;have c1:=λw1(H:Grow _ w1)=>(KO.grow H).cell 3;have c2:=λw1(H:Grow _ w1)=>(tO.grow H).cell 1;refine fv ?_;intro w1 H;clear c0 c1 c2;have x9:=H;have eC:=fY.grows sv x9;have Mq:=tO.grow x9;have Io:=KO.grow x9;go_wp2_with fail;have c0:=λw2(H:Grow _ w2)=>(Mq.grow H).cell 0;have c1:=λw2(H:Grow _ w2)=>(Io.grow H).cell 3;have c2:=λw2(H:Grow _ w2)=>LJ w2 (x9.trans H);refine fv ?_;intro w2 H;clear c0 c1 c2;have R8:=H;have ec:=eC.grows sv R8;go_wp2;go_ret2;obtain⟨r1,r2⟩:=Solo.done (l:=g_ m s bE bS p g (Y Ab nb cb) q gp ie F M B R) (ec.drop1) ((J0.trans (dP.dR x9)).trans (dP.dR R8)) hV;exact⟨rfl,nT hO r1,r2⟩
def Bp(w:G)(m:Nat)(q:aer.Sm)(gp:List (Int×E))(lh:List (Key×Pl))(e:En)(A:aU)(c:Nat)(D V:aV)(hV:∀b,V b->b<(w:Nat))(gS:e.Ok)(K:e.k=1)(hd:kg w D A e.ds.length e.ds)(jv:∀b,D b->b<(w:Nat))(lG:∀b,D b->¬ V b)(F:Int)(M:Nat)(B:aN)(kc:ik lh (e.ag,e.sh)=⟨F,M,B⟩)(Mw:B.length<=1048576)(hI:aeu.kC F M)(qh:-9223372036854775808<=e.sq∧e.sq<=9223372036854775807)(B8:aeu.seen F M e.sq=false)(R9:∃x:Int,(vm gp e.ag).getD (J 0)=J x∧e.ep<x)(h:iI m q gp lh w V):dF N 111 #[m,aZ (e.agg A c)] w λen O=>en=b5 (a_ #[J 4,ae ah 0])∧iI m q gp lh O (ju V w O)∧dP V w O:=by
 have Vi:∀(vs:aP)(w:G),(callFunc 175 vs).run N w=.ok (.enter 175 vs) w:=λvs w=>by go_simp
 have gN:=dZ w (.cells (e.agg A c) 40);have iN:=eL.made w 40 (e.agg A c);obtain⟨y,HY⟩:=az ((w:Nat):Nat);obtain⟨wa,mP⟩:=az (w.alloc (.cells (e.agg A c) 40):G);rw[<-mP.out] at gN iN;rw[<-HY.out] at iN;have mQ:=jN wa e D A c gS (In.grow hd gN);unfold En.agg at mP mQ iN ⊢;have iM:(e.k == 2)=false:=by rw[K];rfl
 clear K;go_in;go_wp2_with fail;rw[<-mP.out,<-HY.out];refine mQ.mono ?_;rintro en wb ⟨rfl,nI⟩;have sX:=iN.grow nI;have y0:=sX.cell 0;have y1:=sX.cell 1;have y2:=sX.cell 2;have LH:=uJ wb m q gp lh V (λb hb=>bu (hV b hb) (gN.trans nI).size) e.ag e.sh (iI.framed m q gp lh w wb V h λb hb=>(gN.trans nI).block b (hV b hb));rw[kc] at LH;clear h;go_wp2_with fail;clear y0 y1 y2;refine LH.mono ?_;rintro en w0 ⟨s,bE,bS,p,g,v,ie,R,rfl,hO,vj,U,wv,hU⟩;have W:=hO.framed;obtain⟨UB,LI,_⟩:=(dU.pick _ 6 _ rfl wv).fst;obtain⟨Ab,cb,rfl,BN,_,_⟩:=Own.reads (show Own w0 UB 2 1 v B.length (lI B) from LI);obtain⟨nb,TA⟩:∃nb:Nat,Hid (B.length=nb):=⟨_,Q rfl⟩;rw[TA.out] at wv BN Mw;clear LI;have vd:Grow w w0:=(gN.trans nI).trans vj;have T9:(w:Nat)<=y∧y<(wb:Nat):=by have:=HY.out;have:=sX.lt;omega
 have Vj:=vj.size;have lM:∀b,New wb w0 b->(w:Nat)<=b:=λb hb=>by have:=hb.1;have:=(gN.trans nI).size;omega
 have hF:=fL m s bE bS p g (Y Ab nb cb) q gp ie F M B W;have sv:=hF.cons (Cell.framed y 40 (e,A,c));have fY:Solo (pd V w) (dU (Cell y 40 (e,A,c)::g_ m s bE bS p g (Y Ab nb cb) q gp ie F M B R)) w0:=
  Solo.Fc (U:=λb=>b=y) (λb hb => .inr ap) wv (λb hb=>(hU b hb).elim (λh=>⟨.inl h,by have:=hV b h;omega⟩) (λh=>⟨.inr (lM b h),h.2⟩)) ⟨rfl,sX.grow vj⟩
   (λb hb=>by rw[hb];exact⟨.inr T9.1,by omega,λh=>(hU y h).elim (λh=>by have:=hV y h;omega) (λh=>by have:=h.1;omega)⟩)
 have J0:=dP.dR (V:=pd V w) vd;have KO:=fY.blk 0 rfl;have tO:=fY.blk 5 rfl;have zC:=fY.blk 6 rfl;have LJ:∀w1,Grow w0 w1->dF N 175 #[g,J e.sq] w1 λen O=>en=b5 (aY false)∧Grow w1 O:=λw1 H=>by have h:=aeu.pu w1 g F M e.sq (zC.grow H) hI qh;rw[B8] at h;exact h
 clear BN;go_wp2_with fail;have c0:=λw1(H:Grow _ w1)=>(tO.grow H).cell 0;have c1:=λw1(H:Grow _ w1)=>(KO.grow H).cell 3;refine fv ?_;intro w1 H;clear c0 c1;have x9:=H;have eC:=fY.grows sv x9;have Mq:=tO.grow x9;have Io:=KO.grow x9;go_wp2_with fail;have c0:=λw2(H:Grow _ w2)=>(Mq.grow H).cell 0;have c1:=λw2(H:Grow _ w2)=>(Io.grow H).cell 3;have c2:=λw2(H:Grow _ w2)=>LJ w2 (x9.trans H);refine fv ?_;intro w2 H;clear c0 c1 c2;have R8:=H;have ec:=eC.grows sv R8;obtain⟨x,X,hxe⟩:=R9;have EO:∀w1,Grow w2 w1->(Instr.lookup 135 (.map (some bE)) (J e.ag) false).run N w1=.ok (J x) w1:=λw1 H=>by obtain⟨U3,hG3,_⟩:=(ec.grows sv H).see 3 rfl;have h:=eR.look QS (t:=135) (et:=2) aw (zI w1) hG3 e.ag false;rw[aB am,X] at h;exact h
 have BO:=ec.blk 1 rfl;have Mv:=ec.blk 0 rfl;go_wp2_with fail;have c0:=λw3(H:Grow _ w3)=>(Mv.grow H).cell 4;have c1:=λw3(H:Grow _ w3)=>(BO.grow H).cell 1;have c2:=λw3(H:Grow _ w3)=>(Mv.grow H).cell 1;refine fv ?_;intro w3 H;clear c0 c1 c2;have Xp:=H;have eh:=ec.grows sv Xp;go_wp2;go_ret2;obtain⟨r1,r2⟩:=Solo.done (l:=g_ m s bE bS p g (Y Ab nb cb) q gp ie F M B R) (eh.drop1) (((J0.trans (dP.dR x9)).trans (dP.dR R8)).trans (dP.dR Xp)) hV;exact⟨rfl,nT hO r1,r2⟩
def JU(w:G)(m:Nat)(q:aer.Sm)(gp:List (Int×E))(lh:List (Key×Pl))(e:En)(A:aU)(c:Nat)(D V:aV)(hV:∀b,V b->b<(w:Nat))(gS:e.Ok)(K:e.k=1)(hd:kg w D A e.ds.length e.ds)(jv:∀b,D b->b<(w:Nat))(lG:∀b,D b->¬ V b)(F:Int)(M:Nat)(B:aN)(kc:ik lh (e.ag,e.sh)=⟨F,M,B⟩)(Mw:B.length<=1048576)(hI:aeu.kC F M)(qh:-9223372036854775808<=e.sq∧e.sq<=9223372036854775807)(B8:aeu.seen F M e.sq=false)(R9:∃x:Int,(vm gp e.ag).getD (J 0)=J x∧x<=e.ep)(OW:aeu.far F e.sq=true)(h:iI m q gp lh w V):dF N 111 #[m,aZ (e.agg A c)] w λen O=>en=b5 (a_ #[J 5,ae ah 0])∧iI m q (lN gp e.ag (J e.ep)) lh O (ju V w O)∧dP V w O:=by
 have Vi:∀(vs:aP)(w:G),(callFunc 175 vs).run N w=.ok (.enter 175 vs) w:=λvs w=>by go_simp
 have a7C:∀(vs:aP)(w:G),(callFunc 177 vs).run N w=.ok (.enter 177 vs) w:=λvs w=>by go_simp
 have gN:=dZ w (.cells (e.agg A c) 40);have iN:=eL.made w 40 (e.agg A c);obtain⟨y,HY⟩:=az ((w:Nat):Nat);obtain⟨wa,mP⟩:=az (w.alloc (.cells (e.agg A c) 40):G);rw[<-mP.out] at gN iN;rw[<-HY.out] at iN;have mQ:=jN wa e D A c gS (In.grow hd gN);unfold En.agg at mP mQ iN ⊢;have iM:(e.k == 2)=false:=by rw[K];rfl
 clear K;go_in;go_wp2_with fail;rw[<-mP.out,<-HY.out];refine mQ.mono ?_;rintro en wb ⟨rfl,nI⟩;have sX:=iN.grow nI;have y0:=sX.cell 0;have y1:=sX.cell 1;have y2:=sX.cell 2;have LH:=uJ wb m q gp lh V (λb hb=>bu (hV b hb) (gN.trans nI).size) e.ag e.sh (iI.framed m q gp lh w wb V h λb hb=>(gN.trans nI).block b (hV b hb));rw[kc] at LH;clear h;go_wp2_with fail;clear y0 y1 y2;refine LH.mono ?_;rintro en w0 ⟨s,bE,bS,p,g,v,ie,R,rfl,hO,vj,U,wv,hU⟩;have W:=hO.framed;obtain⟨UB,LI,_⟩:=(dU.pick _ 6 _ rfl wv).fst;obtain⟨Ab,cb,rfl,BN,_,_⟩:=Own.reads (show Own w0 UB 2 1 v B.length (lI B) from LI);obtain⟨nb,TA⟩:∃nb:Nat,Hid (B.length=nb):=⟨_,Q rfl⟩;rw[TA.out] at wv BN Mw;clear LI;have vd:Grow w w0:=(gN.trans nI).trans vj;have T9:(w:Nat)<=y∧y<(wb:Nat):=by have:=HY.out;have:=sX.lt;omega
 have Vj:=vj.size;have lM:∀b,New wb w0 b->(w:Nat)<=b:=λb hb=>by have:=hb.1;have:=(gN.trans nI).size;omega
 have hF:=fL m s bE bS p g (Y Ab nb cb) q gp ie F M B W;have sv:=hF.cons (Cell.framed y 40 (e,A,c));have fY:Solo (pd V w) (dU (Cell y 40 (e,A,c)::g_ m s bE bS p g (Y Ab nb cb) q gp ie F M B R)) w0:=
  Solo.Fc (U:=λb=>b=y) (λb hb => .inr ap) wv (λb hb=>(hU b hb).elim (λh=>⟨.inl h,by have:=hV b h;omega⟩) (λh=>⟨.inr (lM b h),h.2⟩)) ⟨rfl,sX.grow vj⟩
   (λb hb=>by rw[hb];exact⟨.inr T9.1,by omega,λh=>(hU y h).elim (λh=>by have:=hV y h;omega) (λh=>by have:=h.1;omega)⟩)
 have J0:=dP.dR (V:=pd V w) vd;have KO:=fY.blk 0 rfl;have tO:=fY.blk 5 rfl;have zC:=fY.blk 6 rfl;have LJ:∀w1,Grow w0 w1->dF N 175 #[g,J e.sq] w1 λen O=>en=b5 (aY false)∧Grow w1 O:=λw1 H=>by have h:=aeu.pu w1 g F M e.sq (zC.grow H) hI qh;rw[B8] at h;exact h
 clear BN;go_wp2_with fail;have c0:=λw1(H:Grow _ w1)=>(tO.grow H).cell 0;have c1:=λw1(H:Grow _ w1)=>(KO.grow H).cell 3;refine fv ?_;intro w1 H;clear c0 c1;have x9:=H;have eC:=fY.grows sv x9;have Mq:=tO.grow x9;have Io:=KO.grow x9;go_wp2_with fail;have c0:=λw2(H:Grow _ w2)=>(Mq.grow H).cell 0;have c1:=λw2(H:Grow _ w2)=>(Io.grow H).cell 3;have c2:=λw2(H:Grow _ w2)=>LJ w2 (x9.trans H);refine fv ?_;intro w2 H;clear c0 c1 c2;have R8:=H;have ec:=eC.grows sv R8;obtain⟨x,X,hxe⟩:=R9;have WM:decide (e.ep<x)=false:=aD ap;have EO:∀w1,Grow w2 w1->(Instr.lookup 135 (.map (some bE)) (J e.ag) false).run N w1=.ok (J x) w1:=λw1 H=>by obtain⟨U3,hG3,_⟩:=(ec.grows sv H).see 3 rfl;have h:=eR.look QS (t:=135) (et:=2) aw (zI w1) hG3 e.ag false;rw[aB am,X] at h;exact h
 have BO:=ec.blk 1 rfl;have Mv:=ec.blk 0 rfl;go_wp2_with fail;have c0:=λw3(H:Grow _ w3)=>(Mv.grow H).cell 4;have c1:=λw3(H:Grow _ w3)=>(BO.grow H).cell 1;have c2:=λw3(H:Grow _ w3)=>(Mv.grow H).cell 1;refine fv ?_;intro w3 H;clear c0 c1 c2;have Xp:=H;have eh:=ec.grows sv Xp;have Ud:=eh.blk 1 rfl;have Zc:=eh.blk 0 rfl;clear EO;go_wp2_with fail;have c0:=λw4(H:Grow _ w4)=>(Ud.grow H).cell 1;have c1:=λw4(H:Grow _ w4)=>(Zc.grow H).cell 1;have c2:=λw4(H:Grow _ w4)=>(Zc.grow H).cell 4;refine kA 9 λw4 H=>?_;clear c0 c1 c2;have hgH:=H;have eU:=eh.grows sv hgH;obtain⟨w5,eM,eI,xu⟩:=eU.TW (φ:=λO=>(Instr.mapUpdate 135 (.map (some bE)) (J e.ag) (J e.ep)).run N w4=.ok () O) 3 rfl sv (λU hU kp=>by obtain⟨O,I,Z,T⟩:=eR.put QS (t:=135) (et:=2) aw hU e.ag (J e.ep);exact⟨O,I,Z,T.imp λb hb=>hb▸hU.1⟩)
 obtain⟨uK,HE⟩:=az (lN gp e.ag (J e.ep):List (Int×E));rw[<-HE.out] at eI;have eI:Solo (pd V w) (dU (Cell y 40 (e,A,c)::g_ m s bE bS p g (Y Ab nb cb) q uK ie F M B R)) w5:=eI;have R6:=(fL m s bE bS p g (Y Ab nb cb) q uK ie F M B W).cons (Cell.framed y 40 (e,A,c));have J5:dP (pd V w) w w5:=((((J0.trans (dP.dR x9)).trans (dP.dR R8)).trans (dP.dR Xp)).trans (dP.dR hgH)).trans xu;clear Ud BO Mv Zc tO KO zC Mq Io;have hp5:=eI.blk 5 rfl;have hY5:=eI.blk 0 rfl;have sk:=eI.blk 6 rfl;have hFr:∀w1,Grow w5 w1->dF N 177 #[g,J e.sq] w1 λen O=>en=b5 (aY true)∧Grow w1 O:=λw1 H=>by have h:=aeu.tp w1 g F M e.sq _ (sk.grow H) ⟨by have:=hI.lo;omega,hI.hi⟩ qh OW;exact h.mono λ_ _ ⟨I,Z⟩=>⟨I,Z▸Grow.refl _⟩
 go_wp2_with fail;clear eM;have c0:=λw6(H:Grow _ w6)=>(hp5.grow H).cell 0;have c1:=λw6(H:Grow _ w6)=>(hY5.grow H).cell 3;refine fv ?_;intro w6 H;clear c0 c1;have hgI:=H;have eS:=eI.grows R6 hgI;go_wp2;go_ret2;obtain⟨r1,r2⟩:=Solo.done (l:=g_ m s bE bS p g (Y Ab nb cb) q uK ie F M B R) (eS.drop1) (J5.trans (dP.dR hgI)) hV;rw[<-HE.out];exact⟨rfl,nT hO r1,r2⟩
def a7E(b:Bool)(lh:List (Key×Pl))(k:Key)(x:Pl):List (Key×Pl):=if b then jr lh k x else lh
def a7F(b:Bool)(ie:List (Key×E))(k:Key)(v:E):List (Key×E):=if b then lN ie k v else ie
theorem qj(w:G)(m:Nat)(q:aer.Sm)(gp:List (Int×E))(lh:List (Key×Pl))(e:En)(A:aU)(c:Nat)(D V:aV)(hV:∀b,V b->b<(w:Nat))(gS:e.Ok)(K:e.k=1)(hd:kg w D A e.ds.length e.ds)(jv:∀b,D b->b<(w:Nat))(lG:∀b,D b->¬ V b)(F:Int)(M:Nat)(B:aN)(kc:ik lh (e.ag,e.sh)=⟨F,M,B⟩)(Mw:B.length<=1048576)(hI:aeu.kC F M)(qh:-9223372036854775808<=e.sq∧e.sq<=9223372036854775807)(B8:aeu.seen F M e.sq=false)(R9:∃x:Int,(vm gp e.ag).getD (J 0)=J x∧x<=e.ep)(OW:aeu.far F e.sq=false)(code:Int)(q':aer.Sm)(b:Bool)(F':Int)(M':Nat)(B':aN)(hb:b=false->F'=F∧M'=M∧B'=B)
 (hc:∀(w6:G)(s bE bS p g:Nat)(Ab:aU)(nb cb:Nat)(ie:List (Key×E))(R:ei)(U:aV),B.length=nb->eQ R->dU (g_ m s bE bS p g (Y Ab nb cb) q (lN gp e.ag (J e.ep)) ie F M B R) w6 U->(∀b,U b->b<(w6:Nat))->kg w6 D A e.ds.length e.ds->(∀b,D b->b<(w6:Nat))->(∀b,D b->¬ U b)->
  dF N 178 #[m,p,aZ (e.agg A c)] w6 λen O=>en=b5 (J code)∧(∃v,dU (g_ m s bE bS p g v q' (lN gp e.ag (J e.ep)) (a7F b ie (e.ag,e.sh) ((p:E))) F' M' B' R) O (ju U w6 O))∧dP U w6 O) (h:iI m q gp lh w V):dF N 111 #[m,aZ (e.agg A c)] w λen O=>en=b5 (a_ #[J code,ae ah 0])∧iI m q' (lN gp e.ag (J e.ep)) (a7E b lh (e.ag,e.sh) ⟨F',M',B'⟩) O (ju V w O)∧dP V w O:=by
 have Vi:∀(vs:aP)(w:G),(callFunc 175 vs).run N w=.ok (.enter 175 vs) w:=λvs w=>by go_simp
 have a7C:∀(vs:aP)(w:G),(callFunc 177 vs).run N w=.ok (.enter 177 vs) w:=λvs w=>by go_simp
 have gN:=dZ w (.cells (e.agg A c) 40);have iN:=eL.made w 40 (e.agg A c);obtain⟨y,HY⟩:=az ((w:Nat):Nat);obtain⟨wa,mP⟩:=az (w.alloc (.cells (e.agg A c) 40):G);rw[<-mP.out] at gN iN;rw[<-HY.out] at iN;have mQ:=jN wa e D A c gS (In.grow hd gN);unfold En.agg at mP mQ iN ⊢;have iM:(e.k == 2)=false:=by rw[K];rfl
 clear K;go_in;go_wp2_with fail;rw[<-mP.out,<-HY.out];refine mQ.mono ?_;rintro en wb ⟨rfl,nI⟩;have sX:=iN.grow nI;have y0:=sX.cell 0;have y1:=sX.cell 1;have y2:=sX.cell 2;have LH:=uJ wb m q gp lh V (λb hb=>bu (hV b hb) (gN.trans nI).size) e.ag e.sh (iI.framed m q gp lh w wb V h λb hb=>(gN.trans nI).block b (hV b hb));rw[kc] at LH;clear h;go_wp2_with fail;clear y0 y1 y2;refine LH.mono ?_;rintro en w0 ⟨s,bE,bS,p,g,v,ie,R,rfl,hO,vj,U,wv,hU⟩;have W:=hO.framed;obtain⟨UB,LI,_⟩:=(dU.pick _ 6 _ rfl wv).fst;obtain⟨Ab,cb,rfl,BN,_,_⟩:=Own.reads (show Own w0 UB 2 1 v B.length (lI B) from LI);obtain⟨nb,TA⟩:∃nb:Nat,Hid (B.length=nb):=⟨_,Q rfl⟩;rw[TA.out] at wv BN Mw;clear LI;have vd:Grow w w0:=(gN.trans nI).trans vj;have T9:(w:Nat)<=y∧y<(wb:Nat):=by have:=HY.out;have:=sX.lt;omega
 have Vj:=vj.size;have lM:∀b,New wb w0 b->(w:Nat)<=b:=λb hb=>by have:=hb.1;have:=(gN.trans nI).size;omega
 have hF:=fL m s bE bS p g (Y Ab nb cb) q gp ie F M B W;have sv:=hF.cons (Cell.framed y 40 (e,A,c));have fY:Solo (pd V w) (dU (Cell y 40 (e,A,c)::g_ m s bE bS p g (Y Ab nb cb) q gp ie F M B R)) w0:=
  Solo.Fc (U:=λb=>b=y) (λb hb => .inr ap) wv (λb hb=>(hU b hb).elim (λh=>⟨.inl h,by have:=hV b h;omega⟩) (λh=>⟨.inr (lM b h),h.2⟩)) ⟨rfl,sX.grow vj⟩
   (λb hb=>by rw[hb];exact⟨.inr T9.1,by omega,λh=>(hU y h).elim (λh=>by have:=hV y h;omega) (λh=>by have:=h.1;omega)⟩)
 have qI:(ie.map Prod.fst).Nodup:=by obtain⟨_,hG,_⟩:=fY.see 4 rfl;exact NI hG
 have J0:=dP.dR (V:=pd V w) vd;have KO:=fY.blk 0 rfl;have tO:=fY.blk 5 rfl;have zC:=fY.blk 6 rfl;have LJ:∀w1,Grow w0 w1->dF N 175 #[g,J e.sq] w1 λen O=>en=b5 (aY false)∧Grow w1 O:=λw1 H=>by have h:=aeu.pu w1 g F M e.sq (zC.grow H) hI qh;rw[B8] at h;exact h
 clear BN;go_wp2_with fail;have c0:=λw1(H:Grow _ w1)=>(tO.grow H).cell 0;have c1:=λw1(H:Grow _ w1)=>(KO.grow H).cell 3;refine fv ?_;intro w1 H;clear c0 c1;have x9:=H;have eC:=fY.grows sv x9;have Mq:=tO.grow x9;have Io:=KO.grow x9;go_wp2_with fail;have c0:=λw2(H:Grow _ w2)=>(Mq.grow H).cell 0;have c1:=λw2(H:Grow _ w2)=>(Io.grow H).cell 3;have c2:=λw2(H:Grow _ w2)=>LJ w2 (x9.trans H);refine fv ?_;intro w2 H;clear c0 c1 c2;have R8:=H;have ec:=eC.grows sv R8;obtain⟨x,X,hxe⟩:=R9;have WM:decide (e.ep<x)=false:=aD ap;have EO:∀w1,Grow w2 w1->(Instr.lookup 135 (.map (some bE)) (J e.ag) false).run N w1=.ok (J x) w1:=λw1 H=>by obtain⟨U3,hG3,_⟩:=(ec.grows sv H).see 3 rfl;have h:=eR.look QS (t:=135) (et:=2) aw (zI w1) hG3 e.ag false;rw[aB am,X] at h;exact h
 have BO:=ec.blk 1 rfl;have Mv:=ec.blk 0 rfl;go_wp2_with fail;have c0:=λw3(H:Grow _ w3)=>(Mv.grow H).cell 4;have c1:=λw3(H:Grow _ w3)=>(BO.grow H).cell 1;have c2:=λw3(H:Grow _ w3)=>(Mv.grow H).cell 1;refine fv ?_;intro w3 H;clear c0 c1 c2;have Xp:=H;have eh:=ec.grows sv Xp;have Ud:=eh.blk 1 rfl;have Zc:=eh.blk 0 rfl;clear EO;go_wp2_with fail;have c0:=λw4(H:Grow _ w4)=>(Ud.grow H).cell 1;have c1:=λw4(H:Grow _ w4)=>(Zc.grow H).cell 1;have c2:=λw4(H:Grow _ w4)=>(Zc.grow H).cell 4;refine kA 9 λw4 H=>?_;clear c0 c1 c2;have hgH:=H;have eU:=eh.grows sv hgH;obtain⟨w5,eM,eI,xu⟩:=eU.TW (φ:=λO=>(Instr.mapUpdate 135 (.map (some bE)) (J e.ag) (J e.ep)).run N w4=.ok () O) 3 rfl sv (λU hU kp=>by obtain⟨O,I,Z,T⟩:=eR.put QS (t:=135) (et:=2) aw hU e.ag (J e.ep);exact⟨O,I,Z,T.imp λb hb=>hb▸hU.1⟩)
 obtain⟨uK,HE⟩:=az (lN gp e.ag (J e.ep):List (Int×E));rw[<-HE.out] at eI;have eI:Solo (pd V w) (dU (Cell y 40 (e,A,c)::g_ m s bE bS p g (Y Ab nb cb) q uK ie F M B R)) w5:=eI;have R6:=(fL m s bE bS p g (Y Ab nb cb) q uK ie F M B W).cons (Cell.framed y 40 (e,A,c));have J5:dP (pd V w) w w5:=((((J0.trans (dP.dR x9)).trans (dP.dR R8)).trans (dP.dR Xp)).trans (dP.dR hgH)).trans xu;clear Ud BO Mv Zc tO KO zC Mq Io;have hp5:=eI.blk 5 rfl;have hY5:=eI.blk 0 rfl;have sk:=eI.blk 6 rfl;have hFr:∀w1,Grow w5 w1->dF N 177 #[g,J e.sq] w1 λen O=>en=b5 (aY false)∧Grow w1 O:=λw1 H=>by have h:=aeu.tp w1 g F M e.sq _ (sk.grow H) ⟨by have:=hI.lo;omega,hI.hi⟩ qh OW;exact h.mono λ_ _ ⟨I,Z⟩=>⟨I,Z▸Grow.refl _⟩
 go_wp2_with fail;clear eM;have c0:=λw6(H:Grow _ w6)=>(hp5.grow H).cell 0;have c1:=λw6(H:Grow _ w6)=>(hY5.grow H).cell 3;refine fv ?_;intro w6 H;clear c0 c1;have hgI:=H;have eS:=eI.grows R6 hgI;have Vk:=eS.blk 0 rfl;have J6:=J5.trans (dP.dR hgI);have hd6:kg w6 D A e.ds.length e.ds:=In.just hd J6 λb hb hl=>hl.elim (lG b hb) (λh=>by have:=jv b hb;omega);have fQ:Solo (pd V w) (dU (dU (g_ m s bE bS p g (Y Ab nb cb) q uK ie F M B R)::[Cell y 40 (e,A,c)])) w6:=Solo.Yc (eS.perm (List.perm_append_singleton _ _).symm);have hF7:fb (dU (g_ m s bE bS p g (Y Ab nb cb) q uK ie F M B R)::[Cell y 40 (e,A,c)]):=(fb.nil.cons (Cell.framed _ _ _)).cons (dU.framed _ (fL m s bE bS p g (Y Ab nb cb) q uK ie F M B W));have hw6:=J6.size;obtain⟨UM,hUM,a2Z,a7G⟩:=Solo.opx (S:=dU (g_ m s bE bS p g (Y Ab nb cb) q uK ie F M B R)) 0 rfl hF7 fQ;rw[HE.out] at hUM;have pK:=hc w6 s bE bS p g Ab nb cb ie R UM TA.out W hUM (λb hb=>(a2Z b hb).2) hd6 (λb hb=>by have:=jv b hb;omega) (λb hb hu=>(a2Z b hu).1.elim (lG b hb) (λh=>by have:=jv b hb;omega));clear hc;unfold En.agg at pK;have y0:=Vk.cell 0;have y1:=Vk.cell 1;have y2:=Vk.cell 2;have y3:=Vk.cell 3;have y4:=Vk.cell 4;have y5:=Vk.cell 5;have y6:=Vk.cell 6;have y7:=Vk.cell 7;have y8:=Vk.cell 8;go_wp2_with fail;clear y0 y1 y2 y3 y4 y5 y6 y7 y8;refine pK.mono ?_;rintro en w7 ⟨rfl,⟨v7,h7⟩,Zd⟩;obtain⟨fK,hj8⟩:=a7G _ w7 h7 Zd;go_wp2;go_ret2;have gM:=(Solo.flat fK).perm (List.perm_append_singleton _ _);obtain⟨r1,r2⟩:=Solo.done gM.drop1 (J6.trans hj8) hV;refine⟨rfl,?_,r2⟩;cases b with
 | true=>exact NJ hO qI r1
 | false=>
   obtain⟨rfl,rfl,rfl⟩:=hb rfl;exact nT (x:=⟨_,_,_⟩) (ie:=ie) hO r1
end Go.Proofs.YtpeepcmdehhbgaaGreatDoor
section
namespace Go.Hop
open Go.RowKit
def NL(U:aV)(w0:G)(e:dH)(size n:Nat)(xs:List E)(u:E)(w:G):Prop:=Own w (ju U w0 w) e size u n xs
def Ed(U:aV)(w0:G)(e:dH)(size n:Nat)(xs:List E):jV (NL U w0 e size n xs):=λ_ _ _ h H=>(Own.grows h H).mono λ_ hb=>hb.imp id λh=>⟨h.1,bu h.2 H.size⟩
theorem Own.drew{w:G}{V:aV}{e:dH}{size n:Nat}{v:E}{xs:List E}(h:Own w V e size v n xs):Own w.drew V e size v n xs:=h
def JV{t e:dH}{size bytes:Nat}{z:E}(aep:Elem P t e size bytes z){x y:Operand}{n:Nat}{xs:List E}(hI:Own w V e size v n xs)(X:ρ x=v){m c Bd:Nat}{news:List E}(hy:ρ y=Y A m c)(hr:Reads w Bd size A m news)
 (I:∀u∈news,u.oneCell'=true) (fC:(n+m)*bytes<=140737488355328) (h0:(w0:Nat)<=(w:Nat)) (ho:o.op=.call { callee := .builtin .append,args:=#[x,y],argTypes:=#[t,t] }) (k:Nat):eJ P (λu O=>dP V w O∧Own O V e size v n xs∧Once (NL V w0 e size (n+m) (xs++news)) (k+1) u O) ((execOp ρ o).run P w):=by
 obtain⟨v',O,eM,Z,T,h4⟩:=xp aep w o.type v n xs hI Bd A m c news hr I fC;refine gC (u:=v') (w:=O) ?_ ⟨T,h4,show Own O (ju V w0 O) e size v' (n+m) (xs++news) from Z.mono λb hb=>?_⟩
 ·unfold execOp
  simp only[ho,resolve,invoke,builtin,Sem.run_bind,Sem.run_pure,Result.andThen_ok,cZ,bX,cS,X,hy,eM]
 ·rcases hb with hb|hb
  ·exact .inl hb
  ·exact .inr ⟨bA h0 hb.1,hb.2⟩
end Go.Hop
namespace Go.Proofs.YtpeepcmdehhbgaaGreatDoor
open Go.RowKit Go.Hop
def Ra{n:Int}{x:Operand}(X:ρ x=J n)(ho:o.op=.buildSlice 72 1 #[(0,x)]):eJ N (λu O=>Grow w O∧C2 1 1 [J n] u O) ((execOp ρ o).run N w):=by obtain⟨dst,op,ty,pos,after,guard⟩:=o;simp only at ho;subst ho;have H:Grow w (w.alloc (.cells #[J n] 2)):=(Below.refl _ w).alloc (bh _) _;refine gC (u := Y (some ⟨(w:Nat),0,none⟩) 1 1) (w:=w.alloc (.cells #[J n] 2)) (by go_simp) ⟨H,some ⟨(w:Nat),0,none⟩,1,rfl,?_⟩;exact Reads.more (fO w #[J n] 2 (0,0) (n:=1) (size:=1) rfl _ rfl) (by simp)
def JW(w:G)(m s bE bS p g:Nat)(Ab:aU)(nb cb:Nat)(q:aer.Sm)(gp:List (Int×E))(ie:List (Key×E))(F:Int)(M:Nat)(B:aN)(R:ei)(W:eQ R)(e:En)(A:aU)(c:Nat)(D V:aV)(hM:dU (g_ m s bE bS p g (Y Ab nb cb) q gp ie F M B R) w V)(hV:∀b,V b->b<(w:Nat))(hd:kg w D A e.ds.length e.ds)(jv:∀b,D b->b<(w:Nat))(lG:∀b,D b->¬ V b)(jo:∀d∈e.ds,d.1.size<=dL∧d.2<=aer.oU)(hn:e.ds.length<=1048576)(hq:q.length<=1048576)(hI:aeu.kC F M)(qh:-9223372036854775808<=e.sq∧e.sq<=9223372036854775807)(AP:aer.jl q e.ds≠0)(Mr:nb<8)(hB:B.length=nb):dF N 178 #[m,p,aZ (e.agg A c)] w λen O=>en=b5 (J 3)∧(∃v,dU (g_ m s bE bS p g v q gp (lN ie (e.ag,e.sh) ((p:E))) (aeu.iJ F M e.sq).1 (aeu.iJ F M e.sq).2 (qz (B++[e.sq])) R) O (ju V w O))∧dP V w O:=by
 have a2T:∀(vs:aP)(w:G),(callFunc 235 vs).run N w=.ok (.enter 235 vs) w:=λvs w=>by go_simp
 have a7A:∀(vs:aP)(w:G),(callFunc 237 vs).run N w=.ok (.enter 237 vs) w:=λvs w=>by go_simp
 have k236:∀(vs:aP)(w:G),(callFunc 236 vs).run N w=.ok (.enter 236 vs) w:=λvs w=>by go_simp
 have hF:=fL m s bE bS p g (Y Ab nb cb) q gp ie F M B W;have L:=Solo.begin_ hM hV;have gN:=dZ w (.cells (e.agg A c) 40);have iN:=eL.made w 40 (e.agg A c);obtain⟨y,HY⟩:=az ((w:Nat):Nat);obtain⟨wa,mP⟩:=az (w.alloc (.cells (e.agg A c) 40):G);rw[<-mP.out] at gN iN;rw[<-HY.out] at iN;unfold En.agg at mP ⊢;have mX:=L.join hF gN (R:=Cell y 40 (e,A,c)) (U:=λb=>b=y) ⟨rfl,iN⟩ (λb hb=>by have:=HY.out;have:=iN.lt;omega);have sv:=hF.cons (Cell.framed y 40 (e,A,c));have Io:=mX.blk 0 rfl;have sF:=mX.blk 1 rfl;clear iN;go_in;go_wp2_with fail;rw[<-mP.out,<-HY.out];have c0:=λw1(H:Grow _ w1)=>(sF.grow H).cell 0;have c1:=λw1(H:Grow _ w1)=>(Io.grow H).cell 5;refine kA 6 λw1 H=>?_;clear c0 c1;have eC:=mX.grows sv H;have J1:=dP.dR (V:=pd V w) (gN.trans H);have Iv:=hd.grow (gN.trans H);have pK:=eC.atV 2 rfl sv (λU hU kp Xo=>aer.ut w1 s q U hU kp A e.ds.length c e.ds D Iv (λb hb hu=>(Xo b hu).elim (lG b hb) (λh=>by have:=jv b hb;omega)) jo hn hq);have qG:aer.o5 q e.ds=q:=by unfold aer.o5;rw[aB AP]
 rw[qG] at pK;obtain⟨x,HX⟩:=az (aer.jl q e.ds:Int);rw[<-HX.out] at pK AP;have AQ:(x != 0)=true:=bne_iff_ne.2 AP;have sH:decide ((8:Int)<=(nb:Int))=false:=aD ap;go_wp2_with fail;refine pK.mono ?_;rintro en w2 ⟨rfl,kI,ec⟩;have ec:Solo (pd V w) (dU (Cell y 40 (e,A,c)::g_ m s bE bS p g (Y Ab nb cb) q gp ie F M B R)) w2:=ec;have EM:=ec.blk 5 rfl;have c1:=EM.cell 1;clear AP;have HB:=Q hB;go_wp2_with fail;obtain⟨U,hU,kp,hUo⟩:=Solo.opx (S:=xy (Y Ab nb cb) B) 7 rfl sv ec;have hU:Own w2 U 2 1 (Y Ab nb cb) B.length (lI B):=hU;rw[hB] at hU;clear hB;have X8:∀w3,dP U w2 w3->eL w3 p 272 #[g,Y Ab nb cb]:=λw3 hj=>(hUo Emp w3 trivial hj).1.blk 5 rfl;have hYj:∀w3,dP U w2 w3->eL w3 y 40 (e,A,c):=λw3 hj=>(hUo Emp w3 trivial hj).1.blk 0 rfl;refine dO rfl ?_;refine t_ (C1 U 2 1 (Y Ab nb cb) nb (lI B) 9 []) Ph 0 12 60 [(8,.inr (I4 (C2 1 1 [J e.sq]))),(9,.inr (Once (NL U w2 2 1 (nb+1) (lI B++[J e.sq]))))] rfl aw aw aw ?_ (dP.dR (Grow.refl _).drew) (Own.drew hU) ?_
 ·intro x X φ he
  simp only[b_,bW,or_false] at X;rcases X with rfl|rfl<;>cases he
  all_goals first|exact gB (gJ _)|exact IK (Ed _ _ _ _ _ _)|exact Fa (Bb _ _ _)
 intro ops' A' K' aeq oT o8 hK hT;refine ji 22 ((p:E)) ?_;refine ji 23 ((p:E)) ?_;refine eD 24 (.tmp 23) ((p:E)) ((p:E)) (λρ I kk w3(Dh:dP U _ w3)hb hf=>by go_simp) ?_;refine eD 25 (.tmp 24) ((p:E)) (((p,1):E)) (λρ I kk w3(Dh:dP U _ w3)hb hf=>by go_simp) ?_;refine eD 26 (.tmp 25) (((p,1):E)) (Y Ab nb cb) (λρ I kk w3(Dh:dP U _ w3)hb hf=>by have c:=(X8 w3 Dh).cell 1;go_simp) ?_;refine eD 27 (.tmp 5) ((y:E)) (((y,1):E)) (λρ I kk w3(Dh:dP U _ w3)hb hf=>by go_simp) ?_;refine eD 28 (.tmp 27) (((y,1):E)) (.pointer (some ⟨y,1+2,none⟩)) (λρ I kk w3(Dh:dP U _ w3)hb hf=>by go_simp) ?_;refine eD 29 (.tmp 28) (.pointer (some ⟨y,1+2,none⟩)) (J e.sq) (λρ I kk w3(Dh:dP U _ w3)hb hf=>by have c:=(hYj w3 Dh).cell 3;go_simp) ?_;refine tX 30 aj am (eu aj) (I4 (C2 1 1 [J e.sq])) (by rw[hK.out];rfl) (.tmp 29) (J e.sq) aj (λρ I kk w3(Dh:dP U _ w3)hb hf=>by refine i9 (φ:=I4 (C2 1 1 [J e.sq])) aj ?_;exact tZ (Ra (n:=e.sq) I rfl) λu w2 h=>⟨h.1,Pj h.2⟩) (λv30=>?_);refine KS 31 aj am (eu aj) (Once (NL U w2 2 1 (nb+1) (lI B++[J e.sq]))) (by rw[hK.out];rfl) (.tmp 26) (.tmp 30) (Y Ab nb cb) (v30) aj aj (λρ I Z kk w3(Dh:dP U _ w3)hb hf=>by obtain rfl:=kU 0 aj hb;have hI:=hb.1;refine u4 (S:=(C1 U 2 1 (Y Ab nb cb) nb (lI B) 9 [])) (j:=9) (k:=0) (φ:=Once (NL U w2 2 1 (nb+1) (lI B++[J e.sq]))) 0 aj ?_;have q1:=(gj hf (by rw[o8.out];kernel_rfl));have hr:C2 1 1 [J e.sq] v30 w3:=q1;obtain⟨A9,c9,hv9,TB⟩:=hr;rw[hv9] at Z;exact JV a6J hI I Z TB (PN [e.sq]) ap Dh.size rfl 0) (λv31=>?_);refine eD 32 (.tmp 22) ((p:E)) ((p:E)) (λρ I kk w3(Dh:dP U _ w3)hb hf=>by go_simp) ?_;refine eD 33 (.tmp 32) ((p:E)) (((p,1):E)) (λρ I kk w3(Dh:dP U _ w3)hb hf=>by go_simp) ?_;refine nL (λ_ _ w3(Dh:dP U _ w3)I1 gy=>hT _ _ ?_);clear oT o8 hK hT;simp only[jq,Act.put,bJ,bL,bI];have oS:NL U w2 2 1 (nb+1) (lI B++[J e.sq]) v31 w3:=gy.1;clear I1 gy;obtain⟨A3,c3,rfl,_,_,_⟩:=Own.reads oS;refine tW 12 13 aw aw ?_;simp only[cD,List.take_zero,cJ,d9];have a30:xy (Y A3 (nb+1) c3) (B++[e.sq]) w3 (ju U w2 w3):=by
  have e1:lI B++[J e.sq]=lI (B++[e.sq]):=by simp[lI]
  have e2:nb+1=(B++[e.sq]).length:=by rw[bd,HB.out];rfl
  show Own w3 (ju U w2 w3) 2 1 (Y A3 (nb+1) c3) (B++[e.sq]).length (lI (B++[e.sq]));rw[<-e2,<-e1];exact oS
 obtain⟨eh,J3⟩:=hUo _ w3 a30 Dh;have eh:Solo (pd V w) (dU [Cell y 40 (e,A,c),Cell m 138 #[s,.map (some bE),.map (some bS)],aer.iK s q,eR oV bE gp,eR LF bS ie,Cell p 272 #[g,Y Ab nb cb],Cell g 328 #[J F,ae ah M],xy (Y A3 (nb+1) c3) (B++[e.sq]),R]) w3:=eh;have hF3:fb [Cell y 40 (e,A,c),Cell m 138 #[s,.map (some bE),.map (some bS)],aer.iK s q,eR oV bE gp,eR LF bS ie,Cell p 272 #[g,Y Ab nb cb],Cell g 328 #[J F,ae ah M],xy (Y A3 (nb+1) c3) (B++[e.sq]),R]:=((((((((fb.nil.cons W).cons (xy.framed _ _)).cons (Cell.framed _ _ _)).cons (Cell.framed _ _ _)).cons (eR.framed _ _)).cons (eR.framed _ _)).cons (aer.iK.framed _ _)).cons (Cell.framed _ _ _)).cons (Cell.framed _ _ _);have hp3:=eh.blk 5 rfl;have c1:=hp3.cell 1;have f1:=hp3.frozen 1;have eU:Solo (pd V w) (dU (Cell y 40 (e,A,c)::g_ m s bE bS p g (Y A3 (nb+1) c3) q gp ie F M (B++[e.sq]) R)) (w3.setCell (p,1) (Y A3 (nb+1) c3)):=Solo.puts (x:=p) (t:=272) (cs:=#[g,Y Ab nb cb]) 5 rfl hF3 eh 1 (Y A3 (nb+1) c3);have J4:dP (pd V w) w (w3.setCell (p,1) (Y A3 (nb+1) c3)):=((J1.trans kI).trans J3).put (eh.Yb 5 rfl).1 1 (Y A3 (nb+1) c3);obtain⟨B2,HB2⟩:=az (B++[e.sq]:List Int);obtain⟨w4,HW4⟩:=az (w3.setCell (p,1) (Y A3 (nb+1) c3):G);rw[<-HB2.out] at eU;rw[<-HW4.out] at eU J4;have hF4:=(fL m s bE bS p g (Y A3 (nb+1) c3) q gp ie F M B2 W).cons (Cell.framed y 40 (e,A,c));clear EM X8 hYj hUo oS a30 eh hF3 hU kp Io sF;have hp4:=eU.blk 5 rfl;have d1:=hp4.cell 1;have a7H:=eU.atV (S':=xy (Y A3 (nb+1) c3) (qz B2)) 7 rfl hF4 (λU hU kp Xo=>(MR w4 U (Y A3 (nb+1) c3) B2 hU (by rw[HB2.out,bd,HB.out,bw];omega)).mono λen O ⟨I,Z,T⟩=>⟨I,Z.mono λ_ h => .inl h,T⟩);go_wp2_with fail;refine ob ?_;rw[<-HW4.out];clear c1 f1 hp3;go_wp2_with fail;refine a7H.mono ?_;rintro en w5 ⟨rfl,xu,eI⟩;have eI:Solo (pd V w) (dU (Cell y 40 (e,A,c)::g_ m s bE bS p g (Y A3 (nb+1) c3) q gp ie F M (qz B2) R)) w5:=eI;obtain⟨B3,HB3⟩:=az (qz B2:aN);rw[<-HB3.out] at eI;have R6:=(fL m s bE bS p g (Y A3 (nb+1) c3) q gp ie F M B3 W).cons (Cell.framed y 40 (e,A,c));clear d1 hp4;have EM:=eI.blk 5 rfl;have Mv:=eI.blk 0 rfl;go_wp2_with fail;have c0:=λw7(o9:Grow _ w7)=>(EM.grow o9).cell 0;have c1:=λw7(o9:Grow _ w7)=>(Mv.grow o9).cell 3;refine kA 7 λw7 o9=>?_;clear c0 c1;have fQ:=eI.grows R6 o9;have tP:=fQ.atV (S':=Cell g 328 #[J (aeu.iJ F M e.sq).1,ae ah ((aeu.iJ F M e.sq).2:Int)]) 6 rfl R6 (λU hU kp Xo=>(aeu.Lj w7 g F M e.sq hU.2 hI qh).mono λen O ⟨I,Z,T⟩=>⟨I,⟨.inl hU.1,Z⟩,dP.jW T hU.1⟩);go_wp2_with fail;refine tP.mono ?_;rintro en w8 ⟨rfl,Tt,fK⟩;have fK:Solo (pd V w) (dU (Cell y 40 (e,A,c)::g_ m s bE bS p g (Y A3 (nb+1) c3) q gp ie (aeu.iJ F M e.sq).1 (aeu.iJ F M e.sq).2 B3 R)) w8:=fK;obtain⟨F',HF⟩:=az ((aeu.iJ F M e.sq).1:Int);obtain⟨M',HM'⟩:=az ((aeu.iJ F M e.sq).2:Nat);rw[<-HF.out,<-HM'.out] at fK;have hFc:=(fL m s bE bS p g (Y A3 (nb+1) c3) q gp ie F' M' B3 W).cons (Cell.framed y 40 (e,A,c));have hY4:=fK.blk 0 rfl;have YZ:=fK.blk 1 rfl;go_wp2_with fail;have c0:=λw9(Gh:Grow _ w9)=>(YZ.grow Gh).cell 2;have c1:=λw9(Gh:Grow _ w9)=>(hY4.grow Gh).cell 1;have c2:=λw9(Gh:Grow _ w9)=>(hY4.grow Gh).cell 2;refine kA 12 λw9 Gh=>?_;clear c0 c1 c2;have eI:=fK.grows hFc Gh;obtain⟨wA,eM,eS,hj6⟩:=eI.TW (φ:=λO=>(Instr.mapUpdate 136 (.map (some bS)) (aZ #[J e.ag,J e.sh]) ((p:E))).run N w9=.ok () O) 4 rfl hFc (λU hU kp=>by obtain⟨O,I,Z,T⟩:=eR.put Z3 (t:=136) (et:=268) aw hU (e.ag,e.sh) ((p:E));exact⟨O,I,Z,T.imp λb hb=>hb▸hU.1⟩)
 go_wp2;go_ret;obtain⟨r1,r2⟩:=Solo.done (l:=g_ m s bE bS p g (Y A3 (nb+1) c3) q gp (lN ie (e.ag,e.sh) ((p:E))) F' M' B3 R) eS.drop1 (((J4.trans xu).trans ((dP.dR o9).trans Tt)).trans ((dP.dR Gh).trans hj6)) hV;rw[HB2.out] at HB3;rw[<-HB3.out,<-HF.out,<-HM'.out];exact⟨rfl,⟨_,r1⟩,r2⟩
end Go.Proofs.YtpeepcmdehhbgaaGreatDoor
end
namespace Go.Proofs.YtpeepcmdehhbgaaGreatDoor
open RowKit Hop
def Gk(w:G)(m:Nat)(q:aer.Sm)(gp:List (Int×E))(lh:List (Key×Pl))(e:En)(A:aU)(c:Nat)(D V:aV)(hV:∀b,V b->b<(w:Nat))(gS:e.Ok)(K:e.k=2)(B8:e.se.size<=dL)(hd:kg w D A e.ds.length e.ds)(h:iI m q gp lh w V):dF N 111 #[m,aZ (e.agg A c)] w λen O=>en=b5 (a_ #[J 8,ae ah ((aer.gt q e.se:Nat):Int)])∧iI m q gp lh O (ju V w O)∧dP V w O:=by
 have k173:∀(vs:aP)(w:G),(callFunc 173 vs).run N w=.ok (.enter 173 vs) w:=λvs w=>by go_simp
 have gN:=dZ w (.cells (e.agg A c) 40);have iN:=eL.made w 40 (e.agg A c);obtain⟨y,HY⟩:=az ((w:Nat):Nat);obtain⟨wa,mP⟩:=az (w.alloc (.cells (e.agg A c) 40):G);rw[<-mP.out] at gN iN;rw[<-HY.out] at iN;have mQ:=jN wa e D A c gS (In.grow hd gN);unfold En.agg at mP mQ iN ⊢;have iM:(e.k == 2)=true:=by rw[K];rfl
 obtain⟨aet,HN⟩:=az (aer.gt q e.se:Nat);have hF:=iI.framed m q gp lh;have h0:=h;obtain⟨s,bE,bS,aev,rfl,h⟩:=h;obtain⟨U0,tK,hU0⟩:=(dU.pick _ 0 _ rfl h).fst;obtain⟨U1,hs0,hU1⟩:=(dU.pick _ 1 _ rfl h).fst;have Zb:=tK.2;clear K h;go_in;go_wp2_with fail;rw[<-mP.out,<-HY.out];refine mQ.mono ?_;rintro en wb ⟨rfl,nI⟩;have sX:=iN.grow nI;have hmb:=Zb.grow (gN.trans nI);have hGet:∀w1,Grow wb w1->dF N 173 #[s,aX e.se] w1 λen O=>en=b5 (ae ah aet)∧Grow w1 O:=λw1 H=>by have I:=aer.rQ w1 s q U1 (aer.iK.framed s q w w1 U1 hs0 λb hb=>((gN.trans nI).trans H).block b (hV b (hU1 b hb))) e.se B8;rw[<-HN.out] at I;exact I.mono λ_ _ ⟨a,b⟩=>⟨a,b▸Grow.refl _⟩
 have y0:=sX.cell 0;go_wp2_with fail;clear y0;have c0:=λw1(H:Grow _ w1)=>(hmb.grow H).cell 0;have c1:=λw1(H:Grow _ w1)=>(sX.grow H).cell 6;refine fv ?_;intro w1 H;clear c0 c1;go_wp2;go_ret2;have Dh:=(gN.trans nI).trans H;rw[<-HN.out];exact⟨rfl,(hF w w1 V h0 λb hb=>Dh.block b (hV b hb)).elim λs h=>iI.wide m q gp (pC aev) w1 V _ (λb hb => .inl hb) ⟨s,h⟩,dP.dR Dh⟩
def Ip(l:List (Int×Int)):List (Int×E):=l.map λa=>(a.1,J a.2)
def Gl(l:List (Int×Int))(k:Int):Int:=((l.find? λa=>decide (a.1=k)).map (·.2)).getD 0
def uL(l:List (Int×Int))(k n:Int):List (Int×Int):=if k∈l.map Prod.fst then l.map (λa=>if a.1=k then (k,n) else a) else l++[(k,n)]
def LK(l:List (Int×Int))(k:Int):(vm (Ip l) k).getD (J 0)=J (Gl l k):=by unfold vm Ip Gl;rw[List.find?_map];show Option.getD (Option.map _ (Option.map _ (l.find? λa=>decide (a.1=k)))) _=_;cases l.find? λa=>decide (a.1=k)<;>rfl
def yh(l:List (Int×Int))(k n:Int):lN (Ip l) k (J n)=Ip (uL l k n):=by
 unfold lN uL Ip;have e:(l.map λa=>((a.1,Value.int .i64 a.2):Int×E)).map Prod.fst=l.map Prod.fst:=by simp
 rw[e];by_cases h:k∈l.map Prod.fst
 ·rw[aA h,aA h,List.map_map,List.map_map]
  refine cP λa _=>?_;by_cases Z:a.1=k<;>simp[Z]
 ·rw[aB h,aB h]
  simp
structure jy where
 q:aer.Sm
 gp:List (Int×Int)
 pl:List (Key×Pl)
def jy.new:jy:=⟨[],[],[]⟩
def jy.at_(x:jy)(e:En):Pl:=ik x.pl (e.ag,e.sh)
def ey(x:jy)(e:En):Int×Nat×jy:=
 if e.k=2 then (8,aer.gt x.q e.se,x) else
 if aeu.seen (x.at_ e).F (x.at_ e).M e.sq then (if e.sq∈(x.at_ e).B then (3,0,x) else (2,0,x)) else
 if e.ep<Gl x.gp e.ag then (4,0,x) else
 if aeu.far (x.at_ e).F e.sq then (5,0,⟨x.q,uL x.gp e.ag e.ep,x.pl⟩) else
 if aer.jl x.q e.ds=0 then (1,0,⟨aer.o5 x.q e.ds,uL x.gp e.ag e.ep,jr x.pl (e.ag,e.sh) ⟨(aeu.iJ (x.at_ e).F (x.at_ e).M e.sq).1,(aeu.iJ (x.at_ e).F (x.at_ e).M e.sq).2,(x.at_ e).B⟩⟩) else
 if (x.at_ e).B.length<8 then (3,0,⟨x.q,uL x.gp e.ag e.ep,jr x.pl (e.ag,e.sh) ⟨(aeu.iJ (x.at_ e).F (x.at_ e).M e.sq).1,(aeu.iJ (x.at_ e).F (x.at_ e).M e.sq).2,qz ((x.at_ e).B++[e.sq])⟩⟩) else
 (5,0,⟨x.q,uL x.gp e.ag e.ep,x.pl⟩)
def il(m:Nat)(x:jy):ei:=iI m x.q (Ip x.gp) x.pl
theorem il.framed(m:Nat)(x:jy):eQ (il m x):=iI.framed _ _ _ _
structure CL(n:Nat)(x:jy):Prop where
 q:x.q.length<=n
 win:∀k,aeu.kC (ik x.pl k).F (ik x.pl k).M
 bad:∀k,(ik x.pl k).B.length<=8
theorem CL.new:CL 0 jy.new:=⟨bh _,λk=>aeu.kC.none,λk=>bo _⟩
def CL.more{n n':Nat}{x:jy}(h:CL n x)(hn:n<=n'):CL n' x:=⟨bA h.q hn,h.win,h.bad⟩
def CL.put{n:Nat}{x:jy}(h:CL n x){q:aer.Sm}{gp:List (Int×Int)}(k:Key)(y:Pl)(hq:q.length<=n)(hw:aeu.kC y.F y.M)(hb:y.B.length<=8):CL n ⟨q,gp,jr x.pl k y⟩:=
 ⟨hq,λk'=>by
  show aeu.kC (ik (jr x.pl k y) k').F (ik (jr x.pl k y) k').M;rw[CI];split;·exact hw
  ·exact h.win k',λk'=>by
  show (ik (jr x.pl k y) k').B.length<=8;rw[CI];split;·exact hb
  ·exact h.bad k'⟩
def Rb(q:aer.Sm)(l:List Dl):(aer.o5 q l).length<=q.length+l.length:=by
 unfold aer.o5;split;·exact aer.oh l q
 ·omega
def CL.step{n:Nat}{x:jy}(h:CL n x)(e:En)(qh:e.sq<=9223372036854775807):CL (n+e.ds.length) (ey x e).2.2:=by
 have h':CL (n+e.ds.length) x:=h.more ap;have hw:=(h.win (e.ag,e.sh)).add qh;have hb:=h.bad (e.ag,e.sh);unfold ey;split;·exact h'
 split;·split<;>exact h'
 split;·exact h'
 split;·exact⟨h'.q,h'.win,h'.bad⟩
 split;·exact h'.put _ _ (bA (Rb _ _) (by have:=h.q;omega)) hw hb
 split
 ·rename_i h8
  exact h'.put _ _ h'.q hw (by rw[pU,bd,bw];omega)
 ·exact⟨h'.q,h'.win,h'.bad⟩
def NM(gS:e.Ok)(K:e.k≠2):e.k=1∧(∀d∈e.ds,d.1.size<=dL∧d.2<=aer.oU)∧e.ds.length<=1048576 ∧ -9223372036854775808<=e.sq∧e.sq<=9223372036854775807:=by
 rcases gS.2 with h|h
 ·refine⟨h.1,?_⟩
  obtain⟨_,_,_,_,h5,_,h7,h8⟩:=h;exact⟨λd hd=>by obtain⟨_,b,_,s⟩:=h8 d hd;exact⟨by unfold dL;omega,by unfold aer.oU;omega⟩,by omega,by omega,by omega⟩
 ·exact absurd h.1 K
theorem NN(w:G)(m:Nat)(x:jy)(n:Nat)(e:En)(A:aU)(c:Nat)(D V:aV)(hV:∀b,V b->b<(w:Nat))(gS:e.Ok)(B8:e.se.size<=dL)(hd:kg w D A e.ds.length e.ds)(jv:∀b,D b->b<(w:Nat))(lG:∀b,D b->¬ V b)(X:CL n x)(hn:n<=1048576)(h:il m x w V):dF N 111 #[m,aZ (e.agg A c)] w λen O=>en=b5 (a_ #[J (ey x e).1,ae ah ((ey x e).2.1:Nat)])∧il m (ey x e).2.2 O (ju V w O)∧dP V w O:=by
 obtain⟨q,gp,pl⟩:=x;have hh:iI m q (Ip gp) pl w V:=h;by_cases K:e.k=2
 ·have es:ey ⟨q,gp,pl⟩ e=(8,aer.gt q e.se,⟨q,gp,pl⟩):=by unfold ey;rw[aA K]
  rw[es];exact Gk w m q (Ip gp) pl e A c D V hV gS K B8 hd hh
 obtain⟨jb,jo,oX,qh⟩:=NM gS K;have hI:aeu.kC (ik pl (e.ag,e.sh)).F (ik pl (e.ag,e.sh)).M:=X.win _;have Mw:(ik pl (e.ag,e.sh)).B.length<=8:=X.bad _;have hq:q.length<=1048576:=bA X.q hn;have eat:(⟨q,gp,pl⟩:jy).at_ e=ik pl (e.ag,e.sh):=rfl;unfold ey;rw[aB K,eat];generalize kc:ik pl (e.ag,e.sh)=p at hI Mw;obtain⟨F,M,B⟩:=p;dsimp only at hI Mw ⊢;have lb:B.length<=1048576:=by omega
 cases JX:aeu.seen F M e.sq with
 | true=>
   rw[aA rfl];by_cases hb:e.sq∈B
   ·rw[aA hb]
    exact Gj w m q (Ip gp) pl e A c D V hV gS jb hd jv lG F M B kc lb hI qh JX hb hh
   ·rw[aB hb]
    exact JS w m q (Ip gp) pl e A c D V hV gS jb hd jv lG F M B kc lb hI qh JX hb hh
 | false=>
   rw[aB am];by_cases hf:e.ep<Gl gp e.ag
   ·rw[aA hf]
    exact Bp w m q (Ip gp) pl e A c D V hV gS jb hd jv lG F M B kc lb hI qh JX ⟨_,LK gp e.ag,hf⟩ hh
   rw[aB hf];have R9:∃x:Int,(vm (Ip gp) e.ag).getD (J 0)=J x∧x<=e.ep:=⟨_,LK gp e.ag,by omega⟩;cases OW:aeu.far F e.sq with
   | true=>
     rw[aA rfl];have I:=JU w m q (Ip gp) pl e A c D V hV gS jb hd jv lG F M B kc lb hI qh JX R9 OW hh;rw[yh] at I;exact I
   | false=>
     rw[aB am];by_cases hm:aer.jl q e.ds=0
     ·rw[aA hm]
      have I:=qj w m q (Ip gp) pl e A c D V hV gS jb hd jv lG F M B kc lb hI qh JX R9 OW 1 (aer.o5 q e.ds) true (aeu.iJ F M e.sq).1 (aeu.iJ F M e.sq).2 B (λh=>by cases h)
       (λw6 s bE bS p g Ab nb cb ie R U Mr W hM hU hd6 hD6 hDU=>(JR w6 m s bE bS p g Ab nb cb q _ ie F M B R W e A c D U hM hU hd6 hD6 hDU jo oX hq hI qh hm).mono λen O ⟨a,b,c⟩=>⟨a,⟨_,b⟩,c⟩) hh
      rw[yh] at I;exact I
     rw[aB hm];by_cases h8:B.length<8
     ·rw[aA h8]
      have I:=qj w m q (Ip gp) pl e A c D V hV gS jb hd jv lG F M B kc lb hI qh JX R9 OW 3 q true (aeu.iJ F M e.sq).1 (aeu.iJ F M e.sq).2 (qz (B++[e.sq])) (λh=>by cases h)
       (λw6 s bE bS p g Ab nb cb ie R U Mr W hM hU hd6 hD6 hDU=>JW w6 m s bE bS p g Ab nb cb q _ ie F M B R W e A c D U hM hU hd6 hD6 hDU jo oX hq hI qh hm ap Mr) hh
      rw[yh] at I;exact I
     ·rw[aB h8]
      have I:=qj w m q (Ip gp) pl e A c D V hV gS jb hd jv lG F M B kc lb hI qh JX R9 OW 5 q false F M B (λ_=>⟨rfl,rfl,rfl⟩)
       (λw6 s bE bS p g Ab nb cb ie R U Mr W hM hU hd6 hD6 hDU=>(Gi w6 m s bE bS p g Ab nb cb q _ ie F M B R W e A c D U hM hU hd6 hD6 hDU jo oX hq hI qh hm ap).mono λen O ⟨a,b,c⟩=>⟨a,⟨_,b⟩,c⟩) hh
      rw[yh] at I;exact I
end Go.Proofs.YtpeepcmdehhbgaaGreatDoor
section
namespace Go.Hop
open Go.RowKit
section
variable{f:FuncId}{ι:Type}{C:ι->Ending->Prop}{S:ei}{S':ι->ei}
def zD(h:S w V):dU [S] w V:=⟨V,λ_=>False,h,trivial,λ_ h=>h,λ_ h=>h.elim,λ_ _ h=>h⟩
def Lw.one(h:∀V:aV,S w V->(∀b,V b->b<(w:Nat)∧¬ D b)->dF P f args w λe O=>∃i,C i e∧S' i O (ju V w O)∧dP V w O):Lw P D f args [.o S] C (λi=>[.o (S' i)]) w:=λV hM hV=>by obtain⟨U,_,L,_,k1,_⟩:=hM;exact (h U L λb hb=>hV b (k1 b hb)).mono λe O ⟨i,hC,AL,hj⟩=>⟨i,hC,dU.wide [S' i] O _ _ (λb hb=>hb.imp (k1 b) id) (zD AL),hj.imp k1⟩
end
end Go.Hop
namespace Go.Proofs.YtpeepcmdehhbgaaGreatDoor
open Go.RowKit Go.Hop V
def En.zero:En:=⟨0,0,0,0,0,[],⟨#[]⟩,0,0⟩
structure Ms where
 (k:Int) (e:En) (tag code:Int) (n:Nat) (term had:Int) (log:List En) (commit len:Int)
structure Sd where
 (to:Int) (m:Ms) (A:aU) (c:Nat) (A2:aU) (q:List El) (c2:Nat)
def Ms.cells(m:Ms)(A:aU)(c:Nat)(A2:aU)(c2:Nat):List E:=[J m.k,J m.e.k,J m.e.ag,J m.e.sh,J m.e.sq,J m.e.ep,Y A m.e.ds.length c,aX m.e.se,J m.e.fr,J m.e.tg,J m.tag,J m.code,ae ah m.n,J m.term,J m.had,Y A2 m.log.length c2,J m.commit,J m.len]
def Sd.cells(s:Sd):List E := J s.to::s.m.cells s.A s.c s.A2 s.c2
structure Sd.In(w:G)(D:Nat->Prop)(s:Sd):Prop where
 e:mO w D ⟨s.m.e,s.A,s.c⟩
 q:kO w D s.A2 s.q
 eq:s.q.map El.e=s.m.log
 c2:s.q.length<=s.c2∧s.c2<=dL
def zE(s:Sd):s.cells.length=19:=rfl
def vU(s:Sd):∀u∈s.cells,u.oneCell'=true:=by intro u hu;simp only[Sd.cells,Ms.cells,b_,bW,or_false] at hu;rcases hu with rfl|rfl|rfl|rfl|rfl|rfl|rfl|rfl|rfl|rfl|rfl|rfl|rfl|rfl|rfl|rfl|rfl|rfl|rfl<;>rfl
def qm:mr (λw D s=>Sd.In w D s):=λw O D s h K=>⟨⟨In.keep h.e.1 λb hb _=>K b hb,h.e.2⟩,gg.framed s.A2 s.q w O D h.q K,h.eq,h.c2⟩
def qn:iQ (λw D s=>Sd.In w D s):=λw D D' s h hd=>⟨jF _ _ _ _ h.e hd,h.q.mono hd,h.eq,h.c2⟩
def dY(u:E)(q:List Sd):ei:=iG 218 19 Sd.cells (λw D s=>Sd.In w D s) u q
theorem dY.framed(u:E)(q:List Sd):eQ (dY u q):=iG.framed qm u q
def zF{u:E}{q:List Sd}(h:St V w0 (.o (dY u q)::l) w):∃A c,u=Y A q.length c∧q.length<=c∧c<=dL:=St.sl (e:=218) (size:=19) (cells:=Sd.cells) (good:=λw D s=>Sd.In w D s) h
def sw(to tag code:Int)(n:Nat):Sd:=⟨to,⟨2,En.zero,tag,code,n,0,0,[],0,0⟩,none,0,none,[],0⟩
def om(w:G)(D:aV)(to tag code:Int)(n:Nat):Sd.In w D (sw to tag code n):=⟨⟨⟨by simp[sw,En.zero,fw],λh=>by simp[sw,En.zero] at h⟩,bh _,bo _,bo _⟩,kO.nil,rfl,bh _,bo _⟩
def zG(x:El):ei:=λw V=>mO w V x
def zG.framed(x:El):eQ (zG x):=λ_ _ _ h K=>⟨In.keep h.1 λb hb _=>K b hb,h.2⟩
def Re(w:G)(m:Nat)(x:jy)(n:Nat)(e:En)(A:aU)(c:Nat)(D:aV)(gS:e.Ok)(hd:kg w D A e.ds.length e.ds)(jv:∀b,D b->b<(w:Nat))(X:CL n x)(hn:n<=1048576):Lw N D 111 #[m,aZ (e.agg A c)] [.o (il m x)] (λ(_:Unit)en=>en=b5 (a_ #[J (ey x e).1,ae ah ((ey x e).2.1:Nat)])) (λ_=>[.o (il m (ey x e).2.2)]) w:=
 Lw.one (S':=λ_=>il m (ey x e).2.2) λV h hV=>(NN w m x n e A c D V (λb hb=>(hV b hb).1) gS (by
  rcases gS.2 with h|h
  ·rw[h.2.1];exact bo _
  ·have:=h.2.2.2.2.2.2.2;unfold dL;omega) hd jv (λb hb h=>(hV b h).2 hb) X hn h).mono λe O ⟨a,b,c⟩=>⟨(),a,b,c⟩
def TC(p:qi)(node nodes commit:Int)(v:E)(leads:Bool)(own:Int)(t h:Nat)(es:List En)(n:Int)(bs:aT)(ms:jy):List Bl:=[.c p.r 118 (kQ p node nodes commit v leads own),.o (il p.m ms),.o (gX p.s p.x p.d t h es n bs)]
def JY(p:qi)(node nodes commit:Int)(v:E)(leads:Bool)(own:Int)(t h:Nat)(es:List En)(n:Int)(bs:aT)(ms:jy):qD (TC p node nodes commit v leads own t h es n bs ms):=⟨trivial,il.framed _ _,gX.framed _ _ _ _ _ _ _ _,trivial⟩
def ET(leads:Bool)(own:Nat):List En->Nat->jy->List Sd->jy×List Sd
 | [],_,x,out=>(x,out)
 | e::l,k,x,out=>ET leads own l (k+1) (ey x e).2.2 (if leads&&decide (own<=k) then out++[sw e.fr e.tg (ey x e).1 (ey x e).2.1] else out)
end Go.Proofs.YtpeepcmdehhbgaaGreatDoor
end
section
namespace Go.Hop
open Go.RowKit
def St.rv{p:Nat}{t:dH}{cs':aP}{S:ei}{U:aV}(h:St V w0 (.c p t cs::l) w)(hj:dP (λb=>b=p) w O)(hB:eL O p t cs')(L:eQ S)(W:S O U)(hU:∀b,U b->(w:Nat)<=b∧b<(O:Nat)):St V w0 (.o S::.c p t cs'::l) O:=
 St.step (a:=[.c p t cs]) (a2:=[.o S,.c p t cs']) h ⟨L,trivial,trivial⟩ λU1 hM fM=>by obtain⟨U2,U3,hC,_,k1,_,_⟩:=hM;have hp:U1 p:=k1 p hC.1;refine⟨⟨U,λb=>b=p,W,⟨λb=>b=p,λ_=>False,⟨rfl,hB⟩,trivial,λ_ h=>h,λ_ h=>h.elim,λ_ _ h=>h⟩,λb hb => .inr (hU b hb),λb hb => .inl (hb▸hp),λb hb e=>by have I:=(hU b hb).1;have Z:=fM p hp;have T:b=p:=e;omega⟩,hj.imp λb hb=>hb▸hp⟩
end Go.Hop
namespace Go.Proofs.YtpeepcmdehhbgaaGreatDoor
open Go.RowKit Go.Hop V
def Rf(w:G)(A:aU)(n c:Nat):dF N 77 #[Y A n c] w λe O=>∃r,e=b5 (((r:Nat):E))∧(w:Nat)<=r∧eL O r 237 #[Y A n c,aY false]∧Grow w O:=by go_in;go_wp2;go_ret;exact⟨_,rfl,bh _,eL.made w _ _,(Below.refl _ w).alloc (bh _) _⟩
section
variable{l':List Bl}{r aet:Nat}{s:RS}
def lq(L:St (λ_=>False) w0 l w)(i:Nat)(hi:l[i]?=some (.c r 237 cs))(h:kX r (w0:Nat) aet s O)(ho:fX r w O):∃cs',St (λ_=>False) w0 (l.set i (.c r 237 cs')) O:=by obtain⟨_,A,n,c,l1,b,_,hB,_⟩:=h;exact⟨_,L.turned i hi (dP.jW ho rfl) hB⟩
def lr(h:kX r (w0:Nat) aet s w)(L:St (λ_=>False) w0 l w)(AL:St (λ_=>False) w0 l' O)(i i':Nat)(hi:l[i]?=some (.c r 237 cs))(va:l'[i']?=some (.c r 237 cs)):kX r (w0:Nat) aet s O:=by
 obtain⟨h0,A,n,c,l1,b,I,hB,Z,T⟩:=h;have e:#[Y A n c,aY b]=cs:=by have h4:=hB.symm.trans (L.blk i hi);injection h4 with h4;injection h4
 have K:∀b,b<(w0:Nat)->O.heap[b]?=w.heap[b]?:=λb hb=>(AL.keep (D:=λb=>b<(w0:Nat)) (λ_ h=>⟨h,λh=>h⟩) b hb).trans (L.keep (D:=λb=>b<(w0:Nat)) (λ_ h=>⟨h,λh=>h⟩) b hb).symm;exact⟨h0,A,n,c,l1,b,I,e▸AL.blk i' va,Reads.keep Z λp hp=>World.cell?_of_block (K _ hp),T⟩
end
def Ze(A:aU)(n:Nat)(ds:List Dl):ei:=λw V=>kg w V A n ds
def Ze.framed(A:aU)(n:Nat)(ds:List Dl):eQ (Ze A n ds):=λ_ _ _ h K=>In.keep h λb hb _=>K b hb
def zH(l:aT):En×RS:=
 let k:=og (some l)
 let f:=gE 8 k.2
 let tg:=gI f.2
 if k.1=2 then (⟨(k.1:Int),0,0,0,0,[],⟨(gG tg.2).1.toArray⟩,(f.1:Int),(tg.1:Int)⟩,(gG tg.2).2) else
 let ag:=gE 8 tg.2
 let sh:=gE 4 ag.2
 let sq:=gI sh.2
 let ep:=gI sq.2
 let n:=gE 8 ep.2
 (⟨(k.1:Int),(ag.1:Int),(sh.1:Int),(sq.1:Int),(ep.1:Int),(mW n.1 n.2).1,⟨#[]⟩,(f.1:Int),(tg.1:Int)⟩,(mW n.1 n.2).2)
def Ee(l:aT)(e:En):Prop:=zH l=(e,some [])∧e.Ok
def a33(l:aT)(w O:G)(en:Ending):Prop:=(∃(e:En)(A:aU)(c:Nat),en=b5 (a_ #[aZ (e.agg A c),()])∧Ee l e∧mO O (New w O) ⟨e,A,c⟩)∨∃aep:Int,aep≠0∧en=b5 (a_ #[aZ (En.zero.agg none 0),J aep])∧∀e,¬ Ee l e
set_option maxRecDepth 100000
set_option maxHeartbeats 1000000
def LL(w:G)(A:aU)(n c aet:Nat)(l:aT)(hb:Bytes w (w:Nat) A n l)(hl:l.length<=aet)(hN:aet<=1000000)(jf:n<=c)(jg:c<=dL):dF N 137 #[Y A n c] w λen O=>a33 l w O en∧Grow w O:=by
 have L:=St.begin_ (l:=[]) (w:=w) (V:=λ_=>False) trivial (λ_ h=>h.elim) trivial;obtain⟨x,wa,HX,HA,L⟩:=L.new' aK 40;have hNw:=Rf wa A n c;go_in;go_wp2_with fail;rw[<-HA.out,<-HX.out];refine hNw.mono ?_;rintro e w1 ⟨r,rfl,hr,Tl,eO⟩;have eC:=L.made eO Tl hr;have Bh:Grow w w1:=eC.grown;have mK:kX r (w:Nat) aet (some l) w1:=⟨bA L.grown.size hr,A,n,c,l,false,hl,Tl,Reads.below hb Bh,⟨jf,jg⟩,rfl⟩;clear hNw Tl hb L;go_wp2_with fail;refine (Ll w1 r _ aet _ mK).mono ?_;rintro e w2 ⟨k,s2,q2,K,rfl,ig,qM⟩;obtain⟨cs2,ec⟩:=lq eC 0 rfl ig qM;have ec:St (λ_=>False) w [.c r 237 cs2,.c x 40 aK] w2:=ec;have hwk:IntKind.i64.wrap (k:Int)=(k:Int):=by rw[IntKind.wrap_i64];omega
 obtain⟨y,w3,HY,H3,eh⟩:=ec.new' #[J k,(),(),(),(),ay,"",(),()] 40;have kj:=lr ig ec eh 0 1 rfl rfl;clear mK ig eC ec;go_wp2_with fail;rw[<-H3.out,<-HY.out];refine (mA w3 r _ aet 8 _ kj).mono ?_;rintro e w4 ⟨f,s4,q4,hf,rfl,pB,UW⟩;obtain⟨cs4,eU⟩:=lq eh 1 rfl pB UW;clear kj eh;go_wp2_with fail;refine (nP w4 r _ aet _ pB).mono ?_;rintro e w5 ⟨tg,s5,q5,Nk,rfl,rV,Vl⟩;obtain⟨cs5,eI⟩:=lq eU 1 rfl rV Vl;clear pB eU;go_wp2_with (refine fB eI 0 rfl 3 _ _ rfl 7 rfl (J f) rfl (bf rfl) rfl aw rfl ?_;intro w6 eS;refine stay ?_);refine dN ?_;have xA:=lr rV eI eS 1 1 rfl rfl;clear rV eI;go_wp2_with (refine fB eS 0 rfl 2 _ _ rfl 8 rfl (J tg) rfl (bf rfl) rfl aw rfl ?_;intro w7 fQ;refine stay ?_);refine dN ?_;have zJ:=lr xA eS fQ 1 1 rfl rfl;clear xA eS;simp only[bJ,bI,bL] at fQ;have eN:w7.cell? (y,0)=some (J k):=(fQ.facts.1.1 0).trans rfl;by_cases iM:k=2;case' pos=>
  have dk:((k:Int) == 2)=true:=by simp[iM]
  replace iM:=Q iM;go_wp2_with fail;refine (DY w7 r _ aet _ zJ).mono ?_;rintro e w8 ⟨s,s8,q8,hs,rfl,NP,ho8⟩;obtain⟨cs8,fK⟩:=lq fQ 1 rfl NP ho8;clear zJ fQ eN;go_wp2_with (refine fB fK 0 rfl 9 _ _ rfl 6 rfl (aX ⟨s.toArray⟩) rfl (bf rfl) rfl aw rfl ?_;intro w9 gM;refine stay ?_);refine dN ?_;have TB:=lr NP fK gM 1 1 rfl rfl;clear NP fK;simp only[bJ,bI,bL] at gM;have gM:=St.join gM (Ze.framed none 0 []) (Grow.refl _) (U:=λ_=>False) ⟨by simp[fw],λh=>by omega⟩ (λ_ h=>h.elim);have Zf:En.X1 ⟨(k:Int),0,0,0,0,[],⟨s.toArray⟩,(f:Int),(tg:Int)⟩:=⟨by show (0:Int)<=_;decide,by show (0:Int)<=_;decide,by show (tg:Int)<=_;omega,λd hd=>absurd hd (by simp),by show s.toArray.size<=_;rw[cE];omega,bo _⟩;obtain⟨aep,HE⟩:=aE (⟨(k:Int),0,0,0,0,[],⟨s.toArray⟩,(f:Int),(tg:Int)⟩:En);obtain⟨A9,Xq⟩:=aE (none:aU);obtain⟨c9,HC9⟩:=aE (0:Nat);have hcE:aep.ds.length<=c9∧c9<=dL:=by rw[HE,HC9];exact⟨bh _,bo _⟩
  have gM:St (λ_=>False) w [.o (Ze A9 aep.ds.length aep.ds),.c y 40 (aep.agg A9 c9),.c r 237 cs8,.c x 40 aK] w9:=by rw[HE,Xq,HC9];exact gM
  have sE:Hid (zH l=(aep,s8)):=Q (by unfold zH;dsimp only;rw[q2.out,q4.out,q5.out];dsimp only;rw[aA iM.out,q8.out,HE])
  rw[<-HE] at Zf;obtain⟨s9,es9⟩:=aE s8;rw[<-es9] at sE TB;replace HE:=Q HE;replace Xq:=Q Xq;replace HC9:=Q HC9
 case' neg=>
  have dk:((k:Int) == 2)=false:=by simp;omega
  replace iM:=Q iM;go_wp2_with fail;refine (mA w7 r _ aet 8 _ zJ).mono ?_;rintro e w8 ⟨ag,s8,q8,Tn,rfl,NP,ho8⟩;obtain⟨cs8,fK⟩:=lq fQ 1 rfl NP ho8;clear zJ fQ eN;go_wp2_with fail;refine (mA w8 r _ aet 4 _ NP).mono ?_;rintro e w9 ⟨sh,s9,q9,hsh,rfl,TB,ho9⟩;obtain⟨cs9,gM⟩:=lq fK 1 rfl TB ho9;clear NP fK;have gM:St (λ_=>False) w [.c y 40 #[J k,(),(),(),(),ay,"",J f,J tg],.c r 237 cs9,.c x 40 aK] w9:=gM;go_wp2_with (refine er gM 0 rfl 37 _ _ rfl 1 rfl [J ag,J sh,()] rfl (bf rfl) rfl aw #[J k,J ag,J sh,(),(),ay,"",J f,J tg] rfl rfl ?_;intro Xr iS;refine stay ?_);refine dN ?_;have a34:=lr TB gM iS 1 1 rfl rfl;clear TB gM;go_wp2_with fail;refine (nP Xr r _ aet _ a34).mono ?_;rintro e w11 ⟨sq,s11,q11,qh,rfl,Zg,a7K⟩;obtain⟨cs11,lA⟩:=lq iS 1 rfl Zg a7K;clear a34 iS;go_wp2_with fail;refine (nP w11 r _ aet _ Zg).mono ?_;rintro e w12 ⟨ep,s12,q12,R9,rfl,Zh,a7L⟩;obtain⟨cs12,lX⟩:=lq lA 1 rfl Zh a7L;clear Zg lA;go_wp2_with (refine fB lX 0 rfl 2 _ _ rfl 3 rfl (J sq) rfl (bf rfl) rfl aw rfl ?_;intro w13 o6;refine stay ?_);refine dN ?_;have a35:=lr Zh lX o6 1 1 rfl rfl;clear Zh lX;go_wp2_with (refine fB o6 0 rfl 2 _ _ rfl 4 rfl (J ep) rfl (bf rfl) rfl aw rfl ?_;intro w14 Ef;refine stay ?_);refine dN ?_;have a36:=lr a35 o6 Ef 1 1 rfl rfl;clear a35 o6;go_wp2_with fail;refine (mA w14 r _ aet 8 _ a36).mono ?_;rintro e w15 ⟨nd,s15,q15,qI,rfl,Zi,a7M⟩;obtain⟨cs15,Vm⟩:=lq Ef 1 rfl Zi a7M;clear a36 Ef;go_wp2_with fail;refine (YW w15 r _ aet nd _ Zi ap).mono ?_;rintro e w16 ⟨⟨A9,c9,ds⟩,rfl,⟨hdq,vb⟩,Vn,hD,hc9,hm9,a7N⟩;dsimp only at hdq vb hD hc9 hm9;obtain rfl:ds.length=nd:=by rw[hdq,Cx]
  obtain⟨s16,q16⟩:∃s16,Hid (mW ds.length s15=(ds,s16)):=⟨_,Q (Prod.ext hdq.symm rfl)⟩;rw[show (mW ds.length s15).2=s16 by rw[q16.out]] at Vn;clear hdq;have AX:=Vn;obtain⟨_,A',n',c',l',b',_,a38,_⟩:=AX;have JZ:=((Vm.front 1 rfl).rv (dP.jW a7N rfl) a38 (Ze.framed A9 ds.length ds) (U:=New w15 w16) hD (λb hb=>hb)).perm (List.Perm.cons _ (List.Perm.swap _ _ _));have JZ:St (λ_=>False) w [.o (Ze A9 ds.length ds),.c y 40 #[J k,J ag,J sh,J sq,J ep,ay,"",J f,J tg],.c r 237 #[Y A' n' c',aY b'],.c x 40 aK] w16:=JZ;clear Vm Zi a38 hD;go_wp2_with (refine fB JZ 1 rfl 38 _ _ rfl 5 rfl (Y A9 ds.length c9) rfl (bf rfl) rfl aw rfl ?_;intro w9 gM;refine stay ?_);refine dN ?_;have TB:=lr Vn JZ gM 2 2 rfl rfl;clear Vn JZ;simp only[bJ,bI,bL] at gM;have Zf:En.X1 ⟨(k:Int),(ag:Int),(sh:Int),(sq:Int),(ep:Int),ds,⟨#[]⟩,(f:Int),(tg:Int)⟩:=⟨by show (sq:Int)<=_;omega,by show (ep:Int)<=_;omega,by show (tg:Int)<=_;omega,λd hd=>⟨(vb d hd).2,bA (vb d hd).1 hN⟩,by show (0:Nat)<=_;omega,by show ds.length<=_;omega⟩;obtain⟨aep,HE⟩:=aE (⟨(k:Int),(ag:Int),(sh:Int),(sq:Int),(ep:Int),ds,⟨#[]⟩,(f:Int),(tg:Int)⟩:En);have hcE:aep.ds.length<=c9∧c9<=dL:=by rw[HE];exact⟨hc9,hm9⟩
  have gM:St (λ_=>False) w [.o (Ze A9 aep.ds.length aep.ds),.c y 40 (aep.agg A9 c9),.c r 237 #[Y A' n' c',aY b'],.c x 40 aK] w9:=by rw[HE];exact gM
  have sE:Hid (zH l=(aep,s16)):=Q (by unfold zH;dsimp only;rw[q2.out,q4.out,q5.out];dsimp only;rw[aB iM.out,q8.out];dsimp only;rw[q9.out];dsimp only;rw[q11.out];dsimp only;rw[q12.out];dsimp only;rw[q15.out];dsimp only;rw[q16.out,HE])
  rw[<-HE] at Zf;obtain⟨s9,es9⟩:=aE s16;rw[<-es9] at sE TB;replace HE:=Q HE
 all_goals
  have mQ:=λU(hU:kg w9 U A9 aep.ds.length aep.ds)=>py w9 aep U A9 c9 Zf hU
  obtain⟨U9,hD9,_⟩:=gM.own.see 0 rfl
  have mQ:=mQ U9 hD9
  obtain⟨E0,HE0⟩:=az aep
  rw[<-HE0.out] at sE
  obtain⟨ek,eag,esh,esq,eep,eds,ese,efr,etg⟩:=aep
  unfold En.agg at mQ gM
  dsimp only at mQ gM hcE hD9
  have hc:=gM.facts
  simp only[fE] at hc
  go_wp2_with fail
  refine (DO w9 r _ aet _ TB).mono ?_
  rintro e w17 ⟨rfl,rfl⟩
  obtain⟨b,Hb⟩:=az (decide (s9=some []))
  rw[<-Hb.out]
  rcases bB b with Mx|Mx
  case' inr=>
   subst Mx
   go_wp2_with fail
   change bodyPost _ _ _ _ _ (World.setCells w9 x 0 [(),(),(),(),(),ay,"",(),()])
   have Eg:=gM.turned 3 rfl (vr x [(),(),(),(),(),ay,"",(),()] w9) ((gM.blk 3 rfl).fill [(),(),(),(),(),ay,"",(),()] rfl)
   refine bodyPost_ret (ej rfl _ x rfl (Eg.blk 3 rfl) Tryz.underlying40 aw) rfl ?_
   exact⟨.inr ⟨12,by decide,rfl,λe1 I=>by have Z:=(Prod.mk.inj (sE.out.symm.trans I.1)).2;have T:=Hb.out;rw[Z,aC rfl] at T;cases T⟩,Eg.grown⟩
  case' inl=>
   subst Mx
   go_wp2_with fail
   refine mQ.mono ?_
   rintro e w17 ⟨⟨F,rfl,hF⟩,a7P⟩
   have Rh:=gM.grow a7P
   replace hF:=Q hF
   clear hc
   have hc:=Rh.facts
   simp only[fE] at hc
   by_cases BW:F=0
   ·subst BW
    have gS:=hF.out.1 rfl
    go_wp2_with fail
    change bodyPost _ _ _ _ _ (World.setCells w17 x 0 [J ek,J eag,J esh,J esq,J eep,Y A9 eds.length c9,aX ese,J efr,J etg])
    have Eg:=Rh.turned 3 rfl (vr x [J ek,J eag,J esh,J esq,J eep,Y A9 eds.length c9,aX ese,J efr,J etg] w17) ((Rh.blk 3 rfl).fill [J ek,J eag,J esh,J esq,J eep,Y A9 eds.length c9,aX ese,J efr,J etg] rfl)
    refine bodyPost_ret (ej rfl _ x rfl (Eg.blk 3 rfl) Tryz.underlying40 aw) rfl ?_
    obtain⟨U1,I,k1⟩:=Eg.own.see 0 rfl
    exact⟨.inl ⟨⟨ek,eag,esh,esq,eep,eds,ese,efr,etg⟩,A9,c9,rfl,⟨by rw[sE.out,HE0.out,of_decide_eq_true Hb.out.symm],gS⟩,In.mono I (λb hb=>⟨(k1 b hb).1.elim False.elim id,(k1 b hb).2⟩),hcE.1,hcE.2,Zf.n⟩,Eg.grown⟩
   ·have P3:(F != 0)=true:=by simp[BW]
    replace BW:=Q BW
    go_wp2_with fail
    change bodyPost _ _ _ _ _ (World.setCells w17 x 0 [(),(),(),(),(),ay,"",(),()])
    have Eg:=Rh.turned 3 rfl (vr x [(),(),(),(),(),ay,"",(),()] w17) ((Rh.blk 3 rfl).fill [(),(),(),(),(),ay,"",(),()] rfl)
    refine bodyPost_ret (ej rfl _ x rfl (Eg.blk 3 rfl) Tryz.underlying40 aw) rfl ?_
    exact⟨.inr ⟨12,by decide,rfl,λe1 I=>BW.out (hF.out.2 (by have Z:=(Prod.mk.inj (sE.out.symm.trans I.1)).1;rw[<-HE0.out,Z];exact I.2))⟩,Eg.grown⟩
end Go.Proofs.YtpeepcmdehhbgaaGreatDoor
end
namespace Go.Proofs.YtpeepcmdehhbgaaGreatDoor
open RowKit Hop V
def NQ(w:G)(D:aV)(m:Ms)(A:aU)(c:Nat)(A2:aU)(c2:Nat)(q:List El)(he:mO w D ⟨m.e,A,c⟩)(hq:kO w D A2 q)(lL:q.map El.e=m.log)(iH:q.length<=1048576):dF N 123 #[aZ (m.cells A c A2 c2).toArray] w λe O=>∃(A' A2':aU)(q':List El),e=b5 (aZ (m.cells A' m.e.ds.length A2' m.log.length).toArray)∧mO O (New w O) ⟨m.e,A',m.e.ds.length⟩∧kO O (New w O) A2' q'∧q'.map El.e=m.log∧Grow w O:=by
 obtain⟨k,⟨ek,ag,sh,sq,ep,ds,se,fr,tg⟩,tag,code,n,term,had,log,commit,len⟩:=m;unfold Ms.cells;dsimp only at he lL ⊢;have ym:log.length=q.length:=by rw[<-lL,bj]
 rw[ym];have L:=St.begin_ (l:=[]) (w:=w) (V:=λ_=>False) trivial (λ_ h=>h.elim) trivial;obtain⟨y,wa,HY,HA,L⟩:=L.new' #[J k,J ek,J ag,J sh,J sq,J ep,Y A ds.length c,aX se,J fr,J tg,J tag,J code,ae ah n,J term,J had,Y A2 q.length c2,J commit,J len] 45;obtain⟨z,wb,HZ,HB,L⟩:=L.new' aJ 45;have HZ2:Hid (z=y+1):=by have I:=HY.out;have Z:=HA.out;have T:=HZ.out;rw[Z] at T;exact Q (by rw[T,I];simp)
 have gN:Grow w wb:=by have Z:=HA.out;have T:=HB.out;rw[T,Z];exact (dZ w _).trans (dZ _ _)
 have hc:=L.facts;simp only[fE] at hc;have hC:=uy wb D ⟨⟨ek,ag,sh,sq,ep,ds,se,fr,tg⟩,A,c⟩ ⟨In.grow he.1 gN,he.2⟩;unfold En.agg at hC;dsimp only at hC;go_in;go_wp2_with fail;rw[<-HA.out,<-HY.out,<-HB.out,<-HZ2.out];refine hC.mono ?_;rintro e w1 ⟨A',rfl,OE,eO⟩;have L:=L.join (zG.framed _) eO (U:=New wb w1) OE (λb hb=>hb);have hc:=L.facts;simp only[fE] at hc;go_wp2_with (refine er L 2 rfl 40 _ _ rfl 1 rfl [J ek,J ag,J sh,J sq,J ep,Y A' ds.length ds.length,aX se,J fr,J tg] rfl (bf rfl) rfl aw #[J k,J ek,J ag,J sh,J sq,J ep,Y A' ds.length ds.length,aX se,J fr,J tg,J tag,J code,ae ah n,J term,J had,Y A2 q.length c2,J commit,J len] rfl rfl ?_;clear L hc;intro w2 L;refine stay ?_);refine dN ?_;have hc:=L.facts;simp only[bI,bL,fE] at hc;have fN:=L.grown;have hL:=nR w2 D A2 c2 q (hq.grow fN) iH;go_wp2_with fail;refine hL.mono ?_;rintro e w3 ⟨u,rfl,⟨A3,c3,q3,rfl,Lu,Ri,hqc3,a7Q⟩,-,jU⟩;have hl3:q3.length=q.length:=by rw[<-bj (f:=El.e),Ri,bj]
 have L:=L.join (gg.framed A3 q3) jU (U:=New w2 w3) Lu (λb hb=>hb);clear hc;go_wp2_with fail;refine (FU w3 A3 q.length c3 ap).mono ?_;rintro e w4 ⟨rfl,rfl⟩;go_wp2_with (refine fB L 3 rfl 43 _ _ rfl 15 rfl (Y A3 q.length q.length) rfl (bf rfl) rfl aw rfl ?_;clear L;intro w5 L;refine stay ?_);refine dN ?_;simp only[bJ,bI,bL] at L;go_wp2_with (refine ln L 3 rfl 45 _ rfl rfl bG aw rfl ?_;refine stay ?_);refine dN ?_;go_wp2_with (refine er L 2 rfl 45 _ _ rfl 0 rfl [J k,J ek,J ag,J sh,J sq,J ep,Y A' ds.length ds.length,aX se,J fr,J tg,J tag,J code,ae ah n,J term,J had,Y A3 q.length q.length,J commit,J len] rfl (bf rfl) rfl aw #[J k,J ek,J ag,J sh,J sq,J ep,Y A' ds.length ds.length,aX se,J fr,J tg,J tag,J code,ae ah n,J term,J had,Y A3 q.length q.length,J commit,J len] rfl rfl ?_;clear L;intro w6 L;refine stay ?_);refine dN ?_;go_wp2;refine bodyPost_ret (fF rfl _ z rfl (L.blk 2 rfl) bG aw) rfl ?_;obtain⟨U1,I,k1⟩:=L.own.see 0 rfl;obtain⟨U2,Z,k2⟩:=L.own.see 1 rfl;have K:∀{U:aV},(∀b,U b->pd (λ_=>False) w b∧b<(w6:Nat))->∀b,U b->New w w6 b:=λh b hb=>⟨(h b hb).1.elim False.elim id,(h b hb).2⟩;exact⟨A',A3,q3,rfl,jF _ _ _ _ Z (K k2),kO.mono I (K k1),Ri.trans lL,L.grown⟩
def Sd.fn(s:Sd):Int×Ms:=(s.to,s.m)
def uM(node i:Nat)(m:Ms):List (Int×Ms):=((bF i).filter λj => !decide (j=node)).map λj:Nat=>((j:Int),m)
def CM(node i:Nat)(m:Ms):uM node (i+1) m=uM node i m++if i=node then [] else [((i:Int),m)]:=by unfold uM;rw[List.range_succ,List.filter_append,bM];by_cases h:i=node<;>simp[h]
def a7R(V:aV)(w:G)(p:qi)(node nodes:Nat)(commit:Int)(v:E)(leads:Bool)(own:Int)(y:Nat)(m:Ms)(cs:aP)(u c:E)(wr:G):Prop:=∃(i:Nat)(q:List Sd),c=J i∧i<=nodes∧q.map Sd.fn=uM node i m∧q.length<=i∧St V w [.o (dY u q),.c y 45 cs,.c p.r 118 (kQ p node nodes commit v leads own)] wr
def CN(w:G)(D:aV)(p:qi)(node nodes:Nat)(h8:nodes<=8)(commit:Int)(v:E)(leads:Bool)(own:Int)(m:Ms)(A:aU)(c:Nat)(A2:aU)(c2:Nat)(q:List El)(he:mO w D ⟨m.e,A,c⟩)(hq:kO w D A2 q)(lL:q.map El.e=m.log)(iH:q.length<=1048576)(jv:∀b,D b->b<(w:Nat)):Lw N D 64 #[((p.r,0):E),aZ (m.cells A c A2 c2).toArray] [.c p.r 118 (kQ p node nodes commit v leads own)] (λ(i:E×List Sd)e=>e=b5 i.1∧i.2.map Sd.fn=uM node nodes m)
  (λi=>[.o (dY i.1 i.2),.c p.r 118 (kQ p node nodes commit v leads own)]) w:=by
 intro V hM hV
 have lG:∀x,D x->x<(w:Nat)∧¬ V x:=λx X=>⟨jv x X,λh=>(hV x h).2 X⟩
 have L:=St.begin_ hM (λb hb=>(hV b hb).1) ⟨trivial,trivial⟩
 have hc:=(L.new (m.cells A c A2 c2).toArray 45).facts
 obtain⟨y,wa,HY,HA,L⟩:=L.new' (m.cells A c A2 c2).toArray 45
 obtain⟨cs,HC⟩:=az ((m.cells A c A2 c2).toArray)
 simp only[fE,kQ] at hc
 unfold Ms.cells at HA hc ⊢
 go_in
 go_wp2_with fail
 rw[<-HA.out,<-HY.out]
 unfold Ms.cells at HC
 clear hc
 go_loopw [5,11] (λu x wr=>a7R V w p node nodes commit v leads own y m cs u x wr) (λ_ x _=>nodes-(intOf x).toNat)
 case atStart=>exact⟨0,[],rfl,bo _,rfl,bh _,HC.out▸St.join L (dY.framed _ _) (Grow.refl _) (U:=λ_=>False) (iG.nil _ _) (λ_ h=>h.elim)⟩
 case round=>
  obtain⟨i,qs,rfl,l8,hfn,a7S,L⟩:=hrel
  obtain⟨Au,cu,rfl,Xh⟩:=zF L
  have hc:=L.facts
  simp only[fE,kQ] at hc
  by_cases K:i<nodes
  ·have dk:decide ((i:Int)<(nodes:Int))=true:=aC ap
   by_cases kr:i=node
   ·have dn:((i:Int) != (node:Int))=false:=by simp[kr]
    have e:=CM node i m
    rw[aA kr,bm] at e
    replace kr:=Q kr
    replace e:=Q e
    go_wp2_with fail
    exact⟨⟨i+1,qs,rfl,by omega,hfn.trans e.out.symm,by omega,L⟩,by simp only[intOf];omega⟩
   ·have dn:((i:Int) != (node:Int))=true:=by simp;omega
    have e:=CM node i m
    rw[aB kr] at e
    replace e:=Q e
    have hC:=NQ wr D m A c A2 c2 q ⟨In.keep he.1 λb hb _=>L.keep lG b hb,he.2⟩ ⟨In.keep hq.1 λb hb _=>L.keep lG b hb,λx X=>⟨In.keep (hq.2 x X).1 λb hb _=>L.keep lG b hb,(hq.2 x X).2⟩⟩ lL iH
    unfold Ms.cells at hC
    rw[<-HC.out] at hC
    go_wp2_with (refine ln L 1 rfl 45 _ rfl rfl bG (by rw[HC.out];kernel_rfl) rfl ?_;refine stay ?_)
    refine dN ?_
    go_wp2_with fail
    refine hC.mono ?_
    rintro en w1 ⟨A',A3,q3,rfl,OE,Lu,Ri,eO⟩
    go_wp2_with (at_builtin;refine stay ?_)
    refine dN ?_
    have hl3:q3.length=m.log.length:=by rw[<-Ri,bj]
    have Iu:m.log.length<=1048576:=by rw[<-lL,bj];exact iH
    refine lP CH qm qn zE vU rfl (.tmp 20) (.tmp 25) rfl rfl L eO (b:=⟨i,m,A',m.e.ds.length,A3,q3,m.log.length⟩) ⟨OE,Lu,Ri,Nat.le_of_eq hl3,by show m.log.length<=dL;unfold dL;omega⟩ ap 1 rfl ?_
    intro v' O AL
    have AL:St V w [.o (dY v' (qs++[⟨(i:Int),m,A',m.e.ds.length,A3,q3,m.log.length⟩])),.c y 45 cs,.c p.r 118 (kQ p node nodes commit v leads own)] O:=AL
    go_wp2_with fail
    exact⟨⟨i+1,qs++[⟨(i:Int),m,A',m.e.ds.length,A3,q3,m.log.length⟩],rfl,by omega,by rw[bM,hfn,e.out];rfl,by rw[bd,bw];omega,AL⟩,by simp only[intOf];omega⟩
  ·obtain rfl:i=nodes:=by omega
   have dk:decide ((i:Int)<(i:Int))=false:=aD ap
   go_wp2
   go_ret
   obtain⟨r1,r2⟩:=(L.dT 1 rfl).fin
   exact⟨(_,qs),⟨rfl,hfn⟩,r1,r2⟩
structure Wo where
 (t h:Nat) (es:List En)
def Wo.zero:Wo:=⟨0,0,[]⟩
def Wo.B(x:Wo):List UInt8:=ol x.t x.h x.es
structure Wo.Ok(x:Wo):Prop where
 t:x.t<=9223372036854775807
 h:x.h<=9223372036854775807
 es:∀e∈x.es,e.Ok
 len:x.es.length<=128
theorem Wo.Ok.zero:Wo.zero.Ok:=⟨by decide,by decide,λ_ h=>by simp[Wo.zero] at h,by decide⟩
def zK(l:List Wo):List UInt8:=l.flatMap λx=>frame x.B
def rx(l:List Wo)(x:Wo):zK (l++[x])=zK l++frame x.B:=by simp[zK]
def room(bs b:aT):Bool:=decide (b.length<=65536)&&decide (bs.length+(frame b).length<=1048576)
def pD{bs:aT}:room bs b=true↔Room bs b:=by simp[room,Room]
structure Vs where
 ws:List Wo
def Vs.c(x:Vs):Wo:=x.ws.getLast?.getD Wo.zero
def Vs.bs(x:Vs):List UInt8:=zK x.ws
def Vs.keep(x:Vs)(y:Wo):Option Vs:=if room x.bs y.B then some ⟨x.ws++[y]⟩ else none
structure Vs.Ok(x:Vs):Prop where
 ws:∀y∈x.ws,y.Ok
 bs:x.bs.length<=1048576
theorem Vs.Ok.c{x:Vs}(h:x.Ok):x.c.Ok:=by
 unfold Vs.c;cases e:x.ws.getLast? with
 | none=>exact Wo.Ok.zero
 | some y=>exact h.ws y (List.mem_of_getLast? e)
def Vs.mR(l:List Wo)(y:Wo):(Vs.mk (l++[y])).c=y:=by simp[Vs.c]
theorem Vs.Ok.keep{x x':Vs}{y:Wo}(h:x.Ok)(hy:y.Ok)(e:x.keep y=some x'):x'.Ok∧x'.c=y:=by
 unfold Vs.keep at e;split at e
 ·rename_i hr
  cases e;refine⟨⟨λz hz=>?_,?_⟩,Vs.mR _ _⟩
  ·rcases List.mem_append.1 hz with hz|hz
   ·exact h.ws z hz
   ·rw[List.mem_singleton.1 hz];exact hy
  ·unfold Vs.bs
   rw[rx,bd];exact (pD.1 hr).2
 ·cases e
def NR(b:aT):1<=(frame b).length:=by rw[k7];omega
theorem Eh:∀l:List Wo,l.length<=(zK l).length
 | []=>bh _
 | x::l=>by
   have:=Eh l;have:=NR x.B;simp only[zK,bN,bd,bC] at *;omega
def Vs.promise(x:Vs)(t:Nat):Option Vs:=if x.c.t<t then x.keep ⟨t,x.c.h,x.c.es⟩ else none
def Vs.next(x:Vs)(t:Nat)(l:List En):Wo:=if x.c.h<t∨x.c.es.length<l.length then ⟨t,t,l⟩ else ⟨t,x.c.h,x.c.es⟩
def Vs.accept(x:Vs)(t:Nat)(l:List En):Option Vs:=
 if t<x.c.t∨t<1∨128<l.length then none else
 if ¬ (x.c.h<t∨x.c.es.length<l.length)∧t=x.c.t then some x else x.keep (x.next t l)
structure Vt where
 (t nodes:Nat) (pr:List Bool) (ac:aN) (had:Nat) (best:List En) (n:Nat)
structure Vt.Ok(v:Vt):Prop where
 t:v.t<=9223372036854775807
 nodes:1<=v.nodes∧v.nodes<=8
 pr:v.pr.length=8
 ac:v.ac.length=8
 had:v.had<=9223372036854775807
 best:∀e∈v.best,e.Ok
 len:v.best.length<=128
 n:v.n=v.pr.count true
 nn:∀a∈v.ac,0<=a
def Vt.new(t nodes:Nat):Vt:=⟨t,nodes,cU 8 false,cU 8 0,0,[],0⟩
theorem Vt.Ok.new{t nodes:Nat}(ht:t<=9223372036854775807)(hn:1<=nodes∧nodes<=8):(Vt.new t nodes).Ok:=⟨ht,hn,rfl,rfl,bo _,λ_ h=>by simp[Vt.new] at h,bo _,rfl,λa h=>by rw[List.eq_of_mem_replicate (show a∈cU 8 0 from h)];exact Int.le_refl _⟩
def Vt.Ok.few{v:Vt}(h:v.Ok):v.n<=8:=by rw[h.n,<-h.pr];exact List.count_le_length
def Vt.won(v:Vt):Bool:=decide (v.nodes<2*v.n)
def Vt.counts(v:Vt)(had:Nat)(l:List En):Bool:=decide (v.n=0)||(decide (v.had<had)||(decide (had=v.had)&&decide (v.best.length<l.length)))
def Vt.heard(v:Vt)(i:Nat):Vt:={ v with pr:=v.pr.set i true,n:=v.n+1 }
def Vt.promise(v:Vt)(i had:Nat)(l:List En):Bool×Vt:=
 if v.pr.getD i false=true then (false,v) else
 if v.won=true then (false,v.heard i) else
 if v.counts had l=true then ((v.heard i).won,{ v.heard i with had:=had,best:=l }) else ((v.heard i).won,v.heard i)
theorem count_set:∀(l:List Bool)(i:Nat),i<l.length->l.getD i false=false->(l.set i true).count true=l.count true+1
 | [],i,h,_=>absurd h (by simp)
 | b::l,0,_,Z=>by
   simp only[List.getD_cons_zero] at Z;subst Z;simp
 | b::l,i+1,h,Z=>by
   have ih:=count_set l i (by simpa using h) (by simpa using Z);simp only[bI,List.count_cons,ih];omega
theorem Vt.Ok.promise{v:Vt}(h:v.Ok){i had:Nat}{l:List En}(hi:i<8)(hh:had<=9223372036854775807)(hl:∀e∈l,e.Ok)(hn:l.length<=128):(v.promise i had l).2.Ok:=by
 unfold Vt.promise;by_cases I:v.pr.getD i false=true;·rw[aA I];exact h
 ·have Z:(v.heard i).Ok:=⟨h.t,h.nodes,by simp[Vt.heard,h.pr],h.ac,h.had,h.best,h.len,by
   show v.n+1=_;rw[h.n];exact (count_set v.pr i (by rw[h.pr];exact hi) (by simpa using I)).symm,h.nn⟩
  rw[aB I]
  split
  ·exact Z
  ·split
   ·exact⟨Z.t,Z.nodes,Z.pr,Z.ac,hh,hl,hn,Z.n,Z.nn⟩
   ·exact Z
def Vt.told(v:Vt)(i n:Nat):Vt:={ v with ac:=v.ac.set i (max (v.ac.getD i 0) (n:Int)) }
def Vt.accepted(v:Vt)(i n:Nat):Int×Vt:=(most v.nodes (v.told i n).ac,v.told i n)
theorem Vt.Ok.told{v:Vt}(h:v.Ok)(i n:Nat):(v.told i n).Ok:=⟨h.t,h.nodes,h.pr,by simp[Vt.told,h.ac],h.had,h.best,h.len,h.n,λa ha=>by
 rcases List.mem_or_eq_of_mem_set ha with ha|rfl
 ·exact h.nn a ha
 ·omega⟩
theorem Vo{ac:aN}(h:∀a∈ac,0<=a):0<=most nodes ac:=by
 unfold most;rw[List.getD_eq_getElem?_getD];cases e:(qz (ac.take nodes))[(nodes-1) / 2]? with
 | none=>exact Int.le_refl _
 | some a=>exact h a (bY ((yT _).mem_iff.1 (List.mem_of_getElem? e)))
def Ms.zero:Ms:=⟨0,En.zero,0,0,0,0,0,[],0,0⟩
def fD(tag code:Int)(n:Nat):Ms:={ Ms.zero with k:=2,tag:=tag,code:=code,n:=n }
def kD(t:Nat):Ms:={ Ms.zero with k:=3,term:=t }
def iB(t h:Nat)(l:List En):Ms:={ Ms.zero with k:=4,term:=t,had:=h,log:=l }
def lB(t:Nat)(l:List En)(c:Nat):Ms:={ Ms.zero with k:=5,term:=t,log:=l,commit:=c }
def mS(t n:Nat):Ms:={ Ms.zero with k:=6,term:=t,len:=n }
structure Rp where
 (node nodes:Nat) (s:Vs) (m:jy) (commit:Nat) (v:Option Vt) (leads:Bool) (own:Nat)
abbrev Sends:=List (Int×Ms)
def Rp.down(x:Rp):Rp:={ x with leads:=false,v:=none }
def Rp.accepts(x:Rp):Sends:=uM x.node x.nodes (lB x.s.c.t x.s.c.es x.commit)
def Rp.apply(x:Rp)(aet:Nat):Rp×Sends:=({ x with m:=(ET x.leads x.own ((x.s.c.es.take aet).drop x.commit) x.commit x.m []).1,commit:=max x.commit (min aet x.s.c.es.length) },(ET x.leads x.own ((x.s.c.es.take aet).drop x.commit) x.commit x.m []).2.map Sd.fn)
def Rp.counted(x:Rp)(v:Vt)(i n:Nat):Rp×Sends:=Rp.apply { x with v:=some (v.told i n) } (v.accepted i n).1.toNat
def Rp.told(x:Rp)(v:Vt):Rp×Sends:=((x.counted v x.node x.s.c.es.length).1,(x.counted v x.node x.s.c.es.length).2++(x.counted v x.node x.s.c.es.length).1.accepts)
def Rp.won(x:Rp)(v:Vt):Rp×Sends:=
 match x.s.accept v.t v.best with
 | none=>(x.down,[])
 | some s=>Rp.told { x with s:=s,leads:=true,own:=s.c.es.length } v
def mE(t node nodes:Nat):Nat:=t+1+(node+nodes-(t+1) % nodes) % nodes
def Rp.lead(x:Rp):Rp×Sends:=
 if x.s.c.t > 1099511627776 then (x,[]) else
 match x.s.promise (mE x.s.c.t x.node x.nodes) with
 | none=>(x,[])
 | some s=>
   let r:=(Vt.new s.c.t x.nodes).promise x.node s.c.h s.c.es
   if r.1=true then Rp.won { x with s:=s,leads:=false,v:=some r.2 } r.2 else ({ x with s:=s,leads:=false,v:=some r.2 },uM x.node x.nodes (kD s.c.t))
def Rp.ask(x:Rp)(from_:Int)(e:En):Rp×Sends:=
 match x.leads,x.v with
 | true,some v=>
   if 128<=x.s.c.es.length∨¬ (0<=from_∧from_<8) then (x,[(from_,fD e.tg 7 0)]) else
   match x.s.accept v.t (x.s.c.es++[{ e with fr:=from_ }]) with
   | none=>(x,[(from_,fD e.tg 7 0)])
   | some s=>Rp.told { x with s:=s } v
 | _,_=>(x,[(from_,fD e.tg 6 0)])
def Rp.prepare(x:Rp)(from_:Int)(t:Nat):Rp×Sends:=
 match x.s.promise t with
 | none=>(x,[])
 | some s=>({ x with s:=s }.down,[(from_,iB t s.c.h s.c.es)])
def Rp.accept(x:Rp)(from_:Int)(t:Nat)(l:List En)(commit:Nat):Rp×Sends:=
 match x.s.accept t l with
 | none=>(x,[])
 | some s=>
   let y:Rp:=if (x.v.any λv=>decide (v.t≠t))=true then { x with s:=s }.down else { x with s:=s }
   ((y.apply commit).1,[(from_,mS t s.c.es.length)])
def nE(l b:aT):(room l b=true->iA l b=0∧Bn l b=l++frame b)∧(room l b=false->(iA l b == 0)=false∧Bn l b=l):=by unfold iA Bn room Dw Ug V.fits;by_cases I:b.length<=65536<;>by_cases Z:l.length+(frame b).length<=1048576<;>simp[I,Z]
def zL(x d n:Nat)(l b:aT)(r:Bool):ei:=if r=true then eF x d (n+1:Nat) (l++frame b) (l++frame b).length else eF x d n l l.length
theorem zL.framed(x d n:Nat)(l b:aT)(r:Bool):eQ (zL x d n l b r):=by unfold zL;split<;>exact eF.framed _ _ _ _ _
def Rj(w:G)(D:aV)(x d n:Nat)(l b:aT)(u:E)(hb:dX b u w)(hn:n<=1099511627776):Lw N D 183 #[x,u] [.o (eF x d n l l.length)] (λ(aep:Unit×Int)e=>e=b5 (J aep.2)∧(room l b=true->aep.2=0)∧(room l b=false->(aep.2 == 0)=false)) (λ_=>[.o (zL x d n l b (room l b))]) w:=by
 intro V hM hV;obtain⟨r1,r2⟩:=nE l b;have L:=St.begin_ hM (λb hb=>(hV b hb).1) ⟨eF.framed _ _ _ _ _,trivial⟩;obtain⟨A,m,c,rfl,Mx,_⟩:=hb;have hA:=L.at_ 0 rfl (λ_=>eF.framed _ _ _ _ _) (D:=λ_=>False) (λ_ h=>h.elim) (Lw.turns (wY w x d n l l.length A m c b Mx ap));obtain⟨aeq,HT⟩:=az (zL x d n l b (room l b));rw[<-HT.out];rcases bB (room l b) with h|h
 ·obtain⟨hz,hr⟩:=r1 h
  clear r1 r2;rw[hz,aA rfl,hr] at hA;have HT:aeq=eF x d (n+1:Nat) (l++frame b) (l++frame b).length:=by rw[HT.out,h];rfl
  rw[h];replace HT:=Q HT;clear hz hr h;go_in;go_wp2_with fail;refine hA.mono ?_;rintro e w1 ⟨_,rfl,eC⟩;go_wp2_with fail;refine (eC.at_ 0 rfl (λ_=>eF.framed _ _ _ _ _) (D:=λ_=>False) (λ_ h=>h.elim) (Lw.turns (vR w1 x d ((n:Int)+1) (l++frame b) l.length))).mono ?_;rintro e w2 ⟨_,rfl,ec⟩;go_wp2;go_ret;obtain⟨k1,k2⟩:=ec.fin;exact⟨((),0),⟨rfl,λ_=>rfl,λh=>absurd h (by simp)⟩,by rw[HT.out];exact k1,k2⟩
 ·obtain⟨hz,hr⟩:=r2 h
  clear r1 r2;rw[aB (by simpa using hz),hr] at hA;have HT:aeq=eF x d n l l.length:=by rw[HT.out,h];rfl
  rw[h];replace HT:=Q HT;obtain⟨aep,HE⟩:=az (iA l b);rw[<-HE.out] at hz hA;clear hr h;go_in;go_wp2_with fail;refine hA.mono ?_;rintro e w1 ⟨_,rfl,eC⟩;go_wp2;go_ret;obtain⟨k1,k2⟩:=eC.fin;exact⟨((),aep),⟨rfl,λh=>absurd h (by simp),λ_=>hz⟩,by rw[HT.out];exact k1,k2⟩
def tC(s x d n:Nat)(l b:aT)(cs cs':aP)(r:Bool):List Bl:=[.c s 206 (if r=true then cs' else cs),.o (zL x d n l b r)]
def J_(w:G)(D:aV)(s x d:Nat)(t0 h0:Int)(sl0:E)(n:Nat)(bs:aT)(TE HA:Nat)(A:aU)(c:Nat)(q:List El)(My:TE<=9223372036854775807)(hha:HA<=9223372036854775807)
 (hq:kO w D A q) (jv:∀b,D b->b<(w:Nat)) (gS:∀x∈q,x.e.Ok) (hn:q.length<=128) (B4:n<=1099511627776) (WB:aT) (hWB:WB=ol TE HA (q.map El.e)):Lw N D 117 #[s,aZ #[J TE,J HA,Y A q.length c]] [.c s 206 (pL t0 h0 sl0 x),.o (eF x d n bs bs.length)] (λ(_:Unit)e=>e=b5 (aY (room bs WB)))
  (λ_=>tC s x d n bs WB (pL t0 h0 sl0 x) (pL TE HA (Y A q.length c) x) (room bs WB)) w:=by
 obtain⟨F,HF⟩:=aE (tC s x d n bs WB (pL t0 h0 sl0 x) (pL TE HA (Y A q.length c) x) (room bs WB):List Bl)
 rw[<-HF]
 intro V hM hV
 have lG:∀x,D x->x<(w:Nat)∧¬ V x:=λx X=>⟨jv x X,λh=>(hV x h).2 X⟩
 have L:=St.begin_ hM (λb hb=>(hV b hb).1) ⟨trivial,eF.framed _ _ _ _ _,trivial⟩
 have hwd:WB=enc TE++enc HA++enc q.length++sR (q.map El.e):=by rw[hWB];unfold ol;rw[bj]
 replace hWB:=Q hWB
 have wT:IntKind.u64.wrap (TE:Int)=(TE:Int):=by rw[wrap_u64];omega
 have wH:IntKind.u64.wrap (HA:Int)=(HA:Int):=by rw[wrap_u64];omega
 have eT:=eG (n:=TE) ap
 have eH:=eG (n:=HA) ap
 obtain⟨y,wa,HY,mP,L⟩:=L.new' #[J TE,J HA,Y A q.length c] 204
 go_in
 go_wp2_with fail
 rw[<-mP.out,<-HY.out]
 have eZ:=L.grow (Grow.refl _).drew
 have hcg:∀w1,Grow wa.drew w1->fE [.c y 204 #[J TE,J HA,Y A q.length c]] w1:=λw1 H=>(((eZ.grow H).dT 2 rfl).dT 1 rfl).facts
 refine dO rfl ?_
 refine KW 0 12 [(3,.inr (λ_=>dX (enc TE))),(7,.inr (λ_=>dX (enc TE++enc HA))),(10,.inr (λ_=>dX (enc TE++enc HA++enc q.length++sR (q.map El.e))))] aw aw (by intro x X φ he;simp only[b_,bW,or_false] at X;rcases X with rfl|rfl|rfl<;>cases he<;>exact gB (gJ _)) ?_
 iterate 3 (refine Fi rfl rfl (λw1 H R W=>by have hc:=hcg w1 H;simp only[fE] at hc;go_simp;exact W) ?_)
 refine yG (λv R W=>by go_simp;exact W) rfl rfl (λw1 R W=>by go_simp;exact W) (λk w1 H hf=>by exact iE w1 _ [] TE (wX w1) (by simp) ap) (λv9=>?_)
 iterate 3 (refine Fi rfl rfl (λw1 H R W=>by have hc:=hcg w1 H;simp only[fE] at hc;go_simp;exact W) ?_)
 refine yG (λv R W=>by go_simp;exact W) rfl rfl (λw1 R W=>by go_simp;exact W) (λk w1 H hf=>by exact iE w1 v9 _ HA (gj hf aw) ap ap) (λv13=>?_)
 iterate 2 (refine Fi rfl rfl (λw1 H R W=>by have hc:=hcg w1 H;simp only[fE] at hc;go_simp;exact W) ?_)
 refine yG (λv R W=>by go_simp;exact W) rfl rfl (λw1 R W=>by go_simp;exact W) (λk w1 H hf=>by exact zu w1 v13 _ D A c q (gj hf aw) (by rw[bd];omega) (gg.framed A q w w1 D hq λb hb=>(eZ.grow H).keep lG b hb) gS ap) (λv16=>?_)
 iterate 1 (refine Fi rfl rfl (λw1 H R W=>by go_simp;exact W) ?_)
 refine KU (λw1 H hf=>?_)
 have hE:=hf.1
 rw[<-hwd] at hE
 have eC:=eZ.grow H
 clear hf hcg eZ L
 refine ob ?_
 have hc:=eC.facts
 simp only[fE,pL] at hc
 go_wp2_with fail
 refine (eC.at_ 2 rfl (λ_=>zL.framed _ _ _ _ _ _) (D:=λ_=>False) (λ_ h=>h.elim) (Rj w1 _ x d n bs WB v16 hE B4)).mono ?_
 rintro e w2 ⟨⟨_,aep⟩,⟨rfl,g1,g2⟩,ec⟩
 have ec:St V w [.c y 204 #[J TE,J HA,Y A q.length c],.c s 206 #[J t0,J h0,sl0,x],.o (zL x d n bs WB (room bs WB))] w2:=ec
 clear hc eC
 have hc:=ec.facts
 simp only[fE] at hc
 rcases bB (room bs WB) with hr|hr
 ·obtain rfl:aep=0:=g1 hr
  rw[hr] at ec HF
  replace HF:=Q HF
  clear g1 g2
  replace hr:=Q hr
  go_wp2_with (refine er ec 1 rfl 204 _ _ rfl 0 rfl [J TE,J HA,Y A q.length c] rfl (bf rfl) rfl aw (pL TE HA (Y A q.length c) x) rfl rfl ?_;clear ec hc;intro w3 eh;refine stay ?_)
  refine dN ?_
  go_wp2
  go_ret
  obtain⟨k1,k2⟩:=(eh.dT 0 rfl).fin
  exact⟨(),by rw[hr.out];rfl,by rw[HF.out];exact k1,k2⟩
 ·have g2:=g2 hr
  rw[hr] at ec HF
  replace HF:=Q HF
  clear g1
  replace hr:=Q hr
  go_wp2
  go_ret
  obtain⟨k1,k2⟩:=(ec.dT 0 rfl).fin
  exact⟨(),by rw[hr.out];rfl,by rw[HF.out];exact k1,k2⟩
def oP(s x d:Nat)(y:Vs)(A:aU)(c:Nat)(q:List El):List Bl:=[.c s 206 (pL y.c.t y.c.h (Y A q.length c) x),.o (eF x d y.ws.length y.bs y.bs.length),.o (gg A q)]
abbrev rY(s x d:Nat)(y:Vs):ei:=gX s x d y.c.t y.c.h y.c.es y.ws.length y.bs
section
variable{y:Vs}
def K0(h:St V w0 (.o (rY s x d y)::l) w):∃(A:aU)(c:Nat)(q:List El),(q.map El.e=y.c.es∧q.length<=c∧c<=dL)∧St V w0 (oP s x d y A c q++l) w:=by
 obtain⟨⟨⟨A,c,q⟩,I⟩,Z⟩:=St.opn (κ:={ x:Option dG×Nat×List El // x.2.2.map El.e=y.c.es∧x.2.2.length<=x.2.1∧x.2.1<=dL }) (o:=λz=>[.o (gg z.1.1 z.1.2.2),.c s 206 (pL y.c.t y.c.h (Y z.1.1 z.1.2.2.length z.1.2.1) x),.o (eF x d y.ws.length y.bs y.bs.length)]) h λ_ hU=>by obtain⟨A,c,q,I,Z,T,h4⟩:=hU;exact⟨⟨(A,c,q),I,Z,T⟩,h4,gg.framed _ _,trivial,eF.framed _ _ _ _ _,trivial⟩
 exact⟨A,c,q,I,Z.perm ((List.Perm.swap _ _ _).trans (List.Perm.cons _ (List.Perm.swap _ _ _)))⟩
def ls{c:Nat}(h:St V w0 (oP s x d y A c q++l) w)(hq:q.map El.e=y.c.es∧q.length<=c∧c<=dL):St V w0 (.o (rY s x d y)::l) w:=St.cls (a:=[.o (gg A q),.c s 206 (pL y.c.t y.c.h (Y A q.length c) x),.o (eF x d y.ws.length y.bs y.bs.length)]) (h.perm (((List.Perm.cons _ (List.Perm.swap _ _ _)).trans (List.Perm.swap _ _ _)))) (gX.framed _ _ _ _ _ _ _ _) λU hU=>⟨A,c,q,hq.1,hq.2.1,hq.2.2,hU⟩
end
def Vs.Ok.n{y:Vs}(h:y.Ok):y.ws.length<=1099511627776:=by have:=Eh y.ws;have:=h.bs;unfold Vs.bs at this;omega
def vV{y:Vs}{z:Wo}(h:room y.bs z.B=true):y.keep z=some ⟨y.ws++[z]⟩:=by unfold Vs.keep;rw[aA h]
def vW{y:Vs}{z:Wo}(h:room y.bs z.B=false):y.keep z=none:=by unfold Vs.keep;rw[aB (by rw[h];exact cj)]
theorem zM(w:G)(D:aV)(s x d:Nat)(y:Vs)(hy:y.Ok)(TE:Nat)(My:TE<=9223372036854775807):Lw N D 57 #[s,J TE] [.o (rY s x d y)] (λ(_:Unit)e=>e=b5 (aY (y.promise TE).isSome)) (λ_=>[.o (rY s x d ((y.promise TE).getD y))]) w:=by
 obtain⟨R,HR⟩:=aE (y.promise TE);rw[<-HR];intro V hM hV;have L:=St.begin_ hM (λb hb=>(hV b hb).1) ⟨gX.framed _ _ _ _ _ _ _ _,trivial⟩;obtain⟨A,c,q,hq,L⟩:=K0 L;have fY:=L;have L:=L.grow (Grow.refl _).drew;have hc:=L.facts;simp only[oP,cH,cC,fE,pL] at hc;unfold Vs.promise at HR;by_cases ht:y.c.t<TE
 ·rw[aA ht] at HR
  have fp:=hy.c.len;rw[<-hq.1,bj] at fp;have gS:∀x∈q,x.e.Ok:=λx X=>hy.c.es _ (by rw[<-hq.1];exact List.mem_map.2 ⟨x,X,rfl⟩);have hCK:=St.Fe (a:=[.c s 206 (pL y.c.t y.c.h (Y A q.length c) x),.o (eF x d y.ws.length y.bs y.bs.length)]) (x := .o (gg A q)) (b:=[])
   (a':=λ_=>tC s x d y.ws.length y.bs (Wo.B ⟨TE,y.c.h,y.c.es⟩) (pL y.c.t y.c.h (Y A q.length c) x) (pL TE y.c.h (Y A q.length c) x) (room y.bs (Wo.B ⟨TE,y.c.h,y.c.es⟩))) L (λ_=>⟨trivial,zL.framed _ _ _ _ _ _,trivial⟩) (λU hU kp=>J_ w.drew U s x d y.c.t y.c.h (Y A q.length c) y.ws.length y.bs TE y.c.h A c q My hy.c.h hU kp gS fp hy.n (Wo.B ⟨TE,y.c.h,y.c.es⟩) (by rw[hq.1];rfl))
  go_in;go_wp2_with fail;go_still_tail 21,(by kernel_rfl);change wpList _ _ _ _ _ w.drew;go_wp2_with fail;refine hCK.mono ?_;rintro e w1 ⟨_,rfl,eC⟩;go_wp2_with fail;rcases bB (room y.bs (Wo.B ⟨TE,y.c.h,y.c.es⟩)) with hr|hr
  ·rw[vV hr] at HR
   subst HR;rw[hr] at eC ⊢;go_wp2;go_ret;obtain⟨r1,r2⟩:=(ls (l:=[]) (y:=⟨y.ws++[⟨TE,y.c.h,y.c.es⟩]⟩) (s:=s) (x:=x) (d:=d) (A:=A) (c:=c) (q:=q) (by unfold oP;rw[Vs.mR];have e:(Vs.mk (y.ws++[⟨TE,y.c.h,y.c.es⟩])).bs=y.bs++frame (Wo.B ⟨TE,y.c.h,y.c.es⟩):=rx _ _;rw[e];rw[show (y.ws++[(⟨TE,y.c.h,y.c.es⟩:Wo)]).length=y.ws.length+1 by rw[bd,bw]];exact eC) (by rw[Vs.mR];exact hq)).fin
   first|exact⟨(),rfl,r1,r2⟩|exact⟨rfl,r1,r2⟩
  ·rw[vW hr] at HR
   subst HR;rw[hr] at eC ⊢;go_wp2;go_ret;obtain⟨r1,r2⟩:=(ls (l:=[]) (A:=A) (c:=c) (q:=q) eC hq).fin;first|exact⟨(),rfl,r1,r2⟩|exact⟨rfl,r1,r2⟩
 ·rw[aB ht] at HR
  go_in;go_wp2_with fail;have k0:∀w1,Grow w w1->w1.cell? (s,0)=some (J y.c.t):=λw1 H=>(fY.grow H).facts.1.1 0;have kd:decide ((y.c.t:Int)<(TE:Int))=false:=aD ap;refine fv ?_;intro w1 H;have L:=fY.grow H;clear k0 kd hc;go_wp2;go_ret;subst HR;obtain⟨r1,r2⟩:=(ls (l:=[]) L hq).fin;first|exact⟨(),rfl,r1,r2⟩|exact⟨rfl,r1,r2⟩
def Vp{y:Vs}{z:Wo}{A':aU}{c c':Nat}{q':List El}(hq:q.map El.e=y.c.es∧q.length<=c∧c<=dL)(O_:q'.map El.e=z.es∧q'.length<=c'∧c'<=dL)
 (h:St V w0 (tC s x d y.ws.length y.bs z.B (pL y.c.t y.c.h (Y A q.length c) x) (pL z.t z.h (Y A' q'.length c') x) (room y.bs z.B) ++ .o (gg A' q')::.o (gg A q)::l) w):room y.bs z.B=(y.keep z).isSome∧St V w0 (.o (rY s x d ((y.keep z).getD y))::l) w:=by
 rcases bB (room y.bs z.B) with hr|hr
 ·rw[vV hr]
  refine⟨hr,?_⟩;rw[hr] at h;refine ls (y:=⟨y.ws++[z]⟩) (A:=A') (c:=c') (q:=q') ?_ (by rw[Vs.mR];exact O_);unfold oP;rw[Vs.mR,show (Vs.mk (y.ws++[z])).bs=y.bs++frame z.B from rx _ _,show (y.ws++[z]).length=y.ws.length+1 by rw[bd,bw]];exact h.dT 3 rfl
 ·rw[vW hr]
  refine⟨hr,?_⟩;rw[hr] at h;exact ls (A:=A) (c:=c) (q:=q) (h.dT 2 rfl) hq
def Zj{y:Vs}{z:Wo}{c:Nat}(hz:z.es=y.c.es)(hq:q.map El.e=y.c.es∧q.length<=c∧c<=dL)
 (h:St V w0 (tC s x d y.ws.length y.bs z.B (pL y.c.t y.c.h (Y A q.length c) x) (pL z.t z.h (Y A q.length c) x) (room y.bs z.B) ++ .o (gg A q)::l) w):room y.bs z.B=(y.keep z).isSome∧St V w0 (.o (rY s x d ((y.keep z).getD y))::l) w:=by
 rcases bB (room y.bs z.B) with hr|hr
 ·rw[vV hr]
  refine⟨hr,?_⟩;rw[hr] at h;refine ls (y:=⟨y.ws++[z]⟩) (A:=A) (c:=c) (q:=q) ?_ (by rw[Vs.mR,hz];exact hq);unfold oP;rw[Vs.mR,show (Vs.mk (y.ws++[z])).bs=y.bs++frame z.B from rx _ _,show (y.ws++[z]).length=y.ws.length+1 by rw[bd,bw]];exact h
 ·rw[vW hr]
  refine⟨hr,?_⟩;rw[hr] at h;exact ls (A:=A) (c:=c) (q:=q) h hq
def vX(w:G)(D:aV)(s x d:Nat)(y:Vs)(hy:y.Ok)(TE:Nat)(My:TE<=9223372036854775807)(A9:aU)(c9:Nat)(q9:List El)(hq9:kO w D A9 q9)(jv:∀b,D b->b<(w:Nat))(a3c:∀x∈q9,x.e.Ok)(hn9:q9.length<=128):Lw N D 121 #[s,J TE,Y A9 q9.length c9] [.o (rY s x d y)] (λ(_:Unit)e=>e=b5 (aY (y.accept TE (q9.map El.e)).isSome)) (λ_=>[.o (rY s x d ((y.accept TE (q9.map El.e)).getD y))]) w:=by
 obtain⟨R,HR⟩:=aE (y.accept TE (q9.map El.e));rw[<-HR];intro V hM hV;have lG:∀x,D x->x<(w:Nat)∧¬ V x:=λx X=>⟨jv x X,λh=>(hV x h).2 X⟩;have L:=St.begin_ hM (λb hb=>(hV b hb).1) ⟨gX.framed _ _ _ _ _ _ _ _,trivial⟩;obtain⟨A,c,q,hq,L⟩:=K0 L;have hc:=L.facts;simp only[oP,cH,cC,fE,pL] at hc;unfold Vs.accept at HR;obtain⟨m,HM⟩:=az (q9.length);rw[bj,<-HM.out] at HR;have a3d:m<=128:=by rw[HM.out];exact hn9
 have d3:decide ((m:Int) > 128)=false:=aD ap;have d3':decide ((128:Int)<(m:Int))=false:=aD ap;rw[<-HM.out];by_cases kS:TE<y.c.t∨TE<1
 ·rw[aA ap] at HR
  replace HR:=Q HR;have hX:decide (TE<y.c.t)=true∨(decide (TE<y.c.t)=false∧decide ((TE:Int)<1)=true):=by simp only[decide_eq_true_eq,decide_eq_false_iff_not];omega
  clear kS;rcases hX with I|⟨I,Z⟩
  all_goals
   go_in
   go_wp2
   go_ret
   have HR:=HR.out
   subst HR
   obtain⟨r1,r2⟩:=(ls (l:=[]) L hq).fin
   first|exact⟨(),rfl,r1,r2⟩|exact⟨rfl,r1,r2⟩
 rw[aB ap] at HR;have d1:decide (TE<y.c.t)=false:=aD ap;have d2:decide ((TE:Int)<1)=false:=aD ap;replace HR:=Q HR;replace kS:=Q kS;go_in;go_wp2_with fail;clear hc;go_loopw [29] (λi wr=>∃k:Nat,k<=m∧i=J k∧Grow w wr) (λi _=>m-(intOf i).toNat);case atStart=>exact⟨0,by omega,rfl,Grow.refl _⟩
 case round=>
  obtain⟨k,oF,rfl,i7⟩:=hrel;by_cases K:k<m
  ·have iM:k<q9.length:=by have:=HM.out;omega
   have KN:=hq9.grow i7;obtain⟨ad,xj,rfl,hVk,UV,e0,e1⟩:=KN.1.ni ap pZ iM;have jZ:=KN.2 _ (bD xj);have ss:=a3c _ (bD xj);generalize q9[k]=b at jZ e0 e1 ss;have mQ:=λw1(eO:Grow wr w1)=>jN w1 b.e D b.A b.c ss (In.grow jZ.1 eO);obtain⟨⟨bk,ag,sh,sq,ep,ds,se,fr,tg⟩,Ab,cb⟩:=b;dsimp only[El.cells,En.agg] at e0 e1 mQ;have e1:=e1 0 _ rfl;have e0:=e0 _ rfl;have fA:=dZ wr (.cells #[J bk,J ag,J sh,J sq,J ep,Y Ab ds.length cb,aX se,J fr,J tg] 40);have mQ:=mQ _ fA;clear jZ ss KN;go_wp2_with fail;refine mQ.mono ?_;rintro e w2 ⟨rfl,fN⟩;go_wp2_with fail;exact⟨⟨k+1,by omega,by go_num,i7.trans (fA.trans fN)⟩,by simp[intOf];omega⟩
  ·obtain rfl:k=m:=by omega
   have eC:=(L.grow i7).grow (Grow.refl _).drew;have hcg:∀w1,Grow wr.drew w1->fE (oP s x d y A c q) w1:=λw1 H=>(eC.grow H).facts;go_wp2_with fail;refine dO rfl ?_;refine KW 0 13 [(12,.inr (λ_=>KT wr.drew.heap.size 204 aL))] aw aw (MK (Bc _ _ _)) ?_;iterate 12 (refine Fi rfl rfl (λw1 H R W=>by have hc:=hcg w1 H;simp only[oP,fE,pL] at hc;go_simp;exact W) ?_)
   refine U8 (λv R W=>by go_simp;exact W) rfl rfl (λw1=>by go_simp) (λv9=>?_);refine KU (λw1 H hf=>?_);obtain⟨z,rfl,hZ,hz⟩:=hf.1;have ec:=eC.made H hZ hz;clear hf hcg eC;refine tW 13 14 aw aw ?_;refine er ec 0 rfl 204 _ _ rfl 0 rfl [J TE,J y.c.h,Y A q.length c] rfl (bf rfl) rfl aw #[J TE,J y.c.h,Y A q.length c] rfl rfl ?_;clear ec;intro w3 eh;refine wpList_nil ?_;refine ob ?_;have eh:St V w [.c z 204 #[J TE,J y.c.h,Y A q.length c],.c s 206 (pL y.c.t y.c.h (Y A q.length c) x),.o (eF x d y.ws.length y.bs y.bs.length),.o (gg A q)] w3:=eh;have xT:q.length=y.c.es.length:=by rw[<-hq.1,bj]
   have fp:q.length<=128:=by rw[xT];exact hy.c.len
   have gS:∀x∈q,x.e.Ok:=λx X=>hy.c.es _ (by rw[<-hq.1];exact List.mem_map.2 ⟨x,X,rfl⟩);clear K i7 hZ hz;have hC:=nR w3 D A9 c9 q9 (gg.framed A9 q9 w w3 D hq9 λb hb=>eh.keep lG b hb) ap;have hc:=eh.facts;simp only[fE,pL] at hc;by_cases AU:y.c.h<TE∨y.c.es.length<k
   ·have HR:=HR.out
    rw[aB (by intro h;exact h.1 AU),show y.next TE (q9.map El.e)=⟨TE,TE,q9.map El.e⟩ by unfold Vs.next;rw[bj,<-HM.out,aA AU]] at HR;replace HR:=Q HR;have hX:decide (y.c.h<TE)=true∨(decide (y.c.h<TE)=false∧decide (q.length<k)=true):=by simp only[decide_eq_true_eq,decide_eq_false_iff_not];omega
    replace xT:=Q xT;clear AU;rw[<-HM.out] at hC;rcases hX with I|⟨I,Z⟩
    all_goals
     go_wp2_with fail
     refine hC.mono ?_
     rintro e w4 ⟨u,rfl,⟨A1,c1,q1,rfl,OE,oQ,Bq,BP⟩,-,Dg⟩
     have eU:=eh.join (gg.framed A1 q1) Dg (U:=New w3 w4) OE (λb hb=>hb)
     have Zk:q1.length=k:=by rw[<-bj (f:=El.e),oQ,bj,HM.out]
     have a9j:∀x∈q1,x.e.Ok:=λx X=>by
      have T:x.e∈q9.map El.e:=by rw[<-oQ];exact List.mem_map.2 ⟨x,X,rfl⟩
      obtain⟨x',hx',e'⟩:=List.mem_map.1 T;rw[<-e'];exact a3c x' hx'
     replace Zk:=Q Zk
     clear hc eh
     go_wp2_with (refine fB eU 1 rfl 2 _ _ rfl 1 rfl (J TE) rfl (bf rfl) rfl aw rfl ?_;clear eU;intro w5 eI;refine stay ?_)
     refine dN ?_
     go_wp2_with (refine fB eI 1 rfl 43 _ _ rfl 2 rfl (Y A1 q1.length c1) rfl (bf rfl) rfl aw rfl ?_;clear eI;intro w6 eS;refine stay ?_)
     refine dN ?_
     simp only[bJ,bI,bL] at eS
     have hc:=eS.facts
     simp only[fE,pL] at hc
     go_wp2_with fail
     have fQ:=(eS.dT 1 rfl).perm ((List.Perm.swap _ _ _).trans (List.Perm.cons _ (List.Perm.swap _ _ _)))
     have hCK:=St.Fe (a:=[.c s 206 (pL y.c.t y.c.h (Y A q.length c) x),.o (eF x d y.ws.length y.bs y.bs.length)]) (x := .o (gg A1 q1)) (b:=[.o (gg A q)])
      (a':=λ_=>tC s x d y.ws.length y.bs (Wo.B ⟨TE,TE,q9.map El.e⟩) (pL y.c.t y.c.h (Y A q.length c) x) (pL TE TE (Y A1 q1.length c1) x) (room y.bs (Wo.B ⟨TE,TE,q9.map El.e⟩))) fQ (λ_=>⟨trivial,zL.framed _ _ _ _ _ _,trivial⟩) (λU hU kp=>J_ w6 U s x d y.c.t y.c.h (Y A q.length c) y.ws.length y.bs TE TE A1 c1 q1 My My hU kp a9j (by rw[Zk.out];exact a3d) hy.n (Wo.B ⟨TE,TE,q9.map El.e⟩) (by rw[oQ];rfl))
     refine hCK.mono ?_
     rintro e w8 ⟨_,rfl,fK⟩
     obtain⟨hr,gM⟩:=Vp (z:=⟨TE,TE,q9.map El.e⟩) hq ⟨oQ,Bq,BP⟩ fK
     rw[hr]
     obtain⟨b,Hb⟩:=az ((y.keep ⟨TE,TE,q9.map El.e⟩).isSome)
     rw[<-Hb.out]
     clear hc
     go_wp2
     go_ret
     have HR:=HR.out
     rw[HR]
     obtain⟨r1,r2⟩:=gM.fin
     first|exact⟨(),by rw[Hb.out];rfl,r1,r2⟩|exact⟨by rw[Hb.out];rfl,r1,r2⟩
   ·have I:decide (y.c.h<TE)=false:=aD ap
    have Z:decide (q.length<k)=false:=aD ap;have EX:y.next TE (q9.map El.e)=⟨TE,y.c.h,y.c.es⟩:=by unfold Vs.next;rw[bj,<-HM.out,aB AU]
    rw[EX] at HR;clear hC EX;replace xT:=Q xT;replace AU:=Q AU;by_cases ht:TE=y.c.t
    ·have T:((TE:Int) == (y.c.t:Int))=true:=by rw[ht];simp
     have HR:=HR.out;rw[aA ⟨AU.out,ht⟩] at HR;replace HR:=Q HR;replace ht:=Q ht;go_wp2;go_ret;have HR:=HR.out;rw[HR];obtain⟨r1,r2⟩:=(ls (l:=[]) (eh.dT 0 rfl) hq).fin;first|exact⟨(),rfl,r1,r2⟩|exact⟨rfl,r1,r2⟩
    ·have T:((TE:Int) == (y.c.t:Int))=false:=by simp;omega
     have HR:=HR.out;rw[aB (by intro h;exact ht h.2)] at HR;replace HR:=Q HR;replace ht:=Q ht;go_wp2_with fail;have hCK:=St.Fe (a:=[.c s 206 (pL y.c.t y.c.h (Y A q.length c) x),.o (eF x d y.ws.length y.bs y.bs.length)]) (x := .o (gg A q)) (b:=[])
      (a':=λ_=>tC s x d y.ws.length y.bs (Wo.B ⟨TE,y.c.h,y.c.es⟩) (pL y.c.t y.c.h (Y A q.length c) x) (pL TE y.c.h (Y A q.length c) x) (room y.bs (Wo.B ⟨TE,y.c.h,y.c.es⟩))) (eh.dT 0 rfl) (λ_=>⟨trivial,zL.framed _ _ _ _ _ _,trivial⟩) (λU hU kp=>J_ w3 U s x d y.c.t y.c.h (Y A q.length c) y.ws.length y.bs TE y.c.h A c q My hy.c.h hU kp gS fp hy.n (Wo.B ⟨TE,y.c.h,y.c.es⟩) (by rw[hq.1];rfl))
     refine hCK.mono ?_;rintro e w8 ⟨_,rfl,fK⟩;obtain⟨hr,gM⟩:=Zj (z:=⟨TE,y.c.h,y.c.es⟩) rfl hq fK;rw[hr];obtain⟨b,Hb⟩:=az ((y.keep ⟨TE,y.c.h,y.c.es⟩).isSome);rw[<-Hb.out];clear hc;go_wp2;go_ret;have HR:=HR.out;rw[HR];obtain⟨r1,r2⟩:=gM.fin;first|exact⟨(),by rw[Hb.out];rfl,r1,r2⟩|exact⟨by rw[Hb.out];rfl,r1,r2⟩
def Ei(g:Nat)(v:Vt)(A:aU)(c:Nat)(q:List El):List Bl:=[.c g 213 (oL v.t v.nodes v.pr v.ac v.had (Y A q.length c) v.n),.o (gg A q)]
def fS(g:Nat)(v:Vt):ei:=λw V=>∃(A:aU)(c:Nat)(q:List El),(q.map El.e=v.best∧q.length<=c∧c<=dL)∧dU (qv (Ei g v A c q)) w V
def CP(g:Nat)(v:Vt)(A:aU)(c:Nat)(q:List El):qD (Ei g v A c q):=⟨trivial,gg.framed _ _,trivial⟩
theorem fS.framed(g:Nat)(v:Vt):eQ (fS g v):=λw O V ⟨A,c,q,I,Z⟩ K=>⟨A,c,q,I,dU.framed _ (f_ (CP g v A c q)) w O V Z K⟩
section
variable{v:Vt}
def zN(h:St V w0 (.o (fS g v)::l) w):∃(A:aU)(c:Nat)(q:List El),(q.map El.e=v.best∧q.length<=c∧c<=dL)∧St V w0 (.c g 213 (oL v.t v.nodes v.pr v.ac v.had (Y A q.length c) v.n)::.o (gg A q)::l) w:=by
 obtain⟨⟨⟨A,c,q⟩,I⟩,Z⟩:=St.opn (κ:={ x:Option dG×Nat×List El // x.2.2.map El.e=v.best∧x.2.2.length<=x.2.1∧x.2.1<=dL }) (o:=λx=>Ei g v x.1.1 x.1.2.1 x.1.2.2) h λ_ hU=>by obtain⟨A,c,q,I,Z⟩:=hU;exact⟨⟨(A,c,q),I⟩,Z,CP _ _ _ _ _⟩
 exact⟨A,c,q,I,Z⟩
def oo{c:Nat}(h:St V w0 (.c g 213 (oL v.t v.nodes v.pr v.ac v.had (Y A q.length c) v.n)::.o (gg A q)::l) w)(hq:q.map El.e=v.best∧q.length<=c∧c<=dL):St V w0 (.o (fS g v)::l) w:=St.cls (a:=Ei g v A c q) h (fS.framed g v) λU hU=>⟨A,c,q,hq,hU⟩
def Zl{best:E}(h:St V w0 l w)(i:Nat)(hv:v.Ok)(hi:l[i]?=some (.c g 213 (oL v.t v.nodes v.pr v.ac v.had best v.n))):wO w g v.t v.nodes v.pr v.ac v.had best v.n:=⟨h.blk i hi,hv.pr,hv.ac⟩
end
def zO(w:G)(D:aV)(g:Nat)(v:Vt)(hv:v.Ok)(i had:Nat)(hi:i<v.nodes)(A:aU)(c:Nat)(q:List El)(hq:kO w D A q)(iH:q.length<=128)(Rk:had<=9223372036854775807)(jv:∀b,D b->b<(w:Nat))(xl:∀x∈q,x.e.Ok):Lw N D 60 #[g,J i,J had,Y A q.length c] [.o (fS g v)] (λ(_:Unit)e=>e=b5 (aY (v.promise i had (q.map El.e)).1)) (λ_=>[.o (fS g (v.promise i had (q.map El.e)).2)]) w:=by
 obtain⟨R,HR⟩:=az (v.promise i had (q.map El.e));have gS:R.2.Ok:=by rw[HR.out];exact hv.promise (by have:=hv.nodes;omega) Rk (λe he=>by obtain⟨x,X,rfl⟩:=List.mem_map.1 he;exact xl x X) (by rw[bj];exact iH)
 rw[<-HR.out];intro V hM hV;obtain⟨oX,Xb⟩:=hv.nodes;have a3e:=hv.few;have hi8:i<8:=by omega
 have a6K:(i:Int)<8:=by omega
 have lG:∀x,D x->x<(w:Nat)∧¬ V x:=λx X=>⟨jv x X,λh=>(hV x h).2 X⟩;have L:=St.begin_ hM (λb hb=>(hV b hb).1) ⟨fS.framed _ _,trivial⟩;obtain⟨A0,c0,q0,AV,L⟩:=zN L;have hB:=Zl L 0 hv rfl;have ci:=hB.cp hi8;have hN:=Ce hB i hi;have hW:=Dx hB a3e;go_in;go_wp2_with fail;refine hN.mono ?_;rintro e w1 ⟨rfl,rfl⟩;rcases bB (v.pr.getD i false) with hp|hp
 ·have W:R=(false,v):=by rw[HR.out];unfold Vt.promise;rw[aA hp]
  rw[hp] at ci;go_wp2;go_ret;subst W;obtain⟨r1,r2⟩:=(oo L AV).fin;exact⟨(),rfl,r1,r2⟩
 rw[hp] at ci;have W:R=if v.won=true then (false,v.heard i) else if v.counts had (q.map El.e)=true then ((v.heard i).won,{ v.heard i with had:=had,best:=q.map El.e }) else ((v.heard i).won,v.heard i):=by rw[HR.out];unfold Vt.promise;rw[aB (by rw[hp];exact cj)]
 clear HR;replace W:=Q W;go_wp2_with fail;refine hW.mono ?_;rintro e w1 ⟨rfl,eO⟩;have eC:=L.grow eO;clear ci hN hW hB hM;have hh:(v.pr.set i true).length=8:=by rw[dq];exact hv.pr
 have B6:2+i<(oL v.t v.nodes v.pr v.ac v.had (Y A0 q0.length c0) v.n).size:=by rw[um hv.pr hv.ac];omega
 have tS:IntKind.i64.wrap ((v.n:Int)+1)=(v.n:Int)+1:=by rw[IntKind.wrap_i64];omega
 go_wp2_with (refine fB eC 0 rfl 4 _ _ rfl (2+i) rfl (aY true) rfl B6 rfl aw rfl ?_;intro wa mX;refine stay ?_);refine dN ?_;simp only[bL,Yr hv.pr hi8] at mX;have c20:=(show wO _ g v.t v.nodes (v.pr.set i true) v.ac v.had (Y A0 q0.length c0) v.n from ⟨mX.blk 0 rfl,hh,hv.ac⟩).c20;have OC:20<(oL v.t v.nodes (v.pr.set i true) v.ac v.had (Y A0 q0.length c0) v.n).size:=by rw[um hh hv.ac];omega
 go_wp2_with (refine fB mX 0 rfl 3 _ _ rfl 20 rfl (J ((v.n+1:Nat):Int)) rfl OC rfl aw rfl ?_;intro w2 eh;refine stay ?_);refine dN ?_;simp only[bL,Uk hh hv.ac] at eh;clear mX c20 OC B6;have sV:(v.heard i).Ok:=⟨hv.t,hv.nodes,hh,hv.ac,hv.had,hv.best,hv.len,by show v.n+1=_;rw[hv.n];exact (count_set v.pr i (by rw[hv.pr];exact hi8) hp).symm,hv.nn⟩
 have eh:St V w [.c g 213 (oL (v.heard i).t (v.heard i).nodes (v.heard i).pr (v.heard i).ac (v.heard i).had (Y A0 q0.length c0) (v.heard i).n),.o (gg A0 q0)] w2:=eh;rcases bB (decide (v.nodes<2*v.n)) with hw|hw
 ·have W:R=(false,v.heard i):=by rw[W.out,aA (show v.won=true from hw)]
  rw[hw];go_wp2;go_ret;subst W;obtain⟨r1,r2⟩:=(oo eh AV).fin;exact⟨(),rfl,r1,r2⟩
 have I9:=Zl eh 0 sV rfl;have k18:=I9.c18;have k19:=I9.c19;have k20:=I9.c20;rw[hw];have a7W:v.won=false:=hw;have W:=W.out;rw[a7W,aB cj] at W;have e1:(v.heard i).n=v.n+1:=rfl;have e2:(v.heard i).had=v.had:=rfl;have e3:q0.length=v.best.length:=by rw[<-AV.1,bj]
 have hC:=nR w2 D A c q (gg.framed A q w w2 D hq λb hb=>eh.keep lG b hb) ap;by_cases xN:v.counts had (q.map El.e)=true
 ·rw[aA xN] at W
  have hX:(((((v.heard i).n:Nat):Int) == 1)=true)∨((((((v.heard i).n:Nat):Int) == 1)=false)∧decide ((v.heard i).had<had)=true)∨((((((v.heard i).n:Nat):Int) == 1)=false)∧decide ((v.heard i).had<had)=false∧(((had:Nat):Int) == (((v.heard i).had:Nat):Int))=true∧decide (q0.length<q.length)=true):=by unfold Vt.counts at xN;simp only[Bool.or_eq_true,bP,decide_eq_true_eq,bj] at xN;simp only[beq_iff_eq,beq_eq_false_iff_ne,decide_eq_true_eq,decide_eq_false_iff_not,e1,e2,e3];omega
  clear xN;have hX:=hX;rcases hX with I|⟨I,Z⟩|⟨I,Z,T,h4⟩
  all_goals clear e1 e2 e3
  all_goals go_wp2_with fail
  all_goals
   refine hC.mono ?_
   rintro e w3 ⟨u,rfl,⟨A1,c1,q1,rfl,OE,oQ,Bq,BP⟩,-,jU⟩
   have eU:=eh.join (gg.framed A1 q1) jU (U:=New w2 w3) OE (λb hb=>hb)
   clear hX hC k18 k19 k20
   go_wp2_with (refine fB eU 1 rfl 2 _ _ rfl 18 rfl (J had) rfl (by rw[um sV.pr sV.ac];omega) rfl aw rfl ?_;intro wa mX;refine stay ?_)
   refine dN ?_
   simp only[bI,bL,Ui sV.pr sV.ac] at mX
   go_wp2_with (refine fB mX 1 rfl 43 _ _ rfl 19 rfl (Y A1 q1.length c1) rfl (by rw[um sV.pr sV.ac];omega) rfl aw rfl ?_;intro wb AW;refine stay ?_)
   refine dN ?_
   simp only[bI,bL,Uj sV.pr sV.ac] at AW
   have AW:=(AW.front 1 rfl).dT 2 rfl
   have AW:St V w [.c g 213 (oL R.2.t R.2.nodes R.2.pr R.2.ac R.2.had (Y A1 q1.length c1) R.2.n),.o (gg A1 q1)] wb:=by rw[W];exact AW
   have hv3:R.2.Ok:=gS
   have hW:=Dx (Zl AW 0 hv3 rfl) hv3.few
   go_wp2_with fail
   refine hW.mono ?_
   rintro e w6 ⟨rfl,vg⟩
   go_wp2
   go_ret
   obtain⟨r1,r2⟩:=(oo (AW.grow vg) ⟨by rw[oQ,W],Bq,BP⟩).fin
   exact⟨(),by rw[W];rfl,r1,r2⟩
 ·rw[aB xN] at W
  have hX:((((v.heard i).n:Nat):Int) == 1)=false∧decide ((v.heard i).had<had)=false∧((((had:Nat):Int) == (((v.heard i).had:Nat):Int))=false∨((((had:Nat):Int) == (((v.heard i).had:Nat):Int))=true∧decide (q0.length<q.length)=false)):=by unfold Vt.counts at xN;simp only[Bool.or_eq_true,bP,decide_eq_true_eq,bj] at xN;simp only[beq_iff_eq,beq_eq_false_iff_ne,decide_eq_false_iff_not,e1,e2,e3];omega
  clear xN;obtain⟨I,Z,hX⟩:=hX;rcases hX with T|⟨T,h4⟩
  all_goals clear e1 e2 e3
  all_goals go_wp2_with fail
  all_goals
   refine (Dx I9 sV.few).mono ?_
   rintro e w6 ⟨rfl,vg⟩
   go_wp2
   go_ret
   subst W
   obtain⟨r1,r2⟩:=(oo (eh.grow vg) AV).fin
   exact⟨(),rfl,r1,r2⟩
def Gm(t:Nat){node:Nat}(I:node<nodes)(h8:nodes<=8):mE t node nodes % nodes=node∧t<mE t node nodes∧mE t node nodes<=t+nodes∧∀k,t<k->k<mE t node nodes->k % nodes≠node:=by
 unfold mE;have h:nodes=1∨nodes=2∨nodes=3∨nodes=4∨nodes=5∨nodes=6∨nodes=7∨nodes=8:=by omega
 rcases h with rfl|rfl|rfl|rfl|rfl|rfl|rfl|rfl
 all_goals refine⟨by omega,by omega,by omega,λk Z T=>by omega⟩
def Vq(w:G)(t node nodes:Nat)(I:node<nodes)(h8:nodes<=8)(ht:t<=1099511627776):dF N 55 #[J t,J node,J nodes] w λe O=>e=b5 (J (mE t node nodes:Nat))∧w=O:=by
 obtain⟨f1,f2,f3,f4⟩:=Gm t I h8;obtain⟨aeq,HT⟩:=az (mE t node nodes);rw[<-HT.out] at f1 f2 f3 f4 ⊢;have d1:decide ((nodes:Int) >= 1)=true:=aC ap;have d2:decide ((nodes:Int)<=8)=true:=aC ap;have hr:dF N 116 #[J nodes] w λe O=>e=b5 (aY true)∧w=O:=by go_in;go_wp2;go_ret;trivial
 have d3:decide ((node:Int)<0)=false:=aD ap;have d4:decide (nodes<=node)=false:=aD ap;have d5:decide ((t:Int)<0)=false:=aD ap;have d6:decide ((1099511627776:Int)<(t:Int))=false:=aD ap;have hw:IntKind.i64.wrap ((t:Int)+1)=((t+1:Nat):Int):=by rw[IntKind.wrap_i64];omega
 go_in;go_wp2_with fail;refine hr.mono ?_;rintro e w1 ⟨rfl,rfl⟩;go_wp2_with fail;go_loopw [7] (λu wr=>∃k:Nat,u=J k∧t<k∧k<=aeq∧w=wr) (λu _=>aeq-(intOf u).toNat);case atStart=>exact⟨t+1,rfl,by omega,by omega,rfl⟩
 case round=>
  obtain⟨k,rfl,jb,iM,rfl⟩:=hrel;have hm:(k:Int) % (nodes:Int)=((k % nodes:Nat):Int):=by simp
  by_cases K:k=aeq
  ·subst K
   have dk:((k:Int) % (nodes:Int) != (node:Int))=false:=by rw[hm,f1];simp
   clear hm;go_wp2;go_ret;exact⟨rfl,rfl⟩
  ·have dk:((k:Int) % (nodes:Int) != (node:Int))=true:=by
    have:=f4 k jb ap;rw[hm];simp;omega
   clear hm
   have tS:IntKind.i64.wrap ((k:Int)+1)=((k+1:Nat):Int):=by rw[IntKind.wrap_i64];omega
   go_wp2_with fail
   exact⟨⟨k+1,rfl,by omega,by omega,trivial⟩,by simp only[intOf];omega⟩
def Vr(w:G)(D:aV)(g:Nat)(v:Vt)(hv:v.Ok):Lw N D 120 #[g] [.o (fS g v)] (λ(x:Option dG×Nat×List El)e=>e=b5 (Y x.1 x.2.2.length x.2.1)∧x.2.2.map El.e=v.best∧x.2.2.length<=x.2.1∧x.2.1<=dL) (λx=>[.o (gg x.1 x.2.2),.o (fS g v)]) w:=by intro V hM hV;have L:=St.begin_ hM (λb hb=>(hV b hb).1) ⟨fS.framed _ _,trivial⟩;obtain⟨A0,c0,q0,AV,L⟩:=zN L;have hB:=Zl L 0 hv rfl;have c19:=hB.c19;obtain⟨U,hE,_⟩:=L.own.see 1 rfl;have hC:=nR w U A0 c0 q0 hE (by have:=hv.len;rw[<-AV.1,bj] at this;omega);go_in;go_wp2_with fail;refine hC.mono ?_;rintro e w3 ⟨u,rfl,⟨A1,c1,q1,rfl,OE,oQ,Bq,BP⟩,-,jU⟩;go_wp2;go_ret;have eU:=oo (((L.join (gg.framed A1 q1) jU (U:=New w w3) OE (λb hb=>hb)).front 1 rfl).perm (List.Perm.cons _ (List.Perm.swap _ _ _))) AV;obtain⟨r1,r2⟩:=(eU.front 1 rfl).fin;exact⟨(A1,c1,q1),⟨rfl,oQ.trans AV.1,Bq,BP⟩,r1,r2⟩
def ka(g:Nat):Option Vt->E
 | none => .pointer none
 | some _ => .pointer (some ⟨g,0,none⟩)
def Zm(g:Nat):Option Vt->List Bl
 | none=>[]
 | some v=>[.o (fS g v)]
theorem Rl(g:Nat):∀v,qD (Zm g v)
 | none=>trivial
 | some _=>⟨fS.framed _ _,trivial⟩
def dS(p:qi)(g:Nat)(x:Rp):List Bl := .c p.r 118 (kQ p x.node x.nodes x.commit (ka g x.v) x.leads x.own)::.o (il p.m x.m)::.o (rY p.s p.x p.d x.s)::Zm g x.v
def eP(p:qi)(g:Nat)(x:Rp):qD (dS p g x):=⟨trivial,il.framed _ _,gX.framed _ _ _ _ _ _ _ _,Rl _ _⟩
structure Rp.Ok(x:Rp):Prop where
 s:x.s.Ok
 m:CL (8*x.commit) x.m
 v:∀v,x.v=some v->v.Ok∧v.nodes=x.nodes
 node:x.node<x.nodes∧x.nodes<=8
 commit:x.commit<=128
 lv:x.leads=true->∃v,x.v=some v
def fH{n:Nat}(i:Nat)(L:S w)(h:wpAnyH P .any ops aes S n (aev.setIfInBounds i true) a' w)
 (hi:ops[i]?=some o:=by rfl) (hy:∀w,S w->∀(R:E->dK->Prop),R v a'->xq R a o w ((execOp a.eval o).run P w):=by intro w1 hc R W;obtain⟨⟨lx,mL⟩,tP,sr,Ej,lE⟩:=hc;go_simp;exact W)
 (hs:cY ops=true:=by kernel_rfl) (hf:Region.free .any ops aev i=true:=by kernel_rfl) (hr:(cz .any ops aev).contains i=true:=by kernel_rfl)
 (hQ:∀c a w,aes (.panic c) (a.put o.dst v) w->aes (.panic c) a w:=by exact λ_ _ _ h=>h) (hw:bz o (yielded ops a.tmps)=true:=by kernel_rfl):wpAnyH P .any ops aes S (n+1) aev a w:=held i hi L hy h hs hf hr hQ hw
def i4{n:Nat}(i:Nat)(L:S w)(h:wpAnyH P .any ops aes S n (aev.setIfInBounds i true) a' w)
 (hi:ops[i]?=some o:=by rfl) (hy:∀w,S w->∀(R:E->dK->Prop),R v a'->xq R a o w ((execOp a.eval o).run P w):=by intro w1 hc R W;obtain⟨⟨lx,mL⟩,tP,sr⟩:=hc;go_simp;exact W)
 (hs:cY ops=true:=by kernel_rfl) (hf:Region.free .any ops aev i=true:=by kernel_rfl) (hr:(cz .any ops aev).contains i=true:=by kernel_rfl)
 (hQ:∀c a w,aes (.panic c) (a.put o.dst v) w->aes (.panic c) a w:=by exact λ_ _ _ h=>h) (hw:bz o (yielded ops a.tmps)=true:=by kernel_rfl):wpAnyH P .any ops aes S (n+1) aev a w:=held i hi L hy h hs hf hr hQ hw
def fk{n:Nat}(i:Nat)(L:S w)(h:wpAnyH P .any ops aes S n (aev.setIfInBounds i true) a' w)
 (hi:ops[i]?=some o:=by rfl) (hy:∀w,S w->∀(R:E->dK->Prop),R v a'->xq R a o w ((execOp a.eval o).run P w):=by intro w1 hc R W;obtain⟨lx,mL,tP,sr,Ej⟩:=hc;go_simp;exact W)
 (hs:cY ops=true:=by kernel_rfl) (hf:Region.free .any ops aev i=true:=by kernel_rfl) (hr:(cz .any ops aev).contains i=true:=by kernel_rfl)
 (hQ:∀c a w,aes (.panic c) (a.put o.dst v) w->aes (.panic c) a w:=by exact λ_ _ _ h=>h) (hw:bz o (yielded ops a.tmps)=true:=by kernel_rfl):wpAnyH P .any ops aes S (n+1) aev a w:=held i hi L hy h hs hf hr hQ hw
def gK{n:Nat}(i:Nat)(L:S w)(h:wpAnyH P .any ops aes S n (aev.setIfInBounds i true) a' w)
 (hi:ops[i]?=some o:=by rfl) (hy:∀w,S w->∀(R:E->dK->Prop),R v a'->xq R a o w ((execOp a.eval o).run P w):=by intro w1 hc R W;obtain⟨lx,mL⟩:=hc;go_simp;exact W)
 (hs:cY ops=true:=by kernel_rfl) (hf:Region.free .any ops aev i=true:=by kernel_rfl) (hr:(cz .any ops aev).contains i=true:=by kernel_rfl)
 (hQ:∀c a w,aes (.panic c) (a.put o.dst v) w->aes (.panic c) a w:=by exact λ_ _ _ h=>h) (hw:bz o (yielded ops a.tmps)=true:=by kernel_rfl):wpAnyH P .any ops aes S (n+1) aev a w:=held i hi L hy h hs hf hr hQ hw
def fU{n:Nat}(i:Nat)(L:S w)(h:wpAnyH P .any ops aes S n (aev.setIfInBounds i true) a' w)
 (hi:ops[i]?=some o:=by rfl) (hy:∀w,S w->∀(R:E->dK->Prop),R v a'->xq R a o w ((execOp a.eval o).run P w):=by intro w1 hc R W;go_simp;exact W)
 (hs:cY ops=true:=by kernel_rfl) (hf:Region.free .any ops aev i=true:=by kernel_rfl) (hr:(cz .any ops aev).contains i=true:=by kernel_rfl)
 (hQ:∀c a w,aes (.panic c) (a.put o.dst v) w->aes (.panic c) a w:=by exact λ_ _ _ h=>h) (hw:bz o (yielded ops a.tmps)=true:=by kernel_rfl):wpAnyH P .any ops aes S (n+1) aev a w:=held i hi L hy h hs hf hr hQ hw
def fI{n:Nat}(i:Nat)(L:S w)(h:wpAnyH P .any ops aes S n (aev.setIfInBounds i true) a' w)
 (hi:ops[i]?=some o:=by rfl) (hy:∀w,S w->∀(R:E->dK->Prop),R v a'->xq R a o w ((execOp a.eval o).run P w):=by intro w1 hc R W;simp only[fE,kQ] at hc;go_simp;exact W)
 (hs:cY ops=true:=by kernel_rfl) (hf:Region.free .any ops aev i=true:=by kernel_rfl) (hr:(cz .any ops aev).contains i=true:=by kernel_rfl)
 (hQ:∀c a w,aes (.panic c) (a.put o.dst v) w->aes (.panic c) a w:=by exact λ_ _ _ h=>h) (hw:bz o (yielded ops a.tmps)=true:=by kernel_rfl):wpAnyH P .any ops aes S (n+1) aev a w:=held i hi L hy h hs hf hr hQ hw
def eY(q:List Sd):Sends:=q.map Sd.fn
def ry(w:G)(p:qi)(g:Nat)(x:Rp)(X:x.Ok):Lw N (λ_=>False) 122 #[((p.r,0):E)] (dS p g x) (λ(i:E×List Sd)e=>e=b5 i.1∧eY i.2=x.accepts) (λi => .o (dY i.1 i.2)::dS p g x) w:=by
 intro V hM hV;have L:=(St.begin_ hM (λb hb=>(hV b hb).1) (eP _ _ _)).grow (Grow.refl _).drew;have lx:∀w1,Grow w.drew w1->fE [.c p.r 118 (kQ p x.node x.nodes x.commit (ka g x.v) x.leads x.own)] w1:=λw1 H=>by have h:=(L.grow H).facts;simp only[dS,fE] at h;exact⟨h.1,trivial⟩
 have hen:x.s.c.es.length<=128:=X.s.c.len;go_in;go_wp2_with fail;refine dO rfl ?_;have eN:=lx w.drew (Grow.refl _);refine iX (fE [.c p.r 118 (kQ p x.node x.nodes x.commit (ka g x.v) x.leads x.own)]) 18 rfl ?_;refine fI 0 eN ?_;refine fI 1 eN ?_;refine fI 2 eN ?_;refine fI 3 eN ?_;refine fI 4 eN ?_;refine fI 6 eN ?_;refine fI 7 eN ?_;refine fI 8 eN ?_;refine fI 9 eN ?_;refine fI 11 eN ?_;refine fI 12 eN ?_;refine fI 13 eN ?_;refine fI 14 eN ?_;refine fe 5 rfl ?_;obtain⟨U,hE,_⟩:=L.own.see 2 rfl;go_wp2_with fail;refine (CF w.drew p.s p.x p.d _ _ _ _ _ U hE).mono ?_;rintro e O ⟨rfl,rfl⟩;go_wp2_with fail;refine⟨eN,?_⟩;refine fe 10 rfl ?_;go_wp2_with fail;refine (rq w.drew p.s p.x p.d _ _ _ _ _ U hE ap).mono ?_;rintro e w1 ⟨u,rfl,⟨A,c,q,rfl,hq,lL,hqc,jg⟩,-,eO⟩;go_wp2_with fail;have eN:=lx _ eO;refine⟨eN,?_⟩;refine fI 15 eN ?_;have eC:=(L.join (gg.framed A q) eO (U:=New w.drew w1) hq (λb hb=>hb)).front 1 rfl;have xT:Hid (q.length=x.s.c.es.length):=Q (by rw[<-lL,bj]);have hCA:=St.Fe (a:=[.c p.r 118 (kQ p x.node x.nodes x.commit (ka g x.v) x.leads x.own)]) (x := .o (gg A q)) (b := .o (il p.m x.m)::.o (rY p.s p.x p.d x.s)::Zm g x.v) eC
  (a':=λi:E×List Sd=>[.o (dY i.1 i.2),.c p.r 118 (kQ p x.node x.nodes x.commit (ka g x.v) x.leads x.own)]) (λi=>⟨dY.framed _ _,trivial,trivial⟩)
  (λU hU kp=>CN w1 U p x.node x.nodes X.node.2 x.commit (ka g x.v) x.leads x.own (lB x.s.c.t x.s.c.es x.commit) none 0 A c q (om w1 U 0 0 0 0).e hU lL (by rw[xT.out];omega) kp)
 have ko:((lB x.s.c.t x.s.c.es x.commit).cells none 0 A c)=[J 5,(),(),(),(),(),ay,"",(),(),(),(),ae ah 0,J x.s.c.t,(),Y A q.length c,J x.commit,()]:=by rw[xT.out];rfl
 rw[ko] at hCA;refine fe 16 rfl ?_;go_wp2_with fail;refine hCA.mono ?_;rintro e w2 ⟨⟨v,qs⟩,⟨rfl,Xf⟩,ec⟩;go_wp2_with fail;have ec:=ec.dT 2 rfl;have eN:fE [.c p.r 118 (kQ p x.node x.nodes x.commit (ka g x.v) x.leads x.own)] w2:=by have h:=ec.facts;exact⟨h.1,trivial⟩
 refine⟨eN,?_⟩;refine fU 17 eN ?_;refine gb ?_;go_wp2;go_ret;obtain⟨r1,r2⟩:=ec.fin;exact⟨(v,qs),⟨rfl,Xf⟩,r1,r2⟩
def ApR(V:aV)(w:G)(p:qi)(node nodes:Int)(k0:Nat)(v:E)(leads:Bool)(own t h:Nat)(es:List En)(n:Int)(bs:aT)(ms0:jy)(aet M:Nat)(A:aU)(q:List El)(u:E)(wr:G):Prop:=∃(k:Nat)(ms:jy)(out:List Sd),k0<=k∧k<=max k0 M∧ET leads own ((es.take aet).drop k) k ms out=ET leads own ((es.take aet).drop k0) k0 ms0 []∧CL (8*k) ms∧out.length<=k∧St V w (.o (dY u out)::.o (gg A q)::TC p node nodes (k:Int) v leads (own:Int) t h es n bs ms) wr
def Rm(h:e.Ok):e.ds.length<=8∧e.sq<=9223372036854775807:=by
 rcases h.2 with h|h
 ·exact⟨h.2.2.2.2.2.2.1.2,h.2.2.2.2.1.2⟩
 ·rw[h.2.2.2.2.2.1,h.2.2.2.1];exact⟨bo _,by decide⟩
def Gn(w:G)(p:qi)(node nodes:Int)(k0:Nat)(v:E)(leads:Bool)(own t h:Nat)(es:List En)(n:Int)(bs:aT)(ms0:jy)(aet:Nat)(gS:∀e∈es,e.Ok)(fp:es.length<=128)(hm:CL (8*k0) ms0)(jB:k0<=128):Lw N (λ_=>False) 127 #[((p.r,0):E),J aet] (TC p node nodes (k0:Int) v leads (own:Int) t h es n bs ms0) (λu e=>e=b5 u)
  (λu => .o (dY u (ET leads own ((es.take aet).drop k0) k0 ms0 []).2)::TC p node nodes (max k0 (min aet es.length):Nat) v leads (own:Int) t h es n bs (ET leads own ((es.take aet).drop k0) k0 ms0 []).1) w:=by
 intro V hM hV
 have L:=St.begin_ hM (λb hb=>(hV b hb).1) (JY _ _ _ _ _ _ _ _ _ _ _ _ _)
 obtain⟨U,P4,hU⟩:=L.own.see 2 rfl
 have hL:=rq w p.s p.x p.d t h es n bs U P4 ap
 have hc:=L.facts
 simp only[TC,fE,kQ] at hc
 go_in
 go_wp2_with fail
 refine hL.mono ?_
 rintro e wl ⟨u,rfl,⟨A,c,q,rfl,hEn,lL,hqc,jg⟩,-,H⟩
 have L:=L.join (gg.framed A q) H (U:=New w wl) hEn (λb hb=>hb)
 clear P4 hU hL hc
 have xT:q.length=es.length:=by rw[<-lL,bj]
 obtain⟨M,HM⟩:=az (min aet es.length:Nat)
 have T8:∀ts t w,(Builtin.min_ ts t #[J aet,J es.length]).run N w=.ok (J M) w:=λts t w=>by rw[run_min_int2,HM.out];congr 2;split<;>omega
 go_wp2_with fail
 go_loopw [5] (λu wr=>ApR V w p node nodes k0 v leads own t h es n bs ms0 aet M A q u wr) (λ_ wr=>M-(intOf ((wr.cell? (p.r,4)).getD undef)).toNat)
 case atStart=>exact⟨k0,ms0,[],bh _,by omega,rfl,hm,bo _,St.join L (dY.framed _ _) (Grow.refl _) (U:=λ_=>False) (iG.nil _ _) (λ_ h=>h.elim)⟩
 case round=>
  obtain⟨k,ms,out,jB,hkM,WW,hmk,hol,L⟩:=hrel
  obtain⟨Au,cu,rfl,Xh⟩:=zF L
  have hc:=L.facts
  simp only[TC,fE,kQ] at hc
  by_cases K:k<M
  ·have dk:decide (k<M)=true:=aC K
   obtain⟨UE,hE,_⟩:=L.own.see 1 rfl
   have hE:kO _ UE A q:=hE
   obtain⟨ad,xj,rfl,hVk,zn,e0,e1⟩:=hE.1.ni ap pZ (k:=k) (by have:=HM.out;omega)
   have hbe:q[k]∈q:=bD xj
   have ss:q[k].e.Ok:=gS _ (by rw[<-lL];exact List.mem_map.2 ⟨_,hbe,rfl⟩)
   have EX:(es.take aet).drop k=q[k].e::(es.take aet).drop (k+1):=by rw[bR (by rw[bn,<-HM.out];exact K)];congr 1;rw[List.getElem_take];simp[<-lL]
   rw[EX] at WW
   generalize q[k]=b at e0 e1 hbe ss WW EX
   obtain⟨⟨ek,ag,sh,sq,ep,ds,se,fr,tg⟩,Ab,cb⟩:=b
   dsimp only[El.cells,En.agg] at e0 e1
   have f0:=e0 _ rfl
   have f1:=e1 0 _ rfl
   have f2:=e1 1 _ rfl
   have f3:=e1 2 _ rfl
   have f4:=e1 3 _ rfl
   have f5:=e1 4 _ rfl
   have f6:=e1 5 _ rfl
   have f7:=e1 6 _ rfl
   have f8:=e1 7 _ rfl
   obtain⟨y,wa,HY,HA,mX⟩:=L.new' #[J ek,J ag,J sh,J sq,J ep,Y Ab ds.length cb,aX se,J fr,J tg] 40
   clear e0 e1
   have oY:wr.cell? (p.r,4)=some (J k):=hc.1.1 4
   have fin:∀(u:E)(O:G),St V w (.o (dY u (if leads&&decide (own<=k) then out++[sw fr tg (ey ms ⟨ek,ag,sh,sq,ep,ds,se,fr,tg⟩).1 (ey ms ⟨ek,ag,sh,sq,ep,ds,se,fr,tg⟩).2.1] else out))::.o (gg (some ad) q)::TC p node nodes (k:Int) v leads (own:Int) t h es n bs (ey ms ⟨ek,ag,sh,sq,ep,ds,se,fr,tg⟩).2.2) O->
    ApR V w p node nodes k0 v leads own t h es n bs ms0 aet M (some ad) q u (O.setCell (p.r,4) (J ((k:Int)+1)))∧M-(intOf (((O.setCell (p.r,4) (J ((k:Int)+1))).cell? (p.r,4)).getD undef)).toNat<M-(intOf ((wr.cell? (p.r,4)).getD undef)).toNat:=λu O L=>by
    obtain⟨h8,qh⟩:=Rm ss;have I:=L.put 2 rfl 4 (J ((k:Int)+1));have Z:=I.facts;refine⟨⟨k+1,_,_,by omega,by omega,WW,(hmk.step _ qh).more ap,?_,I⟩,?_⟩
    ·split
     ·rw[bd,bw];omega
     ·omega
    ·have T:(O.setCell (p.r,4) (J ((k:Int)+1))).cell? (p.r,4)=some (J ((k:Int)+1)):=Z.1.1 4
     rw[T,oY];simp only[Option.getD_some,intOf];omega
   go_wp2_with fail
   rw[<-HA.out,<-HY.out]
   have eZ:=mX.grow (Grow.refl _).drew
   have hc:=eZ.facts
   simp only[TC,fE,kQ] at hc
   refine dO rfl ?_
   refine vu 0 5 aw aw ?_
   iterate 5 (refine xU rfl (λaer hK=>?_);go_simp;refine hK _ ?_)
   refine vt ?_
   refine tW 5 6 aw aw ?_
   go_wp2_with fail
   refine (eZ.atR 4 2 rfl rfl (λ_=>il.framed _ _) (λU hU kp=>Re _ p.m ms (8*k) ⟨ek,ag,sh,sq,ep,ds,se,fr,tg⟩ Ab cb U ss (hU.2 _ hbe).1 kp hmk ap)).mono ?_
   rintro en w2 ⟨_,rfl,ec⟩
   go_wp2_with fail
   refine wpList_nil ?_
   refine vu 6 11 aw aw ?_
   iterate 5 (refine xU rfl (λaer hK=>?_);go_simp;refine hK _ ?_)
   refine vt ?_
   refine ob ?_
   clear hc eZ mX L f0 f1 f2 f3 f4 f5 f6 f7 f8
   go_wp2_with fail
   have L:=ec.grow (Grow.refl _).drew
   have hc:=L.facts
   simp only[TC,bI,bL,fE,kQ] at hc
   clear ec
   refine dO rfl ?_
   refine vu 0 15 aw aw ?_
   rcases bB leads with hl|hl
   all_goals simp only[cD,List.take_zero,d9]
   all_goals iterate 5 (refine xU rfl (λaer hK=>?_);go_simp;refine hK _ ?_)
   case' inl=>iterate 9 (refine Po aw (λaer hK=>?_);go_simp;refine hK _ ?_)
   case' inr=>iterate 9 (refine MI aw ?_)
   all_goals (refine xU rfl (λaer hK=>?_);go_simp;refine hK _ ?_)
   all_goals refine vt ?_
   all_goals refine ob ?_
   all_goals go_wp2_with (at_builtin;refine stay ?_)
   ·exact fin _ _ (by rw[hl];exact hl▸L.dT 0 rfl)
   ·rename_i hb
    refine dN ?_
    refine lP CH qm qn zE vU rfl (.tmp 55) (.tmp 64) rfl rfl (L.front 1 rfl) (Grow.refl _) (b:=sw fr tg (ey ms ⟨ek,ag,sh,sq,ep,ds,se,fr,tg⟩).1 (ey ms ⟨ek,ag,sh,sq,ep,ds,se,fr,tg⟩).2.1) (om _ _ _ _ _ _) ap 1 rfl ?_
    intro v' O L
    have hc:=L.facts
    simp only[TC,bI,bL,List.eraseIdx_cons_succ,List.eraseIdx_cons_zero,fE,kQ] at hc
    go_wp2_with fail
    exact fin _ _ (by rw[hl,Bool.true_and,aA (aC hb)];exact hl▸L.dT 1 rfl)
   ·rename_i hb
    exact fin _ _ (by rw[hl,Bool.true_and,aB (by simpa using hb)];exact hl▸L.dT 0 rfl)
  ·have wv:k=max k0 M:=by omega
   have lD:(es.take aet).drop k=[]:=cT (by rw[bn,<-HM.out];omega)
   rw[lD] at WW
   have dk:decide (k<M)=false:=aD K
   go_wp2
   go_ret
   rw[<-WW,<-HM.out,<-wv]
   obtain⟨r1,r2⟩:=(L.dT 1 rfl).fin
   exact⟨_,rfl,r1,r2⟩
def K1(w:G)(D:aV)(s x d:Nat)(y:Vs)(TE:Nat)(A9:aU)(c9:Nat)(q9:List El)(hq9:kO w D A9 q9)(jv:∀b,D b->b<(w:Nat))(hrg:∀x∈q9,x.e.X1)(kS:∃x∈q9,¬ x.e.Ok)(hn9:q9.length<=128):Lw N D 121 #[s,J TE,Y A9 q9.length c9] [.o (rY s x d y)] (λ(_:Unit)e=>e=b5 (aY false)) (λ_=>[.o (rY s x d y)]) w:=by
 intro V hM hV;have L:=St.begin_ hM (λb hb=>(hV b hb).1) ⟨gX.framed _ _ _ _ _ _ _ _,trivial⟩;obtain⟨A,c,q,hq,L⟩:=K0 L;have hc:=L.facts;simp only[oP,cH,cC,fE,pL] at hc;obtain⟨m,HM⟩:=az (q9.length);have a3d:m<=128:=by rw[HM.out];exact hn9
 have d3:decide ((m:Int) > 128)=false:=aD ap;have d3':decide ((128:Int)<(m:Int))=false:=aD ap;rw[<-HM.out];have fin:∀O,Grow w O->dU (qv [.o (rY s x d y)]) O (ju V w O)∧dP V w O:=λO H=>(ls (l:=[]) (L.grow H) hq).fin;by_cases XT:TE<y.c.t∨TE<1
 ·have hX:decide (TE<y.c.t)=true∨(decide (TE<y.c.t)=false∧decide ((TE:Int)<1)=true):=by
   simp only[decide_eq_true_eq,decide_eq_false_iff_not];omega
  clear XT
  rcases hX with I|⟨I,Z⟩
  all_goals
   go_in
   go_wp2
   go_ret
   obtain⟨r1,r2⟩:=fin _ (Grow.refl _)
   first|exact⟨(),rfl,r1,r2⟩|exact⟨rfl,r1,r2⟩
 have d1:decide (TE<y.c.t)=false:=aD ap;have d2:decide ((TE:Int)<1)=false:=aD ap;replace XT:=Q XT;go_in;go_wp2_with fail;clear hc;go_loopw [29] (λi wr=>∃k:Nat,k<=m∧i=J k∧(∀x∈q9.take k,x.e.Ok)∧Grow w wr) (λi _=>m-(intOf i).toNat);case atStart=>exact⟨0,by omega,rfl,by simp,Grow.refl _⟩
 case round=>
  obtain⟨k,oF,rfl,fM,i7⟩:=hrel;by_cases K:k<m
  ·have iM:k<q9.length:=by have:=HM.out;omega
   have KN:=hq9.grow i7;obtain⟨ad,xj,rfl,hVk,UV,e0,e1⟩:=KN.1.ni ap pZ iM;have jZ:=KN.2 _ (bD xj);have Zn:=hrg _ (bD xj);have jA:q9[k].e.Ok->∀x∈q9.take (k+1),x.e.Ok:=λho x X=>by
    rw[br xj] at X;rcases List.mem_append.1 X with X|X
    ·exact fM x X
    ·rw[List.mem_singleton.1 X];exact ho
   generalize q9[k]=b at jZ e0 e1 Zn jA;have mQ:=λw1(eO:Grow wr w1)=>py w1 b.e D b.A b.c Zn (In.grow jZ.1 eO);obtain⟨aeu,HW⟩:=az (b.e.Ok);rw[<-HW.out] at mQ jA;clear Zn;obtain⟨⟨bk,ag,sh,sq,ep,ds,se,fr,tg⟩,Ab,cb⟩:=b;dsimp only[El.cells,En.agg] at e0 e1 mQ;have e1:=e1 0 _ rfl;have e0:=e0 _ rfl;have fA:=dZ wr (.cells #[J bk,J ag,J sh,J sq,J ep,Y Ab ds.length cb,aX se,J fr,J tg] 40);have mQ:=mQ _ fA;replace fM:=Q fM;replace jA:=Q jA;clear jZ KN;go_wp2_with fail;refine mQ.mono ?_;rintro e w2 ⟨⟨aep,rfl,hE⟩,fN⟩;replace hE:=Q hE;by_cases h0:aep=0
   ·subst h0
    go_wp2_with fail;exact⟨⟨k+1,by omega,by go_num,jA.out (hE.out.1 (by trivial)),i7.trans (fA.trans fN)⟩,by simp[intOf];omega⟩
   ·have I:(aep != 0)=true:=by simp[h0]
    replace h0:=Q h0;go_wp2;go_ret;obtain⟨r1,r2⟩:=fin _ (i7.trans (fA.trans fN));first|exact⟨(),rfl,r1,r2⟩|exact⟨rfl,r1,r2⟩
  ·obtain rfl:k=m:=by omega
   rw[HM.out,dy] at fM;obtain⟨x,X,h⟩:=kS;exact absurd (fM x X) h
def lH(e:En):Ms:={ Ms.zero with k:=1,e:=e }
inductive Ms.Gd:Ms->Prop
 | ask (e:En) (h:e.Ok):Gd (lH e)
 | ans (tag code n:Nat) (I:tag<=9223372036854775807) (Z:code<=255) (T:n<18446744073709551616):Gd (fD tag code n)
 | xB (t:Nat) (h:t<=9223372036854775807):Gd (kD t)
 | prom (t h:Nat) (l:List En) (I:t<=9223372036854775807) (Z:h<=9223372036854775807) (T:∀e∈l,e.Ok) (h4:l.length<=128):Gd (iB t h l)
 | acc (t:Nat) (l:List En) (c:Nat) (I:t<=9223372036854775807) (Z:c<=128) (T:∀e∈l,e.Ok) (h4:l.length<=128):Gd (lB t l c)
 | OS (t n:Nat) (I:t<=9223372036854775807) (Z:n<=128):Gd (mS t n)
def nF(m:Ms)(A:aU)(c:Nat)(A2:aU)(c2:Nat):Array E:=(m.cells A c A2 c2).toArray
def Rn(m:Ms)(A:aU)(c:Nat)(A2:aU)(c2:Nat):Prop:=∀w,dF N 124 #[aZ (nF m A c A2 c2)] w λen O=>en=b5 (aY true)∧Grow w O
def pE(w:G)(D:aV)(m:Ms)(A:aU)(c:Nat)(A2:aU)(c2:Nat)(q:List El)(hZ:Rn m A c A2 c2)(K:2<=m.k∧m.k<=6)(hr:0<=m.tag∧0<=m.term∧0<=m.had∧0<=m.commit∧0<=m.len∧0<=m.code∧m.code<=255∧m.commit<=128∧m.len<=128)
 (hq:kO w D A2 q) (lL:q.map El.e=m.log) (gS:∀x∈q,x.e.Ok) (hl:q.length<=128):dF N 65 #[aZ (nF m A c A2 c2)] w λen O=>en=b5 (J 0)∧Grow w O:=by
 have hZ:=λ(w1:G)=>hZ w1;obtain⟨r1,r2,r3,r4,r5,r6,r7,r8,r9⟩:=hr;have d1:=aD (show ¬ m.k<1 by omega);have d2:=aD (show ¬ 6<m.k by omega);have d3:(m.k == 1)=false:=beq_eq_false_iff_ne.2 ap;have e1:=aD (show ¬ m.tag<0 by omega);have e2:=aD (show ¬ m.term<0 by omega);have e3:=aD (show ¬ m.had<0 by omega);have e4:=aD (show ¬ m.commit<0 by omega);have e5:=aD (show ¬ m.len<0 by omega);have e6:=aD (show ¬ m.code<0 by omega);have e7:=aD (show ¬ 255<m.code by omega);have e8:=aD (show ¬ 128<m.commit by omega);have e9:=aD (show ¬ 128<m.len by omega);clear r1 r2 r3 r4 r5 r6 r7 r8 r9 K;obtain⟨k,⟨ek,ag,sh,sq,ep,ds,se,fr,tg⟩,tag,code,n,term,had,log,commit,len⟩:=m;unfold nF Ms.cells at *;dsimp only at *;have ym:log.length=q.length:=by rw[<-lL,bj]
 rw[ym] at hZ ⊢;clear lL ym;obtain⟨aet,HN⟩:=az (q.length);have hl':aet<=128:=by rw[HN.out];exact hl
 have d4:decide ((128:Int)<(aet:Int))=false:=aD ap;rw[<-HN.out] at hZ ⊢;have hX:=eL.made w 45 #[J k,J ek,J ag,J sh,J sq,J ep,Y A ds.length c,aX se,J fr,J tg,J tag,J code,ae ah n,J term,J had,Y A2 aet c2,J commit,J len];obtain⟨x,HX⟩:=az ((w:Nat):Nat);go_in;go_wp2_with (refine d_ rfl 45 _ rfl _ rfl (hX) bG aw ?_);refine (hZ _).mono ?_;rintro e w1 ⟨rfl,H⟩;have kv:=hX.grow H;have fA:=(dZ w _).trans H;rw[<-HX.out] at kv ⊢;have c0:=kv.cell 0;have c10:=kv.cell 10;have c11:=kv.cell 11;have c13:=kv.cell 13;have c14:=kv.cell 14;have c15:=kv.cell 15;have c16:=kv.cell 16;have c17:=kv.cell 17;clear hX hZ;go_wp2_with fail;clear c0 c10 c11 c13 c14 c15 c16 c17 kv;go_loopw [79] (λi wr=>∃k:Nat,k<=aet∧i=J k∧Grow w1 wr) (λi _=>aet-(intOf i).toNat);case atStart=>exact⟨0,by omega,rfl,Grow.refl _⟩
 case round=>
  obtain⟨j,xf,rfl,i7⟩:=hrel;by_cases hj:j<aet
  ·have kI:j<q.length:=by have:=HN.out;omega
   have KN:=hq.grow (fA.trans i7);obtain⟨ad,xj,rfl,hVk,UV,f0,f1⟩:=KN.1.ni ap pZ kI;have jZ:=KN.2 _ (bD xj);have ss:=gS _ (bD xj);generalize q[j]=b at jZ f0 f1 ss;have mQ:=λw1(eO:Grow wr w1)=>jN w1 b.e D b.A b.c ss (In.grow jZ.1 eO);obtain⟨⟨bk,ag,sh,sq,ep,ds,se,fr,tg⟩,Ab,cb⟩:=b;dsimp only[El.cells,En.agg] at f0 f1 mQ;have g2:=f1 1 _ rfl;have g3:=f1 2 _ rfl;have g4:=f1 3 _ rfl;have g5:=f1 4 _ rfl;have g6:=f1 5 _ rfl;have g7:=f1 6 _ rfl;have g8:=f1 7 _ rfl;have g1:=f1 0 _ rfl;have g0:=f0 _ rfl;have nI:=dZ wr (.cells #[J bk,J ag,J sh,J sq,J ep,Y Ab ds.length cb,aX se,J fr,J tg] 40);have mQ:=mQ _ nI;clear jZ ss KN f0 f1;go_wp2_with fail;refine mQ.mono ?_;rintro e w2 ⟨rfl,fN⟩;go_wp2_with fail;exact⟨⟨j+1,by omega,by go_num,i7.trans (nI.trans fN)⟩,by simp[intOf];omega⟩
  ·obtain rfl:j=aet:=by omega
   go_wp2;go_ret;exact⟨rfl,fA.trans i7⟩
set_option maxRecDepth 100000
set_option maxHeartbeats 1000000
def Ro(w:G)(A:aU)(c:Nat):dF N 100 #[Y A 0 c,ay] w λe O=>e=b5 (aY true)∧Grow w O:=by
 go_in;go_wp2_with fail;go_loopw [13] (λi wr=>i=J 0∧Grow w wr) (λ_ _=>0);case atStart=>exact⟨rfl,Grow.refl _⟩
 case round=>
  obtain⟨rfl,H⟩:=hrel;go_wp2;go_ret;exact⟨rfl,H⟩
def Gp(w:G)(A:aU)(c:Nat):dF N 223 #[Y A 0 c,ay,.func (.func 224) #[] #[]] w λe O=>e=b5 (aY true)∧Grow w O:=by
 go_in;go_wp2_with fail;go_loopw [17] (λi wr=>i=J 0∧Grow w wr) (λ_ _=>0);case atStart=>exact⟨rfl,Grow.refl _⟩
 case round=>
  obtain⟨rfl,H⟩:=hrel;go_wp2;go_ret;exact⟨rfl,H⟩
def Zo(w:G)(A:aU)(c:Nat):dF N 162 #[Y A 0 c,ay] w λe O=>e=b5 (aY true)∧Grow w O:=by have hE:=Gp w A c;go_in;go_wp2_with fail;refine hE.mono ?_;rintro e w1 ⟨rfl,H⟩;go_wp2;go_ret;exact⟨rfl,H⟩
def Zp(w:G)(A:aU)(c:Nat):dF N 224 #[aZ #[(),(),(),(),(),Y A 0 c,"",(),()],aZ aK] w λe O=>e=b5 (aY true)∧Grow w O:=by have hE:=λw=>Ro w A c;have fA:=(dZ w (.cells #[(),(),(),(),(),Y A 0 c,"",(),()] 40)).trans (dZ _ (.cells aK 40));have X:=eL.made w 40 #[(),(),(),(),(),Y A 0 c,"",(),()];have hy:=eL.made (w.alloc (.cells #[(),(),(),(),(),Y A 0 c,"",(),()] 40)) 40 aK;have X:=X.alloc (.cells aK 40);rw[fy] at hy;go_in;go_wp2_with fail;refine (hE _).mono ?_;rintro e w1 ⟨rfl,H⟩;have sU:=X.grow H;have xm:=hy.grow H;have a6:=sU.cell 6;have a7:=sU.cell 7;have a8:=sU.cell 8;have b6:=xm.cell 6;have b7:=xm.cell 7;have b8:=xm.cell 8;go_wp2;go_ret;exact⟨rfl,fA.trans H⟩
def yi(w:G)(A:aU)(c:Nat)(A2:aU)(c2:Nat):dF N 184 #[aZ #[(),(),(),(),(),(),Y A 0 c,"",(),(),(),(),ae ah 0,(),(),Y A2 0 c2,(),()],aZ aJ] w λe O=>e=b5 (aY true)∧Grow w O:=by have fA:=(dZ w (.cells #[(),(),(),(),(),(),Y A 0 c,"",(),(),(),(),ae ah 0,(),(),Y A2 0 c2,(),()] 45)).trans (dZ _ (.cells aJ 45));have X:=(eL.made w 45 #[(),(),(),(),(),(),Y A 0 c,"",(),(),(),(),ae ah 0,(),(),Y A2 0 c2,(),()]).alloc (.cells aJ 45);have hy:=eL.made (w.alloc (.cells #[(),(),(),(),(),(),Y A 0 c,"",(),(),(),(),ae ah 0,(),(),Y A2 0 c2,(),()] 45)) 45 aJ;rw[fy] at hy;go_in;go_wp2_with fail;refine (Zp _ A c).mono ?_;rintro e w1 ⟨rfl,H⟩;have sU:=X.grow H;have xm:=hy.grow H;have a0:=sU.cell 0;have a10:=sU.cell 10;have a11:=sU.cell 11;have a12:=sU.cell 12;have a13:=sU.cell 13;have a14:=sU.cell 14;have a15:=sU.cell 15;have a16:=sU.cell 16;have a17:=sU.cell 17;have b0:=xm.cell 0;have b10:=xm.cell 10;have b11:=xm.cell 11;have b12:=xm.cell 12;have b13:=xm.cell 13;have b14:=xm.cell 14;have b15:=xm.cell 15;have b16:=xm.cell 16;have b17:=xm.cell 17;go_wp2_with fail;refine (Zo _ A2 c2).mono ?_;rintro e w2 ⟨rfl,fN⟩;have me:=sU.grow fN;have xi:=xm.grow fN;clear a0 b0 a10 b10 a11 b11 a12 b12 a13 b13 a14 b14 a15 b15 a16 b16 a17 b17;have a0:=me.cell 0;have a10:=me.cell 10;have a11:=me.cell 11;have a12:=me.cell 12;have a13:=me.cell 13;have a14:=me.cell 14;have a15:=me.cell 15;have a16:=me.cell 16;have a17:=me.cell 17;have b0:=xi.cell 0;have b10:=xi.cell 10;have b11:=xi.cell 11;have b12:=xi.cell 12;have b13:=xi.cell 13;have b14:=xi.cell 14;have b15:=xi.cell 15;have b16:=xi.cell 16;have b17:=xi.cell 17;go_wp2;go_ret;exact⟨rfl,fA.trans (H.trans fN)⟩
def Rq{m:Ms}(h:m.Gd)(A:aU)(c:Nat)(A2:aU)(c2:Nat):Rn m A c A2 c2:=by
 intro w;unfold nF Ms.cells;cases h;case ask e _=>
  obtain⟨k,ag,sh,sq,ep,ds,se,fr,tg⟩:=e;dsimp only[lH,Ms.zero,En.zero,cx];go_in;go_wp2_with (refine d_ rfl 45 _ rfl _ rfl (eL.made w 45 _) bG aw ?_);refine (yi _ none 0 A2 c2).mono ?_;rintro e w1 ⟨rfl,H⟩;go_wp2;go_ret;exact⟨rfl,Below.trans (dZ w _) (H.mono (by rw[fy];omega))⟩
 case ans|xB|OS=>
  all_goals
   dsimp only[fD,kD,iB,lB,mS,Ms.zero,En.zero,cx]
   go_in
   go_wp2_with (refine d_ rfl 45 _ rfl _ rfl (eL.made w 45 _) bG aw ?_)
   refine (yi _ A c A2 c2).mono ?_
   rintro e w1 ⟨rfl,H⟩
   go_wp2
   go_ret
   exact⟨rfl,Below.trans (dZ w _) (H.mono (by rw[fy];omega))⟩
 case prom|acc=>
  all_goals
   dsimp only[fD,kD,iB,lB,mS,Ms.zero,En.zero,cx]
   go_in
   go_wp2_with (refine d_ rfl 45 _ rfl _ rfl (eL.made w 45 _) bG aw ?_)
   refine (yi _ A c none 0).mono ?_
   rintro e w1 ⟨rfl,H⟩
   go_wp2
   go_ret
   exact⟨rfl,Below.trans (dZ w _) (H.mono (by rw[fy];omega))⟩
def xb(w:G)(e:En)(V:aV)(A:aU)(c:Nat)(A2:aU)(cc2:Nat)(gS:e.Ok)(hd:kg w V A e.ds.length e.ds):dF N 65 #[aZ (nF (lH e) A c A2 cc2)] w λen O=>en=b5 (J 0)∧Grow w O:=by have W:=λ(w1:G)(H:Grow w w1)=>jN w1 e V A c gS (In.grow hd H);have hZ:=λ(w1:G)=>Rq (.ask e gS) A c A2 cc2 w1;unfold nF Ms.cells lH Ms.zero at hZ ⊢;obtain⟨k,ag,sh,sq,ep,ds,se,fr,tg⟩:=e;unfold En.agg at W;dsimp only[cx] at hZ W ⊢;have hX:=eL.made w 45 #[J 1,J k,J ag,J sh,J sq,J ep,Y A ds.length c,aX se,J fr,J tg,(),(),ae ah 0,(),(),Y A2 0 cc2,(),()];obtain⟨x,HX⟩:=az ((w:Nat):Nat);go_in;go_wp2_with (refine d_ rfl 45 _ rfl _ rfl (hX) bG aw ?_);refine (hZ _).mono ?_;rintro e w1 ⟨rfl,H⟩;have kv:=hX.grow H;have fA:=(dZ w _).trans H;rw[<-HX.out] at kv ⊢;have c0:=kv.cell 0;have c1:=kv.cell 1;have c2:=kv.cell 2;have c3:=kv.cell 3;have c4:=kv.cell 4;have c5:=kv.cell 5;have c6:=kv.cell 6;have c7:=kv.cell 7;have c8:=kv.cell 8;have c9:=kv.cell 9;have c10:=kv.cell 10;have c11:=kv.cell 11;have c13:=kv.cell 13;have c14:=kv.cell 14;have c15:=kv.cell 15;have c16:=kv.cell 16;have c17:=kv.cell 17;have W:=W w1 fA;clear hX hZ gS hd;go_wp2_with fail;refine W.mono ?_;rintro e w2 ⟨rfl,fN⟩;go_wp2;go_ret;exact⟨rfl,fA.trans fN⟩
theorem Gq(w:G)(D:aV)(m:Ms)(A:aU)(c:Nat)(A2:aU)(c2:Nat)(q:List El)(h:m.Gd)(he:kg w D A m.e.ds.length m.e.ds)(hq:kO w D A2 q)(lL:q.map El.e=m.log):dF N 65 #[aZ (nF m A c A2 c2)] w λen O=>en=b5 (J 0)∧Grow w O:=by
 have hZ:=Rq h A c A2 c2;have fp:q.length=m.log.length:=by rw[<-lL,bj]
 have lC:∀x∈q,x.e∈m.log:=λx X=>by rw[<-lL];exact List.mem_map.2 ⟨x,X,rfl⟩
 cases h with
 | ask e h=>
   exact xb w e D A c A2 c2 h he
 | ans tag code n I Z T=>
   exact pE w D _ A c A2 c2 q hZ (by simp[fD]) (by simp[fD,Ms.zero];omega) hq lL (λx X=>absurd (lC x X) (by simp[fD,Ms.zero])) (by rw[fp];simp[fD,Ms.zero])
 | xB t h=>exact pE w D _ A c A2 c2 q hZ (by simp[kD]) (by simp[kD,Ms.zero]) hq lL (λx X=>absurd (lC x X) (by simp[kD,Ms.zero])) (by rw[fp];simp[kD,Ms.zero])
 | prom t h l I Z T h4=>exact pE w D _ A c A2 c2 q hZ (by simp[iB]) (by simp[iB,Ms.zero]) hq lL (λx X=>T _ (lC x X)) (by rw[fp];exact h4)
 | acc t l cm I Z T h4=>exact pE w D _ A c A2 c2 q hZ (by simp[lB]) (by simp[lB,Ms.zero];omega) hq lL (λx X=>T _ (lC x X)) (by rw[fp];exact h4)
 | OS t n I Z=>exact pE w D _ A c A2 c2 q hZ (by simp[mS]) (by simp[mS,Ms.zero];omega) hq lL (λx X=>absurd (lC x X) (by simp[mS,Ms.zero])) (by rw[fp];simp[mS,Ms.zero])
def lY(w:G)(D:aV)(m:Ms)(A:aU)(c:Nat)(A2:aU)(c2:Nat)(q:List El)(h:m.Gd)(_:m.k≠1->A=none∧c=0)(_:m.k≠4->m.k≠5->A2=none∧c2=0)(he:kg w D A m.e.ds.length m.e.ds)(hq:kO w D A2 q)(lL:q.map El.e=m.log):dF N 65 #[aZ (nF m A c A2 c2)] w λen O=>en=b5 (J 0)∧Grow w O:=Gq w D m A c A2 c2 q h he hq lL
def K2(w:G)(e:En)(V:aV)(A:aU)(c:Nat)(gS:e.Ok)(hd:kg w V A e.ds.length e.ds):dF N 65 #[aZ (UX e A c)] w λen O=>en=b5 (J 0)∧Grow w O:=xb w e V A c none 0 gS hd
def Rr(w:G)(tag code:Int)(n:Nat):Rn (fD tag code n) none 0 none 0:=by intro w;show dF N 124 #[aZ (jC tag code n)] w _;unfold jC;go_in;go_wp2_with (refine d_ rfl 45 _ rfl _ rfl (eL.made w 45 _) bG aw ?_);refine (yi _ none 0 none 0).mono ?_;rintro e w1 ⟨rfl,H⟩;go_wp2;go_ret;exact⟨rfl,Below.trans (dZ w _) (H.mono (by rw[fy];omega))⟩
def zP(w:G)(tag code:Int)(n:Nat)(ht:0<=tag)(hc:0<=code∧code<=255):dF N 65 #[aZ (jC tag code n)] w λen O=>en=b5 (J 0)∧Grow w O:=pE w (λ_=>False) (fD tag code n) none 0 none 0 [] (Rr w tag code n) (by simp[fD]) (by simp[fD,Ms.zero];omega) kO.nil rfl (by simp) (by simp)
def EU(u:E)(xs:List (List UInt8)):ei:=λw V=>∃(A:aU)(c:Nat)(q:List Bx),u=Y A q.length c∧Bxs w V V A q.length q∧q.map Bx.bs=xs∧q.length<=c∧c<=dL
def EU.framed(u:E)(xs:List (List UInt8)):eQ (EU u xs):=λw O V ⟨A,c,q,I,Z,T⟩ K=>⟨A,c,q,I,⟨In.keep Z.row λb hb _=>K b hb,λb hb=>⟨In.keep (Z.all b hb).bs λx X _=>K x X,(Z.all b hb).le,(Z.all b hb).max⟩⟩,T⟩
def kh(d:Nat)(l:aT)(k:Nat):ei:=gD 120 d l k
theorem kh.framed(d:Nat)(l:aT)(k:Nat):eQ (kh d l k):=gD.framed _ _ _ _
structure OpI where
 (x:Nat) (u:E) (xs:List (List UInt8)) (j:Nat)
def Rs(w:G)(D:aV)(d k:Nat)(l:aT):Lw N D 113 #[d] [.o (kh d l k)] (λ(i:OpI)e=>lU l i.xs i.j∧e=b5 (a_ #[((i.x,0):E),i.u])) (λi=>[.o (eF i.x d (i.xs.length:Int) (l.take i.j) i.j),.o (EU i.u i.xs)]) w:=by
 intro V hM hV;have L:=St.begin_ hM (λb hb=>(hV b hb).1) ⟨kh.framed _ _ _,trivial⟩;obtain⟨U,hU,_⟩:=L.own.see 0 rfl;have hl:l.length<=1048576:=(show gD 120 d l k w U from hU).2.2.1;have a3g:=xX w d l k U hU;go_in;go_wp2_with fail;refine a3g.mono ?_;rintro e w1 ⟨v1,rfl,l6,eO⟩;obtain⟨A1,c1,rfl,mK,oX,sF⟩:=l6.reads;have eC:=L.grow eO;go_wp2_with fail;refine (QK w1 A1 l.length c1 l mK oX sF ap).mono ?_;rintro e w2 ⟨xs,j,u,hs,rfl,hX,fN⟩;have xg:j<=l.length:=by rw[hs.2.1,<-hs.1,bd];omega
 obtain⟨A2,c2,q,rfl,mJ,hq,hqc,jg⟩:=hX;have ec:=eC.join (EU.framed (Y A2 q.length c2) xs) fN (U:=New w1 w2) ⟨A2,c2,q,rfl,mJ,hq,hqc,jg⟩ (λb hb=>hb);clear l6 mK a3g;go_wp2_with fail;refine (ec.Il 1 rfl (λ_=>kh.framed d (l.take j) j) ec.no (λU' _ _=>Lw.turns (L6 w2 d l k j xg))).mono ?_;rintro e w3 ⟨_,rfl,eh⟩;go_wp2;go_ret2;have eU:=eh.new #[d,J q.length] 278;have eI:St V w ([.c (w3:Nat) 278 #[d,J q.length],.o (kh d (l.take j) j)]++[.o (EU (Y A2 q.length c2) xs)]) _:=eU.perm (.cons _ (.swap _ _ _));have eS:=eI.cls (eF.framed (w3:Nat) d (xs.length:Int) (l.take j) j) (λU' XS=>by obtain⟨U1,U2,⟨I,Z⟩,T,k1,k2,k3⟩:=XS;obtain⟨U3,U4,h4,_,k4,_⟩:=T;refine⟨k1 _ I,?_,gD.wide h4 λb hb=>⟨k2 b (k4 b hb),λe=>k3 b (e▸I) (k4 b hb)⟩⟩;rw[<-hq,bj];exact Z)
 obtain⟨r1,r2⟩:=eS.fin;exact⟨⟨(w3:Nat),_,xs,j⟩,⟨hs,rfl⟩,r1,r2⟩
end Go.Proofs.YtpeepcmdehhbgaaGreatDoor
section
namespace Go.Hop
open Go.RowKit
def Lw.frame{f:FuncId}{a:List Bl}{ι:Type}{C:ι->Ending->Prop}{a':ι->List Bl}(h:Lw P (λ_=>False) f args a C a' w)(ha:qD a)(WL:∀i,qD (a' i)){b:List Bl}(hb:qD b):Lw P (λ_=>False) f args (a++b) C (λi=>a' i++b) w:=λV hM hV=>by have L:=St.begin_ hM (λx X=>(hV x X).1) (mj ha hb);exact (St.call L WL (λ_ h=>h.elim) h).mono λe O ⟨i,hC,AL⟩=>⟨i,hC,AL.fin.1,AL.fin.2⟩
end Go.Hop
namespace Go.Proofs.YtpeepcmdehhbgaaGreatDoor
open Go.RowKit Go.Hop V
def Gr(w:G)(D:aV)(g:Nat)(v:Vt)(hv:v.Ok)(i:Nat)(hi:i<v.nodes)(m:Nat):Lw N D 128 #[g,J i,J m] [.o (fS g v)] (λ(_:Unit)e=>e=b5 (J (v.accepted i m).1)) (λ_=>[.o (fS g (v.told i m))]) w:=λV hM hV=>by have L:=St.begin_ hM (λb hb=>(hV b hb).1) ⟨fS.framed _ _,trivial⟩;obtain⟨A0,c0,q0,AV,L⟩:=zN L;refine (Fu (λb=>b=g) rfl (Zl L 0 hv rfl) i hi hv.nodes.2 m).mono λe O ⟨I,Z,T⟩=>?_;have ec:=L.turned 0 rfl T Z.b;obtain⟨r1,r2⟩:=(oo (v:=v.told i m) ec AV).fin;exact⟨(),I,r1,r2⟩
def rZ(w:G)(D:aV)(g:Nat)(v:Vt)(hv:v.Ok):Lw N D 68 #[g] [.o (fS g v)] (λ(_:Unit)e=>e=b5 (J v.t)) (λ_=>[.o (fS g v)]) w:=λV hM hV=>by have L:=St.begin_ hM (λb hb=>(hV b hb).1) ⟨fS.framed _ _,trivial⟩;obtain⟨A0,c0,q0,AV,L⟩:=zN L;refine (Ul (Zl L 0 hv rfl)).mono λe O ⟨I,Z⟩=>?_;subst Z;obtain⟨r1,r2⟩:=(oo L AV).fin;exact⟨(),I,r1,r2⟩
def CQ(w:G)(p:qi)(g:Nat)(x:Rp)(X:x.Ok)(aet:Nat):Lw N (λ_=>False) 127 #[((p.r,0):E),J aet] (dS p g x) (λ(i:E×List Sd)e=>e=b5 i.1∧eY i.2=(x.apply aet).2) (λi => .o (dY i.1 i.2)::dS p g (x.apply aet).1) w:=by have fp:=X.s.c.len;have jg:=X.commit;have h:=(Gn w p x.node x.nodes x.commit (ka g x.v) x.leads x.own x.s.c.t x.s.c.h x.s.c.es x.s.ws.length x.s.bs x.m aet X.s.c.es fp X.m ap).frame (JY _ _ _ _ _ _ _ _ _ _ _ _ _) (λu=>⟨dY.framed _ _,JY _ _ _ _ _ _ _ _ _ _ _ _ _⟩) (Rl g x.v);intro V hM hV;refine (h V hM hV).mono λe O ⟨u,I,Z,T⟩=>⟨(u,_),⟨I,rfl⟩,Z,T⟩
def rz(w:G)(p:qi)(g:Nat)(x:Rp)(X:x.Ok)(v:Vt)(hv:x.v=some v)(i:Nat)(hi:i<x.nodes)(n:Nat):Lw N (λ_=>False) 71 #[((p.r,0):E),J i,J n] (dS p g x) (λ(j:E×List Sd)e=>e=b5 j.1∧eY j.2=(x.counted v i n).2) (λj => .o (dY j.1 j.2)::dS p g (x.counted v i n).1) w:=by
 obtain⟨R,HR⟩:=az (x.counted v i n);rw[<-HR.out];intro V hM hV;obtain⟨AY,Bg⟩:=X.v v hv;have L:=St.begin_ hM (λb hb=>(hV b hb).1) (eP _ _ _);unfold dS at L;rw[hv] at L;have hc:=L.facts;simp only[Zm,ka,fE,kQ] at hc;go_in;go_wp2_with fail;refine (L.at_ 3 rfl (λ_=>fS.framed _ _) (D:=λ_=>False) (λ_ h=>h.elim) (Gr w _ g v AY i (by rw[Bg];exact hi) n)).mono ?_;rintro e w1 ⟨_,rfl,eC⟩;clear hc;have hnn:0<=(v.accepted i n).1:=Vo (AY.told i n).nn;obtain⟨aet,hN⟩:∃aet:Nat,(v.accepted i n).1=(aet:Int):=⟨(v.accepted i n).1.toNat,by omega⟩;rw[hN];have me:(Rp.Ok { x with v:=some (v.told i n) }):=⟨X.s,X.m,λv' h'=>by cases h';exact⟨AY.told i n,Bg⟩,X.node,X.commit,λ_=>⟨_,rfl⟩⟩;have hA:=CQ w1 p g { x with v:=some (v.told i n) } me aet;have W:R=Rp.apply { x with v:=some (v.told i n) } aet:=by rw[HR.out];unfold Rp.counted;rw[hN];rfl
 clear HR;replace W:=Q W;go_wp2_with fail;refine (St.call (a:=dS p g { x with v:=some (v.told i n) }) (b:=[]) (a':=λj:E×List Sd => .o (dY j.1 j.2)::dS p g (Rp.apply { x with v:=some (v.told i n) } aet).1) eC (λ_=>⟨dY.framed _ _,eP _ _ _⟩) (λ_ h=>h.elim) hA).mono ?_;rintro e w2 ⟨j,⟨rfl,Z⟩,ec⟩;go_wp2;go_ret;obtain⟨r1,r2⟩:=ec.fin;rw[W.out];exact⟨j,⟨rfl,Z⟩,by simpa using r1,r2⟩
end Go.Proofs.YtpeepcmdehhbgaaGreatDoor
end
section
namespace Go.Hop
open Go.RowKit
section
variable{κ α:Type}[DecidableEq κ]
def r_(q:List (κ×α))(k:κ):Option α:=(q.find? λp=>decide (p.1=k)).map (·.2)
def tD(q:List (κ×α))(k:κ)(v:α):List (κ×α):=if k∈q.map Prod.fst then q.map (λp=>if p.1=k then (k,v) else p) else q++[(k,v)]
def ij(q:List (κ×α))(k:κ):List (κ×α):=q.filter λp=>decide (p.1≠k)
def gR(f:α->E)(q:List (κ×α)):List (κ×E):=q.map λp=>(p.1,f p.2)
def zQ(f:α->E)(q:List (κ×α)):(gR f q).map Prod.fst=q.map Prod.fst:=by unfold gR;rw[List.map_map];rfl
theorem uN(f:α->E)(q:List (κ×α))(k:κ):vm (gR f q) k=(r_ q k).map f:=by
 unfold vm r_ gR;induction q with
 | nil=>rfl
 | cons p q ih=>
   simp only[bX,List.find?_cons];cases h:decide (p.1=k);·exact ih
   ·rfl
def vY(f:α->E)(q:List (κ×α))(k:κ)(v:α):lN (gR f q) k (f v)=gR f (tD q k v):=by
 unfold lN tD;rw[zQ];split
 ·unfold gR
  rw[List.map_map,List.map_map];congr 1;funext p;simp only[Function.comp];split<;>rfl
 ·unfold gR;simp
def nG(f:α->E)(q:List (κ×α))(k:κ):mq (gR f q) k=gR f (ij q k):=by unfold mq ij gR;rw[List.filter_map];rfl
end
end Go.Hop
namespace Go.Proofs.YtpeepcmdehhbgaaGreatDoor
open Go.RowKit Go.Hop V
abbrev lZ:=Int×Int×Int
structure Ag where
 (node f9:Nat) (b:Bk) (now tag last:Nat) (tr:List (lZ×(Nat×Nat))) (ask:List (Int×lZ)) (rs:List Rc) (k:Nat)
def sx(rs:List Rc):List UInt8:=rs.flatMap λr=>frame r.B
def pF(rs:List Rc)(r:Rc):sx (rs++[r])=sx rs++frame r.B:=by simp[sx]
def Ag.bs(x:Ag):List UInt8:=sx x.rs
def sy(t:Nat×Nat):E := aZ #[J t.1,J t.2]
structure xC where
 (a st x d bT bK:Nat) (z:aQ)
def rA(p:xC)(x:Ag):Array E:=#[J x.node,J x.f9,((p.x,0):E),((p.st,0):E),J x.now,J x.tag,J x.last,.map (some p.bT),.map (some p.bK)]
def dV(p:xC)(x:Ag):List Bl:=[.c p.a 192 (rA p x),.o (iO p.st p.z x.b),.o (eF p.x p.d x.rs.length x.bs x.k),.o (eR oV p.bK (gR j6 x.ask)),.o (eR j6 p.bT (gR sy x.tr))]
def fJ(p:xC)(x:Ag):qD (dV p x):=⟨trivial,iO.framed _ _ _,eF.framed _ _ _ _ _,eR.framed _ _,eR.framed _ _,trivial⟩
structure Ag.Ok(x:Ag):Prop where
 node:x.node<8
 f9:1<=x.f9∧x.f9<=8
 last:x.last<x.f9
 b:x.b.Lm x.rs.length
 sh:1<=x.b.sh∧x.b.sh<=4
 bs:x.bs.length<=1048576
 rs:∀r∈x.rs,r.Ok
 qk:∀k,0<=(x.b.qu k).k∧(x.b.qu k).k<=9223372036854775807
theorem Ek:∀l:List Rc,5*l.length<=(sx l).length
 | []=>bh _
 | x::l=>by
   have:=Ek l;have:=qf x.B;simp only[sx,bN,bd,bC] at *;omega
def Ag.Ok.few{x:Ag}(h:x.Ok):x.rs.length<=209715:=by have I:=Ek x.rs;have Z:=h.bs;unfold Ag.bs at Z;omega
def Ag.sync(x:Ag):Ag:={ x with k:=x.bs.length }
def Ag.iA(x:Ag)(r:Rc):Int:=V.iA x.bs r.B
def sa(w:G)(D:aV)(x d n k:Nat)(l b:aT)(u:E)(hb:dX b u w)(hn:n<=1099511627776):Lw N D 241 #[x,u] [.o (eF x d n l k)] (λ(_:Unit)e=>e=b5 (J (V.iA l b))) (λ_=>[.o (eF x d (if V.iA l b=0 then n+1 else n:Nat) (V.Bn l b) k)]) w:=by obtain⟨A,m,c,rfl,Mx,_⟩:=hb;have h:=Lw.turns (D:=D) (wY w x d n l k A m c b Mx ap);rw[show ((if V.iA l b=0 then n+1 else n:Nat):Int)=if V.iA l b=0 then (n:Int)+1 else (n:Int) by split<;>simp];exact h
def nH{l:aT}(h:V.iA l b=0):V.Bn l b=l++frame b∧room l b=true:=by
 rcases bB (room l b) with I|I
 ·exact⟨((nE l b).1 I).2,I⟩
 ·have:=((nE l b).2 I).1
  rw[h] at this;cases this
def uO{l:aT}(h:V.iA l b≠0):V.Bn l b=l∧room l b=false:=by
 rcases bB (room l b) with I|I
 ·exact absurd ((nE l b).1 I).1 h
 ·exact⟨((nE l b).2 I).2,I⟩
def LM(w:G)(D:aV)(p:xC)(x:Ag):Lw N D 221 #[((p.a,0):E)] (dV p x) (λ(_:Unit)e=>e=b5 (a_ #[])) (λ_=>dV p x.sync) w:=by intro V hM hV;have L:=St.begin_ hM (λb hb=>(hV b hb).1) (fJ _ _);have hc:=L.facts.1;simp only[rA] at hc;go_in;go_wp2_with fail;refine (L.Il 2 rfl (λ_=>eF.framed _ _ _ _ _) L.no (λU _ _=>Lw.turns (vR w p.x p.d _ x.bs x.k))).mono ?_;rintro e w1 ⟨_,rfl,eC⟩;go_wp2;go_end0;obtain⟨r1,r2⟩:=eC.fin;exact⟨(),rfl,r1,r2⟩
end Go.Proofs.YtpeepcmdehhbgaaGreatDoor
end
namespace Go.Proofs.YtpeepcmdehhbgaaGreatDoor
open RowKit Hop V
theorem Rt(leads:Bool)(own:Nat):∀(l:List En)(k:Nat)(x:jy)(out:List Sd),(∀e∈l,e.Ok)->CL (8*k) x->CL (8*(k+l.length)) (ET leads own l k x out).1
 | [],_,_,_,_,h=>h
 | e::l,k,x,out,he,h=>by
   obtain⟨h8,qh⟩:=Rm (he e (by simp));have:=Rt leads own l (k+1) (ey x e).2.2 (if leads&&decide (own<=k) then out++[sw e.fr e.tg (ey x e).1 (ey x e).2.1] else out) (λe' h'=>he e' (by simp[h'])) ((h.step e qh).more ap);rw[show k+(e::l).length=k+1+l.length by simp;omega];exact this
namespace Rp
variable{x:Rp}
theorem Ok.apply(h:x.Ok)(aet:Nat):(x.apply aet).1.Ok:=by have hc:=h.commit;refine⟨h.s,?_,h.v,h.node,by have:=h.s.c.len;show max x.commit (min aet x.s.c.es.length)<=128;omega,h.lv⟩;have I:=Rt x.leads x.own ((x.s.c.es.take aet).drop x.commit) x.commit x.m [] (λe he=>h.s.c.es e (bY (da he))) h.m;rw[bU,bn] at I;exact I.more (by show 8*_<=8*max x.commit (min aet x.s.c.es.length);omega)
theorem Ok.down(h:x.Ok):x.down.Ok:=⟨h.s,h.m,λ_ h'=>(by cases h'),h.node,h.commit,λh'=>by cases h'⟩
def Ok.vote(h:x.Ok){v:Vt}(hv:v.Ok)(hn:v.nodes=x.nodes):Rp.Ok { x with v:=some v }:=⟨h.s,h.m,λv' h'=>by cases h';exact⟨hv,hn⟩,h.node,h.commit,λ_=>⟨_,rfl⟩⟩
theorem Ok.counted(h:x.Ok){v:Vt}(hv:x.v=some v)(i n:Nat):(x.counted v i n).1.Ok:=by obtain⟨I,Z⟩:=h.v v hv;exact (h.vote (I.told i n) Z).apply _
def Ok.word(h:x.Ok){s:Vs}(hs:s.Ok)(l:Bool)(o:Nat)(hl:l=true->∃v,x.v=some v):Rp.Ok { x with s:=s,leads:=l,own:=o }:=⟨hs,h.m,h.v,h.node,h.commit,hl⟩
end Rp
theorem LN(leads:Bool)(own:Nat):∀(l:List En)(k:Nat)(x:jy)(out:List Sd),(ET leads own l k x out).2.length<=out.length+l.length
 | [],_,_,_=>by simp[ET]
 | e::l,k,x,out=>by
   have:=LN leads own l (k+1) (ey x e).2.2 (if leads&&decide (own<=k) then out++[sw e.fr e.tg (ey x e).1 (ey x e).2.1] else out);simp only[ET,bC];split at this;·rename_i hh;rw[aA hh];rw[bd,bw] at this;omega
   ·rename_i hh;rw[aB hh];omega
def oq(x:Rp)(X:x.Ok)(v:Vt)(i n:Nat):(x.counted v i n).2.length<=128:=by unfold Rp.counted Rp.apply;rw[bj];refine bA (LN _ _ _ _ _ _) ?_;have I:=X.s.c.len;simp only[cx,bU,bn];omega
def ot(x:Rp)(X:x.Ok):x.accepts.length<=8:=by unfold Rp.accepts uM;rw[bj];refine bA (df _ _) ?_;rw[di];exact X.node.2
def Vs.kZ{s s':Vs}(h:s.Ok){l:List En}(ht:t<=9223372036854775807)(hl:∀e∈l,e.Ok)(he:s.accept t l=some s'):s'.Ok:=by
 unfold Vs.accept at he;split at he;·cases he
 ·rename_i I
  split at he;·cases he;exact h
  ·refine (Vs.Ok.keep h ?_ he).1
   unfold Vs.next;split;·exact⟨ht,ht,hl,by show l.length<=128;omega⟩
   ·exact⟨ht,h.c.h,h.c.es,h.c.len⟩
def Vu(A:aU)(n:Nat)(xs:List E):ei:=λw V=>In w V 9 A n xs
def Vu.framed(A:aU)(n:Nat)(xs:List E):eQ (Vu A n xs):=λ_ _ _ h K=>In.keep h λb hb _=>K b hb
section
variable{x:El}
def Vv(h:St V w0 (.o (gg A q)::.o (zG x)::l) w)(hn:q.length<=1000)(ty:dH)(c:Nat):∃A' c' O,(cA #[43,43] ty #[Y A q.length q.length,Y (some ⟨(w:Nat),0,none⟩) 1 c]).run N (w.alloc (.cells x.cells.toArray 40))=.ok (Y A' (q.length+1) c') O∧(q.length+1<=c'∧c'<=dL)∧St V w0 (.o (gg A' (q++[x]))::l) O:=by
 have fA:Grow w (w.alloc (.cells x.cells.toArray 40)):=fc w _;have I:=h.grow fA;obtain⟨U,hE,_⟩:=I.own.see 0 rfl;have hE:kO _ U A q:=hE;have sE:Reads (w.alloc (.cells x.cells.toArray 40)) ((w:Nat)+1) 9 (some ⟨(w:Nat),0,none⟩) 1 x.cells:=by have:=fO w x.cells.toArray 40 (0,0) (n:=1) (size:=9) (by simp[pZ]) _ rfl;simpa using this
 obtain⟨v',O,eM,H,hO⟩:=vv Jt (w.alloc (.cells x.cells.toArray 40)) ty hE.1.reads (c:=c) am sE (Jr x) ap;obtain⟨A',c',rfl,hI,lx,mL⟩:=hO.kB;refine⟨A',c',O,eM,⟨lx,mL⟩,?_⟩;have Z:=I.join (Vu.framed A' (q.length+1) _) H (U:=New (w.alloc (.cells x.cells.toArray 40)) O) hI (λb hb=>hb);refine St.cls (a:=[.o (Vu A' (q.length+1) _),.o (gg A q),.o (zG x)]) Z (gg.framed _ _) λU hM=>?_;obtain⟨U1,U2,hA,⟨U3,U4,hB,⟨U5,U6,hC,_,n1,_,_⟩,m1,m2,_⟩,k1,k2,_⟩:=hM;refine⟨?_,λy hy=>?_⟩
 ·rw[bd,bO,bN,cI,bm]
  exact In.mono hA k1
 ·rcases List.mem_append.1 hy with hy|hy
  ·exact jF _ _ _ _ (hB.2 y hy) λb hb=>k2 b (m1 b hb)
  ·rw[List.mem_singleton.1 hy]
   exact jF _ _ _ _ hC λb hb=>k2 b (m2 b (n1 b hb))
def K3{rest:List dJ}(hw:bz o (yielded ops a.tmps)=true)(s y:Operand)
 (ho:o.op=.call { callee := .builtin .append,args:=#[s,y],argTypes:=#[43,43] }) (h:St V w0 (.o (gg A q)::.o (zG x)::l) w) (hn:q.length<=1000) (c:Nat) (hs:a.eval s=Y A q.length q.length) (hy:a.eval y=Y (some ⟨(w:Nat),0,none⟩) 1 c)
 (K:∀A' c' O,(q.length+1<=c'∧c'<=dL)->St V w0 (.o (gg A' (q++[x]))::l) O->wpList N ops aes rest (a.put o.dst (Y A' (q.length+1) c')) O):wpList N ops aes (o::rest) a (w.alloc (.cells x.cells.toArray 40)):=by obtain⟨A',c',O,eM,I,Z⟩:=Vv h hn o.type c;unfold wpList;rw[aA hw];refine .inl ?_;unfold Oper.wp execOp;simp only[ho,resolve,invoke,builtin,Sem.run_bind,Sem.run_pure,Result.andThen_ok,cZ,bX,cS,hs,hy,eM];exact K A' c' O I Z
end
section
def CR{e size:Nat}(h:eL w g e cs)(hc:cs.size=size):Own w (λb=>b=g) e size (Y (some (g,0)) 1 1) 1 cs.toList:=⟨by simp[hc],.inr ⟨g,1,cs,rfl,rfl,h,bh _,by unfold dL;omega,.inl ap,by rw[bH (by simp[hc])]⟩⟩
def NS{S:ei}(h:St V w0 (.o S::l) w)(b:Sd)(hb:∀O U,S O U->Sd.In O U b):St V w0 (.o (dY (Y (some ⟨(w:Nat),0,none⟩) 1 1) [b])::l) (w.alloc (.cells b.cells.toArray 218)):=by
 refine St.cls (a:=[.c (w:Nat) 218 b.cells.toArray,.o S]) (h.new _ _) (dY.framed _ _) λU hM=>?_;obtain⟨U1,U2,hA,⟨U3,U4,hB,_,m1,_,_⟩,k1,k2,k3⟩:=hM;have hB':eL (w.alloc (.cells b.cells.toArray 218)) (w:Nat) 218 b.cells.toArray:=hA.2;refine⟨λb=>b=(w:Nat),U3,?_,λy hy=>?_,λy hy=>?_,λy hy=>k2 y (m1 y hy)⟩
 ·have:=CR (size:=19) hB' (by simp[zE])
  simpa using this
 ·rw[List.mem_singleton.1 hy];exact hb _ _ hB
 ·rw[hy];exact⟨k1 _ hA.1,λh=>k3 _ hA.1 (m1 _ h)⟩
def nU(h:St V w0 l w)(b:Sd)(hb:∀O U,Sd.In O U b):St V w0 (.o (dY (Y (some ⟨(w:Nat),0,none⟩) 1 1) [b])::l) (w.alloc (.cells b.cells.toArray 218)):=by
 refine St.cls (a:=[.c (w:Nat) 218 b.cells.toArray]) (h.new _ _) (dY.framed _ _) λU hM=>?_;obtain⟨U1,U2,hA,_,k1,k2,k3⟩:=hM;have hB':eL (w.alloc (.cells b.cells.toArray 218)) (w:Nat) 218 b.cells.toArray:=hA.2;refine⟨λb=>b=(w:Nat),λ_=>False,?_,λy hy=>?_,λy hy=>?_,λy hy=>hy.elim⟩
 ·have:=CR (size:=19) hB' (by simp[zE])
  simpa using this
 ·rw[List.mem_singleton.1 hy];exact hb _ _
 ·rw[hy];exact⟨k1 _ hA.1,λh=>h⟩
end
def LO{x:El}(h:mO w D x)(K:∀b,D b->O.heap[b]?=w.heap[b]?):mO O D x:=zG.framed x w O D h K
def Em(h:e.Ok)(f:Int):En.Ok { e with fr:=f }↔0<=f∧f<8:=⟨λk=>k.1.1,λk=>⟨⟨k,h.1.2⟩,h.2⟩⟩
def Gs(h:e.Ok)(f:Int):En.X1 { e with fr:=f }:=by
 rcases h.2 with Z|Z
 ·exact⟨Z.2.2.2.2.1.2,Z.2.2.2.2.2.1.2,h.1.2.2,λd hd=>⟨(Z.2.2.2.2.2.2.2 d hd).2.1,bA (Z.2.2.2.2.2.2.2 d hd).2.2.2 am⟩,by show e.se.size<=1000000;rw[Z.2.1];decide,bA Z.2.2.2.2.2.2.1.2 am⟩
 ·exact⟨by show e.sq<=9223372036854775807;rw[Z.2.2.2.1];decide,by show e.ep<=9223372036854775807;rw[Z.2.2.2.2.1];decide,h.1.2.2,λd hd=>(by have KM:d∈e.ds:=hd;rw[Z.2.2.2.2.2.1] at KM;cases KM),bA Z.2.2.2.2.2.2.2 am,(by show e.ds.length<=1048576;rw[Z.2.2.2.2.2.1];decide)⟩
def Zq(h:e.Ok):e.X1:=Gs h e.fr
def a3h(x:Rp)(from_ tg:Int)(v:Vt):Option Vs->Rp×Sends
 | none=>(x,[(from_,fD tg 7 0)])
 | some s=>Rp.told { x with s:=s } v
def TD(p:qi)(node:Nat)(w:G):Prop:=w.cell? (p.r,0)=some (J node)∧w.cell? (p.r,2)=some (((p.s,0):E))
def NT{z:Rp}(h:St V w0 (dS p g z++l) w):TD p z.node w:=⟨h.facts.1.1 0,h.facts.1.1 2⟩
def Vw(w:G)(D:aV)(p:qi)(g:Nat)(x:Rp)(X:x.Ok)(from_:Int)(e:En)(A:aU)(c:Nat)(he:mO w D ⟨e,A,c⟩)(gS:e.Ok)(jv:∀b,D b->b<(w:Nat)):Lw N D 66 #[((p.r,0):E),J from_,aZ (e.agg A c)] (dS p g x) (λ(j:E×List Sd)en=>en=b5 j.1∧eY j.2=(x.ask from_ e).2) (λj => .o (dY j.1 j.2)::dS p g (x.ask from_ e).1) w:=by
 obtain⟨R,HR⟩:=aE (x.ask from_ e);rw[<-HR];replace HR:=Q HR;intro V hM hV;have lG:∀x,D x->x<(w:Nat)∧¬ V x:=λx X=>⟨jv x X,λh=>(hV x h).2 X⟩;have L:=St.begin_ hM (λb hb=>(hV b hb).1) (eP _ _ _);have hen:x.s.c.es.length<=128:=X.s.c.len;have Ii:=X.s;obtain⟨aep,HE⟩:=az e;obtain⟨ek,ag,sh,sq,ep,ds,se,fr,tg⟩:=e;unfold En.agg;dsimp only;unfold dS at L;have hc:=(L.new #[J ek,J ag,J sh,J sq,J ep,Y A ds.length c,aX se,J fr,J tg] 40).facts;simp only[fE,kQ] at hc;obtain⟨y,wa,HY,HA,L⟩:=L.new' #[J ek,J ag,J sh,J sq,J ep,Y A ds.length c,aX se,J fr,J tg] 40;go_in;go_wp2_with fail;rw[<-HA.out,<-HY.out];obtain⟨U,hE,_⟩:=L.own.see 3 rfl;refine (rq wa p.s p.x p.d _ _ _ _ _ U hE ap).mono ?_;rintro en w1 ⟨u,rfl,⟨A1,c1,q1,rfl,Ih,oQ,Bq,BP⟩,⟨A1',hA1⟩,eO⟩;have xT:q1.length=x.s.c.es.length:=by rw[<-oQ,bj]
 obtain rfl:c1=q1.length:=by injection hA1 with _ I Z;omega
 clear hA1 hE hc;have L:=L.join (gg.framed A1 q1) eO (U:=New wa w1) Ih (λb hb=>hb);have hc:=L.facts;simp only[fE,kQ] at hc;replace xT:=Q xT;go_wp2_with (refine fB L 1 rfl 3 _ _ rfl 7 rfl (J from_) rfl (bf rfl) rfl aw rfl ?_;clear L hc;intro w2 L;refine stay ?_);refine dN ?_;simp only[bJ,bI,bL] at L;have hc:=L.facts;simp only[fE,kQ] at hc;rcases bB x.leads with hl|hl
 case inr=>
  have W:R=(x,[(from_,fD tg 6 0)]):=by rw[HR.out];unfold Rp.ask;rw[hl]
  clear HR;replace W:=Q W;rw[hl] at hc L;go_wp2_with fail;have ec:=((nU L (sw from_ tg 6 0) (λO U=>om O U _ _ _ _)).dT 1 rfl).dT 1 rfl;go_ret;obtain⟨r1,r2⟩:=ec.fin;rw[W.out];refine⟨(_,[sw from_ tg 6 0]),⟨rfl,rfl⟩,?_,r2⟩;unfold dS;rw[hl];exact r1
 obtain⟨v,hv⟩:=X.lv hl;obtain⟨AY,Bg⟩:=X.v v hv;rw[hl,hv] at hc L;simp only[ka] at hc;by_cases a9m:128<=x.s.c.es.length
 ·have W:R=(x,[(from_,fD tg 7 0)]):=by rw[HR.out];unfold Rp.ask;rw[hl,hv];simp only[];rw[aA (.inl a9m)]
  clear HR;replace W:=Q W;have d1:decide ((q1.length:Int) >= 128)=true:=aC (by rw[xT.out];omega);go_wp2_with fail;have eZ:=L.grow (Grow.refl _).drew;have eN:fE [.c y 40 #[J ek,J ag,J sh,J sq,J ep,Y A ds.length c,aX se,J from_,J tg],.c p.r 118 (kQ p x.node x.nodes x.commit ((g:E)) true x.own)] w2.drew:=by have h:=eZ.facts;exact⟨h.1,h.2.1,trivial⟩
  refine dO rfl ?_;refine iX (fE [.c y 40 #[J ek,J ag,J sh,J sq,J ep,Y A ds.length c,aX se,J from_,J tg],.c p.r 118 (kQ p x.node x.nodes x.commit ((g:E)) true x.own)]) 22 rfl ?_;refine fI 0 eN ?_;refine fI 1 eN ?_;refine fI 2 eN ?_;refine fI 3 eN ?_;refine dW 4 rfl eN ?_;refine dW 5 rfl eN ?_;refine dW 6 rfl eN ?_;refine dW 7 rfl eN ?_;refine dW 8 rfl eN ?_;refine dW 9 rfl eN ?_;refine dW 10 rfl eN ?_;refine dW 11 rfl eN ?_;refine dW 12 rfl eN ?_;refine dW 13 rfl eN ?_;refine dW 14 rfl eN ?_;refine dW 15 rfl eN ?_;refine dW 16 rfl eN ?_;refine dW 17 rfl eN ?_;refine dW 18 rfl eN ?_;refine dW 19 rfl eN ?_;refine fI 20 eN ?_;refine fI 21 eN ?_;refine gb ?_;go_wp2_with fail;have ec:=((nU eZ (sw from_ tg 7 0) (λO U=>om O U _ _ _ _)).dT 1 rfl).dT 1 rfl;go_ret;obtain⟨r1,r2⟩:=ec.fin;rw[W.out];refine⟨(_,[sw from_ tg 7 0]),⟨rfl,rfl⟩,?_,r2⟩;unfold dS;rw[hl,hv];exact r1
 have d1:decide ((q1.length:Int) >= 128)=false:=aD (by rw[xT.out];omega);go_wp2_with fail;have eZ:=L.grow (Grow.refl _).drew;have eN:fE [.c y 40 #[J ek,J ag,J sh,J sq,J ep,Y A ds.length c,aX se,J from_,J tg],.c p.r 118 (kQ p x.node x.nodes x.commit ((g:E)) true x.own)] w2.drew:=by have h:=eZ.facts;exact⟨h.1,h.2.1,trivial⟩
 refine dO rfl ?_;refine iX (fE [.c y 40 #[J ek,J ag,J sh,J sq,J ep,Y A ds.length c,aX se,J from_,J tg],.c p.r 118 (kQ p x.node x.nodes x.commit ((g:E)) true x.own)]) 22 rfl ?_;refine fI 0 eN ?_;refine fI 1 eN ?_;refine fI 2 eN ?_;refine fI 3 eN ?_;refine fI 4 eN ?_;refine fI 5 eN ?_;refine fI 6 eN ?_;refine fI 7 eN ?_;refine fI 8 eN ?_;refine fI 9 eN ?_;refine fI 10 eN ?_;refine fI 11 eN ?_;refine fI 13 eN ?_;refine fI 14 eN ?_;clear hc L;refine fe 12 rfl ?_;go_wp2_with fail;refine (eZ.at_ 5 rfl (λ_=>fS.framed _ _) (D:=λ_=>False) (λ_ h=>h.elim) (rZ w2.drew _ g v AY)).mono ?_;rintro en w3 ⟨_,rfl,eh⟩;go_wp2_with fail;have eh:St V w [.o (gg A1 q1),.c y 40 #[J ek,J ag,J sh,J sq,J ep,Y A ds.length c,aX se,J from_,J tg],.c p.r 118 (kQ p x.node x.nodes x.commit ((g:E)) true x.own),.o (il p.m x.m),.o (rY p.s p.x p.d x.s),.o (fS g v)] w3:=eh;have gU:∀O,Grow w3 O->fE [.c y 40 #[J ek,J ag,J sh,J sq,J ep,Y A ds.length c,aX se,J from_,J tg],.c p.r 118 (kQ p x.node x.nodes x.commit ((g:E)) true x.own)] O:=λO H=>by have h:=(eh.grow H).facts;exact⟨h.1,h.2.1,trivial⟩
 refine⟨gU _ (Grow.refl _),?_⟩;have he3:mO w3 D ⟨⟨ek,ag,sh,sq,ep,ds,se,from_,tg⟩,A,c⟩:=LO (x:=⟨⟨ek,ag,sh,sq,ep,ds,se,from_,tg⟩,A,c⟩) he λb hb=>eh.keep lG b hb;have R7:=uy w3 D ⟨⟨ek,ag,sh,sq,ep,ds,se,from_,tg⟩,A,c⟩ he3;unfold En.agg at R7;dsimp only at R7;refine fe 15 rfl ?_;go_wp2_with fail;refine R7.mono ?_;rintro en w4 ⟨A3,rfl,Lu,Dg⟩;have eU:=(eh.join (zG.framed _) Dg (U:=New w3 w4) Lu (λb hb=>hb)).perm (List.Perm.swap _ _ _);clear R7;go_wp2_with fail;refine⟨gU _ Dg,?_⟩;refine fe 16 rfl ?_;go_wp2_with fail;refine⟨gU _ (Dg.trans (fc w4 _)),?_⟩;refine fe 17 rfl ?_;refine K3 rfl (.tmp 39) (.tmp 42) rfl eU (by rw[xT.out];omega) 1 rfl rfl ?_;intro A5 c5 w5 Ej eI;refine wpList_nil ?_;have Ej:fE [.c y 40 #[J ek,J ag,J sh,J sq,J ep,Y A ds.length c,aX se,J from_,J tg],.c p.r 118 (kQ p x.node x.nodes x.commit ((g:E)) true x.own)] w5:=by have h:=eI.facts;exact⟨h.1,h.2.1,trivial⟩
 refine⟨Ej,?_⟩;have a0T:(q1++[(⟨⟨ek,ag,sh,sq,ep,ds,se,from_,tg⟩,A3,ds.length⟩:El)]).map El.e=x.s.c.es++[⟨ek,ag,sh,sq,ep,ds,se,from_,tg⟩]:=by rw[bM,oQ];rfl
 obtain⟨q5,hq5⟩:=az (q1++[(⟨⟨ek,ag,sh,sq,ep,ds,se,from_,tg⟩,A3,ds.length⟩:El)]);rw[<-hq5.out] at a0T eI;have hl5:Hid (q5.length=q1.length+1):=Q (by rw[hq5.out,bd,bw]);have a3i:q5.length<=128:=by rw[hl5.out,xT.out];omega
 have Xs:∀z∈q5,z.e∈x.s.c.es∨z.e=⟨ek,ag,sh,sq,ep,ds,se,from_,tg⟩:=λz hz=>by
  have h:z.e∈q5.map El.e:=List.mem_map.2 ⟨z,hz,rfl⟩;rw[a0T] at h;rcases List.mem_append.1 h with h|h
  ·exact .inl h
  ·exact .inr (List.mem_singleton.1 h)
 obtain⟨ael,NU⟩:=az (if 0<=from_∧from_<8 then x.s.accept v.t (x.s.c.es++[(⟨ek,ag,sh,sq,ep,ds,se,from_,tg⟩:En)]) else none:Option Vs);have Zr:dF N 121 #[((p.s,0):E),J v.t,Y A5 (q1.length+1) c5] w5 λen O=>∃_:Unit,en=b5 (aY ael.isSome)∧St V w [.o (gg A5 q5),.c y 40 #[J ek,J ag,J sh,J sq,J ep,Y A ds.length c,aX se,J from_,J tg],.c p.r 118 (kQ p x.node x.nodes x.commit ((g:E)) true x.own),.o (il p.m x.m),.o (rY p.s p.x p.d (ael.getD x.s)),.o (fS g v)] O:=by
  by_cases qC:0<=from_∧from_<8
  ·have h:=NU.out
   rw[aA qC,<-a0T] at h;rw[<-hl5.out,h];exact eI.atR 4 0 rfl rfl (λ_=>gX.framed _ _ _ _ _ _ _ _) (λU hU kp=>vX w5 U p.s p.x p.d x.s Ii v.t AY.t A5 c5 q5 hU kp (λz hz=>(Xs z hz).elim (λh=>Ii.c.es _ h) (λh=>by rw[h];exact (Em gS from_).2 qC)) a3i)
  ·have h:=NU.out
   rw[aB qC] at h;rw[<-hl5.out,h];exact eI.atR 4 0 rfl rfl (λ_=>gX.framed _ _ _ _ _ _ _ _) (λU hU kp=>K1 w5 U p.s p.x p.d x.s v.t A5 c5 q5 hU kp (λz hz=>(Xs z hz).elim (λh=>Zq (Ii.c.es _ h)) (λh=>by rw[h];exact Gs gS from_)) ⟨⟨⟨ek,ag,sh,sq,ep,ds,se,from_,tg⟩,A3,ds.length⟩,by rw[hq5.out];simp,λh=>qC ((Em gS from_).1 h)⟩ a3i)
 refine fe 18 rfl ?_;go_wp2_with fail;refine Zr.mono ?_;rintro en w6 ⟨_,rfl,eS⟩;clear Zr gU;go_wp2_with fail;have lE:fE [.c y 40 #[J ek,J ag,J sh,J sq,J ep,Y A ds.length c,aX se,J from_,J tg],.c p.r 118 (kQ p x.node x.nodes x.commit ((g:E)) true x.own)] w6:=by have h:=eS.facts;exact⟨h.1,h.2.1,trivial⟩
 refine⟨lE,?_⟩;have Zs:R=a3h x from_ tg v ael:=by
  rw[HR.out,NU.out];unfold Rp.ask;rw[hl,hv];simp only[];by_cases qC:0<=from_∧from_<8
  ·rw[aB ap,aA qC]
   cases x.s.accept v.t (x.s.c.es++[(⟨ek,ag,sh,sq,ep,ds,se,from_,tg⟩:En)])<;>simp only[a3h,hl,hv]
  ·rw[aA (.inr qC),aB qC]
   rfl
 clear HR HE;rcases ael with _|s
 ·replace Zs:=Q Zs
  simp only[Option.isSome_none];refine fU 19 lE ?_;refine fU 20 lE ?_;refine fU 21 lE ?_;refine gb ?_;clear lE Ej eN;have hc:=eS.facts;simp only[fE,kQ] at hc;go_wp2_with fail;have fQ:=((nU eS (sw from_ tg 7 0) (λO U=>om O U _ _ _ _)).dT 1 rfl).dT 1 rfl;go_ret;obtain⟨r1,r2⟩:=fQ.fin;rw[Zs.out];refine⟨(_,[sw from_ tg 7 0]),⟨rfl,rfl⟩,?_,r2⟩;change dU (qv (Bl.o (dY _ [sw from_ tg 7 0])::dS p g x)) _ _;unfold dS;rw[hl,hv];exact r1
 ·replace Zs:=Q Zs
  simp only[Option.isSome_some];refine fU 19 lE ?_;refine fU 20 lE ?_;refine fU 21 lE ?_;refine gb ?_;clear lE Ej eN;have hc:=eS.facts;simp only[fE,kQ] at hc;go_wp2_with fail;clear hc;obtain⟨X2,kq⟩:=aE ({ x with s:=s }:Rp);have Zt:s.Ok:=by
   have h:=NU.out;by_cases qC:0<=from_∧from_<8
   ·rw[aA qC] at h
    exact Vs.kZ Ii AY.t (λz hz=>by
     rcases List.mem_append.1 hz with hz|hz
     ·exact Ii.c.es _ hz
     ·rw[List.mem_singleton.1 hz]
      exact (Em gS from_).2 qC) h.symm
   ·rw[aB qC] at h
    cases h
  have me:X2.Ok:=by rw[kq];exact X.word Zt _ _ (λ_=>⟨v,hv⟩)
  have sV:X2.v=some v:=by rw[kq];exact hv
  have fQ:St V w (dS p g X2) w6:=by have h:=(eS.dT 0 rfl).dT 0 rfl;rw[kq];unfold dS;rw[hl,hv];exact h
  have ig:R=Rp.told X2 v:=by rw[Zs.out,kq];rfl
  clear Zs eS;replace kq:=Q kq;replace ig:=Q ig;have fK:=fQ.grow (Grow.refl _).drew;have jB:=NT (l:=[]) (by rw[bm];exact fK);refine dO rfl ?_;refine iX (TD p X2.node) 15 rfl ?_;refine gK 0 jB ?_;refine gK 1 jB ?_;refine gK 2 jB ?_;refine gK 3 jB ?_;refine gK 4 jB ?_;refine gK 5 jB ?_;refine gK 6 jB ?_;refine gK 7 jB ?_;refine gK 8 jB ?_;refine gK 11 jB ?_;refine fe 9 rfl ?_;obtain⟨U2,Ie,_⟩:=fK.own.see 2 rfl;go_wp2_with fail;refine (uF w6.drew p.s p.x p.d _ _ _ _ _ U2 Ie).mono ?_;rintro en w7 ⟨rfl,rfl⟩;go_wp2_with fail;refine⟨jB,?_⟩;refine fe 10 rfl ?_;go_wp2_with fail;refine (St.call (a:=dS p g X2) (b:=[]) (a':=λj:E×List Sd => .o (dY j.1 j.2)::dS p g (X2.counted v X2.node X2.s.c.es.length).1) (by rw[bm];exact fK) (λ_=>⟨dY.framed _ _,eP _ _ _⟩) (λ_ h=>h.elim) (rz w6.drew p g X2 me v sV X2.node me.node.1 X2.s.c.es.length)).mono ?_;rintro en w8 ⟨⟨u1,o1⟩,⟨rfl,AO⟩,gM⟩;rw[bm] at gM;have AQ:=me.counted sV X2.node X2.s.c.es.length;have WU:o1.length<=128:=by rw[<-bj (f:=Sd.fn)];exact (congrArg List.length AO)▸oq X2 me v X2.node X2.s.c.es.length
  obtain⟨X3,rB⟩:=aE (X2.counted v X2.node X2.s.c.es.length);have Tr:X3.1.node=X2.node:=by rw[rB];rfl
  rw[<-rB] at gM AQ AO;have iS:=gM.perm (bg (l₁:=[Bl.o (dY u1 o1)]) (l₂:=dS p g X3.1));go_wp2_with fail;refine⟨Tr▸NT iS,?_⟩;refine fe 12 rfl ?_;go_wp2_with fail;refine (St.call (a:=dS p g X3.1) (b:=[.o (dY u1 o1)]) (a':=λj:E×List Sd => .o (dY j.1 j.2)::dS p g X3.1) iS (λ_=>⟨dY.framed _ _,eP _ _ _⟩) (λ_ h=>h.elim) (ry w8 p g X3.1 AQ)).mono ?_;rintro en w9 ⟨⟨u2,o2⟩,⟨rfl,qM⟩,lA⟩;have Dc:o2.length<=8:=by rw[<-bj (f:=Sd.fn)];exact (congrArg List.length qM)▸ot X3.1 AQ
  have lX:=lA.perm (bg (l₁:=Bl.o (dY u2 o2)::dS p g X3.1) (l₂:=[Bl.o (dY u1 o1)]));go_wp2_with fail;refine⟨Tr▸NT (l:=[.o (dY u1 o1),.o (dY u2 o2)]) (lX.perm (bg (l₁:=[Bl.o (dY u1 o1),Bl.o (dY u2 o2)]) (l₂:=dS p g X3.1))),?_⟩;refine fe 13 rfl ?_;refine yF CH qm qn vU rfl (.tmp 65) (.tmp 67) rfl rfl rfl lX ap ?_;intro v5 Xr o6;refine wpList_nil ?_;have jb:TD p X2.node Xr:=Tr▸NT (l:=[.o (dY v5 (o1++o2))]) (o6.perm (bg (l₁:=[Bl.o (dY v5 (o1++o2))]) (l₂:=dS p g X3.1)));refine⟨jb,?_⟩;refine fU 14 jb ?_;refine gb ?_;go_wp2;go_ret;obtain⟨r1,r2⟩:=o6.fin;have hT:Rp.told X2 v=(X3.1,X3.2++X3.1.accepts):=by rw[rB];rfl
  rw[ig.out,hT];exact⟨(v5,o1++o2),⟨rfl,by show eY (o1++o2)=X3.2++X3.1.accepts;rw[<-AO,<-qM];exact bM⟩,r1,r2⟩
def uP(w:G)(p:qi)(g:Nat)(x:Rp):Lw N (λ_=>False) 58 #[((p.r,0):E)] (dS p g x) (λ(_:Unit)e=>e=b5 (a_ #[])) (λ_=>dS p g x.down) w:=by
 intro V hM hV;have L:=St.begin_ hM (λb hb=>(hV b hb).1) (eP _ _ _);obtain⟨vp,hvp⟩:=aE (ka g x.v);unfold dS at L;rw[<-hvp] at L;have hc:=L.facts;simp only[fE,kQ] at hc;go_in;go_wp2_with (refine fB L 0 rfl 4 _ _ rfl 6 rfl (aY false) rfl (bf rfl) rfl aw rfl ?_;clear L hc;intro w2 L;refine stay ?_);refine dN ?_;go_wp2_with (refine fB L 0 rfl 116 _ _ rfl 5 rfl (.pointer none) rfl (bf rfl) rfl aw rfl ?_;clear L;intro w3 L;refine stay ?_);refine dN ?_;go_wp2;go_end0;have ec:St V w (dS p g x.down++Zm g x.v) w3:=L;have eh:St V w (dS p g x.down) w3:=by
  cases hv:x.v with
  | none=>rw[hv] at ec;simpa [Zm] using ec
  | some v=>rw[hv] at ec;exact ec.dT 3 rfl
 obtain⟨r1,r2⟩:=eh.fin;first|exact⟨(),rfl,r1,r2⟩|exact⟨rfl,r1,r2⟩
def LP(w:G)(p:qi)(g:Nat)(x:Rp)(X:x.Ok)(v:Vt)(hv:x.v=some v):Lw N (λ_=>False) 63 #[((p.r,0):E)] (dS p g x) (λ(j:E×List Sd)en=>en=b5 j.1∧eY j.2=(x.won v).2) (λj => .o (dY j.1 j.2)::dS p g (x.won v).1) w:=by
 obtain⟨R,HR⟩:=aE (x.won v);rw[<-HR];replace HR:=Q HR;intro V hM hV;obtain⟨AY,Bg⟩:=X.v v hv;have Ii:=X.s;have L:=St.begin_ hM (λb hb=>(hV b hb).1) (eP _ _ _);unfold dS at L;rw[hv] at L;have L:St V w [.c p.r 118 (kQ p x.node x.nodes x.commit ((g:E)) x.leads x.own),.o (il p.m x.m),.o (rY p.s p.x p.d x.s),.o (fS g v)] w:=L;have hc:=L.facts;simp only[fE,kQ] at hc;go_in;go_wp2_with fail;have Iq:St V w ([.o (fS g v)]++[.c p.r 118 (kQ p x.node x.nodes x.commit ((g:E)) x.leads x.own),.o (il p.m x.m),.o (rY p.s p.x p.d x.s)]) w:=L.front 3 rfl;have hCB:=St.call (a:=[.o (fS g v)]) (b:=[.c p.r 118 (kQ p x.node x.nodes x.commit ((g:E)) x.leads x.own),.o (il p.m x.m),.o (rY p.s p.x p.d x.s)]) (a':=λz:Option dG×Nat×List El=>[.o (gg z.1 z.2.2),.o (fS g v)]) Iq (λ_=>⟨gg.framed _ _,fS.framed _ _,trivial⟩) (D:=λ_=>False) (λ_ h=>h.elim) (Vr w _ g v AY);refine hCB.mono ?_;rintro en w1 ⟨⟨A1,c1,q1⟩,⟨rfl,oQ,Bq,BP⟩,eC⟩;have eC:St V w [.o (gg A1 q1),.o (fS g v),.c p.r 118 (kQ p x.node x.nodes x.commit ((g:E)) x.leads x.own),.o (il p.m x.m),.o (rY p.s p.x p.d x.s)] w1:=eC;clear hc L;have hc:=eC.facts;simp only[fE,kQ] at hc;have WU:q1.length<=128:=by rw[<-bj (f:=El.e),oQ];exact AY.len
 go_wp2_with fail;have eZ:=eC.grow (Grow.refl _).drew;have gU:∀{l:List Bl}{O:G},St V w (.o (gg A1 q1)::.o (fS g v)::.c p.r 118 (kQ p x.node x.nodes x.commit ((g:E)) x.leads x.own)::l) O->fE [.c p.r 118 (kQ p x.node x.nodes x.commit ((g:E)) x.leads x.own)] O:=λh=>⟨h.facts.1,trivial⟩;have eN:=gU eZ;refine dO rfl ?_;refine iX (fE [.c p.r 118 (kQ p x.node x.nodes x.commit ((g:E)) x.leads x.own)]) 12 rfl ?_;refine fI 0 eN ?_;refine fI 1 eN ?_;refine fI 2 eN ?_;refine fI 3 eN ?_;refine fI 4 eN ?_;refine fI 5 eN ?_;refine fI 6 eN ?_;refine fI 7 eN ?_;refine fI 9 eN ?_;refine fe 8 rfl ?_;go_wp2_with fail;refine (eZ.at_ 1 rfl (λ_=>fS.framed _ _) (D:=λ_=>False) (λ_ h=>h.elim) (rZ w1.drew _ g v AY)).mono ?_;rintro en w3 ⟨_,rfl,eh⟩;have eh:St V w [.o (gg A1 q1),.o (fS g v),.c p.r 118 (kQ p x.node x.nodes x.commit ((g:E)) x.leads x.own),.o (il p.m x.m),.o (rY p.s p.x p.d x.s)] w3:=eh;go_wp2_with fail;refine⟨gU eh,?_⟩;have Zr:=eh.atR 4 0 rfl rfl (λ_=>gX.framed _ _ _ _ _ _ _ _) (λU hU kp=>vX w3 U p.s p.x p.d x.s Ii v.t AY.t A1 c1 q1 hU kp (λz hz=>AY.best _ (by rw[<-oQ];exact List.mem_map.2 ⟨z,hz,rfl⟩)) WU);rw[oQ] at Zr;have HR2:Hid (R=match x.s.accept v.t v.best with|none=>(x.down,[])|some s=>Rp.told { x with s:=s,leads:=true,own:=s.c.es.length } v):=HR;clear HR;obtain⟨ael,HY⟩:=az (x.s.accept v.t v.best);rw[<-HY.out] at Zr HR2;refine fe 10 rfl ?_;go_wp2_with fail;refine Zr.mono ?_;rintro en w6 ⟨_,rfl,eS⟩;clear Zr;have eS:St V w [.o (gg A1 q1),.o (fS g v),.c p.r 118 (kQ p x.node x.nodes x.commit ((g:E)) x.leads x.own),.o (il p.m x.m),.o (rY p.s p.x p.d (ael.getD x.s))] w6:=eS;go_wp2_with fail;have lE:=gU eS;refine⟨lE,?_⟩;clear eN hc;rcases ael with _|s
 ·simp only[Option.isSome_none]
  refine fU 11 lE ?_;refine gb ?_;have fQ:St V w (dS p g x) w6:=by unfold dS;rw[hv];exact (eS.dT 0 rfl).perm ((List.Perm.swap _ _ _).trans (List.Perm.cons _ ((List.Perm.swap _ _ _).trans (List.Perm.cons _ (List.Perm.swap _ _ _)))))
  clear gU lE;go_wp2_with fail;refine (St.call (a:=dS p g x) (b:=[]) (a':=λ_:Unit=>dS p g x.down) (by rw[bm];exact fQ) (λ_=>eP _ _ _) (λ_ h=>h.elim) (uP w6 p g x)).mono ?_;rintro en w7 ⟨_,rfl,fK⟩;rw[bm] at fK;go_wp2;go_ret;have gM:=St.join fK (dY.framed (Y none 0 0) []) (Grow.refl _) (U:=λ_=>False) (iG.nil _ _) (λ_ h=>h.elim);obtain⟨r1,r2⟩:=gM.fin;rw[HR2.out];exact⟨(Y none 0 0,[]),⟨rfl,rfl⟩,r1,r2⟩
 ·simp only[Option.isSome_some]
  refine fU 11 lE ?_;refine gb ?_;have Zt:s.Ok:=Vs.kZ Ii AY.t AY.best HY.out.symm;clear gU lE;have hc:=eS.facts;simp only[fE,kQ] at hc;obtain⟨U,hE,_⟩:=eS.own.see 4 rfl;have OG:=uF w6 p.s p.x p.d _ _ _ _ _ U hE;go_wp2_with fail;refine OG.mono ?_;rintro en w7 ⟨rfl,rfl⟩;clear OG hE;go_wp2_with (refine fB eS 2 rfl 4 _ _ rfl 6 rfl (aY true) rfl (bf rfl) rfl aw rfl ?_;clear eS hc;intro w8 fQ;refine stay ?_);refine dN ?_;go_wp2_with (refine fB fQ 2 rfl 3 _ _ rfl 7 rfl (J s.c.es.length) rfl (bf rfl) rfl aw rfl ?_;clear fQ;intro w9 fK;refine stay ?_);refine dN ?_;simp only[kQ,bJ,bI,bL] at fK;obtain⟨X2,kq⟩:=aE ({ x with s:=s,leads:=true,own:=s.c.es.length }:Rp);have me:X2.Ok:=by rw[kq];exact X.word Zt _ _ (λ_=>⟨v,hv⟩)
  have sV:X2.v=some v:=by rw[kq];exact hv
  have fQ:St V w (dS p g X2) w9:=by rw[kq];unfold dS;rw[hv];exact (fK.dT 0 rfl).perm ((List.Perm.swap _ _ _).trans (List.Perm.cons _ ((List.Perm.swap _ _ _).trans (List.Perm.cons _ (List.Perm.swap _ _ _)))))
  have ig:R=Rp.told X2 v:=by rw[HR2.out,kq]
  clear HR2 fK;replace kq:=Q kq;replace ig:=Q ig;have hc:=fQ.facts;go_wp2_with fail;clear hc;have fK:=fQ.grow (Grow.refl _).drew;have jB:=NT (l:=[]) (by rw[bm];exact fK);refine dO rfl ?_;refine iX (TD p X2.node) 15 rfl ?_;refine gK 0 jB ?_;refine gK 1 jB ?_;refine gK 2 jB ?_;refine gK 3 jB ?_;refine gK 4 jB ?_;refine gK 5 jB ?_;refine gK 6 jB ?_;refine gK 7 jB ?_;refine gK 8 jB ?_;refine gK 11 jB ?_;refine fe 9 rfl ?_;obtain⟨U2,Ie,_⟩:=fK.own.see 2 rfl;go_wp2_with fail;refine (uF w9.drew p.s p.x p.d _ _ _ _ _ U2 Ie).mono ?_;rintro en w7 ⟨rfl,rfl⟩;go_wp2_with fail;refine⟨jB,?_⟩;refine fe 10 rfl ?_;go_wp2_with fail;refine (St.call (a:=dS p g X2) (b:=[]) (a':=λj:E×List Sd => .o (dY j.1 j.2)::dS p g (X2.counted v X2.node X2.s.c.es.length).1) (by rw[bm];exact fK) (λ_=>⟨dY.framed _ _,eP _ _ _⟩) (λ_ h=>h.elim) (rz w9.drew p g X2 me v sV X2.node me.node.1 X2.s.c.es.length)).mono ?_;rintro en w8 ⟨⟨u1,o1⟩,⟨rfl,AO⟩,gM⟩;rw[bm] at gM;have AQ:=me.counted sV X2.node X2.s.c.es.length;have WU:o1.length<=128:=by rw[<-bj (f:=Sd.fn)];exact (congrArg List.length AO)▸oq X2 me v X2.node X2.s.c.es.length
  obtain⟨X3,rB⟩:=aE (X2.counted v X2.node X2.s.c.es.length);have Tr:X3.1.node=X2.node:=by rw[rB];rfl
  rw[<-rB] at gM AQ AO;have iS:=gM.perm (bg (l₁:=[Bl.o (dY u1 o1)]) (l₂:=dS p g X3.1));go_wp2_with fail;refine⟨Tr▸NT iS,?_⟩;refine fe 12 rfl ?_;go_wp2_with fail;refine (St.call (a:=dS p g X3.1) (b:=[.o (dY u1 o1)]) (a':=λj:E×List Sd => .o (dY j.1 j.2)::dS p g X3.1) iS (λ_=>⟨dY.framed _ _,eP _ _ _⟩) (λ_ h=>h.elim) (ry w8 p g X3.1 AQ)).mono ?_;rintro en w9 ⟨⟨u2,o2⟩,⟨rfl,qM⟩,lA⟩;have Dc:o2.length<=8:=by rw[<-bj (f:=Sd.fn)];exact (congrArg List.length qM)▸ot X3.1 AQ
  have lX:=lA.perm (bg (l₁:=Bl.o (dY u2 o2)::dS p g X3.1) (l₂:=[Bl.o (dY u1 o1)]));go_wp2_with fail;refine⟨Tr▸NT (l:=[.o (dY u1 o1),.o (dY u2 o2)]) (lX.perm (bg (l₁:=[Bl.o (dY u1 o1),Bl.o (dY u2 o2)]) (l₂:=dS p g X3.1))),?_⟩;refine fe 13 rfl ?_;refine yF CH qm qn vU rfl (.tmp 44) (.tmp 46) rfl rfl rfl lX ap ?_;intro v5 Xr o6;refine wpList_nil ?_;have jb:TD p X2.node Xr:=Tr▸NT (l:=[.o (dY v5 (o1++o2))]) (o6.perm (bg (l₁:=[Bl.o (dY v5 (o1++o2))]) (l₂:=dS p g X3.1)));refine⟨jb,?_⟩;refine fU 14 jb ?_;refine gb ?_;go_wp2;go_ret;obtain⟨r1,r2⟩:=o6.fin;have hT:Rp.told X2 v=(X3.1,X3.2++X3.1.accepts):=by rw[rB];rfl
  rw[ig.out,hT];exact⟨(v5,o1++o2),⟨rfl,by show eY (o1++o2)=X3.2++X3.1.accepts;rw[<-AO,<-qM];exact bM⟩,r1,r2⟩
def Vs.m6{s s':Vs}(h:s.Ok)(ht:t<=9223372036854775807)(he:s.promise t=some s'):s'.Ok∧s'.c=⟨t,s.c.h,s.c.es⟩:=by
 unfold Vs.promise at he;split at he;·exact Vs.Ok.keep h ⟨ht,h.c.h,h.c.es,h.c.len⟩ he
 ·cases he
def Gt(from_:Int)(t h:Nat)(A:aU)(c:Nat)(q:List El):Sd:=⟨from_,iB t h (q.map El.e),none,0,A,q,c⟩
def Ru(w:G)(U:aV)(from_:Int)(t h:Nat)(A:aU)(c:Nat)(q:List El)(hq:kO w U A q)(hc:q.length<=c∧c<=dL):Sd.In w U (Gt from_ t h A c q):=⟨(om w U 0 0 0 0).e,hq,rfl,hc⟩
def Gu(from_:Int)(t h:Nat)(A:aU)(c:Nat)(q:List El):(Gt from_ t h A c q).cells.toArray=#[J from_,J 4,(),(),(),(),(),ay,"",(),(),(),(),ae ah 0,J t,J h,Y A q.length c,(),()]:=by unfold Gt Sd.cells Ms.cells iB;dsimp only;rw[bj];rfl
def a3j(x:Rp)(from_:Int)(t:Nat):Option Vs->Rp×Sends
 | none=>(x,[])
 | some s=>(({ x with s:=s }:Rp).down,[(from_,iB t s.c.h s.c.es)])
def Gv(w:G)(p:qi)(g:Nat)(x:Rp)(X:x.Ok)(from_:Int)(t:Nat)(ht:t<=9223372036854775807):Lw N (λ_=>False) 67 #[((p.r,0):E),J from_,J t] (dS p g x) (λ(j:E×List Sd)en=>en=b5 j.1∧eY j.2=(x.prepare from_ t).2) (λj => .o (dY j.1 j.2)::dS p g (x.prepare from_ t).1) w:=by
 obtain⟨R,HR⟩:=aE (x.prepare from_ t);rw[<-HR];intro V hM hV;have Ii:=X.s;have L:=St.begin_ hM (λb hb=>(hV b hb).1) (eP _ _ _);have hc:=NT (l:=[]) (by rw[bm];exact L);obtain⟨lx,mL⟩:=hc;obtain⟨ael,HY⟩:=az (x.s.promise t);replace HR:Hid (R=a3j x from_ t ael):=Q (by rw[HR,HY.out];unfold Rp.prepare;cases x.s.promise t<;>rfl);have hP:=L.at_ 2 rfl (λ_=>gX.framed _ _ _ _ _ _ _ _) (D:=λ_=>False) (λ_ h=>h.elim) (zM w _ p.s p.x p.d x.s Ii t ht);rw[<-HY.out] at hP;go_in;go_wp2_with fail;refine hP.mono ?_;rintro en w1 ⟨_,rfl,eC⟩;clear hP lx mL L;have eC:St V w (dS p g { x with s:=ael.getD x.s }) w1:=eC;rcases ael with _|s
 ·simp only[Option.isSome_none]
  go_wp2;go_ret;have gM:=St.join eC (dY.framed (Y none 0 0) []) (Grow.refl _) (U:=λ_=>False) (iG.nil _ _) (λ_ h=>h.elim);obtain⟨r1,r2⟩:=gM.fin;rw[HR.out];exact⟨(Y none 0 0,[]),⟨rfl,rfl⟩,r1,r2⟩
 ·simp only[Option.isSome_some]
  obtain⟨Tc,hsc⟩:=Vs.m6 Ii ht HY.out.symm;have me:Rp.Ok { x with s:=s }:=X.word Tc _ _ X.lv;obtain⟨X2,kq⟩:=aE ({ x with s:=s }:Rp);have eC:St V w (dS p g X2) w1:=by rw[kq];exact eC
  rw[<-kq] at me;replace kq:=Q kq;go_wp2_with fail;refine (St.call (a:=dS p g X2) (b:=[]) (a':=λ_:Unit=>dS p g X2.down) (by rw[bm];exact eC) (λ_=>eP _ _ _) (λ_ h=>h.elim) (uP w1 p g X2)).mono ?_;rintro en w2 ⟨_,rfl,ec⟩;rw[bm] at ec;have hc:=ec.facts;go_wp2_with fail;clear hc;have eh:=ec.grow (Grow.refl _).drew;have jB:=NT (l:=[]) (by rw[bm];exact eh);obtain⟨U,hE,_⟩:=eh.own.see 2 rfl;refine dO rfl ?_;refine iX (TD p X2.down.node) 16 rfl ?_;refine gK 0 jB ?_;refine gK 1 jB ?_;refine gK 2 jB ?_;refine gK 3 jB ?_;refine gK 4 jB ?_;refine gK 5 jB ?_;refine gK 7 jB ?_;refine gK 8 jB ?_;refine gK 9 jB ?_;refine gK 10 jB ?_;refine fe 6 rfl ?_;go_wp2_with fail;refine (Ge w2.drew p.s p.x p.d _ _ _ _ _ U hE).mono ?_;rintro en w3 ⟨rfl,rfl⟩;go_wp2_with fail;refine⟨jB,?_⟩;refine fe 11 rfl ?_;go_wp2_with fail;refine (rq w2.drew p.s p.x p.d _ _ _ _ _ U hE (by have:=me.s.c.len;show X2.s.c.es.length<=1048576;omega)).mono ?_;rintro en w3 ⟨u,rfl,⟨A1,c1,q1,rfl,Ih,oQ,Bq,BP⟩,-,eO⟩;have eU:=eh.join (gg.framed A1 q1) eO (U:=New w2.drew w3) Ih (λb hb=>hb);have jb:TD p X2.down.node w3:=NT (l:=[]) (by rw[bm];exact eh.grow eO);go_wp2_with fail;refine⟨jb,?_⟩;refine gK 12 jb ?_;refine gK 13 jb ?_;refine fe 14 rfl ?_;go_wp2_with fail;have eI:=NS eU (Gt from_ t X2.s.c.h A1 c1 q1) (λO U hU=>Ru O U _ _ _ _ _ _ hU ⟨Bq,BP⟩);rw[Gu] at eI;have iM:∀O,Grow w3 O->TD p X2.down.node O:=λO H=>NT (l:=[]) (by rw[bm];exact eh.grow (eO.trans H));have B9:=iM _ (fc w3 (.cells #[J from_,J 4,(),(),(),(),(),ay,"",(),(),(),(),ae ah 0,J t,J X2.s.c.h,Y A1 q1.length c1,(),()] 218));refine⟨B9,?_⟩;refine fU 15 B9 ?_;refine gb ?_;go_wp2;go_ret;obtain⟨r1,r2⟩:=eI.fin;rw[HR.out];have e1:q1.map El.e=s.c.es:=by rw[oQ];show X2.s.c.es=s.c.es;rw[kq.out]
  have e2:X2.s.c.h=s.c.h:=by rw[kq.out]
  refine⟨(_,[Gt from_ t X2.s.c.h A1 c1 q1]),⟨rfl,?_⟩,?_,r2⟩
  ·show [(from_,iB t X2.s.c.h (q1.map El.e))]=[(from_,iB t s.c.h s.c.es)]
   rw[e1,e2]
  ·rw[kq.out] at r1 ⊢
   exact r1
def Vx(from_:Int)(t n:Nat):Sd:=⟨from_,mS t n,none,0,none,[],0⟩
def Vy(w:G)(U:aV)(from_:Int)(t n:Nat):Sd.In w U (Vx from_ t n):=⟨(om w U 0 0 0 0).e,kO.nil,rfl,bh _,bo _⟩
def AcS(p:qi)(node y t:Nat)(sl:E)(cm:Nat)(vp:E)(w:G):Prop:=TD p node w∧w.cell? (y,13)=some (J t)∧w.cell? (y,15)=some sl∧w.cell? (y,16)=some (J cm)∧w.cell? (p.r,5)=some vp
def Zu{z:Rp}{cm:Nat}(h:St V w0 (.c y 45 cs::dS p g z++l) w)(I:cs[13]?=some (J t))(Z:cs[15]?=some sl)(T:cs[16]?=some (J cm)):AcS p z.node y t sl cm (ka g z.v) w:=⟨⟨h.facts.2.1.1 0,h.facts.2.1.1 2⟩,(h.facts.1.1 13).trans I,(h.facts.1.1 15).trans Z,(h.facts.1.1 16).trans T,h.facts.2.1.1 5⟩
def a80(x:Rp)(from_:Int)(t cm:Nat):Option Vs->Rp×Sends
 | none=>(x,[])
 | some s=>((Rp.apply (if (x.v.any λv=>decide (v.t≠t))=true then ({ x with s:=s }:Rp).down else { x with s:=s }) cm).1,[(from_,mS t s.c.es.length)])
instance(A B:Option dG)(c t n d m:Nat):CoeDep (Option dG×Nat×Nat×Option dG×Nat×Nat×Nat) (A,c,t,B,n,d,m) (Array E):=⟨#[J 5,(),(),(),(),(),Y A 0 c,"",(),(),(),(),ae ah 0,J t,(),Y B n d,J m,()]⟩
def K4(w:G)(D:aV)(p:qi)(g:Nat)(x:Rp)(X:x.Ok)(from_:Int)(t cm:Nat)(A:aU)(c:Nat)(A2:aU)(c2:Nat)(q:List El)(ht:t<=9223372036854775807)(hq:kO w D A2 q)(gS:∀z∈q,z.e.Ok)(hl:q.length<=128)(jv:∀b,D b->b<(w:Nat)):Lw N D 70 #[((p.r,0):E),J from_,aZ (A,c,t,A2,q.length,c2,cm)] (dS p g x) (λ(j:E×List Sd)en=>en=b5 j.1∧eY j.2=(x.accept from_ t (q.map El.e) cm).2) (λj => .o (dY j.1 j.2)::dS p g (x.accept from_ t (q.map El.e) cm).1) w:=by
 obtain⟨R,HR⟩:=aE (x.accept from_ t (q.map El.e) cm);rw[<-HR];intro V hM hV;have lG:∀x,D x->x<(w:Nat)∧¬ V x:=λx X=>⟨jv x X,λh=>(hV x h).2 X⟩;have Ii:=X.s;have L:=St.begin_ hM (λb hb=>(hV b hb).1) (eP _ _ _);obtain⟨ael,HY⟩:=az (x.s.accept t (q.map El.e));replace HR:Hid (R=a80 x from_ t cm ael):=Q (by rw[HR,HY.out];unfold Rp.accept;cases x.s.accept t (q.map El.e)<;>rfl);obtain⟨y,wa,HYa,HA,L⟩:=L.new' (A,c,t,A2,q.length,c2,cm) 45;go_in;go_wp2_with fail;rw[<-HA.out,<-HYa.out];have L:=L.grow (Grow.refl _).drew;have jB:=Zu (l:=[]) (t:=t) (cm:=cm) (by rw[bm];exact L) rfl rfl rfl;have hP:=L.at_ 3 rfl (λ_=>gX.framed _ _ _ _ _ _ _ _) (D:=D) (St.far lG) (vX wa.drew D p.s p.x p.d x.s Ii t ht A2 c2 q (gg.framed A2 q w _ D hq λb hb=>L.keep lG b hb) (λb hb=>bu (jv b hb) L.size) gS hl);rw[<-HY.out] at hP;refine dO rfl ?_;refine iX (AcS p x.node y t (Y A2 q.length c2) cm (ka g x.v)) 10 rfl ?_;refine fH 0 jB ?_;refine fH 1 jB ?_;refine fH 2 jB ?_;refine fH 3 jB ?_;refine fH 4 jB ?_;refine fH 5 jB ?_;refine fH 6 jB ?_;refine fH 7 jB ?_;refine fe 8 rfl ?_;go_wp2_with fail;refine hP.mono ?_;rintro en w1 ⟨_,rfl,eC⟩;clear hP;have eC:St V w (.c y 45 (A,c,t,A2,q.length,c2,cm)::dS p g { x with s:=ael.getD x.s }) w1:=eC;go_wp2_with fail;have jb:=Zu (l:=[]) (t:=t) (cm:=cm) (by rw[bm];exact eC) rfl rfl rfl;refine⟨jb,?_⟩;clear L jB;rcases ael with _|s
 ·simp only[Option.isSome_none]
  refine fU 9 jb ?_;refine gb ?_;go_wp2;go_ret;have gM:=St.join (eC.dT 0 rfl) (dY.framed (Y none 0 0) []) (Grow.refl _) (U:=λ_=>False) (iG.nil _ _) (λ_ h=>h.elim);obtain⟨r1,r2⟩:=gM.fin;rw[HR.out];first|exact⟨(Y none 0 0,[]),⟨rfl,rfl⟩,r1,r2⟩|exact⟨Y none 0 0,[],⟨rfl,rfl⟩,r1,r2⟩
 ·simp only[Option.isSome_some]
  refine fU 9 jb ?_;refine gb ?_;have Tc:=Vs.kZ Ii ht (λe he=>by obtain⟨z,hz,rfl⟩:=List.mem_map.1 he;exact gS z hz) HY.out.symm;obtain⟨X2,kq⟩:=aE ({ x with s:=s }:Rp);have me:X2.Ok:=by rw[kq];exact X.word Tc _ _ X.lv
  have eC:St V w (.c y 45 (A,c,t,A2,q.length,c2,cm)::dS p g X2) w1:=by rw[kq];exact eC
  replace kq:=Q kq;clear jb;obtain⟨b,Hb⟩:=az (x.v.any λv=>decide (v.t≠t));obtain⟨X3,rB⟩:=aE (if b=true then X2.down else X2:Rp);have AQ:X3.Ok:=by rw[rB];split;exact me.down;exact me
  have HR2:Hid (R=((X3.apply cm).1,[(from_,mS t s.c.es.length)])):=Q (by rw[HR.out,rB,kq.out,Hb.out];rfl);have OC:Hid (X3.s=s):=Q (by rw[rB,kq.out];split<;>rfl);clear HR;have ec:=eC.grow (Grow.refl _).drew;have iM:=Zu (l:=[]) (t:=t) (cm:=cm) (by rw[bm];exact ec) rfl rfl rfl;go_wp2_with fail;refine dO rfl ?_;refine iX (AcS p X2.node y t (Y A2 q.length c2) cm (ka g X2.v)) 15 rfl ?_;refine fH 0 iM ?_;refine fH 1 iM ?_;refine fH 2 iM ?_;refine fH 3 iM ?_;have tE:X2.v=x.v:=by rw[kq.out]
  have hgo:∀O,St V w (.c y 45 (A,c,t,A2,q.length,c2,cm)::dS p g X3) O->St V w (dS p g X3++[.c y 45 (A,c,t,A2,q.length,c2,cm)]) O:=λO h=>h.perm (bg (l₁:=[Bl.c y 45 (A,c,t,A2,q.length,c2,cm)]) (l₂:=dS p g X3));have hX:(x.v=none∧b=false)∨(∃v,x.v=some v∧v.t=t∧b=false)∨(∃v,x.v=some v∧v.t≠t∧b=true):=by
   rw[Hb.out];cases x.v with
   | none=>exact .inl ⟨rfl,rfl⟩
   | some v=>
     by_cases h:v.t=t;·exact .inr (.inl ⟨v,rfl,h,by simp[h]⟩)
     ·exact .inr (.inr ⟨v,rfl,h,by simp[h]⟩)
  have hfc:∀O g'(aek:Rp),St V w (.c y 45 (A,c,t,A2,q.length,c2,cm)::dS p g' aek) O->O.cell? (y,16)=some (J cm):=λO g' aek h=>(h.facts.1.1 16).trans rfl;clear Hb;rcases hX with ⟨rM,hb⟩|⟨v,rM,Br,hb⟩|⟨v,rM,Br,hb⟩
  case' inl=>
   rw[hb,aB cj] at rB;rw[tE,rM] at iM ⊢;simp only[ka] at iM ⊢;refine fH 4 iM ?_;refine fH 5 iM ?_;refine dW 6 rfl iM ?_;refine dW 7 rfl iM ?_;refine dW 8 rfl iM ?_;refine dW 9 rfl iM ?_;refine dW 10 rfl iM ?_;refine dW 11 rfl iM ?_;refine dW 12 rfl iM ?_;refine dW 13 rfl iM ?_;refine fH 14 iM ?_;refine gb ?_;have eI:=hgo _ (by rw[rB];exact ec);replace rB:=Q rB;replace rM:=Q rM;replace tE:=Q tE;replace hb:=Q hb;obtain⟨⟨lx,mL⟩,_,_,lE,_⟩:=iM;go_wp2_with fail
  case' inr.inl=>
   rw[hb,aB cj] at rB;rw[tE,rM] at iM ⊢;simp only[ka] at iM ⊢;have Rv:((v.t:Int) != (t:Int))=false:=by rw[Br];simp
   replace Br:=Q Br;refine fH 4 iM ?_;refine fH 5 iM ?_;refine fH 6 iM ?_;refine fH 7 iM ?_;refine fH 8 iM ?_;refine fH 9 iM ?_;refine fH 11 iM ?_;refine fH 12 iM ?_;have Rx:St V w [.c y 45 (A,c,t,A2,q.length,c2,cm),.c p.r 118 (kQ p X2.node X2.nodes X2.commit ((g:E)) X2.leads X2.own),.o (il p.m X2.m),.o (rY p.s p.x p.d X2.s),.o (fS g v)] w1.drew:=by have h:=ec;unfold dS at h;rw[tE,rM] at h;exact h
   refine fe 10 rfl ?_;go_wp2_with fail;refine (Rx.at_ 4 rfl (λ_=>fS.framed _ _) (D:=λ_=>False) (λ_ h=>h.elim) (rZ w1.drew _ g v (X.v v rM).1)).mono ?_;rintro en w3 ⟨_,rfl,eh⟩;have eh:St V w (.c y 45 (A,c,t,A2,q.length,c2,cm)::dS p g X2) w3:=by unfold dS;rw[tE,rM];exact eh
   have B9:=Zu (l:=[]) (t:=t) (cm:=cm) (by rw[bm];exact eh) rfl rfl rfl;rw[tE,rM] at B9;simp only[ka] at B9;clear iM Rx;go_wp2_with fail;refine⟨B9,?_⟩;refine fH 13 B9 ?_;refine fH 14 B9 ?_;refine gb ?_;have eI:=hgo _ (by rw[rB];exact eh);replace rB:=Q rB;replace rM:=Q rM;replace tE:=Q tE;replace hb:=Q hb;obtain⟨⟨lx,mL⟩,_,_,lE,_⟩:=B9;go_wp2_with fail
  case' inr.inr=>
   rw[hb,aA rfl] at rB;rw[tE,rM] at iM ⊢;simp only[ka] at iM ⊢;have Rv:((v.t:Int) != (t:Int))=true:=by simp;omega
   replace Br:=Q Br;refine fH 4 iM ?_;refine fH 5 iM ?_;refine fH 6 iM ?_;refine fH 7 iM ?_;refine fH 8 iM ?_;refine fH 9 iM ?_;refine fH 11 iM ?_;refine fH 12 iM ?_;have Rx:St V w [.c y 45 (A,c,t,A2,q.length,c2,cm),.c p.r 118 (kQ p X2.node X2.nodes X2.commit ((g:E)) X2.leads X2.own),.o (il p.m X2.m),.o (rY p.s p.x p.d X2.s),.o (fS g v)] w1.drew:=by have h:=ec;unfold dS at h;rw[tE,rM] at h;exact h
   refine fe 10 rfl ?_;go_wp2_with fail;refine (Rx.at_ 4 rfl (λ_=>fS.framed _ _) (D:=λ_=>False) (λ_ h=>h.elim) (rZ w1.drew _ g v (X.v v rM).1)).mono ?_;rintro en w3 ⟨_,rfl,eh⟩;have eh:St V w (.c y 45 (A,c,t,A2,q.length,c2,cm)::dS p g X2) w3:=by unfold dS;rw[tE,rM];exact eh
   have B9:=Zu (l:=[]) (t:=t) (cm:=cm) (by rw[bm];exact eh) rfl rfl rfl;rw[tE,rM] at B9;simp only[ka] at B9;clear iM Rx;go_wp2_with fail;refine⟨B9,?_⟩;refine fH 13 B9 ?_;refine fH 14 B9 ?_;refine gb ?_;replace rM:=Q rM;replace tE:=Q tE;replace hb:=Q hb;replace rB:=Q rB;clear B9;go_wp2_with fail;refine (St.call (a:=dS p g X2) (b:=[.c y 45 (A,c,t,A2,q.length,c2,cm)]) (a':=λ_:Unit=>dS p g X2.down) (eh.perm (bg (l₁:=[Bl.c y 45 (A,c,t,A2,q.length,c2,cm)]) (l₂:=dS p g X2))) (λ_=>eP _ _ _) (λ_ h=>h.elim) (uP w3 p g X2)).mono ?_;rintro en w4 ⟨_,rfl,eU⟩;have eI:St V w (dS p g X3++[.c y 45 (A,c,t,A2,q.length,c2,cm)]) w4:=by rw[rB.out];exact eU
   have lE:=hfc w4 g X3 (eI.perm (bg (l₁:=dS p g X3) (l₂:=[Bl.c y 45 (A,c,t,A2,q.length,c2,cm)])));go_wp2_with fail
  all_goals
   refine (St.call (a:=dS p g X3) (b:=[.c y 45 (A,c,t,A2,q.length,c2,cm)]) (a':=λj:E×List Sd => .o (dY j.1 j.2)::dS p g (X3.apply cm).1) eI (λ_=>⟨dY.framed _ _,eP _ _ _⟩) (λ_ h=>h.elim) (CQ _ p g X3 AQ cm)).mono ?_
   rintro en w7 ⟨⟨u1,o1⟩,⟨rfl,AO⟩,eS⟩
   have hx4:=AQ.apply cm
   have WV:Hid ((X3.apply cm).1.s=s):=Q OC.out
   obtain⟨X4,OT⟩:=az ((X3.apply cm).1)
   rw[<-OT.out] at eS hx4 WV HR2
   have fQ:St V w (.c y 45 (A,c,t,A2,q.length,c2,cm)::dS p g X4) w7:=(eS.dT 0 rfl).perm (bg (l₁:=dS p g X4) (l₂:=[Bl.c y 45 (A,c,t,A2,q.length,c2,cm)]))
   clear eS eI hgo hfc
   go_wp2_with fail
   have fK:=fQ.grow (Grow.refl _).drew
   have jw:=Zu (l:=[]) (t:=t) (cm:=cm) (by rw[bm];exact fK) rfl rfl rfl
   refine dO rfl ?_
   refine iX (AcS p X4.node y t (Y A2 q.length c2) cm (ka g X4.v)) 12 rfl ?_
   refine fH 0 jw ?_
   refine fH 1 jw ?_
   refine fH 2 jw ?_
   refine fH 3 jw ?_
   refine fH 4 jw ?_
   refine fH 5 jw ?_
   refine fH 6 jw ?_
   refine fe 7 rfl ?_
   obtain⟨U,hE,_⟩:=fK.own.see 3 rfl
   go_wp2_with fail
   refine (uF w7.drew p.s p.x p.d _ _ _ _ _ U hE).mono ?_
   rintro en w8 ⟨rfl,rfl⟩
   go_wp2_with fail
   refine⟨jw,?_⟩
   refine fH 8 jw ?_
   refine fH 9 jw ?_
   refine fe 10 rfl ?_
   go_wp2_with fail
   have gM:=nU fK (Vx from_ t X4.s.c.es.length) (λO U=>Vy O U _ _ _)
   have oG:AcS p X4.node y t (Y A2 q.length c2) cm (ka g X4.v) (w7.drew.alloc (.cells (Vx from_ t X4.s.c.es.length).cells.toArray 218)):=Zu (l:=[]) (t:=t) (cm:=cm) (by rw[bm];exact gM.dT 0 rfl) rfl rfl rfl
   refine⟨oG,?_⟩
   refine fU 11 oG ?_
   refine gb ?_
   go_wp2
   go_ret
   obtain⟨r1,r2⟩:=(gM.dT 1 rfl).fin
   rw[HR2.out]
   exact⟨(_,[Vx from_ t X4.s.c.es.length]),⟨rfl,by rw[WV.out];rfl⟩,r1,r2⟩
def Ry(h:Cell g 213 (oL t nodes (cU 8 false) (cU 8 0) 0 (Y none 0 0) 0) O (New w O)):fS g (Vt.new t nodes) O (New w O):=⟨none,0,[],⟨rfl,bh _,bo _⟩,New w O,λ_=>False,h,⟨λ_=>False,λ_=>False,kO.nil,trivial,λ_ h=>h,λ_ h=>h,λ_ h _=>h⟩,λ_ h=>h,λ_ h=>h.elim,λ_ _ h=>h⟩
def LdS(p:qi)(node nodes:Nat)(vp:E)(w:G):Prop:=TD p node w∧w.cell? (p.r,1)=some (J nodes)∧w.cell? (p.r,5)=some vp
def ldS{z:Rp}(h:St V w0 (dS p g z++l) w):LdS p z.node z.nodes (ka g z.v) w:=⟨NT h,h.facts.1.1 1,h.facts.1.1 5⟩
def a3m(x:Rp):Option Vs->Rp×Sends
 | none=>(x,[])
 | some s=>if ((Vt.new s.c.t x.nodes).promise x.node s.c.h s.c.es).1=true then Rp.won { x with s:=s,leads:=false,v:=some ((Vt.new s.c.t x.nodes).promise x.node s.c.h s.c.es).2 } ((Vt.new s.c.t x.nodes).promise x.node s.c.h s.c.es).2
   else ({ x with s:=s,leads:=false,v:=some ((Vt.new s.c.t x.nodes).promise x.node s.c.h s.c.es).2 },uM x.node x.nodes (kD s.c.t))
def Rz(w:G)(p:qi)(g:Nat)(x:Rp)(X:x.Ok)(ht:x.s.c.t<=1099511627776):Lw N (λ_=>False) 18 #[((p.r,0):E)] (dS p g x) (λ(j:(E×List Sd)×Nat)en=>en=b5 j.1.1∧eY j.1.2=x.lead.2) (λj => .o (dY j.1.1 j.1.2)::dS p j.2 x.lead.1) w:=by
 obtain⟨R,HR⟩:=aE (x.lead);rw[<-HR];intro V hM hV;have Ii:=X.s;obtain⟨oX,Xb⟩:=X.node;obtain⟨f1,f2,f3,f4⟩:=Gm x.s.c.t oX Xb;obtain⟨aeq,HT⟩:=az (mE x.s.c.t x.node x.nodes);rw[<-HT.out] at f2 f3;have hTb:aeq<=9223372036854775807:=by omega
 obtain⟨ael,HY⟩:=az (x.s.promise aeq);replace HR:Hid (R=a3m x ael):=Q (by rw[HR,HY.out,HT.out];unfold Rp.lead;rw[aB ap];cases x.s.promise (mE x.s.c.t x.node x.nodes)<;>rfl)
 clear f1 f4;have L:=(St.begin_ hM (λb hb=>(hV b hb).1) (eP _ _ _)).grow (Grow.refl _).drew;have jB:=ldS (l:=[]) (by rw[bm];exact L);obtain⟨U,hE,_⟩:=L.own.see 2 rfl;go_in;go_wp2_with fail;refine dO rfl ?_;refine iX (LdS p x.node x.nodes (ka g x.v)) 15 rfl ?_;refine i4 0 jB ?_;refine i4 1 jB ?_;refine i4 2 jB ?_;refine i4 3 jB ?_;refine i4 5 jB ?_;refine i4 6 jB ?_;refine i4 7 jB ?_;refine i4 8 jB ?_;refine i4 9 jB ?_;refine i4 10 jB ?_;refine i4 11 jB ?_;refine i4 12 jB ?_;refine fe 4 rfl ?_;go_wp2_with fail;refine (CF w.drew p.s p.x p.d _ _ _ _ _ U hE).mono ?_;rintro en w1 ⟨rfl,rfl⟩;go_wp2_with fail;refine⟨jB,?_⟩;refine fe 13 rfl ?_;have hLT:=Vq w.drew x.s.c.t x.node x.nodes oX Xb ht;rw[<-HT.out] at hLT;go_wp2_with fail;refine hLT.mono ?_;rintro en w1 ⟨rfl,rfl⟩;clear hLT;go_wp2_with fail;refine⟨jB,?_⟩;refine fU 14 jB ?_;refine gb ?_;have hP:=L.at_ 2 rfl (λ_=>gX.framed _ _ _ _ _ _ _ _) (D:=λ_=>False) (λ_ h=>h.elim) (zM w.drew _ p.s p.x p.d x.s Ii aeq hTb);rw[<-HY.out] at hP;obtain⟨⟨lx,mL⟩,tP,sr⟩:=jB;go_wp2_with fail;refine hP.mono ?_;rintro en w2 ⟨_,rfl,ec⟩;clear hP lx mL tP sr L hE;have ec:St V w (dS p g { x with s:=ael.getD x.s }) w2:=ec;rcases ael with _|s
 ·simp only[Option.isSome_none]
  go_wp2;go_ret;have gM:=St.join ec (dY.framed (Y none 0 0) []) (Grow.refl _) (U:=λ_=>False) (iG.nil _ _) (λ_ h=>h.elim);obtain⟨r1,r2⟩:=gM.fin;rw[HR.out];first|exact⟨((Y none 0 0,[]),g),⟨rfl,rfl⟩,r1,r2⟩|exact⟨Y none 0 0,[],g,⟨rfl,rfl⟩,r1,r2⟩|exact⟨(Y none 0 0,[]),g,⟨rfl,rfl⟩,r1,r2⟩
 ·simp only[Option.isSome_some]
  obtain⟨Tc,hsc⟩:=Vs.m6 Ii hTb HY.out.symm;have kc:Hid (s.c.t=aeq):=Q (by rw[hsc]);clear hsc;obtain⟨X2,kq⟩:=aE ({ x with s:=s }:Rp);have me:X2.Ok:=by rw[kq];exact X.word Tc _ _ X.lv
  have ec:St V w (dS p g X2) w2:=by rw[kq];exact ec
  replace kq:=Q kq;go_wp2_with fail;refine (St.call (a:=dS p g X2) (b:=[]) (a':=λ_:Unit=>dS p g X2.down) (by rw[bm];exact ec) (λ_=>eP _ _ _) (λ_ h=>h.elim) (uP w2 p g X2)).mono ?_;rintro en w3 ⟨_,rfl,eh⟩;rw[bm] at eh;have eh:St V w [.c p.r 118 (kQ p X2.node X2.nodes X2.commit (.pointer none) false X2.own),.o (il p.m X2.m),.o (rY p.s p.x p.d X2.s)] w3:=eh;have hN:=Yt w3 aeq X2.nodes (by have:=me.node;omega) me.node.2;have hc:=eh.facts;simp only[fE,kQ] at hc;go_wp2_with fail;refine hN.mono ?_;rintro en w4 ⟨g',rfl,hCg,Dg⟩;have eU:=eh.join (fS.framed _ _) Dg (U:=New w3 w4) (Ry hCg) (λb hb=>hb);clear hN hc hCg;go_wp2_with (refine fB eU 1 rfl 116 _ _ rfl 5 rfl ((g':E)) rfl (bf rfl) rfl aw rfl ?_;clear eU;intro w5 eI;refine stay ?_);refine dN ?_;simp only[kQ,bJ,bI,bL] at eI;obtain⟨X3,rB⟩:=aE ({ X2 with leads:=false,v:=some (Vt.new aeq X2.nodes) }:Rp);have Bg:(Vt.new aeq X2.nodes).Ok:=Vt.Ok.new hTb ⟨by have:=me.node;omega,me.node.2⟩;have AQ:X3.Ok:=by rw[rB];exact me.down.vote Bg rfl
  have eS:St V w (dS p g' X3) w5:=by rw[rB];exact eI.perm ((List.Perm.swap _ _ _).trans (List.Perm.cons _ ((List.Perm.swap _ _ _).trans (List.Perm.cons _ (List.Perm.swap _ _ _)))))
  have Vz:X3.v=some (Vt.new aeq X2.nodes):=by rw[rB]
  have VA:X3.node=X2.node∧X3.nodes=X2.nodes∧X3.s=X2.s:=by rw[rB];exact⟨rfl,rfl,rfl⟩
  clear eI;replace rB:=Q rB;go_wp2_with fail;have fQ:=eS.grow (Grow.refl _).drew;have jb:=ldS (l:=[]) (by rw[bm];exact fQ);rw[Vz] at jb;simp only[ka] at jb;replace Vz:=Q Vz;replace VA:=Q VA;obtain⟨U3,Lu,_⟩:=fQ.own.see 2 rfl;refine dO rfl ?_;refine iX (LdS p X3.node X3.nodes ((g':E))) 19 rfl ?_;refine i4 0 jb ?_;refine i4 1 jb ?_;refine i4 2 jb ?_;refine i4 3 jb ?_;refine i4 4 jb ?_;refine i4 5 jb ?_;refine i4 6 jb ?_;refine i4 7 jb ?_;refine i4 8 jb ?_;refine i4 9 jb ?_;refine i4 10 jb ?_;refine i4 11 jb ?_;refine i4 13 jb ?_;refine i4 14 jb ?_;refine i4 15 jb ?_;refine i4 16 jb ?_;refine fe 12 rfl ?_;go_wp2_with fail;refine (Ge w5.drew p.s p.x p.d _ _ _ _ _ U3 Lu).mono ?_;rintro en w6 ⟨rfl,rfl⟩;go_wp2_with fail;refine⟨jb,?_⟩;refine fe 17 rfl ?_;go_wp2_with fail;refine (rq w5.drew p.s p.x p.d _ _ _ _ _ U3 Lu (by have:=AQ.s.c.len;show X3.s.c.es.length<=1048576;omega)).mono ?_;rintro en w6 ⟨u,rfl,⟨A1,c1,q1,rfl,Ih,oQ,Bq,BP⟩,-,vg⟩;have WU:q1.length<=128:=by rw[<-bj (f:=El.e),oQ];exact AQ.s.c.len
  have fK:St V w [.o (gg A1 q1),.c p.r 118 (kQ p X3.node X3.nodes X3.commit ((g':E)) X3.leads X3.own),.o (il p.m X3.m),.o (rY p.s p.x p.d X3.s),.o (fS g' (Vt.new aeq X2.nodes))] w6:=by have h:=fQ.join (gg.framed A1 q1) vg (U:=New w5.drew w6) Ih (λb hb=>hb);unfold dS at h;rw[Vz.out] at h;exact h
  have iM:LdS p X3.node X3.nodes ((g':E)) w6:=⟨⟨fK.facts.1.1 0,fK.facts.1.1 2⟩,fK.facts.1.1 1,fK.facts.1.1 5⟩;clear jb;go_wp2_with fail;refine⟨iM,?_⟩;obtain⟨r,Hr⟩:=az ((Vt.new aeq X2.nodes).promise X3.node X3.s.c.h X3.s.c.es);have VB:=fK.atR 4 0 rfl rfl (λ_=>fS.framed _ _) (λU hU kp=>zO w6 U g' (Vt.new aeq X2.nodes) Bg X3.node X3.s.c.h (by have I:=AQ.node.1;rw[VA.out.2.1] at I;exact I) A1 c1 q1 hU WU AQ.s.c.h kp (λz hz=>AQ.s.c.es _ (by have h:z.e∈q1.map El.e:=List.mem_map.2 ⟨z,hz,rfl⟩;rw[oQ] at h;exact h)))
  rw[oQ] at VB;change dF _ _ _ _ (λe O=>∃_:Unit,e=b5 (aY ((Vt.new aeq X2.nodes).promise X3.node X3.s.c.h X3.s.c.es).1)∧St V w _ O) at VB;rw[<-Hr.out] at VB;refine fe 18 rfl ?_;go_wp2_with fail;refine VB.mono ?_;rintro en w7 ⟨_,rfl,gM⟩;clear VB;have hro:r.2.Ok:=by rw[Hr.out];exact Bg.promise (by have:=AQ.node;omega) AQ.s.c.h AQ.s.c.es AQ.s.c.len
  have hrn:r.2.nodes=X3.nodes:=by
   rw[Hr.out,VA.out.2.1];unfold Vt.promise;split;·rfl
   ·split
    ·rfl
    ·split<;>rfl
  obtain⟨X4,OT⟩:=aE ({ X3 with v:=some r.2 }:Rp);have hx4:X4.Ok:=by rw[OT];exact AQ.vote hro hrn
  have hv4:X4.v=some r.2:=by rw[OT]
  have iS:St V w (dS p g' X4) w7:=by rw[OT];exact gM.dT 0 rfl
  have B9:LdS p X3.node X3.nodes ((g':E)) w7:=by have h:=ldS (l:=[]) (by rw[bm];exact iS);rw[hv4] at h;rw[OT] at h;exact h
  clear iM;go_wp2_with fail;refine⟨B9,?_⟩;refine gb ?_;have ig:Hid (R=if r.1=true then X4.won r.2 else (X4,uM X4.node X4.nodes (kD aeq))):=Q (by
   rw[HR.out,OT,rB.out,kq.out];have hr2:r=(Vt.new s.c.t x.nodes).promise x.node s.c.h s.c.es:=by rw[Hr.out,rB.out,kq.out,kc.out]
   rw[hr2,<-kc.out];rfl)
  clear HR gM;replace OT:=Q OT;replace hv4:=Q hv4;clear B9;rcases bB r.1 with hr|hr
  ·rw[hr] at ig ⊢
   go_wp2_with fail;refine (St.call (a:=dS p g' X4) (b:=[]) (a':=λj:E×List Sd => .o (dY j.1 j.2)::dS p g' (X4.won r.2).1) (by rw[bm];exact iS) (λ_=>⟨dY.framed _ _,eP _ _ _⟩) (λ_ h=>h.elim) (LP w7 p g' X4 hx4 r.2 hv4.out)).mono ?_;rintro en w8 ⟨j,⟨rfl,hj⟩,lA⟩;rw[bm] at lA;go_wp2;go_ret;obtain⟨r1,r2⟩:=lA.fin;have kj:=ig.out;first|rw[aA rfl] at kj|rw[aA trivial] at kj
   rw[kj];first|exact⟨(j,g'),⟨rfl,hj⟩,r1,r2⟩|exact⟨j,g',⟨rfl,hj⟩,r1,r2⟩|exact⟨j.1,j.2,g',⟨rfl,hj⟩,r1,r2⟩
  ·rw[hr] at ig ⊢
   have hCA:=St.call (a:=[.c p.r 118 (kQ p X4.node X4.nodes X4.commit (ka g' X4.v) X4.leads X4.own)]) (b := .o (il p.m X4.m)::.o (rY p.s p.x p.d X4.s)::Zm g' X4.v) iS
    (a':=λi:E×List Sd=>[.o (dY i.1 i.2),.c p.r 118 (kQ p X4.node X4.nodes X4.commit (ka g' X4.v) X4.leads X4.own)]) (λi=>⟨dY.framed _ _,trivial,trivial⟩) (D:=λ_=>False) (λ_ h=>h.elim)
    (CN w7 (λ_=>False) p X4.node X4.nodes hx4.node.2 X4.commit (ka g' X4.v) X4.leads X4.own (kD aeq) none 0 none 0 [] (om w7 _ 0 0 0 0).e kO.nil rfl am (λ_ h=>h.elim))
   have ko:(kD aeq).cells none 0 none 0=[J 3,(),(),(),(),(),ay,"",(),(),(),(),ae ah 0,J aeq,(),ay,(),()]:=rfl;rw[ko] at hCA;go_wp2_with fail;refine hCA.mono ?_;rintro en w8 ⟨j,⟨rfl,hj⟩,lA⟩;go_wp2;go_ret;obtain⟨r1,r2⟩:=St.fin lA;have kj:=ig.out;first|rw[aB cj] at kj|rw[aB not_false] at kj
   rw[kj];first|exact⟨(j,g'),⟨rfl,hj⟩,r1,r2⟩|exact⟨j,g',⟨rfl,hj⟩,r1,r2⟩|exact⟨j.1,j.2,g',⟨rfl,hj⟩,r1,r2⟩
def Rp.hears(x:Rp)(f:Int):Prop:=0<=f∧f<x.nodes∧f≠x.node
instance(x:Rp)(f:Int):Decidable (x.hears f):=by unfold Rp.hears;infer_instance
def xD(x:Rp):Rp×Sends:=(x,[])
def ou{x:Rp}(h:St V w (dS p g x) O):dU (qv (.o (dY (Y none 0 0) [])::dS p g x)) O (ju V w O)∧dP V w O:=(St.join h (dY.framed (Y none 0 0) []) (Grow.refl _) (U:=λ_=>False) (iG.nil _ _) (λ_ h=>h.elim)).fin
def Gw(w:G)(D:aV)(p:qi)(g:Nat)(x:Rp)(X:x.Ok)(f:Int)(e:En)(A:aU)(c:Nat)(he:mO w D ⟨e,A,c⟩)(gS:e.Ok)(jv:∀b,D b->b<(w:Nat)):Lw N D 19 #[((p.r,0):E),J f,aZ (UX e A c)] (dS p g x) (λ(j:E×List Sd)en=>en=b5 j.1∧eY j.2=(x.ask f e).2) (λj => .o (dY j.1 j.2)::dS p g (x.ask f e).1) w:=by
 obtain⟨R,HR⟩:=az (x.ask f e);rw[<-HR.out];intro V hM hV;have lG:∀x,D x->x<(w:Nat)∧¬ V x:=λx X=>⟨jv x X,λh=>(hV x h).2 X⟩;have L:=St.begin_ hM (λb hb=>(hV b hb).1) (eP _ _ _);obtain⟨y,wa,HY,HA,L⟩:=L.new' (UX e A c) 45;have gN:Grow w wa:=by rw[HA.out];exact fc w _
 have W:=K2 wa e D A c gS (In.grow he.1 gN);have hC:=λO(H:Grow w O)(h:St V w (dS p g x) O)=>Vw O D p g x X f e A c (LO he λb hb=>H.block b (jv b hb)) gS (λb hb=>bu (jv b hb) H.size);unfold UX at W HA L ⊢;unfold En.agg at hC;obtain⟨ek,ag,sh,sq,ep,ds,se,fr,tg⟩:=e;dsimp only at W HA L hC ⊢;go_in;go_wp2_with (refine d_ rfl 45 _ rfl _ rfl (HA.out▸HY.out▸L.blk 0 rfl) bG aw ?_);rw[<-HA.out];refine W.mono ?_;rintro en w1 ⟨rfl,eO⟩;rw[<-HY.out];have kv:=(L.grow eO).blk 0 rfl;have c0:=kv.cell 0;have c1:=kv.cell 1;have c2:=kv.cell 2;have c3:=kv.cell 3;have c4:=kv.cell 4;have c5:=kv.cell 5;have c6:=kv.cell 6;have c7:=kv.cell 7;have c8:=kv.cell 8;have c9:=kv.cell 9;have eC:=(L.grow eO).dT 0 rfl;clear W kv;have hC:=hC w1 (gN.trans eO) eC;go_wp2_with fail;refine (St.call (a:=dS p g x) (b:=[]) (a':=λj:E×List Sd => .o (dY j.1 j.2)::dS p g (x.ask f ⟨ek,ag,sh,sq,ep,ds,se,fr,tg⟩).1) (by rw[bm];exact eC) (λ_=>⟨dY.framed _ _,eP _ _ _⟩) (St.far lG) hC).mono ?_;rintro en w2 ⟨j,⟨rfl,hj⟩,ec⟩;rw[bm] at ec;go_wp2;go_ret;obtain⟨r1,r2⟩:=ec.fin;rw[HR.out];first|exact⟨j,⟨rfl,hj⟩,r1,r2⟩|exact⟨j.1,j.2,⟨rfl,hj⟩,r1,r2⟩
def RA(w:G)(D:aV)(p:qi)(g:Nat)(x:Rp)(f:Int)(hf:¬ x.hears f)(m:Ms)(A:aU)(c:Nat)(A2:aU)(c2:Nat)(q:List El)(h:m.Gd)(K:m.k≠1)(hA:A=none∧c=0)(sn:m.k≠4->m.k≠5->A2=none∧c2=0)(he:kg w D A m.e.ds.length m.e.ds)(hq:kO w D A2 q)(lL:q.map El.e=m.log)(jv:∀b,D b->b<(w:Nat)):Lw N D 19 #[((p.r,0):E),J f,aZ (nF m A c A2 c2)] (dS p g x) (λ(j:E×List Sd)en=>en=b5 j.1∧eY j.2=(xD x).2) (λj => .o (dY j.1 j.2)::dS p g (xD x).1) w:=by
 have I:(m.k == 1)=false:=beq_eq_false_iff_ne.2 K;intro V hM hV;have L:=St.begin_ hM (λb hb=>(hV b hb).1) (eP _ _ _);obtain⟨y,wa,HY,HA,L⟩:=L.new' (nF m A c A2 c2) 45;have gN:Grow w wa:=by rw[HA.out];exact fc w _
 have AZ:kO wa D A2 q:=gg.framed A2 q w wa D hq λb hb=>gN.block b (jv b hb);have W:=lY wa D m A c A2 c2 q h (λ_=>hA) sn (In.grow he gN) AZ lL;clear h K hA sn he hq lL AZ;obtain⟨k,⟨ek,ag,sh,sq,ep,ds,se,fr,tg⟩,tag,code,n,term,had,log,commit,len⟩:=m;unfold nF Ms.cells at L W HA ⊢;dsimp only at L W HA I ⊢;go_in;go_wp2_with (refine d_ rfl 45 _ rfl _ rfl (HA.out▸HY.out▸L.blk 0 rfl) bG aw ?_);rw[<-HA.out];refine W.mono ?_;rintro en w1 ⟨rfl,eO⟩;rw[<-HY.out];have CS:=L.grow eO;have kv:=CS.blk 0 rfl;have c0:=kv.cell 0;have eC:=CS.dT 0 rfl;clear W;have B4:w1.cell? (p.r,0)=some (J x.node):=eC.facts.1.1 0;have oX:w1.cell? (p.r,1)=some (J x.nodes):=eC.facts.1.1 1;have hX:decide (f<0)=true∨(decide (f<0)=false∧decide ((x.nodes:Int)<=f)=true)∨(decide (f<0)=false∧decide ((x.nodes:Int)<=f)=false∧(f == (x.node:Int))=true):=by unfold Rp.hears at hf;simp only[decide_eq_true_eq,decide_eq_false_iff_not,beq_iff_eq];omega
 clear hf kv;rcases hX with e1|⟨e1,e2⟩|⟨e1,e2,e3⟩
 all_goals
  go_wp2
  go_ret
  obtain⟨r1,r2⟩:=ou eC
  first|exact⟨(Y none 0 0,[]),⟨rfl,rfl⟩,r1,r2⟩|exact⟨Y none 0 0,[],⟨rfl,rfl⟩,r1,r2⟩
def NV(w:G)(D:aV)(p:qi)(g:Nat)(x:Rp)(X:x.Ok)(f:Int)(hf:x.hears f)(t:Nat)(ht:t<=9223372036854775807)(A2:aU)(c2:Nat)(q:List El)(sn:A2=none∧c2=0)(hq:kO w D A2 q)(UO:q=[])(jv:∀b,D b->b<(w:Nat)):Lw N D 19 #[((p.r,0):E),J f,aZ #[J 3,(),(),(),(),(),ay,"",(),(),(),(),ae ah 0,J t,(),ay,(),()]] (dS p g x) (λ(j:E×List Sd)en=>en=b5 j.1∧eY j.2=(x.prepare f t).2) (λj => .o (dY j.1 j.2)::dS p g (x.prepare f t).1) w:=by
 have ko:nF (kD t) none 0 A2 c2=#[J 3,(),(),(),(),(),ay,"",(),(),(),(),ae ah 0,J t,(),ay,(),()]:=by obtain⟨rfl,rfl⟩:=sn;unfold nF Ms.cells;first|rfl|(dsimp only[iB,lB];rw[bj];rfl)
 obtain⟨R,HR⟩:=az (x.prepare f t);rw[<-HR.out];intro V hM hV;have L:=St.begin_ hM (λb hb=>(hV b hb).1) (eP _ _ _);obtain⟨y,wa,HY,HA,L⟩:=L.new' #[J 3,(),(),(),(),(),ay,"",(),(),(),(),ae ah 0,J t,(),ay,(),()] 45;have gN:Grow w wa:=by rw[HA.out];exact fc w _
 have AZ:kO wa D A2 q:=gg.framed A2 q w wa D hq λb hb=>gN.block b (jv b hb);have W:=lY wa D (kD t) none 0 A2 c2 q (.xB t ht) (λ_=>⟨rfl,rfl⟩) (λ_ _=>sn) In.nil AZ (by rw[UO];rfl);rw[ko] at W;clear ko;go_in;go_wp2_with (refine d_ rfl 45 _ rfl _ rfl (HA.out▸HY.out▸L.blk 0 rfl) bG aw ?_);rw[<-HA.out];refine W.mono ?_;rintro en w1 ⟨rfl,eO⟩;rw[<-HY.out];have CS:=L.grow eO;have kv:=CS.blk 0 rfl;have c0:=kv.cell 0;have c13:=kv.cell 13;have eC:=CS.dT 0 rfl;clear W;have B4:w1.cell? (p.r,0)=some (J x.node):=eC.facts.1.1 0;have oX:w1.cell? (p.r,1)=some (J x.nodes):=eC.facts.1.1 1;obtain⟨F,rfl,P3,hF2⟩:∃F:Nat,f=(F:Int)∧F<x.nodes∧F≠x.node:=by obtain⟨I,Z,T⟩:=hf;exact⟨f.toNat,by omega,by omega,by omega⟩
 clear hf;have e1:decide ((F:Int)<0)=false:=aD ap;have e2:decide (x.nodes<=F)=false:=aD ap;have e3:((F:Int) == (x.node:Int))=false:=beq_eq_false_iff_ne.2 ap;clear kv;go_wp2_with fail;refine (St.call (a:=dS p g x) (b:=[]) (a':=λj:E×List Sd => .o (dY j.1 j.2)::dS p g (x.prepare (F:Int) t).1) (by rw[bm];exact eC) (λ_=>⟨dY.framed _ _,eP _ _ _⟩) (D:=λ_=>False) (λ_ h=>h.elim) (Gv w1 p g x X (F:Int) t ht)).mono ?_;rintro en w2 ⟨j,⟨rfl,hj⟩,ec⟩;rw[bm] at ec;go_wp2;go_ret;obtain⟨r1,r2⟩:=ec.fin;rw[HR.out];first|exact⟨j,⟨rfl,hj⟩,r1,r2⟩|exact⟨j.1,j.2,⟨rfl,hj⟩,r1,r2⟩
def RB(w:G)(D:aV)(p:qi)(g:Nat)(x:Rp)(X:x.Ok)(f:Int)(hf:x.hears f)(tag code n:Nat)(I:tag<=9223372036854775807)(Z:code<=255)(T:n<18446744073709551616)(A2:aU)(c2:Nat)(q:List El)(sn:A2=none∧c2=0)(hq:kO w D A2 q)(UO:q=[])(jv:∀b,D b->b<(w:Nat)):Lw N D 19 #[((p.r,0):E),J f,aZ #[J 2,(),(),(),(),(),ay,"",(),(),J tag,J code,ae ah n,(),(),ay,(),()]] (dS p g x) (λ(j:E×List Sd)en=>en=b5 j.1∧eY j.2=(xD x).2) (λj => .o (dY j.1 j.2)::dS p g (xD x).1) w:=by
 have ko:nF (fD (tag:Int) (code:Int) n) none 0 A2 c2=#[J 2,(),(),(),(),(),ay,"",(),(),J tag,J code,ae ah n,(),(),ay,(),()]:=by obtain⟨rfl,rfl⟩:=sn;unfold nF Ms.cells;first|rfl|(dsimp only[iB,lB];rw[bj];rfl)
 obtain⟨R,HR⟩:=az (xD x);rw[<-HR.out];intro V hM hV;have L:=St.begin_ hM (λb hb=>(hV b hb).1) (eP _ _ _);obtain⟨y,wa,HY,HA,L⟩:=L.new' #[J 2,(),(),(),(),(),ay,"",(),(),J tag,J code,ae ah n,(),(),ay,(),()] 45;have gN:Grow w wa:=by rw[HA.out];exact fc w _
 have AZ:kO wa D A2 q:=gg.framed A2 q w wa D hq λb hb=>gN.block b (jv b hb);have W:=lY wa D (fD (tag:Int) (code:Int) n) none 0 A2 c2 q (.ans tag code n I Z T) (λ_=>⟨rfl,rfl⟩) (λ_ _=>sn) In.nil AZ (by rw[UO];rfl);rw[ko] at W;clear ko;go_in;go_wp2_with (refine d_ rfl 45 _ rfl _ rfl (HA.out▸HY.out▸L.blk 0 rfl) bG aw ?_);rw[<-HA.out];refine W.mono ?_;rintro en w1 ⟨rfl,eO⟩;rw[<-HY.out];have CS:=L.grow eO;have kv:=CS.blk 0 rfl;have c0:=kv.cell 0;have eC:=CS.dT 0 rfl;clear W;have B4:w1.cell? (p.r,0)=some (J x.node):=eC.facts.1.1 0;have oX:w1.cell? (p.r,1)=some (J x.nodes):=eC.facts.1.1 1;obtain⟨F,rfl,P3,hF2⟩:∃F:Nat,f=(F:Int)∧F<x.nodes∧F≠x.node:=by obtain⟨I,Z,T⟩:=hf;exact⟨f.toNat,by omega,by omega,by omega⟩
 clear hf;have e1:decide ((F:Int)<0)=false:=aD ap;have e2:decide (x.nodes<=F)=false:=aD ap;have e3:((F:Int) == (x.node:Int))=false:=beq_eq_false_iff_ne.2 ap;clear kv;go_wp2;go_ret;obtain⟨r1,r2⟩:=ou eC;rw[HR.out];first|exact⟨(Y none 0 0,[]),⟨rfl,rfl⟩,r1,r2⟩|exact⟨Y none 0 0,[],⟨rfl,rfl⟩,r1,r2⟩
def Zv(p:qi)(y t had:Nat)(sl vp:E)(leads:Bool)(w:G):Prop:=w.cell? (y,13)=some (J t)∧w.cell? (y,14)=some (J had)∧w.cell? (y,15)=some sl∧w.cell? (p.r,5)=some vp∧w.cell? (p.r,6)=some (aY leads)
def rcS{z:Rp}{had:Nat}(h:St V w0 (.c y 45 cs::dS p g z++l) w)(I:cs[13]?=some (J t))(Z:cs[14]?=some (J had))(T:cs[15]?=some sl):Zv p y t had sl (ka g z.v) z.leads w:=⟨(h.facts.1.1 13).trans I,(h.facts.1.1 14).trans Z,(h.facts.1.1 15).trans T,h.facts.2.1.1 5,h.facts.2.1.1 6⟩
def nV(x:Rp)(F t n:Nat):Rp×Sends:=if x.leads=true then (match x.v with|some v=>if v.t=t then x.counted v F n else (x,[])|none=>(x,[])) else (x,[])
def jH(x:Rp)(F t had:Nat)(l:List En):Rp×Sends:=match x.v with
 | none=>(x,[])
 | some v=>if v.t=t∧v.won=false then (if (v.promise F had l).1=true then Rp.won { x with v:=some (v.promise F had l).2 } (v.promise F had l).2 else ({ x with v:=some (v.promise F had l).2 },[])) else (x,[])
def RD(w:G)(D:aV)(p:qi)(g:Nat)(x:Rp)(X:x.Ok)(f:Int)(hf:x.hears f)(t cm:Nat)(ht:t<=9223372036854775807)(jg:cm<=128)(A2:aU)(c2:Nat)(q:List El)(hq:kO w D A2 q)(gS:∀z∈q,z.e.Ok)(hl:q.length<=128)(jv:∀b,D b->b<(w:Nat)):Lw N D 19 #[((p.r,0):E),J f,aZ #[J 5,(),(),(),(),(),ay,"",(),(),(),(),ae ah 0,J t,(),Y A2 q.length c2,J cm,()]] (dS p g x) (λ(j:E×List Sd)en=>en=b5 j.1∧eY j.2=(x.accept f t (q.map El.e) cm).2) (λj => .o (dY j.1 j.2)::dS p g (x.accept f t (q.map El.e) cm).1) w:=by
 have ko:nF (lB t (q.map El.e) cm) none 0 A2 c2=#[J 5,(),(),(),(),(),ay,"",(),(),(),(),ae ah 0,J t,(),Y A2 q.length c2,J cm,()]:=by unfold nF Ms.cells;first|rfl|(dsimp only[iB,lB];rw[bj];rfl)
 obtain⟨R,HR⟩:=az (x.accept f t (q.map El.e) cm);rw[<-HR.out];intro V hM hV;have lG:∀x,D x->x<(w:Nat)∧¬ V x:=λx X=>⟨jv x X,λh=>(hV x h).2 X⟩;have L:=St.begin_ hM (λb hb=>(hV b hb).1) (eP _ _ _);obtain⟨y,wa,HY,HA,L⟩:=L.new' #[J 5,(),(),(),(),(),ay,"",(),(),(),(),ae ah 0,J t,(),Y A2 q.length c2,J cm,()] 45;have gN:Grow w wa:=by rw[HA.out];exact fc w _
 have AZ:kO wa D A2 q:=gg.framed A2 q w wa D hq λb hb=>gN.block b (jv b hb);have W:=lY wa D (lB t (q.map El.e) cm) none 0 A2 c2 q (.acc t (q.map El.e) cm ht jg (λe he=>by obtain⟨z,hz,rfl⟩:=List.mem_map.1 he;exact gS z hz) (by rw[bj];exact hl)) (λ_=>⟨rfl,rfl⟩) (λ_ h=>absurd rfl h) In.nil AZ rfl;rw[ko] at W;clear ko;go_in;go_wp2_with (refine d_ rfl 45 _ rfl _ rfl (HA.out▸HY.out▸L.blk 0 rfl) bG aw ?_);rw[<-HA.out];refine W.mono ?_;rintro en w1 ⟨rfl,eO⟩;rw[<-HY.out];have CS:=L.grow eO;have kv:=CS.blk 0 rfl;have c0:=kv.cell 0;have eC:=CS.dT 0 rfl;clear W;have B4:w1.cell? (p.r,0)=some (J x.node):=eC.facts.1.1 0;have oX:w1.cell? (p.r,1)=some (J x.nodes):=eC.facts.1.1 1;obtain⟨F,rfl,P3,hF2⟩:∃F:Nat,f=(F:Int)∧F<x.nodes∧F≠x.node:=by obtain⟨I,Z,T⟩:=hf;exact⟨f.toNat,by omega,by omega,by omega⟩
 clear hf;have e1:decide ((F:Int)<0)=false:=aD ap;have e2:decide (x.nodes<=F)=false:=aD ap;have e3:((F:Int) == (x.node:Int))=false:=beq_eq_false_iff_ne.2 ap;clear kv;have hC:=K4 w1 D p g x X (F:Int) t cm none 0 A2 c2 q ht (gg.framed A2 q w w1 D hq λb hb=>(gN.trans eO).block b (jv b hb)) gS hl (λb hb=>bu (jv b hb) (gN.trans eO).size);have hX2:=CS.blk 0 rfl;go_wp2_with (refine d_ rfl 45 _ rfl _ rfl hX2 bG aw ?_);refine (St.call (a:=dS p g x) (b:=[]) (a':=λj:E×List Sd => .o (dY j.1 j.2)::dS p g (x.accept (F:Int) t (q.map El.e) cm).1) (by rw[bm];exact eC) (λ_=>⟨dY.framed _ _,eP _ _ _⟩) (D:=D) (St.far lG) (hC)).mono ?_;rintro en w2 ⟨j,⟨rfl,hj⟩,ec⟩;rw[bm] at ec;go_wp2;go_ret;obtain⟨r1,r2⟩:=ec.fin;rw[HR.out];first|exact⟨j,⟨rfl,hj⟩,r1,r2⟩|exact⟨j.1,j.2,⟨rfl,hj⟩,r1,r2⟩
def RE(w:G)(D:aV)(p:qi)(g:Nat)(x:Rp)(X:x.Ok)(f:Int)(hf:x.hears f)(t n:Nat)(I:t<=9223372036854775807)(Z:n<=128)(A2:aU)(c2:Nat)(q:List El)(sn:A2=none∧c2=0)(hq:kO w D A2 q)(UO:q=[])(jv:∀b,D b->b<(w:Nat)):Lw N D 19 #[((p.r,0):E),J f,aZ #[J 6,(),(),(),(),(),ay,"",(),(),(),(),ae ah 0,J t,(),ay,(),J n]] (dS p g x) (λ(j:E×List Sd)en=>en=b5 j.1∧eY j.2=(nV x f.toNat t n).2) (λj => .o (dY j.1 j.2)::dS p g (nV x f.toNat t n).1) w:=by
 have ko:nF (mS t n) none 0 A2 c2=#[J 6,(),(),(),(),(),ay,"",(),(),(),(),ae ah 0,J t,(),ay,(),J n]:=by obtain⟨rfl,rfl⟩:=sn;rfl
 obtain⟨R,HR⟩:=az (nV x f.toNat t n);rw[<-HR.out];intro V hM hV;have L:=St.begin_ hM (λb hb=>(hV b hb).1) (eP _ _ _);obtain⟨y,wa,HY,HA,L⟩:=L.new' #[J 6,(),(),(),(),(),ay,"",(),(),(),(),ae ah 0,J t,(),ay,(),J n] 45;have gN:Grow w wa:=by rw[HA.out];exact fc w _
 have AZ:kO wa D A2 q:=gg.framed A2 q w wa D hq λb hb=>gN.block b (jv b hb);have W:=lY wa D (mS t n) none 0 A2 c2 q (.OS t n I Z) (λ_=>⟨rfl,rfl⟩) (λ_ _=>sn) In.nil AZ (by rw[UO];rfl);rw[ko] at W;clear ko;go_in;go_wp2_with (refine d_ rfl 45 _ rfl _ rfl (HA.out▸HY.out▸L.blk 0 rfl) bG aw ?_);rw[<-HA.out];refine W.mono ?_;rintro en w1 ⟨rfl,eO⟩;rw[<-HY.out];have CS:=L.grow eO;have kv:=CS.blk 0 rfl;have c0:=kv.cell 0;have eC:=CS.dT 0 rfl;clear W;have B4:w1.cell? (p.r,0)=some (J x.node):=eC.facts.1.1 0;have oX:w1.cell? (p.r,1)=some (J x.nodes):=eC.facts.1.1 1;obtain⟨F,rfl,P3,hF2⟩:∃F:Nat,f=(F:Int)∧F<x.nodes∧F≠x.node:=by obtain⟨I,Z,T⟩:=hf;exact⟨f.toNat,by omega,by omega,by omega⟩
 clear hf;have e1:decide ((F:Int)<0)=false:=aD ap;have e2:decide (x.nodes<=F)=false:=aD ap;have e3:((F:Int) == (x.node:Int))=false:=beq_eq_false_iff_ne.2 ap;clear kv;have eh:=CS.grow (Grow.refl _).drew;have K:=rcS (l:=[]) (t:=t) (had:=0) (sl := Y none 0 0) (by rw[bm];exact eh) rfl rfl rfl;go_wp2_with fail;refine dO rfl ?_;clear B4 oX;rcases bB x.leads with hl|hl
 case' inr=>
  rw[hl] at K;refine iX (Zv p y t 0 (Y none 0 0) (ka g x.v) false) 14 rfl ?_;refine fk 0 K ?_;refine fk 1 K ?_;refine fk 2 K ?_;refine fk 3 K ?_;refine fk 4 K ?_;refine dW 5 rfl K ?_;refine dW 6 rfl K ?_;refine dW 7 rfl K ?_;refine dW 8 rfl K ?_;refine dW 9 rfl K ?_;refine dW 10 rfl K ?_;refine dW 11 rfl K ?_;refine dW 12 rfl K ?_;refine fU 13 K ?_;refine gb ?_;have hN:R=xD x:=by rw[HR.out];unfold nV;rw[aB (by rw[hl];exact cj)];rfl
  clear HR;have HR:=Q hN;clear hN K;replace hl:=Q hl
 case' inl=>
  obtain⟨v,hv⟩:=X.lv hl;obtain⟨AY,Bg⟩:=X.v v hv;rw[hl,hv] at K;simp only[ka] at K;refine iX (Zv p y t 0 (Y none 0 0) ((g:E)) true) 14 rfl ?_;refine fk 0 K ?_;refine fk 1 K ?_;refine fk 2 K ?_;refine fk 3 K ?_;refine fk 4 K ?_;refine fk 5 K ?_;refine fk 6 K ?_;refine fk 7 K ?_;refine fk 8 K ?_;refine fk 10 K ?_;refine fk 11 K ?_;have RF:St V w [.c y 45 #[J 6,(),(),(),(),(),ay,"",(),(),(),(),ae ah 0,J t,(),ay,(),J n],.c p.r 118 (kQ p x.node x.nodes x.commit ((g:E)) true x.own),.o (il p.m x.m),.o (rY p.s p.x p.d x.s),.o (fS g v)] w1.drew:=by have h:=eh;unfold dS at h;rw[hl,hv] at h;exact h
  refine fe 9 rfl ?_;go_wp2_with fail;refine (RF.at_ 4 rfl (λ_=>fS.framed _ _) (D:=λ_=>False) (λ_ h=>h.elim) (rZ w1.drew _ g v AY)).mono ?_;rintro en w3 ⟨_,rfl,eU⟩;have eU:St V w (.c y 45 #[J 6,(),(),(),(),(),ay,"",(),(),(),(),ae ah 0,J t,(),ay,(),J n]::dS p g x) w3:=by unfold dS;rw[hl,hv];exact eU
  have jw:=rcS (l:=[]) (t:=t) (had:=0) (sl := Y none 0 0) (by rw[bm];exact eU) rfl rfl rfl;rw[hl,hv] at jw;simp only[ka] at jw;clear K RF;go_wp2_with fail;refine⟨jw,?_⟩;have hcn:w3.cell? (y,17)=some (J n):=(eU.facts.1.1 17).trans rfl;by_cases Br:v.t=t
 case' neg=>
  have Rv:((v.t:Int) == (t:Int))=false:=by simp;omega
  have hN:R=xD x:=by rw[HR.out];unfold nV;rw[aA hl,hv];simp only[];rw[aB Br];rfl
  clear HR;have HR:=Q hN;clear hN;replace Br:=Q Br;refine fk 12 jw ?_;refine fU 13 jw ?_;refine gb ?_;replace hl:=Q hl;replace hv:=Q hv;clear jw hcn eh;have eh:=eU
 case' pos=>
  have Rv:((v.t:Int) == (t:Int))=true:=by rw[Br];simp
  have hN:R=x.counted v F n:=by rw[HR.out];unfold nV;rw[aA hl,hv];simp only[];rw[aA Br];rfl
  clear HR;have HR:=Q hN;clear hN;replace Br:=Q Br;refine fk 12 jw ?_;refine fU 13 jw ?_;refine gb ?_;replace hl:=Q hl;clear jw eh;go_wp2_with fail;refine (St.call (a:=dS p g x) (b:=[]) (a':=λj:E×List Sd => .o (dY j.1 j.2)::dS p g (x.counted v F n).1) (by rw[bm];exact eU.dT 0 rfl) (λ_=>⟨dY.framed _ _,eP _ _ _⟩) (D:=λ_=>False) (λ_ h=>h.elim) (rz w3 p g x X v hv F P3 n)).mono ?_;rintro en w5 ⟨j,⟨rfl,hj⟩,eI⟩;rw[bm] at eI;go_wp2;go_ret;obtain⟨r1,r2⟩:=eI.fin;rw[HR.out];first|exact⟨j,⟨rfl,hj⟩,r1,r2⟩|exact⟨j.1,j.2,⟨rfl,hj⟩,r1,r2⟩
 all_goals
  go_wp2
  go_ret
  obtain⟨r1,r2⟩:=ou (eh.dT 0 rfl)
  rw[HR.out]
  first|exact⟨(Y none 0 0,[]),⟨rfl,rfl⟩,r1,r2⟩|exact⟨Y none 0 0,[],⟨rfl,rfl⟩,r1,r2⟩
end Go.Proofs.YtpeepcmdehhbgaaGreatDoor
