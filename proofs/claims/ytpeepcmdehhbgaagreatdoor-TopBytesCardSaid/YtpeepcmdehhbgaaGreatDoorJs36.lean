/- Ao9, Ao6, Ap1, Ap2. -/
import Derived.Test.YtpeepcmdehhbgaaGreatDoorJs34
set_option linter.all false
set_option maxRecDepth 100000
set_option maxHeartbeats 2000000
open Go.Value renaming int->ae,slice->Z,string->aX,bool->aY,agg->aZ,tuple->a_
open Go.Ending renaming returned->b5
open Go.IntKind renaming i64->af,u64->ah
open Go (J az aE aA aB aC aD ay aj am ap aw aL aK aJ aI aH aV aU aT aR aQ aP aO aN)
open Go.Proofs.Tryz renaming prog->W
open Go.Lib renaming hid->Q
open List renaming length_append->bd,perm_append_comm->bg,length_map->bj,length_take->bn,take_succ_eq_append_getElem->br,eq_nil_of_length_eq_zero->bu,length_singleton->bv,set_cons_succ->bz,set_cons_zero->bA,getElem_mem->bF,take_of_length_le->bH,flatMap_append->bL,length_drop->bO,drop_eq_getElem_cons->bP,range->bV,mem_of_mem_take->bW,drop_of_length_le->cH,mem_of_mem_drop->cX,length_filter_le->c_,length_set->dh,take_length->dq
open Nat renaming le_of_ble_eq_true->bf,le_refl->bh,zero_le->bo,le_trans->bB,min_eq_left->cz
open Go renaming Value->K,World->X,maxLen->dG
open Go.Proofs.YtpeepcmdehhbgaaGreatDoor (Ag Dl)
variable{k f:Nat}{y x:Ag}{l:List Dl}{w:X}{U:aV}{A:aU}{ks:aQ}{out jv:List (Nat×Int)}
namespace Go.Proofs.YtpeepcmdehhbgaaGreatDoor
open RowKit Hop V
def Ag.to(x:Ag)(n:Nat):Nat:=(x.last+n) % x.eX
def Ag.tI(x:Ag)(i:lp)(ds:List Dl):En:=⟨1,i.1,i.2.1,i.2.2,x.b.ep,ds,⟨#[]⟩,(x.node:Int),((x.tag+1:Nat):Int)⟩
def Ag.send(x:Ag)(i:lp)(t:Nat×Nat):Ag:={ x.next i with tr:=si x.tr i (t.1+1,x.now+rD (x.tag+1) t.1) }
theorem Jv(w:X)(D:aV)(p:vE)(x:Ag)(Y:x.Ok)(i:lp)(t:Nat×Nat)(sq:Int)(A:aU)(c:Nat)(ds:List Dl)(hd:jM w D A ds.length ds)(vt:ds.length<=c)(iO:c<=dG)(tS:ds.length<=1048576)(j6:∀b,D b->b<(w:Nat))(ht:x.tag<=1152921504606846976)(hn:x.now<=1152921504606846976)(ht1:t.1<=1152921504606846976)(Ka:t.2<=4611686018427387904):Lw W D 272 #[.pointer (some ⟨p.a,0,none⟩),iK i,rn t,aZ #[J sq,Z A ds.length c]] (dR p x) (λ(B:aU)e=>e=b5 (o4 (x.to t.1) (x.tI i ds) B ds.length).val) (λB => .o (yb ⟨x.tI i ds,B,ds.length⟩)::dR p (x.send i t)) w:=by
 obtain⟨to,Hto⟩:=az (x.to t.1);obtain⟨abl,HE⟩:=az (x.tI i ds);obtain⟨R,HR⟩:=az (x.send i t);rw[<-Hto.out,<-HE.out,<-HR.out];obtain⟨tg,X0⟩:=az (x.tag+1);have hN:∀(O:X)(U:aV),Lw W U 285 #[.pointer (some ⟨p.a,0,none⟩),iK i] (dR p x) (λ(_:Unit)e=>e=b5 (J tg)) (λ_=>dR p (x.next i)) O:=λO U=>by rw[X0.out];exact Jq O _ p x ap i
 have htg1:tg<=2305843009213693952:=by rw[X0.out];omega
 obtain⟨i0,i1,i2⟩:=i;obtain⟨t1,t2⟩:=t;dsimp only at ht1 Ka;obtain⟨n,Hn⟩:=az (ds.length);rw[<-Hn.out] at hd vt tS ⊢;intro V hM hV;have kV:∀x,D x->x<(w:Nat)∧¬ V x:=λx Y=>⟨j6 x Y,λh=>(hV x h).2 Y⟩;have fN:=St.begin_ hM (λb hb=>(hV b hb).1) (fB _ _);have z1:(w.alloc (.cells #[J i0,J i1,J i2] 37)).heap.size=(w:Nat)+1:=by simp
 obtain⟨y1,wA,HY1,HA,ej⟩:=fN.new' #[J i0,J i1,J i2] 37;rw[<-HA.out,<-HY1.out] at z1;have z2:(wA.alloc (.cells #[J t1,J t2] 364)).heap.size=(wA:Nat)+1:=by simp
 obtain⟨y2,wB,xL,HB,dV⟩:=ej.new' #[J t1,J t2] 364;rw[<-HB.out,<-xL.out] at z2;obtain⟨y3,wC,US,HC,dX⟩:=dV.new' #[J sq,Z A n c] 196;have e2:y2=y1+1:=by rw[xL.out,z1]
 have e3:y3=y1+1+1:=by rw[US.out,z2,e2]
 unfold iK rn at *;go_in;go_wp2_with (refine kf rfl (xV _ _ _ rfl) ?_;intro y4 wD b4 g4 hy4 hz4;refine stay ?_);refine dI ?_;rw[<-HA.out,<-HB.out,<-HC.out] at g4 hy4;rw[<-HY1.out,<-e3,<-e2];have eO:=dX.made g4 b4 ap;clear e2 e3 z1 z2 hy4 hz4 HA HB HC HY1 xL US dX dV ej b4 g4 fN;have hf:=eO.facts;have c0:=hf.2.2.2.1.1 0;have c1:=hf.2.2.2.1.1 1;have c2:=hf.2.2.2.1.1 2;simp at c0 c1 c2;clear hf;have eF:St V w (dR p x++[.c y4 218 nJ.cells.toArray,.c y3 196 #[J sq,Z A n c],.c y2 364 #[J t1,J t2],.c y1 37 #[J i0,J i1,J i2]]) wD:=eO.perm (bg (l₁:=[_,_,_,_]));have gD:∀O,St V w (dR p (x.next (i0,i1,i2))++[.c y4 218 nJ.cells.toArray,.c y3 196 #[J sq,Z A n c],.c y2 364 #[J t1,J t2],.c y1 37 #[J i0,J i1,J i2]]) O->(eJ O y1 37 #[J i0,J i1,J i2]∧O.cell? ⟨p.a,3,none⟩=some (.pointer (some ⟨p.st,0,none⟩))∧O.cell? ⟨p.st,0,none⟩=some (J x.b.ep))∧O.cell? ⟨y3,1,none⟩=some (Z A n c)∧O.cell? ⟨p.a,0,none⟩=some (J x.node):=λO h=>by obtain⟨_,_,_,I⟩:=iq.nH h 1 rfl;exact⟨⟨h.blk 8 rfl,h.facts.1.1 3,(I.front 8 rfl).facts.1.1 0⟩,(h.front 6 rfl).facts.1.1 1,h.facts.1.1 0⟩
 go_wp2_with fail;refine (St.py eF (D:=λ_=>False) (a':=λ_=>dR p (x.next (i0,i1,i2))) (λ_=>fB _ _) eF.no (λU _ _=>hN _ _)).mono ?_;rintro e w1 ⟨_,rfl,eN⟩;clear c0 c1 c2 eF eO hN;go_wp2_with fail;have eW:=eN.grow (Grow.refl _).drew;have eA:=gD _ eW;refine dJ rfl ?_;refine fC (λO=>(eJ O y1 37 #[J i0,J i1,J i2]∧O.cell? ⟨p.a,3,none⟩=some (.pointer (some ⟨p.st,0,none⟩))∧O.cell? ⟨p.st,0,none⟩=some (J x.b.ep))∧O.cell? ⟨y3,1,none⟩=some (Z A n c)∧O.cell? ⟨p.a,0,none⟩=some (J x.node)) [17] 18 rfl [0,1,2,3,4,5,6,7,8,9,10,11,12,13,14,15] ?_;refine eV rfl eA (λw1 ⟨⟨I,G,L⟩,h4,h5⟩ R T=>by have c0:=I.cell 0;have c1:=I.cell 1;have c2:=I.cell 2;go_simp;exact T) ?_
 iterate 14 (refine eV rfl eA (λw1 ⟨⟨I,G,L⟩,h4,h5⟩=>aM) ?_)
 refine eV rfl eA (v := aZ #[J 1,J i0,J i1,J i2,J x.b.ep,Z A n c,"",J x.node,J tg]) (λw1 ⟨⟨I,G,L⟩,h4,h5⟩=>aM) ?_;refine eZ 16 [] rfl ?_;obtain⟨y5,w3,Lz,H3,fH⟩:=eN.new' tU 40;unfold tU at H3;go_wp2_with fail;rw[<-H3.out,<-Lz.out];have fD:=fH.grow (Grow.refl _).drew;refine⟨λ_=>gD _ (fD.dO 0 rfl),?_⟩;refine fY 17 rfl aw ?_;refine d_ fD 0 rfl 40 (.tmp 10) (.tmp 29) rfl 0 rfl [J 1,J i0,J i1,J i2,J x.b.ep,Z A n c,"",J x.node,J tg] rfl (bf rfl) rfl aw #[J 1,J i0,J i1,J i2,J x.b.ep,Z A n c,"",J x.node,J tg] rfl rfl ?_;intro w4 gy;have gy:St V w (.c y5 40 #[J 1,J i0,J i1,J i2,J x.b.ep,Z A n c,"",J x.node,J tg]::(dR p (x.next (i0,i1,i2))++[.c y4 218 nJ.cells.toArray,.c y3 196 #[J sq,Z A n c],.c y2 364 #[J t1,J t2],.c y1 37 #[J i0,J i1,J i2]])) w4:=gy;clear fD fH eW eN gD eA Lz H3;go_wp2_with fail;have eW:=gy.grow (Grow.refl _).drew;have eA:(eJ w4.drew y1 37 #[J i0,J i1,J i2]∧w4.drew.cell? ⟨p.a,7,none⟩=some (.map (some p.bT)))∧w4.drew.cell? ⟨y2,0,none⟩=some (J t1)∧w4.drew.cell? ⟨p.a,4,none⟩=some (J x.now):=⟨⟨eW.blk 9 rfl,eW.facts.2.1.1 7⟩,(eW.front 8 rfl).facts.1.1 0,eW.facts.2.1.1 4⟩;have hW:=VG w4.drew tg t1 ap;have hwl:=xf tg t1;obtain⟨v,Hv⟩:=az (rD tg t1);rw[<-Hv.out] at hW hwl;have Yf:IntKind.i64.wrap ((x.now:Int)+(v:Int))=((x.now+v:Nat):Int):=by rw[IntKind.wrap_i64];omega
 obtain⟨nv,Hnv⟩:=az (x.now+v);rw[<-Hnv.out] at Yf;refine dJ rfl ?_;refine fC (λO=>(eJ O y1 37 #[J i0,J i1,J i2]∧O.cell? ⟨p.a,7,none⟩=some (.map (some p.bT)))∧O.cell? ⟨y2,0,none⟩=some (J t1)∧O.cell? ⟨p.a,4,none⟩=some (J x.now)) [19] 20 rfl [0,1,2,3,4,5,6,7,8,9,10,11,12,13,14,15] ?_;iterate 4 (refine eV rfl eA (λw1 ⟨⟨I,G⟩,h4,h5⟩=>aM) ?_)
 refine eV rfl eA (λw1 ⟨⟨I,G⟩,h4,h5⟩ R T=>by have c0:=I.cell 0;have c1:=I.cell 1;have c2:=I.cell 2;go_simp;exact T) ?_
 iterate 11 (refine eV rfl eA (λw1 ⟨⟨I,G⟩,h4,h5⟩=>aM) ?_)
 refine eZ 16 [17,18] rfl ?_;go_wp2_with fail;refine hW.mono ?_;rintro e w5 ⟨rfl,rfl⟩;go_wp2_with fail;refine⟨λ_=>eA,?_⟩;iterate 2 (refine eV rfl eA (λw1 ⟨⟨I,G⟩,h4,h5⟩=>aM) ?_)
 refine fY 19 rfl aw ?_;obtain⟨w6,eR,iA⟩:=eW.VR Oh Tryz.underlying189 5 rfl (i0,i1,i2) (aZ #[J ((t1:Int)+1),J nv]);unfold iK at eR;have iA:St V w (.c y5 40 #[J 1,J i0,J i1,J i2,J x.b.ep,Z A n c,"",J x.node,J tg]::.c p.a 192 (qm p (x.next (i0,i1,i2)))::.o (iq p.st p.z x.b)::.o (eC p.x p.d x.rs.length x.bs x.k)::.o (eI o0 p.bK (gB iK (x.next (i0,i1,i2)).ask))::.o (eI iK p.bT (l9 (gB rn x.tr) (i0,i1,i2) (aZ #[J ((t1:Int)+1),J nv])))::[.c y4 218 nJ.cells.toArray,.c y3 196 #[J sq,Z A n c],.c y2 364 #[J t1,J t2],.c y1 37 #[J i0,J i1,J i2]]) w6:=iA;clear eW eA gy Yf hW;go_wp2_with fail;have eW:=iA.grow (Grow.refl _).drew;have Fu:to=(x.last+t1) % x.eX:=Hto.out;replace Fu:=Q Fu;clear Hto;have QH:=Y.last;have XY:=Y.eX;obtain⟨la,Hla⟩:=az (x.last);obtain⟨rp,Hrp⟩:=az (x.eX);have gD:∀O,St V w (.c y5 40 #[J 1,J i0,J i1,J i2,J x.b.ep,Z A n c,"",J x.node,J tg]::.c p.a 192 (qm p (x.next (i0,i1,i2)))::.o (iq p.st p.z x.b)::.o (eC p.x p.d x.rs.length x.bs x.k)::.o (eI o0 p.bK (gB iK (x.next (i0,i1,i2)).ask))::.o (eI iK p.bT (l9 (gB rn x.tr) (i0,i1,i2) (aZ #[J ((t1:Int)+1),J nv])))::[.c y4 218 nJ.cells.toArray,.c y3 196 #[J sq,Z A n c],.c y2 364 #[J t1,J t2],.c y1 37 #[J i0,J i1,J i2]]) O->(eJ O y5 40 #[J 1,J i0,J i1,J i2,J x.b.ep,Z A n c,"",J x.node,J tg]∧O.cell? ⟨p.a,6,none⟩=some (J la))∧O.cell? ⟨y2,0,none⟩=some (J t1)∧O.cell? ⟨p.a,1,none⟩=some (J rp):=λO h=>by rw[Hla.out,Hrp.out];exact⟨⟨h.blk 0 rfl,h.facts.2.1.1 6⟩,(h.front 8 rfl).facts.1.1 0,h.facts.2.1.1 1⟩
 rw[<-Hla.out,<-Hrp.out] at Fu QH;rw[<-Hrp.out] at XY;have eA:=gD _ eW;have Ot:=t7 w6.drew D ⟨⟨1,i0,i1,i2,x.b.ep,ds,⟨#[]⟩,(x.node:Int),(tg:Int)⟩,A,c⟩ ⟨by rw[<-Hn.out];exact In.keep hd λb hb _=>eW.keep kV b hb,by rw[<-Hn.out];exact vt,iO,by rw[<-Hn.out];omega⟩;unfold En.agg at Ot;dsimp only at Ot;rw[<-Hn.out] at Ot;refine dJ rfl ?_;refine fC (λO=>(eJ O y5 40 #[J 1,J i0,J i1,J i2,J x.b.ep,Z A n c,"",J x.node,J tg]∧O.cell? ⟨p.a,6,none⟩=some (J la))∧O.cell? ⟨y2,0,none⟩=some (J t1)∧O.cell? ⟨p.a,1,none⟩=some (J rp)) [16] 17 rfl [0,1,2,3,4,5,6,7,8,9,10,11,12] ?_;iterate 11 (refine eV rfl eA (λw1 ⟨⟨I,G⟩,h4,h5⟩=>aM) ?_)
 have V8:¬ rp=0:=by omega
 have hr2:IntKind.i64.wrap ((la:Int)+(t1:Int))=(la:Int)+(t1:Int):=by rw[IntKind.wrap_i64];omega
 have Z1:((la:Int)+(t1:Int)).tmod (rp:Int)=(to:Int):=by rw[Fu.out];exact Int.tmod_eq_emod_of_nonneg ap
 refine eV rfl eA (v := J to) (λw1 ⟨⟨I,G⟩,h4,h5⟩ R T=>by go_simp;first|exact T|(rw[aB V8];go_simp;exact T)) ?_;refine eV rfl eA (λw1 ⟨⟨I,G⟩,h4,h5⟩ R T=>by have c0:=I.cell 0;have c1:=I.cell 1;have c2:=I.cell 2;have c3:=I.cell 3;have c4:=I.cell 4;have c5:=I.cell 5;have c6:=I.cell 6;have c7:=I.cell 7;have c8:=I.cell 8;go_simp;exact T) ?_
 refine eZ 13 [14,15] rfl ?_;go_wp2_with fail;refine Ot.mono ?_;rintro e w7 ⟨A7,rfl,hI7,YG⟩;go_wp2_with fail;have kQ:=eW.join (yb.framed ⟨⟨1,i0,i1,i2,x.b.ep,ds,⟨#[]⟩,(x.node:Int),(tg:Int)⟩,A7,n⟩) YG (U:=New w6.drew w7) hI7 (λb hb=>hb);have kM:=gD _ (eW.grow YG);refine⟨λ_=>kM,?_⟩;iterate 2 (refine eV rfl kM (λw1 ⟨⟨I,G⟩,h4,h5⟩=>aM) ?_)
 refine fY 16 rfl aw ?_;refine d_ kQ 7 rfl 218 (.tmp 8) (.tmp 64) rfl 0 rfl [J to,J 1,J 1,J i0,J i1,J i2,J x.b.ep,Z A7 n n,"",J x.node,J tg,(),(),ae ah 0,(),(),ay,(),()] rfl (bf rfl) rfl aw #[J to,J 1,J 1,J i0,J i1,J i2,J x.b.ep,Z A7 n n,"",J x.node,J tg,(),(),ae ah 0,(),(),ay,(),()] rfl rfl ?_;intro w8 ll;go_wp2;refine bodyPost_ret (fy rfl _ y4 rfl (ll.blk 7 rfl) Tryz.underlying218 aw) rfl ?_;have hEe:abl=⟨1,i0,i1,i2,x.b.ep,ds,⟨#[]⟩,(x.node:Int),(tg:Int)⟩:=by rw[HE.out,X0.out];rfl
 have nm:=(((((ll.dO 10 rfl).dO 9 rfl).dO 8 rfl).dO 7 rfl).dO 1 rfl).cast (l' := .o (yb ⟨abl,A7,n⟩)::dR p R) (by rw[HR.out,hEe];unfold dR Ag.send;rw[<-uL];unfold rn;dsimp only;rw[<-X0.out,<-Hv.out,<-Hnv.out];rfl)
 obtain⟨r1,r2⟩:=nm.fin;refine⟨A7,?_,r1,r2⟩;rw[hEe,Hn.out];rfl
def idC(node:Nat)(c:Nat×Int):List K:=[J node,J c.1,J c.2]
def mW(node:Nat)(u:K)(out:List (Nat×Int)):dW:=fK 37 3 u out.length (out.flatMap (idC node))
theorem mW.framed(node:Nat)(u:K)(out:List (Nat×Int)):eu (mW node u out):=fK.framed _ _ _ _ _
def yY(y:Ag)(k j:Nat):List Dl:=(y.b.eP.take j).filter λd=>decide (abn.lX d.1 y.b.sh=k)
theorem P5{j:Nat}(hj:j<y.b.eP.length):yY y k (j+1)=if abn.lX y.b.eP[j].1 y.b.sh=k then yY y k j++[y.b.eP[j]] else yY y k j:=by
 unfold yY;rw[br hj,List.filter_append];split;·rename_i h;simp[h]
 ·rename_i h;simp[h]
def UT(v:K):Nat:=match v with | .slice _ n _=>n|_=>0
theorem jM.take8(h:jM w U A l.length l):jM w U A (l.take 8).length (l.take 8):=by
 have I:=In.take h (k:=(l.take 8).length) (by rw[bn];exact Nat.min_le_right _ _);rw[fm,ki mN 2 iH] at I;have e:l.take (l.take 8).length=l.take 8:=by
  rw[bn];rcases Nat.le_total 8 l.length with h|h
  ·rw[cz h]
  ·rw[Nat.min_eq_right h,dq,bH h]
 rw[e] at I;exact I
theorem jM.a0t{c:Nat}(h:jM w U A l.length l)(E:l.length<=c):jM w U (if c=(l.take 8).length then A else A.map (·.add ((l.take 8).length*2))) (l.drop 8).length (l.drop 8):=by
 have I:=In.cut h (k:=(l.take 8).length) (by rw[bn];exact Nat.min_le_right _ _) E;rw[fm,ob mN 2 iH] at I;have e:l.drop (l.take 8).length=l.drop 8:=by
  rw[bn];rcases Nat.le_total 8 l.length with h|h
  ·rw[cz h]
  ·rw[Nat.min_eq_right h,List.drop_length,cH h]
 rw[e,show l.length-(l.take 8).length=(l.drop 8).length by rw[bn,bO];omega] at I;exact I
def yn(k:Nat)(out:List (Nat×Int))(r:Ag×List Int×Bool):Ag×List (Nat×Int)×Bool:=(r.1,out++r.2.1.map (k,·),r.2.2)
theorem P6(k f:Nat)(x:Ag):x.kb k f []=(x,[],true):=by cases f<;>rfl
theorem LG(hl:l≠[])(h:x.kx k (l.take 8)=none):x.kb k (f+1) l=(x,[],false):=by unfold Ag.kb;rw[aB hl,h]
theorem LH(hl:l≠[])(h:x.kx k (l.take 8)=some y)(out:List (Nat×Int)):yn k out (x.kb k (f+1) l)=yn k (out++[(k,(y.b.qu k).k)]) (y.kb k f (l.drop 8)):=by rw[Ag.kb,aB hl,h];simp[yn]
theorem Er{y2:Ag}(h:yn k out (y.kg k)=(y2,jv,true)):((y.ey (k::ks)).1,out++(y.ey (k::ks)).2)=((y2.ey ks).1,jv++(y2.ey ks).2):=by unfold yn at h;injection h with I G;injection G with G L;have e:y.ey (k::ks)=if (y.kg k).2.2=true then (((y.kg k).1.ey ks).1,(y.kg k).2.1.map (k,·)++((y.kg k).1.ey ks).2) else ((y.kg k).1,(y.kg k).2.1.map (k,·)):=rfl;rw[e,aA L,I,<-G];simp
theorem Es{y2:Ag}(h:yn k out (y.kg k)=(y2,jv,false)):((y.ey (k::ks)).1,out++(y.ey (k::ks)).2)=(y2,jv):=by unfold yn at h;injection h with I G;injection G with G L;have e:y.ey (k::ks)=if (y.kg k).2.2=true then (((y.kg k).1.ey ks).1,(y.kg k).2.1.map (k,·)++((y.kg k).1.ey ks).2) else ((y.kg k).1,(y.kg k).2.1.map (k,·)):=rfl;rw[e,aB (by rw[L];simp),I,<-G]
theorem yo{sh:Nat}(N:k<sh):(bV sh).drop k=k::(bV sh).drop (k+1):=by rw[bP (by simpa using N),List.getElem_range]
theorem Xb(w:X)(D:aV)(p:vE)(x:Ag)(Y:x.Ok):Lw W D 218 #[.pointer (some ⟨p.a,0,none⟩)] (dR p x) (λ(u:K)e=>e=b5 u) (λu => .o (mW x.node u x.cut.2)::dR p x.cut.1) w:=by
 obtain⟨R,HR⟩:=az (x.cut);rw[<-HR.out];obtain⟨abm,HT⟩:=az (x.ey (bV x.b.sh));have jJ:R=if abm.2=[] then abm else (abm.1.sync,abm.2):=by rw[HR.out,HT.out];rfl
 intro V hM hV;have fN:=St.begin_ hM (λb hb=>(hV b hb).1) (fB _ _);obtain⟨_,_,_,ej⟩:=iq.nH fN 1 rfl;have UU:w.cell? ⟨p.a,3,none⟩=some (.pointer (some ⟨p.st,0,none⟩)):=fN.facts.1.1 3;have z6:w.cell? ⟨p.st,2,none⟩=some (J x.b.sh):=(ej.front 4 rfl).facts.1.1 2;clear ej;obtain⟨sh,Hsh⟩:=az (x.b.sh);rw[<-Hsh.out] at z6;replace jJ:=Q jJ;go_in;go_wp2_with fail;go_step3;go_wp2_with fail;go_step3;go_wp2_with fail;clear UU z6;go_loopw [3,16] (λu i wr=>∃(k:Nat)(y:Ag)(out:List (Nat×Int)),i=J k∧(k<=sh∧out.length<=32*k)∧((y.ey ((bV sh).drop k)).1,out++(y.ey ((bV sh).drop k)).2)=abm∧(y.Ok∧y.node=x.node∧y.b.sh=sh)∧St V w (.o (mW x.node u out)::dR p y) wr) (λ_ i _=>sh-(intOf i).toNat);case atStart=>exact⟨0,x,[],rfl,⟨by omega,bo _⟩,by rw[HT.out,Hsh.out];rfl,⟨Y,rfl,Hsh.out.symm⟩,fN.join (mW.framed _ _ _) (Grow.refl _) (U:=λ_=>False) Row.nil (λ_ h=>h.elim)⟩
 case round=>
  obtain⟨k,y,out,rfl,⟨hksh,hol⟩,hT,⟨hy,hyn,P7⟩,hS⟩:=hrel;by_cases N:k<sh
  ·have dk:decide (k<sh)=true:=aC N
   have j5:k<4:=by have:=Y.sh;have:=Hsh.out;omega
   obtain⟨hz,sl,cu,ej⟩:=iq.nH hS 2 rfl;obtain⟨As,cs,rfl,jQ,hms⟩:=fK.nW ej 6 rfl;have UU:wr.cell? ⟨p.a,3,none⟩=some (.pointer (some ⟨p.st,0,none⟩)):=ej.facts.1.1 3;have QI:wr.cell? ⟨p.st,1,none⟩=some (Z As y.b.eP.length cs):=(ej.front 5 rfl).facts.1.1 1;replace hT:=Q hT;obtain⟨n,Hn⟩:=az (y.b.eP.length);rw[<-Hn.out] at QI jQ;have hn32:n<=32:=by rw[Hn.out];exact hy.b.eP
   go_wp2_with fail;clear UU QI;have dV:=ej.join (fK.framed 147 2 (Z none 0 0) 0 []) (Grow.refl _) (U:=λ_=>False) Row.nil (λ_ h=>h.elim);go_loopw [5,27] (λv i wq=>∃j:Nat,i=J j∧j<=n∧St V w (.o (fK 147 2 v (yY y k j).length (fm (yY y k j)))::.o (mW x.node u3 out)::.c p.a 192 (qm p y)::.o (eC p.x p.d y.rs.length y.bs y.k)::.o (eI o0 p.bK (gB iK y.ask))::.o (eI iK p.bT (gB rn y.tr))::gQ p.st p.z (Z As y.b.eP.length cs) cu y.b) wq) (λ_ i _=>n-(intOf i).toNat);case atStart=>exact⟨0,rfl,by omega,dV⟩
   case round=>
    obtain⟨j,rfl,Cw,YH⟩:=hrel;obtain⟨Aq,cq,rfl,hcq,hmq⟩:=fK.sl YH;have RV:(yY y k j).length<=32:=by have I:(yY y k j).length<=(y.b.eP.take j).length:=c_ _ _;have G:=hy.b.eP;rw[bn] at I;omega
    by_cases hj:j<n
    ·have Ix:j<y.b.eP.length:=by rw[<-Hn.out];exact hj
     obtain⟨U,hU,_⟩:=YH.own.see 7 rfl;obtain⟨As',cs',e6,Se,_⟩:=Row.jL (show Row _ U 147 2 (Z As y.b.eP.length cs) y.b.eP.length (fm y.b.eP) from hU);injection e6 with e6 _ e7;subst e6 e7;obtain⟨ad,hq,rfl,f0,f1⟩:=kn Se Ix;have e0:=f0 _ (Grow.refl _);have e1:=f1 _ (Grow.refl _);have hsF:=Q (P5 (k:=k) Ix);have YD:=hy.b.fine _ (bF Ix);generalize y.b.eP[j]=d at e0 e1 hsF YD;obtain⟨s,xx⟩:=d;dsimp only at e0 e1 hsF;obtain⟨yy,wa,HY,HA,mh⟩:=YH.new' #[aX s,ae ah xx] 147;clear f0 f1 hU;have dj:decide (j<n)=true:=aC hj;rw[Hn.out] at dj;go_wp2_with fail;rw[<-HA.out,<-HY.out];have hcT:∀O,St V w (.c yy 147 #[aX s,ae ah xx]::.o (fK 147 2 (Z Aq (yY y k j).length cq) (yY y k j).length (fm (yY y k j)))::.o (mW x.node u3 out)::.c p.a 192 (qm p y)::.o (eC p.x p.d y.rs.length y.bs y.k)::.o (eI o0 p.bK (gB iK y.ask))::.o (eI iK p.bT (gB rn y.tr))::gQ p.st p.z (Z (some ad) y.b.eP.length cs) cu y.b) O->O.cell? ⟨yy,0,none⟩=some (aX s)∧O.cell? ⟨p.a,3,none⟩=some (.pointer (some ⟨p.st,0,none⟩))∧O.cell? ⟨p.st,2,none⟩=some (J sh):=λO h=>
      ⟨h.facts.1.1 0,h.facts.2.1.1 3,((h.front 7 rfl).facts.1.1 2).trans (by rw[<-P7];rfl)⟩
     have eW:=mh.grow (Grow.refl _).drew;have eA:=hcT _ eW;refine dJ rfl ?_;refine fC (λO=>O.cell? ⟨yy,0,none⟩=some (aX s)∧O.cell? ⟨p.a,3,none⟩=some (.pointer (some ⟨p.st,0,none⟩))∧O.cell? ⟨p.st,2,none⟩=some (J sh)) [] 12 rfl [0,1,2,3,4,5,6,7,8,10] ?_;iterate 10 (refine eV rfl eA (λw1 ⟨I,G,L⟩=>aM) ?_)
     refine eZ 9 [11] rfl ?_;have hSh:=abn.Ks wa.drew s (sh:Int) (by have I:s.size<=1000000:=(lj YD).1;unfold dG;omega) (by have:=hy.sh;omega);go_wp2_with fail;refine hSh.mono ?_;rintro e w1 ⟨rfl,rfl⟩;go_wp2_with fail;refine⟨λ_=>eA,?_⟩;refine eV rfl eA (λw1 ⟨I,G,L⟩=>aM) ?_;refine gj ?_;by_cases Kb:abn.lX s (sh:Int)=(k:Int)
     ·have Xc:Hid (yY y k (j+1)=yY y k j++[(s,xx)]):=Q (by rw[hsF.out,aA (by rw[P7];exact Kb)])
      obtain⟨y2,wb,xL,HB,yV⟩:=mh.new' #[aX s,ae ah xx] 147;obtain⟨kM,lV,sy⟩:=eA;have q_:wa.drew.cell? ⟨yy,1,none⟩=some (ae ah xx):=eW.facts.1.1 1;have dkk:(abn.lX s (sh:Int) == (k:Int))=true:=by rw[Kb];simp
      replace Kb:=Q Kb;go_wp2_with (at_builtin;refine stay ?_);refine dI ?_;rw[<-HB.out,<-xL.out];have eF:=yV.grow (Grow.refl _).drew;refine g_ oQ rfl (.tmp 43) (.tmp 45) rfl rfl (eF.front 2 rfl) (A:=some ⟨y2,0,none⟩) (m:=1) (c:=1) (news:=[aX s,ae ah xx]) rfl (In.reads ((eF.blk 0 rfl).jL (size:=2) (n:=1) rfl)) (by simp[Value.oneCell']) ap ?_;intro v' w4 eN;have fH:=(eN.dO 1 rfl).dO 1 rfl;clear kM lV sy q_;go_wp2_with fail;refine⟨⟨j+1,by go_num,by omega,?_⟩,by simp[intOf];omega⟩;rw[Xc.out,bd,fm,bL];exact fH
     ·have Xc:Hid (yY y k (j+1)=yY y k j):=Q (by rw[hsF.out,aB (by rw[P7];exact Kb)])
      have dkk:(abn.lX s (sh:Int) == (k:Int))=false:=beq_eq_false_iff_ne.2 Kb;replace Kb:=Q Kb;have fH:=eW.dO 0 rfl;go_wp2_with fail;refine⟨⟨j+1,by go_num,by omega,?_⟩,by simp[intOf];omega⟩;rw[Xc.out];exact fH
    ·have Gu:j=y.b.eP.length:=by rw[<-Hn.out];omega
     have dj:decide (j<n)=false:=aD hj;have tY:pE (yY y k j)=y.jI k:=by unfold Ag.jI yY;rw[Gu,dq]
     obtain⟨U,hU,jR⟩:=YH.own.see 0 rfl;obtain⟨Aq',cq',e6,Se,_⟩:=Row.jL (show Row _ U 147 2 (Z Aq (yY y k j).length cq) (yY y k j).length (fm (yY y k j)) from hU);injection e6 with e6 _ e7;subst e6 e7;have hDe:=L5 _ U Aq (yY y k j).length cq (yY y k j) Se ap (λd hd=>(lj (hy.b.fine d (bW (List.mem_filter.1 hd).1))).2);rw[tY] at hDe;replace Gu:=Q Gu;replace tY:=Q tY;go_wp2_with fail;refine hDe.mono ?_;rintro e w5 ⟨A5,rfl,hI5,ng⟩;have eN:=(YH.join (Mp.framed A5 (y.jI k)) ng (U:=New _ w5) hI5 (λb hb=>hb)).dO 1 rfl;have fH:=((((iq.yl (l:=[.o (Mp A5 (y.jI k)),.o (mW x.node u3 out),.c p.a 192 (qm p y),.o (eC p.x p.d y.rs.length y.bs y.k),.o (eI o0 p.bK (gB iK y.ask)),.o (eI iK p.bT (gB rn y.tr))]) hz eN).back 3).back 6).back 6);have YW:=hy.shard k;obtain⟨abe,HZ⟩:=az (yn k out (y.kg k));clear YH hU Se eN dV ej hDe;go_wp2_with fail;go_loopw [3,5] (λu v wq=>∃(y2:Ag)(jv:List (Nat×Int))(f:Nat)(rest:List Dl)(A6:aU)(c6:Nat),v=Z A6 rest.length c6∧(rest.length<=c6∧c6<=dG)∧rest.length<=f∧(rest.length<=32∧jv.length+rest.length<=32*(k+1))∧(∀d∈rest,jh d)∧yn k jv (y2.kb k f rest)=abe∧(y2.Ok∧y2.node=x.node∧y2.b.sh=sh)∧St V w (dR p y2++[.o (Mp A6 rest),.o (mW x.node u jv)]) wq) (λ_ v _=>UT v);case atStart=>exact⟨y,out,_,_,A5,_,rfl,⟨bh _,by unfold dG;omega⟩,bh _,⟨YW.1,by have:=YW.1;omega⟩,YW.2,by rw[HZ.out];rfl,⟨hy,hyn,P7⟩,fH⟩
     case round=>
      obtain⟨y2,jv,f,rest,A6,c6,rfl,⟨kU,hm6⟩,hrf,⟨hr32,pN⟩,hrF,hZ,⟨vr,Xd,UV⟩,Qv⟩:=hrel;obtain⟨Ao,co,rfl,hco,Y_⟩:=fK.nW Qv 6 rfl;by_cases hr:rest.length=0
      ·obtain rfl:rest=[]:=bu hr
       rw[P6] at hZ;have H9:=hT.out;rw[yo N,Er (y2:=y2) (jv:=jv) (by rw[<-HZ.out,<-hZ];simp[yn])] at H9;replace H9:=Q H9;replace hZ:=Q hZ;have fD:=(Qv.dO 5 rfl).front 5 rfl;go_wp2_with fail;exact⟨⟨k+1,y2,jv,by go_num,⟨by omega,by simpa using pN⟩,H9.out,⟨vr,Xd,UV⟩,fD⟩,by simp[intOf];omega⟩
      ·obtain⟨f',rfl⟩:∃f',f=f'+1:=⟨f-1,by omega⟩
       have LI:rest≠[]:=λe=>hr (by rw[e];rfl);obtain⟨n8,Xe⟩:=az ((rest.take 8).length);have Ux:n8=min 8 rest.length:=by rw[Xe.out,bn]
       have Qf:∀ts t w,(Builtin.min_ ts t #[J rest.length,J 8]).run W w=.ok (J n8) w:=λts t w=>by rw[run_min_int2,Ux];congr 2;split<;>omega
       have hn8l:n8<=rest.length:=by omega
       have h18:1<=n8:=by omega
       have h8:n8<=8:=by omega
       clear Ux;have hCu:=St.py (a:=dR p y2) (b:=[.o (Mp A6 rest),.o (mW x.node (Z Ao jv.length co) jv)]) (D:=λ_=>False) Qv (a':=λ_=>dR p ((y2.kx k (rest.take 8)).getD y2)) (λ_=>fB _ _) Qv.no (λU hU jR=>WT _ _ p y2 vr k j5 (rest.take 8) A6 c6 (by obtain⟨U',I,G⟩:=nV hU 0 rfl;exact In.mono (jM.take8 I) λb hb => .inl (G b hb)) (by rw[<-Xe.out];omega) hm6 (by rw[<-Xe.out];exact h8) (λd hd=>(hrF d (bW hd)).2) (λb hb=>hb.elim (jR b) False.elim));rw[<-Xe.out] at hCu;obtain⟨o,Ho⟩:=az (y2.kx k (rest.take 8));rw[<-Ho.out] at hCu;go_wp2_with fail;refine hCu.mono ?_;rintro e w7 ⟨_,rfl,fD⟩;rcases o with _|y3
       ·rw[LG LI Ho.out.symm] at hZ
        have H9:=hT.out;rw[yo N,Es (y2:=y2) (jv:=jv) (by rw[<-HZ.out,<-hZ];simp[yn])] at H9;have gS:=jJ.out;rw[<-H9] at gS;replace H9:=Q H9;replace hZ:=Q hZ;replace LI:=Q LI;have gy:=fD.dO 5 rfl;rcases jv with _|⟨c2,jv⟩
        ·rw[aA rfl] at gS
         replace gS:=Q gS;go_wp2_with fail;try rw[Exit.noGoto_ret]
         go_ret;rw[gS.out];obtain⟨r1,r2⟩:=(gy.front 5 rfl).fin;exact⟨_,rfl,r1,r2⟩
        ·rw[aB (by simp)] at gS
         replace gS:=Q gS;go_wp2_with fail;refine (St.py (a:=dR p y2) (b:=[.o (mW x.node (Z Ao (c2::jv).length co) (c2::jv))]) (D:=λ_=>False) gy (a':=λ_=>dR p y2.sync) (λ_=>fB _ _) gy.no (λU _ _=>Jp _ _ p y2)).mono ?_;rintro e w8 ⟨_,rfl,iA⟩;go_wp2_with fail;try rw[Exit.noGoto_ret]
         go_ret;rw[gS.out];obtain⟨r1,r2⟩:=(iA.front 5 rfl).fin;exact⟨_,rfl,r1,r2⟩
       ·obtain⟨Vl,a0u,a0v⟩:=vr.kx j5 (by rw[<-Xe.out];exact h8) (λd hd=>hrF d (bW hd)) Ho.out.symm
        rw[LH LI Ho.out.symm] at hZ;obtain⟨hz3,sl3,cu3,gy⟩:=iq.nH (st:=p.st) (z:=p.z) (b:=y3.b) fD 1 rfl;obtain⟨g,Hg⟩:=az (p.z.getD k 0);obtain⟨ql,qk,Hq⟩:∃ql qk,Hid (y3.b.qu k=⟨ql,qk⟩):=⟨_,_,Q rfl⟩;have hqu:(n_ p.z y3.b.q)[k]?=some (.o (abo.eh g ql qk)):=by rw[lh hz3.1 hz3.2 j5,Hg.out];have:=Hq.out;unfold Bk.qu at this;rw[this]
        have K5:(Fp p.z sl3 cu3 y3.b)[3+k]?=some ((g:K)):=by
         have h4:k=0∨k=1∨k=2∨k=3:=by omega
         rw[Hg.out];rcases h4 with rfl|rfl|rfl|rfl<;>rfl
        rw[Hq.out] at hZ;dsimp only at hZ;have gD:∀r O,St V w (.c p.a 192 (qm p y3)::.o (eC p.x p.d y3.rs.length y3.bs y3.k)::.o (eI o0 p.bK (gB iK y3.ask))::.o (eI iK p.bT (gB rn y3.tr))::.o (Mp A6 rest)::r::gQ p.st p.z sl3 cu3 y3.b) O->O.cell? ⟨p.a,0,none⟩=some (J x.node)∧O.cell? ⟨p.a,3,none⟩=some (.pointer (some ⟨p.st,0,none⟩))∧O.cell? ⟨p.st,3+k,none⟩=some ((g:K)):=λr O h=>
         ⟨by rw[<-Xd,<-a0u];exact h.facts.1.1 0,h.facts.1.1 3,((h.front 6 rfl).facts.1.1 (3+k)).trans K5⟩
        replace hZ:=Q hZ;replace LI:=Q LI;go_wp2_with fail;have eW:=gy.grow (Grow.refl _).drew;have eA:=gD _ _ eW;obtain⟨U,hQ,_⟩:=eW.own.see (k+9) (iD (show (_:List Bl)[k+9]?=some (.o (abo.eh g ql qk)) from hqu));have UP:=uG _ g ql qk U hQ;refine dJ rfl ?_;refine fC (λO=>O.cell? ⟨p.a,0,none⟩=some (J x.node)∧O.cell? ⟨p.a,3,none⟩=some (.pointer (some ⟨p.st,0,none⟩))∧O.cell? ⟨p.st,3+k,none⟩=some ((g:K))) [19] 20 rfl [0,1,2,3,4,5,6,7,8,9,10,11,12,13,14] ?_;iterate 15 (refine eV rfl eA (λw1 ⟨I,G,L⟩ R T=>by go_simp;first|exact T|(rw[aA ap];go_simp;exact T)) ?_)
        refine eZ 15 [16] rfl ?_;go_wp2_with fail;refine UP.mono ?_;rintro e w8 ⟨rfl,rfl⟩;go_wp2_with fail;refine⟨λ_=>eA,?_⟩;refine eV rfl eA (λw1 ⟨I,G,L⟩=>aM) ?_;refine eZ 17 [] rfl ?_;obtain⟨y2b,wb,xL,HB,iA⟩:=gy.new' #[J x.node,J k,J qk] 37;go_wp2_with fail;rw[<-HB.out,<-xL.out];have kQ:=iA.grow (Grow.refl _).drew;refine⟨λ_=>gD _ _ (kQ.dO 0 rfl),?_⟩;refine eZ 18 [] rfl ?_;refine g_ Wp rfl (.tmp 63) (.tmp 80) rfl rfl (kQ.front 6 rfl) (A:=some ⟨y2b,0,none⟩) (m:=1) (c:=1) (news:=[J x.node,J k,J qk]) rfl (In.reads ((kQ.blk 0 rfl).jL (size:=3) (n:=1) rfl)) (by simp[Value.oneCell']) ap ?_;intro v' w9 ll;refine wpList_nil ⟨λ_=>gD _ _ ((ll.dO 1 rfl).back 5),?_⟩;refine fY 19 rfl aw ?_;have nm:St V w (.o (fK 37 3 v' (jv.length+1) (jv.flatMap (idC x.node)++[J x.node,J k,J qk]))::.c p.a 192 (qm p y3)::.o (eC p.x p.d y3.rs.length y3.bs y3.k)::.o (eI o0 p.bK (gB iK y3.ask))::.o (eI iK p.bT (gB rn y3.tr))::.o (Mp A6 rest)::gQ p.st p.z sl3 cu3 y3.b) w9:=ll.dO 1 rfl;have C6:=iq.yl (l:=[.o (fK 37 3 v' (jv.length+1) (jv.flatMap (idC x.node)++[J x.node,J k,J qk])),.c p.a 192 (qm p y3),.o (eC p.x p.d y3.rs.length y3.bs y3.k),.o (eI o0 p.bK (gB iK y3.ask)),.o (eI iK p.bT (gB rn y3.tr)),.o (Mp A6 rest)]) hz3 nm;clear Qv fD gy iA kQ ll nm eW UP hQ hCu;go_wp2_with fail;have e8:(rest.drop 8).length=rest.length-n8:=by rw[Xe.out,bn,bO];omega
        have Sq:=St.cls (a:=[.o (Mp A6 rest)]) (C6.front 6 rfl) (Mp.framed (if c6=n8 then A6 else A6.map λx=>x.add (n8*2)) (rest.drop 8)) (λU hU=>by obtain⟨U',I,G⟩:=nV hU 0 rfl;have L:=jM.a0t I kU;rw[<-Xe.out] at L;exact In.mono L λb hb=>G b hb)
        have GU:=(((Sq.front 2 rfl).back 6).back 5).back 1;refine⟨⟨y3,jv++[(k,qk)],f',rest.drop 8,if c6=n8 then A6 else A6.map λx=>x.add (n8*2),c6-n8,by rw[e8],⟨by rw[e8];omega,by omega⟩,by rw[e8];omega,⟨by rw[e8];omega,by rw[e8,bd,bv];omega⟩,λd hd=>hrF d (cX hd),hZ.out,⟨Vl,a0u.trans Xd,a0v.trans UV⟩,GU.cast ?_⟩,by simp only[UT];omega⟩;unfold mW;rw[bd,bL];rfl
  ·have Kb:k=sh:=by omega
   subst Kb;have dk:decide (k<k)=false:=aD (Nat.lt_irrefl k);rw[show (bV k).drop k=[] from cH (by simp)] at hT;replace hT:(y,out)=abm:=by rw[<-hT];simp[Ag.ey]
   obtain⟨Ao,co,rfl,hco,Y_⟩:=fK.nW hS 0 rfl;have UU:wr.cell? ⟨p.a,3,none⟩=some (.pointer (some ⟨p.st,0,none⟩)):=(hS.front 1 rfl).facts.1.1 3;obtain⟨_,_,_,ej⟩:=iq.nH hS 2 rfl;have z6:wr.cell? ⟨p.st,2,none⟩=some (J k):=((ej.front 5 rfl).facts.1.1 2).trans (by rw[<-P7];rfl);clear ej;have gS:=jJ.out;rw[<-hT] at gS;rcases out with _|⟨c2,out⟩
   ·rw[aA rfl] at gS
    replace gS:=Q gS;go_wp2_with fail;try rw[Exit.noGoto_ret]
    go_ret;rw[gS.out];obtain⟨r1,r2⟩:=hS.fin;exact⟨_,rfl,r1,r2⟩
   ·rw[aB (by simp)] at gS
    replace gS:=Q gS;go_wp2_with fail;refine (St.py (a:=dR p y) (b:=[.o (mW x.node (Z Ao (c2::out).length co) (c2::out))]) (D:=λ_=>False) (hS.back 5) (a':=λ_=>dR p y.sync) (λ_=>fB _ _) hS.no (λU _ _=>Jp _ _ p y)).mono ?_;rintro e w8 ⟨_,rfl,iA⟩;go_wp2_with fail;try rw[Exit.noGoto_ret]
    go_ret;rw[gS.out];obtain⟨r1,r2⟩:=(iA.front 5 rfl).fin;exact⟨_,rfl,r1,r2⟩
def vH{κ α:Type}[DecidableEq α](q:List (κ×α))(v:α):List (κ×α):=q.filter λp=>decide (p.2≠v)
def Ag.put(x:Ag)(r:Rc):Ag:=if x.i6 r=0 then { x with rs:=x.rs++[r] } else x
def Ag.fin(x:Ag)(a k s:Nat):Ag:={ x.put (.dn k s) with b:=x.b.done k (s:Int),tr:=gV x.tr ((a:Int),(k:Int),(s:Int)),ask:=vH x.ask ((a:Int),(k:Int),(s:Int)) }
theorem SL(p:vE)(x:Ag)(r:Rc):eC p.x p.d ((if V.i6 x.bs r.B=0 then x.rs.length+1 else x.rs.length:Nat):Int) (V.zg x.bs r.B) x.k=eC p.x p.d ((x.put r).rs.length:Nat) (x.put r).bs x.k:=by
 unfold Ag.put Ag.i6;by_cases h:V.i6 x.bs r.B=0
 ·rw[aA h,aA h,(mJ h).1]
  unfold Ag.bs;rw[oD,bd];rfl
 ·rw[aB h,aB h,(tF h).1]
theorem SN(w:X)(D:aV)(p:vE)(x:Ag)(Y:x.Ok)(a k s:Nat)(N:k<4)(hs:s<=9223372036854775807):Lw W D 273 #[.pointer (some ⟨p.a,0,none⟩),iK ((a:Int),(k:Int),(s:Int))] (dR p x) (λ(_:Unit)e=>e=b5 (a_ #[])) (λ_=>dR p (x.fin a k s)) w:=by
 obtain⟨R,HR⟩:=az (x.fin a k s);rw[<-HR.out];intro V hM hV;have fN:=St.begin_ hM (λb hb=>(hV b hb).1) (fB _ _);obtain⟨y,wa,HY,HA,ej⟩:=fN.new' #[J a,J k,J s] 37;unfold iK;go_in;go_wp2_with fail;rw[<-HA.out,<-HY.out];have eW:=ej.grow (Grow.refl _).drew;have gD:∀l O,St V w (.c y 37 #[J a,J k,J s]::.c p.a 192 (qm p x)::l) O->O.cell? ⟨p.a,2,none⟩=some (.pointer (some ⟨p.x,0,none⟩))∧O.cell? ⟨y,1,none⟩=some (J k)∧O.cell? ⟨y,2,none⟩=some (J s):=λl O h=>⟨h.facts.2.1.1 2,h.facts.1.1 1,h.facts.1.1 2⟩;have eA:=gD _ _ eW;clear HY HA ej fN;have pL:=KT wa.drew k s ap hs;refine dJ rfl ?_;refine fC (λO=>O.cell? ⟨p.a,2,none⟩=some (.pointer (some ⟨p.x,0,none⟩))∧O.cell? ⟨y,1,none⟩=some (J k)∧O.cell? ⟨y,2,none⟩=some (J s)) [] 10 rfl [0,1,2,3,4,5,6,7] ?_;iterate 8 (refine eV rfl eA (λw1 ⟨I,G,L⟩=>aM) ?_)
 refine eZ 8 [] rfl ?_;go_wp2_with fail;refine pL.mono ?_;rintro e w2 ⟨v,rfl,fk,vz⟩;have dV:=eW.grow fk;have lV:=gD _ _ dV;obtain⟨Au,mu,cu,rfl,ON⟩:=id vz;go_wp2_with fail;refine⟨λ_=>lV,?_⟩;refine eZ 9 [] rfl ?_;go_wp2_with fail;refine (dV.Fo 3 rfl (λ_=>eC.framed _ _ _ _ _) dV.no (λU _ _=>qS w2 _ p.x p.d x.rs.length x.k x.bs (Rc.dn k s).B _ vz (by have:=Y.few;omega))).mono ?_;rintro e w3 ⟨_,rfl,dX⟩;rw[SL] at dX;simp only[bz,bA,dR] at dX;have sy:=gD _ _ dX;go_wp2_with fail;refine⟨λ_=>sy,?_⟩;refine gj ?_;go_wp2_with fail;clear eA lV sy gD pL vz ON dV eW;obtain⟨hz,sl,cw,eO⟩:=iq.nH dX 2 rfl;have eO:St V w (.c y 37 #[J a,J k,J s]::.c p.a 192 (qm p x)::.o (eC p.x p.d (x.put (.dn k s)).rs.length (x.put (.dn k s)).bs x.k)::.o (eI o0 p.bK (gB iK x.ask))::.o (eI iK p.bT (gB rn x.tr))::gQ p.st p.z sl cw x.b) w3:=eO;obtain⟨g,Hg⟩:=az (p.z.getD k 0);have K5:(Fp p.z sl cw x.b)[3+k]?=some ((g:K)):=by
  have h4:k=0∨k=1∨k=2∨k=3:=by omega
  rw[Hg.out];rcases h4 with rfl|rfl|rfl|rfl<;>rfl
 have eW:=eO.grow (Grow.refl _).drew;have gD:∀b l O,(Fp p.z sl cw b)[3+k]?=some ((g:K))->St V w (.c y 37 #[J a,J k,J s]::.c p.a 192 (qm p x)::.o (eC p.x p.d (x.put (.dn k s)).rs.length (x.put (.dn k s)).bs x.k)::.o (eI o0 p.bK (gB iK x.ask))::.o (eI iK p.bT (gB rn x.tr))::.c p.st 186 (Fp p.z sl cw b)::l) O->O.cell? ⟨p.a,3,none⟩=some (.pointer (some ⟨p.st,0,none⟩))∧(O.cell? ⟨y,1,none⟩=some (J k)∧O.cell? ⟨y,2,none⟩=some (J s))∧O.cell? ⟨p.st,3+k,none⟩=some ((g:K)):=λb l O K5 h=>⟨h.facts.2.1.1 3,⟨h.facts.1.1 1,h.facts.1.1 2⟩,((h.front 5 rfl).facts.1.1 (3+k)).trans K5⟩;have eA:=gD _ _ _ K5 eW;refine dJ rfl ?_;refine fC (λO=>O.cell? ⟨p.a,3,none⟩=some (.pointer (some ⟨p.st,0,none⟩))∧(O.cell? ⟨y,1,none⟩=some (J k)∧O.cell? ⟨y,2,none⟩=some (J s))∧O.cell? ⟨p.st,3+k,none⟩=some ((g:K))) [] 13 rfl [0,1,2,3,4,5,6,7,8,9,10,11] ?_;iterate 12 (refine eV rfl eA (λw1 ⟨I,⟨G,h4⟩,L⟩ R T=>by go_simp;first|exact T|(rw[aA ap];go_simp;exact T)) ?_)
 refine eZ 12 [] rfl ?_;go_wp2_with fail;have hgg:=Hg.out;subst hgg;refine (eW.Fo (k+8) (S:=abo.eh (p.z.getD k 0) (x.b.qu k).l (x.b.qu k).k) (lh hz.1 hz.2 N) (λ_=>abo.eh.framed _ _ _) eW.no (λU hU jR=>Lw.turns (abo.DG _ _ _ _ (s:Int)))).mono ?_;rintro e w4 ⟨_,rfl,eF⟩;have eN:St V w ([.c y 37 #[J a,J k,J s],.c p.a 192 (qm p x),.o (eC p.x p.d (x.put (.dn k s)).rs.length (x.put (.dn k s)).bs x.k),.o (eI o0 p.bK (gB iK x.ask)),.o (eI iK p.bT (gB rn x.tr))]++gQ p.st p.z sl cw (x.b.done k s)) w4:=by unfold gQ Bk.done;dsimp only;rw[<-rZ hz.1 hz.2 N];exact eF
 have fH:=iq.yl (b:=x.b.done k s) ⟨hz.1,by unfold Bk.done;rw[dh];exact hz.2⟩ eN;go_wp2_with fail;refine⟨λ_=>gD _ _ _ K5 eN,?_⟩;refine gj ?_;go_wp2_with fail;clear gD K5 eA eN eF eW eO dX;have eW:=fH.grow (Grow.refl _).drew;have eA:eJ w4.drew y 37 #[J a,J k,J s]∧w4.drew.cell? ⟨p.a,7,none⟩=some (.map (some p.bT)):=⟨eW.blk 1 rfl,(eW.front 2 rfl).facts.1.1 7⟩;refine dJ rfl ?_;refine fC (λO=>eJ O y 37 #[J a,J k,J s]∧O.cell? ⟨p.a,7,none⟩=some (.map (some p.bT))) [] 6 rfl [0,1,2,3,4] ?_;iterate 4 (refine eV rfl eA (λw1 ⟨I,G⟩=>aM) ?_)
 refine eV rfl eA (λw1 ⟨I,G⟩ R T=>by have c0:=I.cell 0;have c1:=I.cell 1;have c2:=I.cell 2;go_simp;exact T) ?_
 refine eZ 5 [] rfl ?_;obtain⟨w6,eR,fD⟩:=eW.Zu Oh Tryz.underlying189 5 rfl ((a:Int),(k:Int),(s:Int));unfold iK at eR;rw[mI] at fD;have fD:St V w (.o (iq p.st p.z (x.b.done k s))::.c y 37 #[J a,J k,J s]::.c p.a 192 (qm p x)::.o (eC p.x p.d (x.put (.dn k s)).rs.length (x.put (.dn k s)).bs x.k)::.o (eI o0 p.bK (gB iK x.ask))::[.o (eI iK p.bT (gB rn (gV x.tr ((a:Int),(k:Int),(s:Int)))))]) w6:=fD;go_wp2_with fail;refine⟨⟨fD.blk 1 rfl,(fD.front 2 rfl).facts.1.1 7⟩,?_⟩;refine gj ?_;clear eA eW fH eR;have ha8:w6.cell? ⟨p.a,8,none⟩=some (.map (some p.bK)):=(fD.front 2 rfl).facts.1.1 8;obtain⟨w7,WE,gy⟩:=fD.range Tryz.underlying190 4 rfl;go_wp2_with fail;obtain⟨r,Hr⟩:=az ((w6:Nat));rw[<-Hr.out] at gy ⊢;clear fD WE ha8;go_loopw [] (λwr=>∃q td:List (Int×lp),(vH q ((a:Int),(k:Int),(s:Int))=vH x.ask ((a:Int),(k:Int),(s:Int))∧∀e∈q,e ∉ td->e.2≠((a:Int),(k:Int),(s:Int)))∧St V w (.o (iq p.st p.z (x.b.done k s))::.c y 37 #[J a,J k,J s]::.c p.a 192 (qm p x)::.o (eC p.x p.d (x.put (.dn k s)).rs.length (x.put (.dn k s)).bs x.k)::.o (lG o0 p.bK r (gB iK q) (gB iK td))::[.o (eI iK p.bT (gB rn (gV x.tr ((a:Int),(k:Int),(s:Int)))))]) wr) (λwr=>BI p.bK r wr);case atStart=>exact⟨x.ask,x.ask,⟨rfl,λe h G=>absurd h G⟩,gy⟩
 case round=>
  obtain⟨q,td,⟨Fg,CQ⟩,Qv⟩:=hrel;have mn:=Qv.Nw 4 rfl;rcases Qv.Zv 4 rfl 0 with ⟨h0,eR⟩|⟨k',v,O,hm,hmq,eR,a1V,hSn⟩
  ·have K1:td=[]:=by cases td with|nil=>rfl|cons=>simp[gB] at h0
   subst K1;go_wp2_with (refine lH rfl (.tmp 38) rfl rfl eR ?_;refine stay ?_);refine dI ?_;go_wp2;go_end0;have yX:vH q ((a:Int),(k:Int),(s:Int))=q:=List.filter_eq_self.2 λe he=>by simpa using CQ e he (by simp)
   have iA:=(((Qv.rend 4 rfl).dO 1 rfl).back 1).cast (l':=dR p R) (by rw[HR.out];unfold dR Ag.fin;dsimp only;rw[<-Fg,yX];unfold Ag.put;split<;>rfl)
   obtain⟨r1,r2⟩:=iA.fin;exact⟨(),rfl,r1,r2⟩
  ·obtain⟨⟨et,e1,e2,e3⟩,he,I⟩:=List.mem_map.1 hmq
   injection I with I G;subst I G;rw[mI] at hSn;have fS:=Kx hm;rw[mI] at fS;unfold o0 iK at a1V eR;dsimp only at a1V eR hSn fS;have F8:=hSn.new #[J e1,J e2,J e3] 37;have Ud:=(F8.front 2 rfl).facts;have d0:=Ud.1.1 0;have d1:=Ud.1.1 1;have d2:=Ud.1.1 2;simp at d0 d1 d2;have ha8:=(F8.front 3 rfl).facts.1.1 8;simp only[qm] at ha8;simp at ha8;clear Ud;have kh:(e1,e2,e3)≠((a:Int),(k:Int),(s:Int))->∃q' td',(vH q' ((a:Int),(k:Int),(s:Int))=vH x.ask ((a:Int),(k:Int),(s:Int))∧∀e∈q',e ∉ td'->e.2≠((a:Int),(k:Int),(s:Int)))∧St V w [.o (iq p.st p.z (x.b.done k s)),.c y 37 #[J a,J k,J s],.c p.a 192 (qm p x),.o (eC p.x p.d (x.put (.dn k s)).rs.length (x.put (.dn k s)).bs x.k),.o (lG o0 p.bK r (gB iK q') (gB iK td')),.o (eI iK p.bT (gB rn (gV x.tr ((a:Int),(k:Int),(s:Int)))))] (O.alloc (.cells #[J e1,J e2,J e3] 37)):=λjT=>by
    refine⟨q,gV td et,⟨Fg,λe kZ K1=>?_⟩,F8.dO 0 rfl⟩;by_cases h5:e∈td
    ·have h6:e.1=et:=by
      by_cases h7:e.1=et;·exact h7
      ·exact absurd (List.mem_filter.2 ⟨h5,by simpa using h7⟩) K1
     have pJ:=Qv.Nx 4 rfl
     rw[yk] at pJ
     rw[zW pJ kZ he h6];exact jT
    ·exact CQ e kZ h5
   have Xf:=Nat.lt_of_le_of_lt (Nat.le_of_eq (F8.Nw 5 rfl)) (Nat.lt_of_lt_of_eq fS mn.symm);by_cases b1:e1=(a:Int);case neg=>
    go_wp2_with (refine lH rfl (.tmp 38) rfl rfl eR ?_;refine stay ?_);refine dI ?_;go_wp2_with fail;exact⟨kh (by simp[b1]),Xf⟩
   subst b1;by_cases b2:e2=(k:Int);case neg=>
    go_wp2_with (refine lH rfl (.tmp 38) rfl rfl eR ?_;refine stay ?_);refine dI ?_;go_wp2_with fail;exact⟨kh (by simp[b2]),Xf⟩
   subst b2;by_cases b3:e3=(s:Int);case neg=>
    go_wp2_with (refine lH rfl (.tmp 38) rfl rfl eR ?_;refine stay ?_);refine dI ?_;go_wp2_with fail;exact⟨kh (by simp[b3]),Xf⟩
   subst b3;obtain⟨UO,TX,iA⟩:=F8.a3V Og Tryz.underlying190 5 rfl et;unfold o0 at TX;rw[mI,mI] at iA;go_wp2_with (refine lH rfl (.tmp 38) rfl rfl eR ?_;refine stay ?_);refine dI ?_;go_wp2_with fail;refine⟨⟨gV q et,gV (gV td et) et,⟨?_,λe kZ K1=>?_⟩,iA.dO 0 rfl⟩,?_⟩
   ·rw[<-Fg]
    unfold vH gV;rw[List.filter_filter];refine List.filter_congr λe kZ=>?_;by_cases h6:e.1=et
    ·have pJ:=Qv.Nx 4 rfl
     rw[yk] at pJ;rw[zW pJ kZ he h6];simp
    ·simp[h6]
   ·have Xg:=List.mem_filter.1 kZ
    refine CQ e Xg.1 λh5=>K1 (List.mem_filter.2 ⟨List.mem_filter.2 ⟨h5,Xg.2⟩,Xg.2⟩)
   ·rw[mn]
    refine Nat.lt_of_le_of_lt (Nat.le_of_eq (iA.Nw 5 rfl)) (Nat.lt_of_le_of_lt ?_ fS);unfold gB gV;rw[bj,bj];exact c_ _ _
def mX(q:List Sd):dW:=λw V=>∀s∈q,Sd.In w V s
theorem mX.framed(q:List Sd):eu (mX q):=λw O V h N s hs=>pm w O V s (h s hs) N
theorem mX.nil(w:X)(V:aV):mX [] w V:=λ_ h=>absurd h (by simp)
section
variable{V:aV}{w0:X}{l:List Bl}{q:List Sd}{u:K}
theorem St.cnt{x:El}(h:St V w0 (.o (mX q)::.o (yb x)::l) w)(s:Sd)(I:(⟨s.m.e,s.A,s.c⟩:El)=x)(G:s.q=[]∧s.A2=none∧s.m.log=[]∧s.c2=0):St V w0 (.o (mX (q++[s]))::l) w:=by
 refine St.cls (a:=[.o (mX q),.o (yb x)]) h (mX.framed _) λU hM=>?_;obtain⟨U0,a0,b0⟩:=nV hM 0 rfl;obtain⟨U1,a1,b1⟩:=nV hM 1 rfl;intro s' vQ;rcases List.mem_append.1 vQ with vQ|vQ
 ·exact po w U0 U s' (a0 s' vQ) b0
 ·rw[List.mem_singleton] at vQ
  subst vQ;refine⟨by rw[I];exact jg _ _ _ _ a1 b1,?_,by rw[G.1,G.2.2.1];rfl,by rw[G.1,G.2.2.2];exact⟨bh _,bo _⟩⟩;rw[G.1,G.2.1];exact jO.nil
theorem St.a0w(h:St V w0 (.o (fK 218 19 u q.length (q.flatMap Sd.cells))::.o (mX q)::l) w):St V w0 (.o (dS u q)::l) w:=by refine St.cls (a:=[.o (fK 218 19 u q.length (q.flatMap Sd.cells)),.o (mX q)]) h (dS.framed _ _) λU hM=>?_;obtain⟨U0,U1,a0,⟨U2,U3,a2,a3,k4,k5,k6⟩,k1,k2,k3⟩:=hM;exact⟨U0,U2,Row.own (show Row w U0 218 19 u q.length (q.flatMap Sd.cells) from a0),a2,λb hb=>⟨k1 b hb,λG=>k3 b hb (k4 b G)⟩,λb hb=>k2 b (k4 b hb)⟩
end
def gp(e:En):Ms:=⟨1,e,0,0,0,0,0,[],0,0⟩
def Ag.tries(x:Ag)(i:lp):Nat×Nat:=(qR x.tr i).getD (0,0)
def Ag.iX(x:Ag)(k:Nat)(sq:Int):lp:=((x.node:Int),(k:Int),sq)
def Ag.ff(k:Nat):List abo.Ab->Ag->Sends->Ag×Sends
 | [],x,out=>(x,out)
 | b::l,x,out=>
   if (x.tries (x.iX k b.1)).1=0∨(x.tries (x.iX k b.1)).2<=x.now then
    ff k l (x.send (x.iX k b.1) (x.tries (x.iX k b.1))) (out++[(((x.to (x.tries (x.iX k b.1)).1:Nat):Int),gp (x.tI (x.iX k b.1) b.2))])
   else ff k l x out
def Ag.fZ:List Nat->Ag->Sends->Ag×Sends
 | [],x,out=>(x,out)
 | k::ks,x,out=>fZ ks (ff k ((x.b.qu k).l.take 4) x out).1 (ff k ((x.b.qu k).l.take 4) x out).2
def Ag.lN(x:Ag)(out:Sends):Ag×Sends:=fZ (bV 4) { x with now:=x.now+1 } out
def Ag.f_:Nat->Ag->Sends->Ag×Sends
 | 0,x,out=>(x,out)
 | r+1,x,out=>f_ r (x.lN out).1 (x.lN out).2
structure Ag.Tm(x:Ag)(M:Nat):Prop where
 tag:x.tag<=M
 now:x.now<=M
 tr:∀e∈x.tr,e.2.1<=M∧e.2.2<=M+48
theorem yp{κ α:Type}[DecidableEq κ]{q:List (κ×α)}{k:κ}{v:α}{e:κ×α}(h:e∈si q k v):e=(k,v)∨e∈q:=by
 unfold si at h;split at h
 ·obtain⟨p,hp,rfl⟩:=List.mem_map.1 h
  split;·exact .inl rfl
  ·exact .inr hp
 ·rcases List.mem_append.1 h with h|h
  ·exact .inr h
  ·exact .inl (List.mem_singleton.1 h)
theorem Ce{κ α:Type}[DecidableEq κ]{q:List (κ×α)}{k:κ}{v:α}(h:qR q k=some v):∃e∈q,e.2=v:=by
 unfold qR at h;cases hf:q.find? λp=>decide (p.1=k) with
 | none=>rw[hf] at h;cases h
 | some p=>
   rw[hf] at h;injection h with h;exact⟨p,List.mem_of_find?_eq_some hf,h⟩
theorem Ag.Tm.mono{M M':Nat}(h:x.Tm M)(hm:M<=M'):x.Tm M':=⟨bB h.tag hm,bB h.now hm,λe he=>⟨bB (h.tr e he).1 hm,by have:=(h.tr e he).2;omega⟩⟩
theorem Ag.Tm.tries{x:Ag}{M:Nat}(h:x.Tm M)(i:lp):(x.tries i).1<=M∧(x.tries i).2<=M+48:=by
 unfold Ag.tries;cases hf:qR x.tr i with
 | none=>exact⟨bo _,bo _⟩
 | some t=>
   obtain⟨e,he,rfl⟩:=Ce hf;exact h.tr e he
theorem Ag.Tm.send{x:Ag}{M:Nat}(h:x.Tm M)(i:lp){t:Nat×Nat}(ht:t.1<=M):(x.send i t).Tm (M+1):=by
 refine⟨Nat.succ_le_succ h.tag,bB h.now (Nat.le_succ _),λe he=>?_⟩;rcases yp he with rfl|he
 ·have:=xf (x.tag+1) t.1
  have:=h.now;exact⟨by simp;omega,by simp;omega⟩
 ·have:=h.tr e he
  omega
theorem Ag.Ok.send{x:Ag}(h:x.Ok)(i:lp)(t:Nat×Nat):(x.send i t).Ok:=⟨h.node,h.eX,h.last,h.b,h.sh,h.bs,h.rs,h.qk⟩
theorem Ag.Ok.Hc(h:x.Ok)(n:Nat):({ x with now:=n }:Ag).Ok:=⟨h.node,h.eX,h.last,h.b,h.sh,h.bs,h.rs,h.qk⟩
def mj(A:aU)(n:Nat)(q:List abo.iE):dW:=λw V=>abo.lW w V V A n q
theorem mj.framed(A:aU)(n:Nat)(q:List abo.iE):eu (mj A n q):=λw O V h N=>⟨In.keep h.row λb hb _=>N b hb,λb hb=>(h.all b hb).keep λx Y _=>N x Y⟩
end Go.Proofs.YtpeepcmdehhbgaaGreatDoor
