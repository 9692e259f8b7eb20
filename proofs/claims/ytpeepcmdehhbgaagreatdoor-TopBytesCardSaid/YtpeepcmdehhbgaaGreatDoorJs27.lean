/- Ag1, Re1, Ag2, Ag3, Ag4, Ag5, Ag7, Ag8, Ag9, Aga, Tk1, Bo5, Bo6, Bo7, Bo8. -/
import Derived.Test.YtpeepcmdehhbgaaGreatDoorJs24
import Derived.Test.YtpeepcmdehhbgaaGreatDoorJs26
import Derived.Test.YtpeepcmdehhbgaaGreatDoorJs22
set_option linter.all false
set_option maxRecDepth 100000
set_option maxHeartbeats 2000000
open Go.Value renaming int->ae,slice->Z,string->aX,bool->aY,agg->aZ,tuple->a_
open Go.Ending renaming returned->b5
open Go.IntKind renaming i64->af,u64->ah
open Go (J az aE aA aB aC aD ay aj am ap aw aL aK aJ aI aH aV aU aT aR aQ aP aO aN)
open Go.Proofs.Tryz renaming prog->W
open Go.Lib renaming hid->Q
open List renaming length_append->bd,length_map->bj,append_nil->bm,getElem_mem->bF,flatMap_append->bL,drop_eq_getElem_cons->bP,drop_eq_nil_of_le->cR,length_filter_le->c_,length_set->dh
open Nat renaming le_of_ble_eq_true->bf,lt_of_lt_of_le->bw,le_trans->bB,mul_one->cM,le_succ_of_le->dw
open Option renaming map_some->df
open Go renaming Value->K,World->X,Calls->dz,Oper->dE,maxLen->dG
variable{w O:X}
namespace Go.Proofs.YtpeepcmdehhbgaaGreatDoor
open RowKit Hop V
def iK(k:Int×Int×Int):K := aZ #[J k.1,J k.2.1,J k.2.2]
theorem Og:oo W 2 o0:=zR aw
theorem Oh:oo W 37 iK:=sR (fs:=(Tryz.prog.fieldsOf 37)) aw (λw b k=>by unfold iK;kernel_rfl)
 (λw a b=>by unfold iK;show (Op.equalIn 10000 _ _ _).run W w=_;go_simp;by_cases I:a.1=b.1<;>by_cases G:a.2.1=b.2.1<;>by_cases L:a.2.2=b.2.2<;>simp[I,G,L,Prod.ext_iff])
 (λk=>by simp[iK,Instr.sameBits])
theorem Oi(b:aT)(h:b.length<=65536):(frame b).length<=b.length+14:=by rw[jB];have:=eE (n:=b.length) ap;omega
structure pj where
 (r s x d m:Nat)
def iu(p:pj)(node nodes commit:Int)(v:K)(leads:Bool)(own:Int):Array K:=#[J node,J nodes,.pointer (some ⟨p.s,0,none⟩),.pointer (some ⟨p.m,0,none⟩),J commit,v,aY leads,J own]
theorem uG(w:X)(g:Nat)(l:List abo.Ab)(last:Int)(V:aV)(h:abo.eh g l last w V):dz W 283 #[g] w λe O=>e=b5 (J last)∧w=O:=by obtain⟨_,v,q,R,D,_,_,hB,_⟩:=h;have c1:=hB.cell 1;go_in;go_wp2;go_ret;exact⟨rfl,rfl⟩
def ZS(to:Int)(e:En)(A:aU)(c:Nat):Array K:=#[J to,J 1,J e.k,J e.ag,J e.sh,J e.sq,J e.ep,Z A e.ds.length c,aX e.se,J e.fr,J e.tg,(),(),ae ah 0,(),(),ay,(),()]
theorem L9{B:Nat}{x:El}(h:kP w (λb=>B<=b∧b<(w:Nat)) x)(H:Grow w O):kP O (λb=>B<=b∧b<(O:Nat)) x:=⟨In.mono (In.grow h.1 H) λb hb=>⟨hb.1,bw hb.2 H.size⟩,h.2⟩
theorem xV(w:X)(ρ:Operand->K)(o:dE)(ho:o.op=.alloc 218):(execOp ρ o).run W w=.ok (.value (.pointer (some ⟨(w:Nat),0,none⟩))) (w.alloc (.cells aI 218)):=by obtain⟨dst,op,ty,pos,after,guard⟩:=o;simp only at ho;subst ho;go_simp
theorem La:(Tryz.prog.info? 218).map (λi=>(i.zero,i.size,i.bytes))=some (some (aZ aI),19,192):=by kernel_rfl
theorem AH:Elem W 30 218 19 192 (aZ aI):=⟨Tryz.underlying30,info_parts La,rfl,by decide,by decide⟩
def tu(B:Nat)(to:Int)(e:En)(u:K)(w:X):Prop:=∃(A:aU)(c:Nat)(U:aV),Row w U 218 19 u 1 (ZS to e A c).toList∧(∀b,U b->B<=b∧b<(w:Nat))∧kP w (λb=>B<=b∧b<(w:Nat)) ⟨e,A,c⟩
theorem tu.sl{B:Nat}{to:Int}{e:En}{u:K}(h:tu B to e u w):∃A c,u=Z A 1 c:=by obtain⟨A,c,U,I,_⟩:=h;obtain⟨A2,c2,e2,_⟩:=I.jL;exact⟨A2,c2,e2⟩
theorem tu.grow{B:Nat}{to:Int}{e:En}{u:K}{w O:X}(h:tu B to e u w)(H:Grow w O):tu B to e u O:=by obtain⟨A,c,U,I,G,L⟩:=h;exact⟨A,c,U,I.grow H,λb hb=>⟨(G b hb).1,bw (G b hb).2 H.size⟩,L9 L H⟩
theorem i5{r B:Nat}{w1 w2:X}{l:aT}(H:Grow w w1)(T:jl r (w:Nat) l w1)(ho:fI r w1 w2):Grow w w2:=Below.trans H (KU ho T.1 H.size)
inductive Rc where
 | ep (n:Nat)
 | eP (d:Dl)
 | pH (k sq:Nat) (ds:List Dl)
 | sh (n:Nat)
 | dn (k sq:Nat)
def Rc.B:Rc->List UInt8
 | .ep n=>iJ 1 [n]
 | .eP d=>iJ 2 []++o7 [d]
 | .pH k sq ds=>iJ 3 [k,sq,ds.length]++o7 ds
 | .sh n=>iJ 4 [n]
 | .dn k sq=>iJ 5 [k,sq]
def jh(d:Dl):Prop:=gZ d=true∧Small d
def Rc.Ok:Rc->Prop
 | .ep n=>1<=n∧n<=1073741824
 | .eP d=>jh d
 | .pH k sq ds=>k<4∧sq<=9223372036854775807∧ds.length<=8∧∀d∈ds,jh d
 | .sh n=>1<=n∧n<=4
 | .dn k sq=>k<4∧sq<=9223372036854775807
def Bk.done(b:Bk)(k:Nat)(sq:Int):Bk:={ b with q:=b.q.set k ⟨abo.p_ (b.qu k).l sq,(b.qu k).k⟩ }
def Bk.take(b:Bk):Rc->Bk
 | .ep n=>{ b with ep:=n }
 | .eP d=>if iV b.eP d=0 then { b with eP:=b.eP++[d] } else b
 | .pH k sq ds=>b.add k sq ds
 | .sh n=>{ b with sh:=n }
 | .dn k sq=>b.done k sq
structure Bk.ZT(b:Bk):Prop where
 eP:b.eP.length<=1000
 u64:∀d∈b.eP,d.2<=18446744073709551615
 cuts:b.cuts.length<=1000000
theorem C3{V:aV}{st:Nat}{z:aQ}{b b':Bk}{sl cu:K}(hz:z.length=4∧b'.q.length=4)(e:b=b')(h:St V w (gQ st z sl cu b') O):dN (px [.o (iq st z b)]) O (iY V w O)∧dM V w O:=by subst e;exact (iq.cls (l:=[]) hz (by rw[bm];exact h)).fin
theorem Sf(w:X)(D:aV)(st:Nat)(z:aQ)(b:Bk)(n:Nat)(hn:1<=n∧n<=1073741824)(A:aU)(m c:Nat)(hb:Bytes w (w:Nat) A m (iJ 1 [n]))(vt:m<=c)(iO:c<=dG):Lw W D 258 #[st,Z A m c] [.o (iq st z b)] (λ(_:Unit)e=>e=b5 (a_ #[])) (λ_=>[.o (iq st z (b.take (.ep n)))]) w:=by intro V hM hV;obtain⟨hz,sl,cu,hS⟩:=iq.opn (St.begin_ hM (λb hb=>(hV b hb).1) ⟨iq.framed _ _ _,trivial⟩);rw[bm] at hS;rw[show iJ 1 [n]=enc 1++(enc n++[]) by simp[iJ]] at hb;have hN:=pY w A m c _ hb vt iO;have d1:decide ((1:Int)<=(n:Int))=true:=aC ap;have d2:decide ((n:Int)<=1073741824)=true:=aC ap;go_in;go_wp2_with fail;refine hN.mono ?_;rintro e w1 ⟨r,rfl,lT,eD⟩;have hU:=kj w1 r _ 1 _ ap lT;go_wp2_with fail;refine hU.mono ?_;rintro e w2 ⟨rfl,gS,pN⟩;have fk:=i5 (B:=0) eD lT pN;have hI:=pZ w2 r _ n _ ap gS;go_wp2_with fail;refine hI.mono ?_;rintro e w3 ⟨rfl,jN,oM⟩;have ib:=i5 (B:=0) fk gS oM;have hD:=ov w3 r _ jN;go_wp2_with fail;refine hD.mono ?_;rintro e w4 ⟨rfl,rfl⟩;have dX:=hS.grow ib;clear hS hb lT gS jN pN oM eD fk ib hN hU hI hD;go_wp2_with (refine fv dX 0 rfl 2 _ _ rfl 0 rfl (J n) rfl (bf rfl) rfl aw rfl ?_;clear dX;intro w5 eF;refine stay ?_);refine dI ?_;go_wp2;go_end0;obtain⟨r1,r2⟩:=C3 (st:=st) (z:=z) (b:=b.take (.ep n)) (b':={ b with ep:=n }) hz rfl eF;exact⟨(),rfl,r1,r2⟩
theorem Sg(w:X)(D:aV)(st:Nat)(z:aQ)(b:Bk)(n:Nat)(hn:1<=n∧n<=4)(A:aU)(m c:Nat)(hb:Bytes w (w:Nat) A m (iJ 4 [n]))(vt:m<=c)(iO:c<=dG):Lw W D 258 #[st,Z A m c] [.o (iq st z b)] (λ(_:Unit)e=>e=b5 (a_ #[])) (λ_=>[.o (iq st z (b.take (.sh n)))]) w:=by intro V hM hV;obtain⟨hz,sl,cu,hS⟩:=iq.opn (St.begin_ hM (λb hb=>(hV b hb).1) ⟨iq.framed _ _ _,trivial⟩);rw[bm] at hS;rw[show iJ 4 [n]=enc 4++(enc n++[]) by simp[iJ]] at hb;have hN:=pY w A m c _ hb vt iO;have d1:decide ((1:Int)<=(n:Int))=true:=aC ap;have d2:decide ((n:Int)<=4)=true:=aC ap;go_in;go_wp2_with fail;refine hN.mono ?_;rintro e w1 ⟨r,rfl,lT,eD⟩;have hU:=kj w1 r _ 4 _ ap lT;go_wp2_with fail;refine hU.mono ?_;rintro e w2 ⟨rfl,gS,pN⟩;have fk:=i5 (B:=0) eD lT pN;have hI:=pZ w2 r _ n _ ap gS;go_wp2_with fail;refine hI.mono ?_;rintro e w3 ⟨rfl,jN,oM⟩;have ib:=i5 (B:=0) fk gS oM;have hD:=ov w3 r _ jN;go_wp2_with fail;refine hD.mono ?_;rintro e w4 ⟨rfl,rfl⟩;have dX:=hS.grow ib;clear hS hb lT gS jN pN oM eD fk ib hN hU hI hD;go_wp2_with (refine fv dX 0 rfl 3 _ _ rfl 2 rfl (J n) rfl (bf rfl) rfl aw rfl ?_;clear dX;intro w5 eF;refine stay ?_);refine dI ?_;go_wp2;go_end0;obtain⟨r1,r2⟩:=C3 (st:=st) (z:=z) (b:=b.take (.sh n)) (b':={ b with sh:=n }) hz rfl eF;exact⟨(),rfl,r1,r2⟩
theorem lj{d:Dl}(h:jh d):d.1.size<=1000000∧d.2<=18446744073709551615:=⟨bB h.2.1 am,by have:=h.2.2;omega⟩
theorem Oj(w:X)(D:aV)(st:Nat)(z:aQ)(b:Bk)(s:aR)(x:Nat)(hd:jh (s,x))(hl:b.ZT)(A:aU)(m c:Nat)(hb:Bytes w (w:Nat) A m (iJ 2 []++o7 [(s,x)]))(vt:m<=c)(iO:c<=dG):Lw W D 258 #[st,Z A m c] [.o (iq st z b)] (λ(_:Unit)e=>e=b5 (a_ #[])) (λ_=>[.o (iq st z (b.take (.eP (s,x))))]) w:=by
 intro V hM hV;obtain⟨hz,sl,cu,hS⟩:=iq.opn (St.begin_ hM (λb hb=>(hV b hb).1) ⟨iq.framed _ _ _,trivial⟩);rw[bm] at hS;obtain⟨A1,c1,rfl,kM,ry⟩:=fK.nW hS 1 rfl;rw[show iJ 2 []++o7 [(s,x)]=enc 2++(o7 [(s,x)]++[]) by simp[iJ]] at hb;have hN:=pY w A m c _ hb vt iO;obtain⟨abl,HE⟩:=az (iV b.eP (s,x));have Bh:b.take (.eP (s,x))=if abl=0 then { b with eP:=b.eP++[(s,x)] } else b:=by rw[HE.out];rfl
 go_in;go_wp2_with fail;refine hN.mono ?_;rintro e w1 ⟨r,rfl,lT,eD⟩;have hU:=kj w1 r _ 2 _ ap lT;go_wp2_with fail;refine hU.mono ?_;rintro e w2 ⟨rfl,gS,pN⟩;have fk:=i5 (B:=0) eD lT pN;have hG:dz W 195 #[r,J 1] w2 λe O=>∃A c,e=b5 (Z A 1 c)∧jl r (w:Nat) [] O∧jM O (New w2 O) A 1 [(s,x)]∧1<=c∧c<=dG∧fI r w2 O:=DX w2 r _ [(s,x)] [] gS (λd Iv=>by rw[List.mem_singleton.1 Iv];exact hd.2) (by simp);go_wp2_with fail;refine hG.mono ?_;rintro e w3 ⟨A3,c3,rfl,jN,Qy,sy,R4,oM⟩;have ib:=i5 (B:=0) fk gS oM;obtain⟨ad,hq,rfl,f0,f1⟩:=kn Qy (k:=0) ap;have e0:w3.cell? ad=some (aX s):=f0 w3 (Grow.refl _);have e1:w3.cell? ⟨ad.block,ad.off+1,none⟩=some (ae ah x):=f1 w3 (Grow.refl _);clear f0 f1;obtain⟨y,wa,HY,HA,mh⟩:=(hS.grow ib).new' #[aX s,ae ah x] 147;have om:=jN.grow (show Grow w3 wa by rw[HA.out];exact fb _ _);go_wp2_with fail;rw[<-HA.out,<-HY.out];clear e0 e1;have hD:=ov wa r _ om;go_wp2_with fail;refine hD.mono ?_;rintro e w4 ⟨rfl,rfl⟩;obtain⟨U,hU5,hU6⟩:=mh.own.see 2 rfl;obtain⟨ZU,c1',e6,Se,_⟩:=Row.jL (show Row _ U 147 2 (Z A1 b.eP.length c1) b.eP.length (fm b.eP) from hU5);injection e6 with e6 _ e7;subst e6 e7;have YC:=NZ wa st A1 b.eP.length c1 b.eP U Se (mh.facts.2.1.1 1) (mh.blk 1 rfl).lt (by have:=hl.eP;omega) hl.u64 s x (lj hd).1 (lj hd).2;rw[<-HE.out] at YC;have Vk:wa.cell? ⟨y,0,none⟩=some (aX s):=mh.facts.1.1 0;have vw:wa.cell? ⟨y,1,none⟩=some (ae ah x):=mh.facts.1.1 1;go_wp2_with fail;refine YC.mono ?_;rintro e w5 ⟨rfl,ng⟩;have eF:=mh.grow ng;clear mh Vk vw hU5 hU6 Se om jN Qy;by_cases h0:abl=0
 ·subst h0
  rw[aA rfl] at Bh;replace Bh:=Q Bh;go_wp2_with fail;have eW:=eF.grow (Grow.refl _).drew;have CF:∀l O,St V w (.c y 147 #[aX s,ae ah x]::.c st 186 (Fp z (Z A1 b.eP.length c1) cu b)::l) O->O.cell? ⟨st,1,none⟩=some (Z A1 b.eP.length c1)∧O.cell? ⟨y,0,none⟩=some (aX s)∧O.cell? ⟨y,1,none⟩=some (ae ah x):=λl O h=>⟨h.facts.2.1.1 1,h.facts.1.1 0,h.facts.1.1 1⟩;have eA:=CF _ _ eW;refine dJ rfl ?_;refine fC (λO=>O.cell? ⟨st,1,none⟩=some (Z A1 b.eP.length c1)∧O.cell? ⟨y,0,none⟩=some (aX s)∧O.cell? ⟨y,1,none⟩=some (ae ah x)) [8,9,10] 11 rfl [0,1,2,3,4,5] ?_;iterate 6 (refine eV rfl eA (λw1 ⟨I,G,L⟩=>aM) ?_)
  refine eZ 6 [] rfl ?_;obtain⟨y2,wb,xL,HB,eN⟩:=eF.new' #[aX s,ae ah x] 147;go_wp2_with fail;rw[<-HB.out,<-xL.out];have fH:=eN.grow (Grow.refl _).drew;refine⟨λ_=>⟨fH.facts.2.2.1.1 1,fH.facts.2.1.1 0,fH.facts.2.1.1 1⟩,?_⟩;refine eZ 7 [] rfl ?_;refine g_ oQ rfl (.tmp 50) (.tmp 52) rfl rfl (fH.front 3 rfl) (A:=some ⟨y2,0,none⟩) (m:=1) (c:=1) (news:=[aX s,ae ah x]) rfl (In.reads ((fH.blk 0 rfl).jL (size:=2) (n:=1) rfl)) (by simp[Value.oneCell']) (by have:=hl.eP;omega) ?_;intro v' w8 fD;obtain⟨A8,c8,rfl,hc8,hm8⟩:=fK.nW fD 0 rfl;refine wpList_nil ⟨λ_=>⟨fD.facts.2.2.1.1 1,fD.facts.2.1.1 0,fD.facts.2.1.1 1⟩,?_⟩;refine fY 8 rfl aw ?_;have hf8:=fD.facts.2.2.1;simp only[Fp] at hf8;go_wp2_with fail;have gy:=((fD.put 3 rfl 1 (Z A8 (b.eP.length+1) c8)).dO 1 rfl).dO 1 rfl;go_end0;obtain⟨r1,r2⟩:=C3 (st:=st) (z:=z) (b:=b.take (.eP (s,x))) (b':={ b with eP:=b.eP++[(s,x)] }) (sl := Z A8 (b.eP.length+1) c8) hz Bh.out (by have h9:=gy.perm (List.Perm.swap _ _ _);unfold gQ fm;dsimp only;rw[bd,bL];exact h9)
  exact⟨(),rfl,r1,r2⟩
 ·rw[aB h0] at Bh
  have Mc:(abl == 0)=false:=beq_eq_false_iff_ne.2 h0;replace Bh:=Q Bh;replace h0:=Q h0;go_wp2;go_end0;obtain⟨r1,r2⟩:=C3 (st:=st) (z:=z) (b:=b.take (.eP (s,x))) hz Bh.out (eF.dO 0 rfl);exact⟨(),rfl,r1,r2⟩
def Mp(A:aU)(ds:List Dl):dW:=λw V=>jM w V A ds.length ds
theorem Mp.framed(A:aU)(ds:List Dl):eu (Mp A ds):=λ_ _ _ h N=>In.keep h λb hb _=>N b hb
theorem ZV(w:X)(s:aR)(x:Nat)(hs:s.size<=1000000):dz W 354 #[aZ #[aX s,ae ah x]] w λe O=>e=b5 (aY (!gZ (s,x)))∧Grow w O:=by have fu:=dT w (.cells #[aX s,ae ah x] 147);have hB:=eJ.made w 147 #[aX s,ae ah x];have c0:=hB.cell 0;have c1:=hB.cell 1;have T:=DV (w.alloc (.cells #[aX s,ae ah x] 147)) s x hs;go_in;go_wp2_with fail;refine T.mono ?_;rintro e w2 ⟨rfl,fk⟩;go_wp2;go_ret;exact⟨rfl,fu.trans fk⟩
theorem Ol(w:X)(D:aV)(st r:Nat)(z:aQ)(b:Bk)(k sq:Nat)(N:k<4)(pi:sq<=9223372036854775807)(w0:X)(gl:Grow w0 w)(V:aV)(fN:St V w0 [.o (iq st z b)] w0)(T:jl r (w0:Nat) (enc k++(enc sq++[])) w):dz W 317 #[st,r,aY true] w λe O=>e=b5 (a_ #[])∧St V w0 [.o (iq st z (b.done k sq))] O:=by
 obtain⟨⟨hz,hq⟩,sl,cu,hS⟩:=iq.opn fN;rw[bm] at hS;obtain⟨g,Hg⟩:=az (z.getD k 0);have K5:(Fp z sl cu b)[3+k]?=some ((g:K)):=by
  have h4:k=0∨k=1∨k=2∨k=3:=by omega
  rw[Hg.out];rcases h4 with rfl|rfl|rfl|rfl<;>rfl
 have R9:dz W 140 #[r,J 3] w λe O=>e=b5 (J k)∧jl r (w0:Nat) _ O∧fI r w O:=rX w r _ k 3 _ ap ap T;go_in;go_wp2_with fail;refine R9.mono ?_;rintro e w1 ⟨rfl,lT,yQ⟩;have eD:=i5 (B:=0) gl T yQ;have hC2:=pZ w1 r _ sq _ pi lT;go_wp2_with fail;refine hC2.mono ?_;rintro e w2 ⟨rfl,gS,pN⟩;have fk:=i5 (B:=0) eD lT pN;have hD:=ov w2 r _ gS;go_wp2_with fail;refine hD.mono ?_;rintro e w3 ⟨rfl,rfl⟩;have dV:=hS.grow fk;have za:w2.cell? ⟨st,3+k,none⟩=some ((g:K)):=(dV.facts.1.1 (3+k)).trans K5;go_wp2_with fail;rw[Hg.out];refine (dV.Fo (k+3) (S:=abo.eh (z.getD k 0) (b.qu k).l (b.qu k).k) (lh hz hq N) (λ_=>abo.eh.framed _ _ _) dV.no (λU hU jR=>Lw.turns (abo.DG _ _ _ _ (sq:Int)))).mono ?_;rintro e w4 ⟨_,rfl,eO⟩;have eO:St V w0 (gQ st z sl cu (b.done k sq)) w4:=by unfold gQ Bk.done;dsimp only;rw[<-rZ hz hq N];exact eO
 go_wp2;refine bodyPost_ret (results_none rfl _ _ _) rfl ?_;exact⟨rfl,iq.cls (l:=[]) ⟨hz,by unfold Bk.done;rw[dh];exact hq⟩ (by rw[bm];exact eO)⟩
theorem Lc(w:X)(l:List Dl)(hl:∀d∈l,d.1.size<=1000000):tc 354 #[] (λd => !gZ d) l w:=⟨λvs w=>by kernel_rfl,λO _ d hd=>ZV O d.1 d.2 (hl d hd)⟩
theorem Lf(w:X)(st r:Nat)(z:aQ)(b:Bk)(k sq:Nat)(N:k<4)(pi:sq<=9223372036854775807)(ds:List Dl)(tS:ds.length<=8)(YD:∀d∈ds,jh d)(hl:b.ZT)(w0:X)(gl:Grow w0 w)(V:aV)(fN:St V w0 [.o (iq st z b)] w0)(T:jl r (w0:Nat) (enc k++(enc sq++(enc ds.length++(o7 ds++[])))) w):dz W 317 #[st,r,aY false] w λe O=>e=b5 (a_ #[])∧St V w0 [.o (iq st z (b.add k sq ds))] O:=by
 have R9:dz W 140 #[r,J 3] w λe O=>e=b5 (J k)∧jl r (w0:Nat) _ O∧fI r w O:=rX w r _ k 3 _ ap ap T;have Vj:(ds.any λd => !gZ d)=false:=List.any_eq_false.2 λd hd=>by rw[(YD d hd).1];simp
 go_in;go_wp2_with fail;refine R9.mono ?_;rintro e w1 ⟨rfl,lT,yQ⟩;have eD:=i5 (B:=0) gl T yQ;have hC2:=pZ w1 r _ sq _ pi lT;go_wp2_with fail;refine hC2.mono ?_;rintro e w2 ⟨rfl,gS,pN⟩;have fk:=i5 (B:=0) eD lT pN;have hC3:dz W 140 #[r,J 8] w2 λe O=>e=b5 (J ds.length)∧jl r (w0:Nat) _ O∧fI r w2 O:=rX w2 r _ ds.length 8 _ tS ap gS;go_wp2_with fail;refine hC3.mono ?_;rintro e w3 ⟨rfl,jN,oM⟩;have ib:=i5 (B:=0) fk gS oM;have hG:=DX w3 r _ ds [] jN (λd hd=>(YD d hd).2) ap;go_wp2_with fail;refine hG.mono ?_;rintro e w4 ⟨A4,c4,rfl,om,hI4,q_,VP,S4⟩;have Bi:=i5 (B:=0) ib jN S4;have MC:=fN.join (Mp.framed A4 ds) Bi (U:=New w3 w4) hI4 (λb hb=>⟨bB ib.size hb.1,hb.2⟩);obtain⟨y,wa,HY,HA,mh⟩:=MC.new' #[J sq,Z A4 ds.length c4] 196;have fu:Grow w4 wa:=by rw[HA.out];exact fb _ _
 go_wp2_with fail;rw[<-HA.out,<-HY.out];have hD:=ov wa r _ (om.grow fu);go_wp2_with fail;refine hD.mono ?_;rintro e w5 ⟨rfl,rfl⟩;have Vk:wa.cell? ⟨y,0,none⟩=some (J sq):=mh.facts.1.1 0;have vw:wa.cell? ⟨y,1,none⟩=some (Z A4 ds.length c4):=mh.facts.1.1 1;have hCF:=Jb wa _ A4 ds.length c4 ds (In.grow hI4 fu) ap 354 #[] (λd => !gZ d) (Lc wa ds λd hd=>(lj (YD d hd)).1);rw[Vj] at hCF;go_wp2_with fail;refine hCF.mono ?_;rintro e w6 ⟨rfl,tW⟩;have eN:=mh.grow tW;clear Vk vw;have Vk:w6.cell? ⟨y,0,none⟩=some (J sq):=eN.facts.1.1 0;have vw:w6.cell? ⟨y,1,none⟩=some (Z A4 ds.length c4):=eN.facts.1.1 1;go_wp2_with fail;refine (eN.Fo 2 rfl (λ_=>iq.framed _ _ _) eN.no (λU hU jR=>O2 w6 (λx=>U x∨False) st z b k N (sq:Int) ds A4 c4 (by obtain⟨U',I,G⟩:=nV hU 1 rfl;exact In.mono I λb hb => .inl (G b hb)) q_ VP ap (λx Y=>Y.elim (jR x) False.elim) (by have:=hl.eP;omega) (by have:=hl.cuts;omega))).mono ?_;rintro e w7 ⟨_,rfl,fH⟩;go_wp2;go_end0;exact⟨rfl,(fH.dO 0 rfl).dO 0 rfl⟩
theorem Wx(w:X)(D:aV)(st:Nat)(z:aQ)(b:Bk)(x:Rc)(Y:x.Ok)(hl:b.ZT)(A:aU)(m c:Nat)(hb:Bytes w (w:Nat) A m x.B)(vt:m<=c)(iO:c<=dG):Lw W D 258 #[st,Z A m c] [.o (iq st z b)] (λ(_:Unit)e=>e=b5 (a_ #[])) (λ_=>[.o (iq st z (b.take x))]) w:=by
 have main:∀(kd:Nat)(kd2:Bool)(t:aT)(b':Bk),x.B=enc kd++t->(kd=3∧kd2=false∨kd=5∧kd2=true)->
  (∀(V:aV),St V w [.o (iq st z b)] w->∀(r:Nat)(w2:X),Grow w w2->jl r (w:Nat) t w2->dz W 317 #[st,r,aY kd2] w2 λe O=>e=b5 (a_ #[])∧St V w [.o (iq st z b')] O)->
  Lw W D 258 #[st,Z A m c] [.o (iq st z b)] (λ(_:Unit)e=>e=b5 (a_ #[])) (λ_=>[.o (iq st z b')]) w:=by
  intro kd kd2 t b' e N E V hM hV;have hS:=St.begin_ hM (λb hb=>(hV b hb).1) ⟨iq.framed _ _ _,trivial⟩;rw[e] at hb;have hN:=pY w A m c _ hb vt iO;go_in;go_wp2_with fail;refine hN.mono ?_;rintro e w1 ⟨r,rfl,lT,eD⟩;have hU:=kj w1 r _ kd _ ap lT;go_wp2_with fail;refine hU.mono ?_;rintro e w2 ⟨rfl,gS,pN⟩;have fk:=i5 (B:=0) eD lT pN;have hC:=E V hS r w2 fk gS;clear E lT gS hU hN hb;rcases N with ⟨rfl,rfl⟩|⟨rfl,rfl⟩
  all_goals
   go_wp2_with fail
   refine hC.mono ?_
   rintro e w3 ⟨rfl,dX⟩
   go_wp2
   go_end0
   obtain⟨r1,r2⟩:=dX.fin
   exact⟨(),rfl,r1,r2⟩
 cases x with
 | ep n=>exact Sf w D st z b n Y A m c hb vt iO
 | eP d=>exact Oj w D st z b d.1 d.2 Y hl A m c hb vt iO
 | sh n=>exact Sg w D st z b n Y A m c hb vt iO
 | pH k sq ds=>exact main 3 false (enc k++(enc sq++(enc ds.length++(o7 ds++[])))) _ (by simp[Rc.B,iJ]) (.inl ⟨rfl,rfl⟩) λV hS r w2 H T=>Lf w2 st r z b k sq Y.1 Y.2.1 ds Y.2.2.1 Y.2.2.2 hl w H V hS T
 | dn k sq=>exact main 5 true (enc k++(enc sq++[])) _ (by simp[Rc.B,iJ]) (.inr ⟨rfl,rfl⟩) λV hS r w2 H T=>Ol w2 D st r z b k sq Y.1 Y.2 w H V hS T
structure Bk.Lm(n:Nat)(b:Bk):Prop where
 eP:b.eP.length<=32
 fine:∀d∈b.eP,jh d
 cuts:b.cuts.length<=n
theorem Bk.Lm.lim{n:Nat}{b:Bk}(h:b.Lm n)(hn:n<=1000000):b.ZT:=⟨bB h.eP am,λd hd=>(lj (h.fine d hd)).2,bB h.cuts hn⟩
theorem Bk.Lm.add{n:Nat}{b:Bk}(h:b.Lm n)(k:Nat)(sq:Int)(ds:List Dl):(b.add k sq ds).Lm (n+1):=by
 unfold Bk.add;split;·exact⟨bB (c_ _ _) h.eP,λd hd=>h.fine d (List.mem_filter.1 hd).1,by have:=h.cuts;simp;omega⟩
 ·exact⟨h.eP,h.fine,dw h.cuts⟩
theorem wi{l:List Dl}{d:Dl}(h:iV l d=0):l.length<32∧gZ d=true:=by
 unfold iV at h;split at h;·cases h
 ·rename_i I
  split at h;·cases h
  ·exact⟨by omega,by simpa using I⟩
theorem Bk.Lm.take{n:Nat}{b:Bk}(h:b.Lm n){x:Rc}(Y:x.Ok):(b.take x).Lm (n+1):=by
 cases x with
 | ep _=>exact⟨h.eP,h.fine,dw h.cuts⟩
 | sh _=>exact⟨h.eP,h.fine,dw h.cuts⟩
 | dn k sq=>exact⟨h.eP,h.fine,dw h.cuts⟩
 | pH k sq ds=>exact h.add k sq ds
 | eP d=>
   unfold Bk.take;dsimp only;split
   ·rename_i h0
    have I:=(wi h0).1;refine⟨by simp;omega,λe he=>?_,dw h.cuts⟩;rcases List.mem_append.1 he with he|he
    ·exact h.fine e he
    ·rw[List.mem_singleton.1 he];exact Y
   ·exact⟨h.eP,h.fine,dw h.cuts⟩
theorem Si(w:X)(D:aV)(st:Nat)(z:aQ)(b:Bk)(rs:List Rc)(gC:∀r∈rs,r.Ok)(n:Nat)(hl:b.Lm n)(hn:n+rs.length<=1000000)(A:aU)(q:List Bx)(c:Nat)(hq:IR w D D A q.length q)(kZ:q.map Bx.bs=rs.map Rc.B)(j6:∀b,D b->b<(w:Nat)):Lw W D 199 #[st,Z A q.length c] [.o (iq st z b)] (λ(_:Unit)e=>e=b5 (a_ #[])) (λ_=>[.o (iq st z (rs.foldl Bk.take b))]) w:=by
 intro V hM hV;have kV:∀x,D x->x<(w:Nat)∧¬ V x:=λx Y=>⟨j6 x Y,λh=>(hV x h).2 Y⟩;have hS:=St.begin_ hM (λb hb=>(hV b hb).1) ⟨iq.framed _ _ _,trivial⟩;have fj:Hid (q.length=rs.length):=Q (by rw[<-bj (f:=Bx.bs),kZ,bj]);go_in;go_wp2_with fail;go_loopw [8] (λi wr=>∃(k:Nat)(b':Bk),k<=q.length∧i=J k∧(rs.drop k).foldl Bk.take b'=rs.foldl Bk.take b∧b'.Lm (n+k)∧St V w [.o (iq st z b')] wr) (λi _=>q.length-(intOf i).toNat);case atStart=>exact⟨0,b,by omega,rfl,rfl,hl,hS⟩
 case round=>
  obtain⟨k,b',N,rfl,hb,Fv,hS⟩:=hrel;by_cases fS:k<q.length
  ·have Fz:k<rs.length:=by rw[<-fj.out];exact fS
   rw[bP Fz,List.foldl_cons] at hb;have hrk:=gC rs[k] (bF Fz);have hK:∀b,D b->b<(w:Nat)->wr.heap[b]?=w.heap[b]?:=λb hb _=>hS.keep kV b hb;have Fg:In wr D 1 A q.length (q.flatMap Bx.cells):=In.keep hq.row hK;obtain⟨ad,CQ,rfl,_,lA,e0,_⟩:=In.mr (cells:=Bx.cells) Fg ap ui fS;have Fa:=hq.all q[k] (bF fS);have e0:wr.cell? (ad.add (k*1))=some (.slice q[k].A q[k].m q[k].c):=e0 _ rfl;rw[cM] at e0;have QP:Bytes wr (wr:Nat) q[k].A q[k].m rs[k].B:=by
    have e1:q[k].bs=rs[k].B:=by have e2:=congrArg (λl=>l[k]?) kZ;simp only[List.getElem?_map,List.getElem?_eq_getElem fS,List.getElem?_eq_getElem Fz,df,Option.some.injEq] at e2;exact e2
    rw[<-e1];exact In.reads (In.keep Fa.bs hK)
   have hT:=λD'=>Wx wr D' st z b' rs[k] hrk (Fv.lim ap) q[k].A q[k].m q[k].c QP Fa.le Fa.max;have ZW:=Fv.take hrk;generalize q[k]=b0 at e0 hT;generalize rs[k]=r0 at hb hT ZW;clear QP Fa hrk Fg;replace hb:=Q hb;go_wp2_with fail;refine (hS.at_ 0 rfl (λ_=>iq.framed _ _ _) hS.no (hT _)).mono ?_;rintro e w1 ⟨_,rfl,ej⟩;go_wp2_with fail;exact⟨⟨k+1,_,by omega,by go_num,hb.out,ZW,ej⟩,by simp[intOf];omega⟩
  ·have Vh:k=q.length:=by omega
   rw[show rs.drop k=[] from cR (by rw[<-fj.out];omega)] at hb;replace hb:=Q hb;replace Vh:=Q Vh;go_wp2;go_end0;rw[<-hb.out];obtain⟨r1,r2⟩:=hS.fin;exact⟨(),rfl,r1,r2⟩
theorem Sj(w:X):dz W 198 #[] w λe O=>∃(st:Nat)(z:aQ),e=b5 ((st:K))∧iq st z Bk.new O (New w O)∧Grow w O:=by
 refine (O6 w).mono ?_;rintro e O ⟨s,z,rfl,hB,H⟩;exact⟨s,[z.a,z.b,z.c,z.d],rfl,⟨⟨rfl,rfl⟩,Z none 0 0,Z none 0 0,by obtain⟨U1,U2,I,⟨U3,U4,L,h4,k1,k2,k3⟩,m1,m2,m3⟩:=hB;exact⟨U1,U2,I,⟨U3,U4,L,⟨λ_=>False,U4,Row.nil,h4,λ_ h=>h.elim,λ_ h=>h,λ_ h=>h.elim⟩,k1,k2,k3⟩,m1,m2,m3⟩⟩,H⟩
end Go.Proofs.YtpeepcmdehhbgaaGreatDoor
