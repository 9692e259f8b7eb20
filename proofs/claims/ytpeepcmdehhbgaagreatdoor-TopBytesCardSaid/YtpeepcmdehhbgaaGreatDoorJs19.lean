/- En, En2, En3, En4. -/
import Derived.Test.YtpeepcmdehhbgaaGreatDoorJs18
import Derived.Test.YtpeepcmdehhbgaaGreatDoorJs13
set_option linter.all false
set_option maxRecDepth 100000
open Go.Value renaming int->ae,slice->Z,string->aX,bool->aY,agg->aZ,tuple->a_
open Go.Ending renaming returned->b5
open Go.IntKind renaming i64->af,u64->ah
open Go (J az aE aA aB aC aD ay aj am ap aw aL aK aJ aI aH aV aU aT aR aQ aP aO aN)
open Go.Proofs.Tryz renaming prog->W
open Go.Lib renaming hid->Q
open List renaming length_append->bd,length_take->bn,append_assoc->bp,take_succ_eq_append_getElem->br,length_cons->bD,getElem_mem->bF,take_of_length_le->bH,map_append->bI,mem_of_mem_take->bW,not_mem_nil->cF,mem_cons->cI,take_length->dq
open Nat renaming le_refl->bh,zero_le->bo,min_eq_left->cz,mul_le_mul_right->cK
open Go renaming Value->K,World->X,Calls->dz,Addr->dA,maxLen->dG
namespace Go.Proofs.YtpeepcmdehhbgaaGreatDoor
open RowKit Hop
structure En where
 (k ag sh sq ep:Int) (ds:List Dl) (se:aR) (fr tg:Int)
instance(e:En)(A:Option dA)(c:Nat):CoeDep (En×Option dA×Nat) (e,A,c) (Array K):=⟨#[J e.k,J e.ag,J e.sh,J e.sq,J e.ep,Z A e.ds.length c,aX e.se,J e.fr,J e.tg]⟩
def En.agg(e:En)(A:aU)(c:Nat):Array K:=#[J e.k,J e.ag,J e.sh,J e.sq,J e.ep,Z A e.ds.length c,aX e.se,J e.fr,J e.tg]
def DN(d:Dl):Prop:=1<=d.2∧d.2<=18446744073709551615∧abn.fW d.1=0∧d.1.size<=1000
def En.abq(e:En):Prop:=e.k=1∧e.se=⟨#[]⟩∧(0<=e.ag∧e.ag<8)∧(0<=e.sh∧e.sh<4)∧(1<=e.sq∧e.sq<=9223372036854775807)∧(1<=e.ep∧e.ep<=9223372036854775807)∧(1<=e.ds.length∧e.ds.length<=8)∧∀d∈e.ds,DN d
def En.R(e:En):Prop:=e.k=2∧e.ag=0∧e.sh=0∧e.sq=0∧e.ep=0∧e.ds=[]∧abn.fW e.se=0∧e.se.size<=1000
def En.Ok(e:En):Prop:=((0<=e.fr∧e.fr<8)∧0<=e.tg∧e.tg<=9223372036854775807)∧(e.abq∨e.R)
theorem dT(w:X)(o:Obj):Grow w (w.alloc o):=(Below.refl _ w).alloc (bh _) o
theorem kn{w:X}{V:aV}{A:aU}{n:Nat}{l:List Dl}(h:jM w V A n l){k:Nat}(N:k<n):∃(ad:dA)(hq:k<l.length),A=some ad∧(∀w1,Grow w w1->w1.cell? (ad.add (k*2))=some (aX l[k].1))∧∀w1,Grow w w1->w1.cell? ⟨(ad.add (k*2)).block,(ad.add (k*2)).off+1,none⟩=some (ae ah (l[k].2:Int)):=by obtain⟨ad,hq,e,_,hb,e0,e12⟩:=In.mr (cells:=mN) h ap iH N;exact⟨ad,hq,e,λw1 H=>(H.cell (by rw[block_add];exact hb)).trans (e0 _ rfl),λw1 H=>(H.cell (p:=⟨(ad.add (k*2)).block,(ad.add (k*2)).off+1,none⟩) (show (ad.add (k*2)).block<_ by rw[block_add];exact hb)).trans (e12 0 _ rfl)⟩
structure El where
 (e:En) (A:aU) (c:Nat)
def El.cells(x:El):List K:=(x.e.agg x.A x.c).toList
def kP(w:X)(D:aV)(x:El):Prop:=jM w D x.A x.e.ds.length x.e.ds∧x.e.ds.length<=x.c∧x.c<=dG∧x.e.ds.length<=1048576
theorem pf(x:El):x.cells.length=9:=rfl
theorem Gq(x:El):∀u∈x.cells,u.oneCell'=true:=by intro u hu;simp only[El.cells,En.agg,cI,cF,or_false] at hu;rcases hu with rfl|rfl|rfl|rfl|rfl|rfl|rfl|rfl|rfl<;>rfl
theorem vY:jr kP:=λ_ _ _ _ _ h hj hd=>⟨In.just h.1 hj hd,h.2⟩
theorem jg:iz kP:=λ_ _ _ _ h hd=>⟨In.mono h.1 hd,h.2⟩
theorem Gr:(Tryz.prog.info? 40).map (λi=>(i.zero,i.size,i.bytes))=some (some (aZ aK),9,96):=by kernel_rfl
theorem Gs:Elem W 43 40 9 96 (aZ aK):=⟨Tryz.underlying43,info_parts Gr,rfl,by decide,by decide⟩
def jO(w:X)(D:aV)(A:aU)(q:List El):Prop:=In w D 9 A q.length (q.flatMap El.cells)∧∀x∈q,kP w D x
theorem jO.grow{w O:X}{D:aV}{A:aU}{q:List El}(h:jO w D A q)(H:Grow w O):jO O D A q:=⟨h.1.grow H,λx Y=>vY _ _ _ _ _ (h.2 x Y) (dM.dK (V:=λ_=>False) H) λ_ _ h=>h⟩
theorem jO.just{w O:X}{D U:aV}{A:aU}{q:List El}(h:jO w D A q)(hj:dM U w O)(hd:∀b,D b->¬ U b):jO O D A q:=⟨h.1.just hj hd,λx Y=>vY _ _ _ _ _ (h.2 x Y) hj hd⟩
theorem jO.mono{w:X}{D D':aV}{A:aU}{q:List El}(h:jO w D A q)(hd:∀b,D b->D' b):jO w D' A q:=⟨h.1.mono hd,λx Y=>jg _ _ _ _ (h.2 x Y) hd⟩
theorem jO.nil{w:X}{D:aV}{A:aU}:jO w D A []:=⟨In.nil,λx Y=>absurd Y (by simp)⟩
def Ja(l:List En)(w0:X)(u:K)(w:X):Prop:=∃(A:aU)(c:Nat)(q:List El),u=Z A q.length c∧jO w (New w0 w) A q∧q.map El.e=l∧q.length<=c∧c<=dG
theorem Ja.nil(w0 w:X):Ja [] w0 (Z none 0 0) w:=⟨none,0,[],rfl,jO.nil,rfl,bh _,bo _⟩
theorem t7(w:X)(V:aV)(x:El)(h:kP w V x):dz W 126 #[aZ (x.e.agg x.A x.c)] w λen O=>∃A',en=b5 (aZ (x.e.agg A' x.e.ds.length))∧kP O (New w O) ⟨x.e,A',x.e.ds.length⟩∧Grow w O:=by
 obtain⟨⟨k,ag,sh,sq,ep,ds,se,fr,tg⟩,A,c⟩:=x;obtain⟨hd,mn,Bb,sB⟩:=h;unfold En.agg;dsimp only at hd mn Bb sB ⊢;obtain⟨n,HN⟩:=az (ds.length);rw[<-HN.out] at hd mn sB ⊢;have gl:=(dT w (.cells #[J k,J ag,J sh,J sq,J ep,Z A n c,aX se,J fr,J tg] 40)).trans (dT _ (.cells aK 40));have uW:=(eJ.made w 40 #[J k,J ag,J sh,J sq,J ep,Z A n c,aX se,J fr,J tg]).alloc (.cells aK 40);have ky:=eJ.made (w.alloc (.cells #[J k,J ag,J sh,J sq,J ep,Z A n c,aX se,J fr,J tg] 40)) 40 aK;obtain⟨x,HX⟩:=az ((w:Nat):Nat);have rI:(w.alloc (.cells #[J k,J ag,J sh,J sq,J ep,Z A n c,aX se,J fr,J tg] 40)).heap.size=x+1:=by rw[HX.out];simp
 rw[rI] at ky;rw[<-HX.out] at uW;obtain⟨wa,HA⟩:=az ((w.alloc (.cells #[J k,J ag,J sh,J sq,J ep,Z A n c,aX se,J fr,J tg] 40)).alloc (.cells aK 40):X);rw[<-HA.out] at uW ky gl;have iZ:(wa:Nat)=x+2:=by rw[HA.out,HX.out];simp
 go_in;go_wp2_with fail;rw[<-HA.out,<-HX.out];refine (jD wa V A n c ds (In.grow hd gl) ap).mono ?_;rintro e w1 ⟨A1,c1',rfl,F6,oK,ry,eD⟩;go_wp2_with fail;refine (od w1 A1 n c1' oK).mono ?_;rintro e w2 ⟨rfl,rfl⟩;have JZ:=uW.grow eD;have R9:=ky.grow eD;have hP:=JZ.put 5 (Z A1 n n);have hD:=R9.far (p:=⟨x,5,none⟩) (show x+1≠x by omega) (Z A1 n n);have f5:=JZ.frozen 5;have d5:=JZ.cell 5;have p0:=hP.cell 0;have p1:=hP.cell 1;have p2:=hP.cell 2;have p3:=hP.cell 3;have p4:=hP.cell 4;have p5:=hP.cell 5;have p6:=hP.cell 6;have p7:=hP.cell 7;have p8:=hP.cell 8;have d0:=hD.cell 0;have d1:=hD.cell 1;have d2:=hD.cell 2;have d3:=hD.cell 3;have d4:=hD.cell 4;have d5:=hD.cell 5;have d6:=hD.cell 6;have d7:=hD.cell 7;have d8:=hD.cell 8;have g0:=hD.frozen 0;have g1:=hD.frozen 1;have g2:=hD.frozen 2;have g3:=hD.frozen 3;have g4:=hD.frozen 4;have g5:=hD.frozen 5;have g6:=hD.frozen 6;have g7:=hD.frozen 7;have g8:=hD.frozen 8;go_wp2_with fail;change bodyPost _ _ _ _ _ (World.setCells (w1.setCell ⟨x,5,none⟩ (Z A1 n n)) (x+1) 0 [J k,J ag,J sh,J sq,J ep,Z A1 n n,aX se,J fr,J tg]);have hE:=eJ.all hD [J k,J ag,J sh,J sq,J ep,Z A1 n n,aX se,J fr,J tg] rfl;have hF:∀i,(World.setCells (w1.setCell (x,5) (Z A1 n n)) (x+1) 0 [J k,J ag,J sh,J sq,J ep,Z A1 n n,aX se,J fr,J tg]).cell? ⟨(x+1),i,none⟩=#[J k,J ag,J sh,J sq,J ep,Z A1 n n,aX se,J fr,J tg][i]?:=hE.cell;have e0:=hF 0;have e1:=hF 1;have e2:=hF 2;have e3:=hF 3;have e4:=hF 4;have e5:=hF 5;have e6:=hF 6;have e7:=hF 7;have e8:=hF 8;refine bodyPost_ret (v := aZ #[J k,J ag,J sh,J sq,J ep,Z A1 n n,aX se,J fr,J tg]) (by simp[results,Tryz.results126,go_sem,e0,e1,e2,e3,e4,e5,e6,e7,e8]) rfl ?_;have hj:dM (λb=>b=x∨b=x+1) w1 ((w1.setCell (x,5) (Z A1 n n)).setCells (x+1) 0 [J k,J ag,J sh,J sq,J ep,Z A1 n n,aX se,J fr,J tg]):=((dM.dK (Grow.refl w1)).put (V:=λb=>b=x∨b=x+1) (.inl rfl) 5 _).trans (dM.jA (gM _ _ _ _) (.inr rfl))
 have jU:=Below.trans (gl.trans eD) (hj.below (B:=(w:Nat)) (λb hb=>by have:=HX.out;omega) (gl.trans eD).size);have hn:=HN.out;subst hn;refine⟨A1,rfl,⟨In.mono (V:=New wa w1) (In.just F6 hj λb hb=>by have:=hb.1;omega) λb hb=>⟨by have:=hb.1;have:=gl.size;omega,by have:=hb.2;simpa [setCells_size,gg] using this⟩,bh _,(show ds.length<=dG by unfold dG;omega),sB⟩,jU⟩
theorem DO(w:X)(A:aU)(n c:Nat)(hn:n<=c):dz W 163 #[Z A n c] w λe O=>e=b5 (Z A n n)∧w=O:=by go_in;go_wp2;go_ret;exact⟨rfl,rfl⟩
theorem mQ(w:X)(V:aV)(A:aU)(c:Nat)(q:List El)(h:jO w V A q)(hq:q.length<=1048576):dz W 119 #[Z A q.length c] w λe O=>∃u,e=b5 u∧Ja (q.map El.e) w u O∧(∃A',u=Z A' q.length q.length)∧Grow w O:=by
 go_in;go_wp2_with fail;go_loopw [3,8] (λs i wr=>∃(k:Nat)(q':List El),k<=q.length∧i=J k∧q'.length=k∧Acc 40 9 El.cells kP w s q' wr∧q'.map El.e=(q.take k).map El.e) (λ_ i _=>q.length-(intOf i).toNat);case atStart=>exact⟨0,[],by omega,rfl,rfl,Acc.nil w,by simp⟩
 case round=>
  obtain⟨k,q',oL,rfl,ig,hA,F7⟩:=hrel;have H:=hA.base;obtain⟨A1,c1,sA⟩:=hA.slice;rw[ig] at sA;subst sA;by_cases N:k<q.length
  ·obtain⟨ad,vo,rfl,hV,hB,e0,e1⟩:=(h.1.grow H).mr ap pf N
   have jE:=(h.grow H).2 q[k] (bF vo);have vq:q.take (k+1)=q.take k++[q[k]]:=br vo;have HS:=Q vq;clear vq;generalize q[k]=b at jE e0 e1 HS;have hcp:=λw1(eD:Grow wr w1)=>t7 w1 V b (vY _ _ _ _ _ jE (dM.dK (V:=λ_=>False) eD) λ_ _ h=>h);obtain⟨⟨bk,ag,sh,sq,ep,ds,se,fr,tg⟩,Ab,cb⟩:=b;dsimp only[El.cells,En.agg] at e0 e1 hcp;have e3:=e1 2 _ rfl;have e4:=e1 3 _ rfl;have e5:=e1 4 _ rfl;have e1:=e1 0 _ rfl;have e0:=e0 _ rfl;have fu:=dT wr (.cells #[J bk,J ag,J sh,J sq,J ep,Z Ab ds.length cb,aX se,J fr,J tg] 40);have hcp:=hcp _ fu;clear jE;go_wp2_with fail;refine hcp.mono ?_;rintro e w1 ⟨A2,rfl,lA,eD⟩;go_wp2_with (at_builtin;refine stay ?_);refine dI ?_;refine G4 Gs vY jg pf Gq aj (.tmp 12) (.tmp 15) aj hA (fu.trans eD) ⟨⟨bk,ag,sh,sq,ep,ds,se,fr,tg⟩,A2,ds.length⟩ (jg _ _ _ _ lA λb hb=>⟨by have:=hb.1;simp at this;omega,hb.2⟩) ap aj aj ?_;intro v2 w2 qZ;go_wp2_with fail;go_roundw;case rel=>exact⟨k+1,q'++[⟨⟨bk,ag,sh,sq,ep,ds,se,fr,tg⟩,A2,ds.length⟩],by omega,by go_num,by simp[ig],qZ,by rw[bI,F7,HS.out,bI];rfl⟩
   case measure=>simp[intOf];omega
  ·obtain rfl:k=q.length:=by omega
   have hD:=hA.done jg;obtain⟨A3,c3,e3,L,h4,h5,h6,h7⟩:=hD;rw[ig] at e3 h5;injection e3 with e3 e4 e5;subst e3 e5;go_wp2_with fail;refine (DO wr A1 q.length c1 h5).mono ?_;rintro e w2 ⟨rfl,rfl⟩;go_wp2;go_ret;exact⟨Z A1 q.length q.length,rfl,⟨A1,q.length,q',by rw[ig],⟨L,h4⟩,by rw[F7,dq],by omega,by unfold dG;omega⟩,⟨A1,rfl⟩,h7⟩
open V
theorem ic(w:X)(u:K)(l:aT)(m:Nat)(h:eM l u w)(hl:l.length<=1099511627776)(hm:m<18446744073709551616):dz W 182 #[u,ae ah m] w λe O=>∃v,e=b5 v∧Grow w O∧eM (l++enc m) v O:=by obtain⟨A,n,c,rfl,hb,_⟩:=h;exact (Bt w A n c l hb (by rw[<-hb.len];exact hl) m hm).mono λ_ _ ⟨v,he,hO,H⟩=>⟨v,he,H,Own.isBytes hO⟩
theorem t8(w:X)(u:K)(l:aT)(s:aR)(h:eM l u w)(hl:l.length<=1099511627776)(hs:s.size<=1099511627776):dz W 240 #[u,aX s] w λe O=>∃v,e=b5 v∧Grow w O∧eM (l++enc s.size++s.data.toList) v O:=by obtain⟨A,n,c,rfl,hb,_⟩:=h;exact (xj w A n c l hb (by rw[<-hb.len];exact hl) s hs).mono λ_ _ ⟨v,he,hO,H⟩=>⟨v,he,H,Own.isBytes hO⟩
theorem ve(w:X):eM [] (Z none 0 0) w:=⟨none,0,0,rfl,Reads.nil,bh _,bo _⟩
def dB(d:Dl):List UInt8:=enc d.1.size++d.1.data.toList++enc d.2
def o7(l:List Dl):List UInt8:=l.flatMap dB
def Small(d:Dl):Prop:=d.1.size<=1000∧d.2<18446744073709551616
theorem Wd{d:Dl}(h:Small d):(dB d).length<=1020:=by have I:=eE (n:=d.1.size) (by have:=h.1;omega);have G:=eE h.2;have L:d.1.data.toList.length=d.1.size:=rfl;unfold dB;rw[bd,bd,L];have:=h.1;omega
theorem BU:∀(l:List Dl),(∀d∈l,Small d)->(o7 l).length<=l.length*1020
 | [],_=>by simp[o7]
 | d::l,h=>by
   have I:=BU l λx Y=>h x (by simp[Y]);have G:=Wd (h d (by simp));rw[show o7 (d::l)=dB d++o7 l from rfl,bd,bD];omega
theorem NW(l:List Dl)(d:Dl):o7 (l++[d])=o7 l++dB d:=by simp[o7]
theorem uE(w:X)(u:K)(l:aT)(V:aV)(A:aU)(n c:Nat)(ds:List Dl)(hu:eM l u w)(hl:l.length<=1048576)(hd:jM w V A n ds)(hn:n<=1048576)(hs:∀d∈ds,Small d):dz W 299 #[u,Z A n c] w λe O=>∃v,e=b5 v∧Grow w O∧eM (l++o7 ds) v O:=by
 have rA:=jM.len hd;go_in;go_wp2_with fail;go_loopw [0,9] (λv i wr=>∃k:Nat,k<=n∧i=J k∧eM (l++o7 (ds.take k)) v wr∧Grow w wr) (λ_ i _=>n-(intOf i).toNat);case atStart=>exact⟨0,by omega,rfl,by simpa [o7] using hu,Grow.refl _⟩
 case round=>
  obtain⟨k,oL,rfl,hB,gP⟩:=hrel;by_cases N:k<n
  ·obtain⟨ad,hq,rfl,f0,f1⟩:=kn (In.grow hd gP) N
   have e0:=f0 wr (Grow.refl _);have e1:=f1 wr (Grow.refl _);have vq:ds.take (k+1)=ds.take k++[ds[k]]:=br hq;have sB:=hs _ (bF hq);have HS:=Q vq;have Fe:=BU (ds.take k) λd hd=>hs d (bW hd);rw[bn,cz ap] at Fe;clear vq f0 f1;generalize ds[k]=y at e0 e1 sB HS;obtain⟨s,x⟩:=y;dsimp only[Small] at e0 e1 sB;have HL:=Q Fe;clear Fe;obtain⟨L0,Ml⟩:=az (l++o7 (ds.take k));rw[<-Ml.out] at hB;have QN:L0.length<=1099511627776:=by rw[Ml.out,bd];have:=HL.out;have:=cK 1020 (show k<=1048576 by omega);omega
   obtain⟨b,HBb⟩:=az ((wr:Nat));obtain⟨wa,HA⟩:=az (wr.alloc (.cells #[aX s,ae ah x] 147):X);have i4:=eJ.made wr 147 #[aX s,ae ah x];have fu:=dT wr (.cells #[aX s,ae ah x] 147);rw[<-HA.out] at i4 fu;rw[<-HBb.out] at i4;have hBa:=hB.below fu;go_wp2_with fail;rw[<-HA.out,<-HBb.out];have gd:Grow wa wa.drew:=(Grow.refl _).drew;have eA:eJ wa.drew b 147 #[aX s,ae ah x]:=i4.grow gd;refine dJ rfl ?_;refine gi (λw1=>eJ w1 b 147 #[aX s,ae ah x]) 8 rfl ?_;refine held 0 rfl eA (λw1 E R T=>by have c0:=E.cell 0;have c1:=E.cell 1;go_simp;exact T) ?_;refine held 1 rfl eA (λw1 E R T=>by have c0:=E.cell 0;have c1:=E.cell 1;go_simp;exact T) ?_;refine held 2 rfl eA (λw1 E R T=>by have c0:=E.cell 0;have c1:=E.cell 1;go_simp;exact T) ?_;refine held 4 rfl eA (λw1 E R T=>by have c0:=E.cell 0;have c1:=E.cell 1;go_simp;exact T) ?_;refine held 5 rfl eA (λw1 E R T=>by have c0:=E.cell 0;have c1:=E.cell 1;go_simp;exact T) ?_;refine dY 3 rfl ?_;go_wp2_with fail;refine (t8 _ _ L0 s (hBa.below gd) QN ap).mono ?_;rintro en u1 ⟨v16,rfl,eD,lU⟩;replace eD:=gd.trans eD;go_wp2_with fail;refine⟨i4.grow eD,?_⟩;refine dY 6 rfl ?_;go_wp2_with fail;refine (ic u1 v16 _ x lU (by have:s.data.toList.length=s.size:=rfl;have:=eE (n:=s.size) ap;simp only[bd];have:=Ml.out;rw[Ml.out,bd];have:=HL.out;have:=cK 1020 (show k<=1048576 by omega);omega) sB.2).mono ?_;rintro en w1 ⟨v19,rfl,H,hE⟩;replace H:=eD.trans H;go_wp2_with fail;refine⟨i4.grow H,?_⟩;refine held 7 rfl (i4.grow H) (λw1 E=>aM) ?_;refine eU ?_;have Ff:eM (l++o7 (ds.take (k+1))) v19 w1:=by rw[HS.out,NW,<-bp,<-Ml.out];show eM (L0++(enc s.size++s.data.toList++enc x)) v19 w1;rw[<-bp,<-bp];exact hE
   go_wp2_with fail;go_roundw;case rel=>exact⟨k+1,by omega,by go_num,Ff,gP.trans (fu.trans H)⟩
   case measure=>simp[intOf];omega
  ·obtain rfl:k=n:=by omega
   rw[bH ap] at hB;go_wp2;go_ret;exact⟨_,rfl,gP,hB⟩
end Go.Proofs.YtpeepcmdehhbgaaGreatDoor
