/- Mg5, Mg7. -/
import Derived.Test.YtpeepcmdehhbgaaGreatDoorJs28
set_option linter.all false
set_option maxRecDepth 100000
set_option maxHeartbeats 2000000
open Go.Value renaming int->ae,slice->Z,string->aX,bool->aY,agg->aZ,tuple->a_
open Go.Ending renaming returned->b5
open Go.IntKind renaming i64->af,u64->ah
open Go (J az aE aA aB aC aD ay aj am ap aw aL aK aJ aI aH aV aU aT aR aQ aP aO aN)
open Go.Proofs.Tryz renaming prog->W
open Go.Lib renaming hid->Q
open List renaming length_append->bd,length_singleton->bv,map_congr_left->cO
open Nat renaming le_refl->bh,zero_le->bo,lt_of_lt_of_le->bw,le_trans->bB
open Go renaming Value->K,World->X,Calls->dz,maxLen->dG
variable{n:Nat}
namespace Go.Proofs.YtpeepcmdehhbgaaGreatDoor
open RowKit Hop
theorem zm(w:X)(m:Nat)(q:abk.Sm)(fQ:List (Int×K))(kA:List (Key×Pl))(e:En)(A:aU)(c:Nat)(D V:aV)(hV:∀b,V b->b<(w:Nat))(gC:e.Ok)(N:e.k=1)(hd:jM w D A e.ds.length e.ds)(j6:∀b,D b->b<(w:Nat))(kV:∀b,D b->¬ V b)(F:Int)(M:Nat)(B:aN)(kY:gW kA (e.ag,e.sh)=⟨F,M,B⟩)(K7:B.length<=1048576)(hI:abq.jW F M)(pi:-9223372036854775808<=e.sq∧e.sq<=9223372036854775807)(zb:abq.seen F M e.sq=false)(Ov:∃x:Int,(uk fQ e.ag).getD (J 0)=J x∧e.ep<x)(h:i8 m q fQ kA w V):dz W 111 #[m,aZ (e.agg A c)] w λen O=>en=b5 (a_ #[J 4,ae ah 0])∧i8 m q fQ kA O (iY V w O)∧dM V w O:=by
 have Sk:∀(vs:aP)(w:X),(callFunc 175 vs).run W w=.ok (.enter 175 vs) w:=λvs w=>by go_simp
 have gl:=dT w (.cells (e.agg A c) 40);have gU:=eJ.made w 40 (e.agg A c);obtain⟨y,HY⟩:=az ((w:Nat):Nat);obtain⟨wa,lZ⟩:=az (w.alloc (.cells (e.agg A c) 40):X);rw[<-lZ.out] at gl gU;rw[<-HY.out] at gU;have m6:=ju wa e D A c gC (In.grow hd gl);unfold En.agg at lZ m6 gU ⊢;have ip:(e.k == 2)=false:=by rw[N];rfl
 clear N;go_in;go_wp2_with fail;rw[<-lZ.out,<-HY.out];refine m6.mono ?_;rintro en wb ⟨rfl,mK⟩;have rL:=gU.grow mK;have y0:=rL.cell 0;have y1:=rL.cell 1;have y2:=rL.cell 2;have Jh:=tA wb m q fQ kA V (λb hb=>bw (hV b hb) (gl.trans mK).size) e.ag e.sh (i8.framed m q fQ kA w wb V h λb hb=>(gl.trans mK).block b (hV b hb));rw[kY] at Jh;clear h;go_wp2_with fail;clear y0 y1 y2;refine Jh.mono ?_;rintro en w0 ⟨s,bE,bS,p,g,v,gO,R,rfl,hO,pO,U,uY,hU⟩;have T:=hO.framed;obtain⟨UB,Ji,_⟩:=(dN.pick _ 6 _ rfl uY).fst;obtain⟨Ab,cb,rfl,zF,_,_⟩:=Own.reads (show Own w0 UB 2 1 v B.length (lI B) from Ji);obtain⟨nb,QD⟩:∃nb:Nat,Hid (B.length=nb):=⟨_,Q rfl⟩;rw[QD.out] at uY zF K7;clear Ji;have tT:Grow w w0:=(gl.trans mK).trans pO;have Qg:(w:Nat)<=y∧y<(wb:Nat):=by have:=HY.out;have:=rL.lt;omega
 have Sl:=pO.size;have k_:∀b,New wb w0 b->(w:Nat)<=b:=λb hb=>by have:=hb.1;have:=(gl.trans mK).size;omega
 have hF:=fE m s bE bS p g (Z Ab nb cb) q fQ gO F M B T;have rj:=hF.cons (Cell.framed y 40 (e,A,c));have fN:Solo (nU V w) (dN (Cell y 40 (e,A,c)::gJ m s bE bS p g (Z Ab nb cb) q fQ gO F M B R)) w0:=
  Solo.D3 (U:=λb=>b=y) (λb hb => .inr ap) uY (λb hb=>(hU b hb).elim (λh=>⟨.inl h,by have:=hV b h;omega⟩) (λh=>⟨.inr (k_ b h),h.2⟩)) ⟨rfl,rL.grow pO⟩
   (λb hb=>by rw[hb];exact⟨.inr Qg.1,by omega,λh=>(hU y h).elim (λh=>by have:=hV y h;omega) (λh=>by have:=h.1;omega)⟩)
 have J0:=dM.dK (V:=nU V w) tT;have Iz:=fN.blk 0 rfl;have sx:=fN.blk 5 rfl;have xW:=fN.blk 6 rfl;have Jj:∀w1,Grow w0 w1->dz W 175 #[g,J e.sq] w1 λen O=>en=b5 (aY false)∧Grow w1 O:=λw1 H=>by have h:=abq.ol w1 g F M e.sq (xW.grow H) hI pi;rw[zb] at h;exact h
 clear zF;go_wp2_with fail;have c0:=λw1(H:Grow _ w1)=>(sx.grow H).cell 0;have c1:=λw1(H:Grow _ w1)=>(Iz.grow H).cell 3;refine fh ?_;intro w1 H;clear c0 c1;have vi:=H;have ej:=fN.grows rj vi;have K2:=sx.grow vi;have Fq:=Iz.grow vi;go_wp2_with fail;have c0:=λw2(H:Grow _ w2)=>(K2.grow H).cell 0;have c1:=λw2(H:Grow _ w2)=>(Fq.grow H).cell 3;have c2:=λw2(H:Grow _ w2)=>Jj w2 (vi.trans H);refine fh ?_;intro w2 H;clear c0 c1 c2;have Ou:=H;have dV:=ej.grows rj Ou;obtain⟨x,Y,hxe⟩:=Ov;have Cv:∀w1,Grow w2 w1->(Instr.lookup 135 (.map (some bE)) (J e.ag) false).run W w1=.ok (J x) w1:=λw1 H=>by obtain⟨U3,hG3,_⟩:=(dV.grows rj H).see 3 rfl;have h:=eI.look Oe (t:=135) (et:=2) aw (zI w1) hG3 e.ag false;rw[aB am,Y] at h;exact h
 have zE:=dV.blk 1 rfl;have K6:=dV.blk 0 rfl;go_wp2_with fail;have c0:=λw3(H:Grow _ w3)=>(K6.grow H).cell 4;have c1:=λw3(H:Grow _ w3)=>(zE.grow H).cell 1;have c2:=λw3(H:Grow _ w3)=>(K6.grow H).cell 1;refine fh ?_;intro w3 H;clear c0 c1 c2;have UL:=H;have dX:=dV.grows rj UL;go_wp2;go_ret2;obtain⟨r1,r2⟩:=Solo.done (l:=gJ m s bE bS p g (Z Ab nb cb) q fQ gO F M B R) (dX.drop1) (((J0.trans (dM.dK vi)).trans (dM.dK Ou)).trans (dM.dK UL)) hV;exact⟨rfl,mT hO r1,r2⟩
theorem GN(w:X)(m:Nat)(q:abk.Sm)(fQ:List (Int×K))(kA:List (Key×Pl))(e:En)(A:aU)(c:Nat)(D V:aV)(hV:∀b,V b->b<(w:Nat))(gC:e.Ok)(N:e.k=1)(hd:jM w D A e.ds.length e.ds)(j6:∀b,D b->b<(w:Nat))(kV:∀b,D b->¬ V b)(F:Int)(M:Nat)(B:aN)(kY:gW kA (e.ag,e.sh)=⟨F,M,B⟩)(K7:B.length<=1048576)(hI:abq.jW F M)(pi:-9223372036854775808<=e.sq∧e.sq<=9223372036854775807)(zb:abq.seen F M e.sq=false)(Ov:∃x:Int,(uk fQ e.ag).getD (J 0)=J x∧x<=e.ep)(QM:abq.far F e.sq=true)(h:i8 m q fQ kA w V):dz W 111 #[m,aZ (e.agg A c)] w λen O=>en=b5 (a_ #[J 5,ae ah 0])∧i8 m q (l9 fQ e.ag (J e.ep)) kA O (iY V w O)∧dM V w O:=by
 have Sk:∀(vs:aP)(w:X),(callFunc 175 vs).run W w=.ok (.enter 175 vs) w:=λvs w=>by go_simp
 have a4B:∀(vs:aP)(w:X),(callFunc 177 vs).run W w=.ok (.enter 177 vs) w:=λvs w=>by go_simp
 have gl:=dT w (.cells (e.agg A c) 40);have gU:=eJ.made w 40 (e.agg A c);obtain⟨y,HY⟩:=az ((w:Nat):Nat);obtain⟨wa,lZ⟩:=az (w.alloc (.cells (e.agg A c) 40):X);rw[<-lZ.out] at gl gU;rw[<-HY.out] at gU;have m6:=ju wa e D A c gC (In.grow hd gl);unfold En.agg at lZ m6 gU ⊢;have ip:(e.k == 2)=false:=by rw[N];rfl
 clear N;go_in;go_wp2_with fail;rw[<-lZ.out,<-HY.out];refine m6.mono ?_;rintro en wb ⟨rfl,mK⟩;have rL:=gU.grow mK;have y0:=rL.cell 0;have y1:=rL.cell 1;have y2:=rL.cell 2;have Jh:=tA wb m q fQ kA V (λb hb=>bw (hV b hb) (gl.trans mK).size) e.ag e.sh (i8.framed m q fQ kA w wb V h λb hb=>(gl.trans mK).block b (hV b hb));rw[kY] at Jh;clear h;go_wp2_with fail;clear y0 y1 y2;refine Jh.mono ?_;rintro en w0 ⟨s,bE,bS,p,g,v,gO,R,rfl,hO,pO,U,uY,hU⟩;have T:=hO.framed;obtain⟨UB,Ji,_⟩:=(dN.pick _ 6 _ rfl uY).fst;obtain⟨Ab,cb,rfl,zF,_,_⟩:=Own.reads (show Own w0 UB 2 1 v B.length (lI B) from Ji);obtain⟨nb,QD⟩:∃nb:Nat,Hid (B.length=nb):=⟨_,Q rfl⟩;rw[QD.out] at uY zF K7;clear Ji;have tT:Grow w w0:=(gl.trans mK).trans pO;have Qg:(w:Nat)<=y∧y<(wb:Nat):=by have:=HY.out;have:=rL.lt;omega
 have Sl:=pO.size;have k_:∀b,New wb w0 b->(w:Nat)<=b:=λb hb=>by have:=hb.1;have:=(gl.trans mK).size;omega
 have hF:=fE m s bE bS p g (Z Ab nb cb) q fQ gO F M B T;have rj:=hF.cons (Cell.framed y 40 (e,A,c));have fN:Solo (nU V w) (dN (Cell y 40 (e,A,c)::gJ m s bE bS p g (Z Ab nb cb) q fQ gO F M B R)) w0:=
  Solo.D3 (U:=λb=>b=y) (λb hb => .inr ap) uY (λb hb=>(hU b hb).elim (λh=>⟨.inl h,by have:=hV b h;omega⟩) (λh=>⟨.inr (k_ b h),h.2⟩)) ⟨rfl,rL.grow pO⟩
   (λb hb=>by rw[hb];exact⟨.inr Qg.1,by omega,λh=>(hU y h).elim (λh=>by have:=hV y h;omega) (λh=>by have:=h.1;omega)⟩)
 have J0:=dM.dK (V:=nU V w) tT;have Iz:=fN.blk 0 rfl;have sx:=fN.blk 5 rfl;have xW:=fN.blk 6 rfl;have Jj:∀w1,Grow w0 w1->dz W 175 #[g,J e.sq] w1 λen O=>en=b5 (aY false)∧Grow w1 O:=λw1 H=>by have h:=abq.ol w1 g F M e.sq (xW.grow H) hI pi;rw[zb] at h;exact h
 clear zF;go_wp2_with fail;have c0:=λw1(H:Grow _ w1)=>(sx.grow H).cell 0;have c1:=λw1(H:Grow _ w1)=>(Iz.grow H).cell 3;refine fh ?_;intro w1 H;clear c0 c1;have vi:=H;have ej:=fN.grows rj vi;have K2:=sx.grow vi;have Fq:=Iz.grow vi;go_wp2_with fail;have c0:=λw2(H:Grow _ w2)=>(K2.grow H).cell 0;have c1:=λw2(H:Grow _ w2)=>(Fq.grow H).cell 3;have c2:=λw2(H:Grow _ w2)=>Jj w2 (vi.trans H);refine fh ?_;intro w2 H;clear c0 c1 c2;have Ou:=H;have dV:=ej.grows rj Ou;obtain⟨x,Y,hxe⟩:=Ov;have TY:decide (e.ep<x)=false:=aD ap;have Cv:∀w1,Grow w2 w1->(Instr.lookup 135 (.map (some bE)) (J e.ag) false).run W w1=.ok (J x) w1:=λw1 H=>by obtain⟨U3,hG3,_⟩:=(dV.grows rj H).see 3 rfl;have h:=eI.look Oe (t:=135) (et:=2) aw (zI w1) hG3 e.ag false;rw[aB am,Y] at h;exact h
 have zE:=dV.blk 1 rfl;have K6:=dV.blk 0 rfl;go_wp2_with fail;have c0:=λw3(H:Grow _ w3)=>(K6.grow H).cell 4;have c1:=λw3(H:Grow _ w3)=>(zE.grow H).cell 1;have c2:=λw3(H:Grow _ w3)=>(K6.grow H).cell 1;refine fh ?_;intro w3 H;clear c0 c1 c2;have UL:=H;have dX:=dV.grows rj UL;have R4:=dX.blk 1 rfl;have Wz:=dX.blk 0 rfl;clear Cv;go_wp2_with fail;have c0:=λw4(H:Grow _ w4)=>(R4.grow H).cell 1;have c1:=λw4(H:Grow _ w4)=>(Wz.grow H).cell 1;have c2:=λw4(H:Grow _ w4)=>(Wz.grow H).cell 4;refine jo 9 λw4 H=>?_;clear c0 c1 c2;have hgH:=H;have eO:=dX.grows rj hgH;obtain⟨w5,eR,eF,ra⟩:=eO.R3 (φ:=λO=>(Instr.mapUpdate 135 (.map (some bE)) (J e.ag) (J e.ep)).run W w4=.ok () O) 3 rfl rj (λU hU jR=>by obtain⟨O,I,G,L⟩:=eI.put Oe (t:=135) (et:=2) aw hU e.ag (J e.ep);exact⟨O,I,G,L.imp λb hb=>hb▸hU.1⟩)
 obtain⟨tB,HE⟩:=az (l9 fQ e.ag (J e.ep):List (Int×K));rw[<-HE.out] at eF;have eF:Solo (nU V w) (dN (Cell y 40 (e,A,c)::gJ m s bE bS p g (Z Ab nb cb) q tB gO F M B R)) w5:=eF;have Oo:=(fE m s bE bS p g (Z Ab nb cb) q tB gO F M B T).cons (Cell.framed y 40 (e,A,c));have J5:dM (nU V w) w w5:=((((J0.trans (dM.dK vi)).trans (dM.dK Ou)).trans (dM.dK UL)).trans (dM.dK hgH)).trans ra;clear R4 zE K6 Wz sx Iz xW K2 Fq;have hp5:=eF.blk 5 rfl;have YE:=eF.blk 0 rfl;have ng:=eF.blk 6 rfl;have hFr:∀w1,Grow w5 w1->dz W 177 #[g,J e.sq] w1 λen O=>en=b5 (aY true)∧Grow w1 O:=λw1 H=>by have h:=abq.rO w1 g F M e.sq _ (ng.grow H) ⟨by have:=hI.lo;omega,hI.hi⟩ pi QM;exact h.mono λ_ _ ⟨I,G⟩=>⟨I,G▸Grow.refl _⟩
 go_wp2_with fail;clear eR;have c0:=λw6(H:Grow _ w6)=>(hp5.grow H).cell 0;have c1:=λw6(H:Grow _ w6)=>(YE.grow H).cell 3;refine fh ?_;intro w6 H;clear c0 c1;have hgI:=H;have eN:=eF.grows Oo hgI;go_wp2;go_ret2;obtain⟨r1,r2⟩:=Solo.done (l:=gJ m s bE bS p g (Z Ab nb cb) q tB gO F M B R) (eN.drop1) (J5.trans (dM.dK hgI)) hV;rw[<-HE.out];exact⟨rfl,mT hO r1,r2⟩
theorem Eb(w:X)(m:Nat)(q:abk.Sm)(fQ:List (Int×K))(kA:List (Key×Pl))(e:En)(A:aU)(c:Nat)(D V:aV)(hV:∀b,V b->b<(w:Nat))(gC:e.Ok)(N:e.k=2)(zb:e.se.size<=dG)(hd:jM w D A e.ds.length e.ds)(h:i8 m q fQ kA w V):dz W 111 #[m,aZ (e.agg A c)] w λen O=>en=b5 (a_ #[J 8,ae ah ((abk.gt q e.se:Nat):Int)])∧i8 m q fQ kA O (iY V w O)∧dM V w O:=by
 have k173:∀(vs:aP)(w:X),(callFunc 173 vs).run W w=.ok (.enter 173 vs) w:=λvs w=>by go_simp
 have gl:=dT w (.cells (e.agg A c) 40);have gU:=eJ.made w 40 (e.agg A c);obtain⟨y,HY⟩:=az ((w:Nat):Nat);obtain⟨wa,lZ⟩:=az (w.alloc (.cells (e.agg A c) 40):X);rw[<-lZ.out] at gl gU;rw[<-HY.out] at gU;have m6:=ju wa e D A c gC (In.grow hd gl);unfold En.agg at lZ m6 gU ⊢;have ip:(e.k == 2)=true:=by rw[N];rfl
 obtain⟨abp,HN⟩:=az (abk.gt q e.se:Nat);have hF:=i8.framed m q fQ kA;have h0:=h;obtain⟨s,bE,bS,abn,rfl,h⟩:=h;obtain⟨U0,su,hU0⟩:=(dN.pick _ 0 _ rfl h).fst;obtain⟨U1,hs0,YF⟩:=(dN.pick _ 1 _ rfl h).fst;have Wy:=su.2;clear N h;go_in;go_wp2_with fail;rw[<-lZ.out,<-HY.out];refine m6.mono ?_;rintro en wb ⟨rfl,mK⟩;have rL:=gU.grow mK;have hmb:=Wy.grow (gl.trans mK);have hGet:∀w1,Grow wb w1->dz W 173 #[s,aX e.se] w1 λen O=>en=b5 (ae ah abp)∧Grow w1 O:=λw1 H=>by have I:=abk.qG w1 s q U1 (abk.gT.framed s q w w1 U1 hs0 λb hb=>((gl.trans mK).trans H).block b (hV b (YF b hb))) e.se zb;rw[<-HN.out] at I;exact I.mono λ_ _ ⟨a,b⟩=>⟨a,b▸Grow.refl _⟩
 have y0:=rL.cell 0;go_wp2_with fail;clear y0;have c0:=λw1(H:Grow _ w1)=>(hmb.grow H).cell 0;have c1:=λw1(H:Grow _ w1)=>(rL.grow H).cell 6;refine fh ?_;intro w1 H;clear c0 c1;go_wp2;go_ret2;have QQ:=(gl.trans mK).trans H;rw[<-HN.out];exact⟨rfl,(hF w w1 V h0 λb hb=>QQ.block b (hV b hb)).elim λs h=>i8.wide m q fQ (oA abn) w1 V _ (λb hb => .inl hb) ⟨s,h⟩,dM.dK QQ⟩
def Fs(l:List (Int×Int)):List (Int×K):=l.map λa=>(a.1,J a.2)
def Ec(l:List (Int×Int))(k:Int):Int:=((l.find? λa=>decide (a.1=k)).map (·.2)).getD 0
def tC(l:List (Int×Int))(k n:Int):List (Int×Int):=if k∈l.map Prod.fst then l.map (λa=>if a.1=k then (k,n) else a) else l++[(k,n)]
theorem Jk(l:List (Int×Int))(k:Int):(uk (Fs l) k).getD (J 0)=J (Ec l k):=by unfold uk Fs Ec;rw[List.find?_map];show Option.getD (Option.map _ (Option.map _ (l.find? λa=>decide (a.1=k)))) _=_;cases l.find? λa=>decide (a.1=k)<;>rfl
theorem wk(l:List (Int×Int))(k n:Int):l9 (Fs l) k (J n)=Fs (tC l k n):=by
 unfold l9 tC Fs;have e:(l.map λa=>((a.1,Value.int .i64 a.2):Int×K)).map Prod.fst=l.map Prod.fst:=by simp
 rw[e];by_cases h:k∈l.map Prod.fst
 ·rw[aA h,aA h,List.map_map,List.map_map]
  refine cO λa _=>?_;by_cases G:a.1=k<;>simp[G]
 ·rw[aB h,aB h]
  simp
structure j4 where
 q:abk.Sm
 fQ:List (Int×Int)
 pl:List (Key×Pl)
def j4.new:j4:=⟨[],[],[]⟩
def j4.at_(x:j4)(e:En):Pl:=gW x.pl (e.ag,e.sh)
def ei(x:j4)(e:En):Int×Nat×j4:=
 if e.k=2 then (8,abk.gt x.q e.se,x) else
 if abq.seen (x.at_ e).F (x.at_ e).M e.sq then (if e.sq∈(x.at_ e).B then (3,0,x) else (2,0,x)) else
 if e.ep<Ec x.fQ e.ag then (4,0,x) else
 if abq.far (x.at_ e).F e.sq then (5,0,⟨x.q,tC x.fQ e.ag e.ep,x.pl⟩) else
 if abk.iV x.q e.ds=0 then (1,0,⟨abk.nj x.q e.ds,tC x.fQ e.ag e.ep,i_ x.pl (e.ag,e.sh) ⟨(abq.ij (x.at_ e).F (x.at_ e).M e.sq).1,(abq.ij (x.at_ e).F (x.at_ e).M e.sq).2,(x.at_ e).B⟩⟩) else
 if (x.at_ e).B.length<8 then (3,0,⟨x.q,tC x.fQ e.ag e.ep,i_ x.pl (e.ag,e.sh) ⟨(abq.ij (x.at_ e).F (x.at_ e).M e.sq).1,(abq.ij (x.at_ e).F (x.at_ e).M e.sq).2,pB ((x.at_ e).B++[e.sq])⟩⟩) else
 (5,0,⟨x.q,tC x.fQ e.ag e.ep,x.pl⟩)
def gR(m:Nat)(x:j4):dW:=i8 m x.q (Fs x.fQ) x.pl
theorem gR.framed(m:Nat)(x:j4):eu (gR m x):=i8.framed _ _ _ _
theorem gR.wide(m:Nat)(x:j4):C_ (gR m x):=i8.wide _ _ _ _
structure AL(n:Nat)(x:j4):Prop where
 q:x.q.length<=n
 win:∀k,abq.jW (gW x.pl k).F (gW x.pl k).M
 bad:∀k,(gW x.pl k).B.length<=8
theorem AL.new:AL 0 j4.new:=⟨bh _,λk=>abq.jW.none,λk=>bo _⟩
theorem AL.more{n':Nat}{x:j4}(h:AL n x)(hn:n<=n'):AL n' x:=⟨bB h.q hn,h.win,h.bad⟩
theorem AL.put{x:j4}(h:AL n x){q:abk.Sm}{fQ:List (Int×Int)}(k:Key)(y:Pl)(hq:q.length<=n)(hw:abq.jW y.F y.M)(hb:y.B.length<=8):AL n ⟨q,fQ,i_ x.pl k y⟩:=
 ⟨hq,λk'=>by
  show abq.jW (gW (i_ x.pl k y) k').F (gW (i_ x.pl k y) k').M;rw[AJ];split;·exact hw
  ·exact h.win k',λk'=>by
  show (gW (i_ x.pl k y) k').B.length<=8;rw[AJ];split;·exact hb
  ·exact h.bad k'⟩
theorem Ow(q:abk.Sm)(l:List Dl):(abk.nj q l).length<=q.length+l.length:=by
 unfold abk.nj;split;·exact abk.nA l q
 ·omega
theorem AL.step{x:j4}(h:AL n x)(e:En)(pi:e.sq<=9223372036854775807):AL (n+e.ds.length) (ei x e).2.2:=by
 have h':AL (n+e.ds.length) x:=h.more ap;have hw:=(h.win (e.ag,e.sh)).add pi;have hb:=h.bad (e.ag,e.sh);unfold ei;split;·exact h'
 split;·split<;>exact h'
 split;·exact h'
 split;·exact⟨h'.q,h'.win,h'.bad⟩
 split;·exact h'.put _ _ (bB (Ow _ _) (by have:=h.q;omega)) hw hb
 split
 ·rename_i h8
  exact h'.put _ _ h'.q hw (by rw[o_,bd,bv];omega)
 ·exact⟨h'.q,h'.win,h'.bad⟩
theorem Lk{e:En}(gC:e.Ok)(N:e.k≠2):e.k=1∧(∀d∈e.ds,d.1.size<=dG∧d.2<=abk.o6)∧e.ds.length<=1048576 ∧ -9223372036854775808<=e.sq∧e.sq<=9223372036854775807:=by
 rcases gC.2 with h|h
 ·refine⟨h.1,?_⟩
  obtain⟨_,_,_,_,h5,_,h7,h8⟩:=h;exact⟨λd hd=>by obtain⟨_,b,_,s⟩:=h8 d hd;exact⟨by unfold dG;omega,by unfold abk.o6;omega⟩,by omega,by omega,by omega⟩
 ·exact absurd h.1 N
theorem Ll(w:X)(m:Nat)(x:j4)(n:Nat)(e:En)(A:aU)(c:Nat)(D V:aV)(hV:∀b,V b->b<(w:Nat))(gC:e.Ok)(zb:e.se.size<=dG)(hd:jM w D A e.ds.length e.ds)(j6:∀b,D b->b<(w:Nat))(kV:∀b,D b->¬ V b)(Y:AL n x)(hn:n<=1048576)(h:gR m x w V):dz W 111 #[m,aZ (e.agg A c)] w λen O=>en=b5 (a_ #[J (ei x e).1,ae ah ((ei x e).2.1:Nat)])∧gR m (ei x e).2.2 O (iY V w O)∧dM V w O:=by
 obtain⟨q,fQ,pl⟩:=x;have hh:i8 m q (Fs fQ) pl w V:=h;by_cases N:e.k=2
 ·have es:ei ⟨q,fQ,pl⟩ e=(8,abk.gt q e.se,⟨q,fQ,pl⟩):=by unfold ei;rw[aA N]
  rw[es];exact Eb w m q (Fs fQ) pl e A c D V hV gC N zb hd hh
 obtain⟨iP,iZ,oK,pi⟩:=Lk gC N;have hI:abq.jW (gW pl (e.ag,e.sh)).F (gW pl (e.ag,e.sh)).M:=Y.win _;have K7:(gW pl (e.ag,e.sh)).B.length<=8:=Y.bad _;have hq:q.length<=1048576:=bB Y.q hn;have eat:(⟨q,fQ,pl⟩:j4).at_ e=gW pl (e.ag,e.sh):=rfl;unfold ei;rw[aB N,eat];generalize kY:gW pl (e.ag,e.sh)=p at hI K7;obtain⟨F,M,B⟩:=p;dsimp only at hI K7 ⊢;have ky:B.length<=1048576:=by omega
 cases GQ:abq.seen F M e.sq with
 | true=>
   rw[aA rfl];by_cases hb:e.sq∈B
   ·rw[aA hb]
    exact Ea w m q (Fs fQ) pl e A c D V hV gC iP hd j6 kV F M B kY ky hI pi GQ hb hh
   ·rw[aB hb]
    exact GM w m q (Fs fQ) pl e A c D V hV gC iP hd j6 kV F M B kY ky hI pi GQ hb hh
 | false=>
   rw[aB am];by_cases hf:e.ep<Ec fQ e.ag
   ·rw[aA hf]
    exact zm w m q (Fs fQ) pl e A c D V hV gC iP hd j6 kV F M B kY ky hI pi GQ ⟨_,Jk fQ e.ag,hf⟩ hh
   rw[aB hf];have Ov:∃x:Int,(uk (Fs fQ) e.ag).getD (J 0)=J x∧x<=e.ep:=⟨_,Jk fQ e.ag,by omega⟩;cases QM:abq.far F e.sq with
   | true=>
     rw[aA rfl];have I:=GN w m q (Fs fQ) pl e A c D V hV gC iP hd j6 kV F M B kY ky hI pi GQ Ov QM hh;rw[wk] at I;exact I
   | false=>
     rw[aB am];by_cases hm:abk.iV q e.ds=0
     ·rw[aA hm]
      have I:=pk w m q (Fs fQ) pl e A c D V hV gC iP hd j6 kV F M B kY ky hI pi GQ Ov QM 1 (abk.nj q e.ds) true (abq.ij F M e.sq).1 (abq.ij F M e.sq).2 B (λh=>by cases h)
       (λw6 s bE bS p g Ab nb cb gO R U K4 T hM hU Yi hD6 hDU=>(GJ w6 m s bE bS p g Ab nb cb q _ gO F M B R T e A c D U hM hU Yi hD6 hDU iZ oK hq hI pi hm).mono λen O ⟨a,b,c⟩=>⟨a,⟨_,b⟩,c⟩) hh
      rw[wk] at I;exact I
     rw[aB hm];by_cases h8:B.length<8
     ·rw[aA h8]
      have I:=pk w m q (Fs fQ) pl e A c D V hV gC iP hd j6 kV F M B kY ky hI pi GQ Ov QM 3 q true (abq.ij F M e.sq).1 (abq.ij F M e.sq).2 (pB (B++[e.sq])) (λh=>by cases h)
       (λw6 s bE bS p g Ab nb cb gO R U K4 T hM hU Yi hD6 hDU=>GL w6 m s bE bS p g Ab nb cb q _ gO F M B R T e A c D U hM hU Yi hD6 hDU iZ oK hq hI pi hm ap K4) hh
      rw[wk] at I;exact I
     ·rw[aB h8]
      have I:=pk w m q (Fs fQ) pl e A c D V hV gC iP hd j6 kV F M B kY ky hI pi GQ Ov QM 5 q false F M B (λ_=>⟨rfl,rfl,rfl⟩)
       (λw6 s bE bS p g Ab nb cb gO R U K4 T hM hU Yi hD6 hDU=>(E9 w6 m s bE bS p g Ab nb cb q _ gO F M B R T e A c D U hM hU Yi hD6 hDU iZ oK hq hI pi hm ap).mono λen O ⟨a,b,c⟩=>⟨a,⟨_,b⟩,c⟩) hh
      rw[wk] at I;exact I
end Go.Proofs.YtpeepcmdehhbgaaGreatDoor
