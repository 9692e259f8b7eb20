/- Sy4, Cl1, Cl2, Cl3, Cl4, Cl5, Cl6, Cl7. -/
import Derived.Test.YtpeepcmdehhbgaaGreatDoorJs60
set_option linter.all false
set_option maxRecDepth 100000
open Go.Value renaming int->ae,slice->Z,string->aX,bool->aY,agg->aZ,tuple->a_
open Go.Ending renaming returned->b5
open Go.IntKind renaming i64->af,u64->ah
open Go (J az aE aA aB aC aD ay aj am ap aw aL aK aJ aI aH aV aU aT aR aQ aP aO aN)
open Go.Proofs.Tryz renaming prog->W,underlying77->bX
open Go.Lib renaming hid->Q
open List renaming length_append->bd,perm_append_comm->bg,length_map->bj,eq_nil_of_length_eq_zero->bu,map_append->bI,drop_eq_getElem_cons->bP,nil_append->ch,drop_eq_nil_of_le->cR
open Nat renaming le_of_ble_eq_true->bf,le_refl->bh,zero_le->bo,lt_of_lt_of_le->bw,le_trans->bB,eq_zero_or_pos->b_,zero_add->cJ
open Go renaming Value->K,World->X,Calls->dz,Addr->dA
open Go.Hop (Bl)
variable{w w0:X}{M i s abq nr na abn:Nat}{V:aV}{l:List Bl}
namespace Go.Proofs.YtpeepcmdehhbgaaGreatDoor
open RowKit Hop V
set_option maxRecDepth 100000
set_option maxHeartbeats 1000000
theorem JK(w:X)(A A2:aU)(c c2:Nat)(l m:List I3)(D D2:aV)(hI:In w D 3 A l.length (fG l))(It:In w D2 3 A2 m.length (fG m))(hn:l.length+m.length<=1048576):dz W 103 #[Z A l.length c,Z A2 m.length c2] w λe O=>∃A3,e=b5 (Z A3 (PQ (l++m)).length (PQ (l++m)).length)∧In O (λb=>(w:Nat)<=b∧b<(O:Nat)) 3 A3 (PQ (l++m)).length (fG (PQ (l++m)))∧Grow w O:=by have ga:=dT w (.cells #[Z A l.length c,Z A2 m.length c2] 81);have hC:=E6 (w.alloc (.cells #[Z A l.length c,Z A2 m.length c2] 81)) (w:Nat) A A2 c c2 l m (eJ.made w _ _) D D2 (hI.grow ga) (It.grow ga) hn;obtain⟨n,HN⟩:=az (l.length:Nat);obtain⟨k,HK⟩:=az (m.length:Nat);obtain⟨lm,HLM⟩:=az (l++m);rw[<-HLM.out];obtain⟨u,HU⟩:=az (PQ lm);rw[<-HU.out];rw[<-HN.out,<-HK.out] at hC ga ⊢;rw[<-HN.out,<-HK.out] at hn;go_in;go_wp2_with fail;refine hC.mono ?_;rintro e w1 ⟨v1,rfl,T,eD⟩;have a1Y:=ga.trans eD;have T:=T.mono (V':=λb=>(w:Nat)<=b∧b<(w1:Nat)) λb hb=>⟨bB ga.size hb.1,hb.2⟩;rw[show fG l++fG m=fG lm by rw[HLM.out];simp[fG],show n+k=lm.length by rw[HLM.out,bd,HN.out,HK.out]] at T;have hS:=KZ w1 _ v1 lm T (by rw[HLM.out,bd,<-HN.out,<-HK.out];omega);go_wp2_with fail;refine hS.mono ?_;rintro e w2 ⟨rfl,l2,hp,hs,gS,k7⟩;have uw:Grow w w2:=Below.trans a1Y (k7.below (B:=(w:Nat)) (λb hb=>hb.1) a1Y.size);have Be:l2.length=lm.length:=hp.length_eq;have hK:=C0 w2 _ v1 l2 gS (by rw[Be,HLM.out,bd,<-HN.out,<-HK.out];omega);rw[XE hp (List.pairwise_iff_getElem.2 λi j hi hj wJ=>hs i j hi hj wJ)] at hK;clear Be;rw[<-HU.out] at hK;have iZ:=k7.size;go_wp2_with fail;refine hK.mono ?_;rintro e w3 ⟨v3,rfl,jN,mz⟩;have a5C:Grow w w3:=Below.trans uw (mz.below (B:=(w:Nat)) (λb hb=>hb.1) uw.size);obtain⟨A3,c3,rfl,Qy,sy,R4⟩:=jN.jL;have hP:=L3 w3 A3 u.length c3 sy;go_wp2_with fail;refine hP.mono ?_;rintro e w4 ⟨rfl,rfl⟩;go_wp2;go_ret;exact⟨A3,rfl,Qy.mono λb hb=>⟨hb.1,bw hb.2 (bB iZ mz.size)⟩,a5C⟩
def qz(v:K)(l:List I3):dW:=λw U=>∃A c,v=Z A l.length c∧In w U 3 A l.length (fG l)
theorem qz.framed(v:K)(l:List I3):eu (qz v l):=λ_ _ _ ⟨A,c,h,hI⟩ N=>⟨A,c,h,hI.keep λb hb _=>N b hb⟩
def XF(l:aQ):List K:=l.map λn:Nat=>Value.int .u64 (n:Int)
def qW(s:Nat)(v:K×K×K)(x:iN):List Bl:=[.c s 166 #[v.1,v.2.1,v.2.2],.o (qz v.1 x.ak),.o (qz v.2.1 x.rf),.o (fK 42 1 v.2.2 x.rd.length (XF x.rd))]
theorem yC(s:Nat)(v:K×K×K)(x:iN):pF (qW s v x):=⟨trivial,qz.framed _ _,qz.framed _ _,fK.framed _ _ _ _ _,trivial⟩
def fR(s:Nat)(x:iN):dW:=λw V=>∃v,dN (px (qW s v x)) w V
theorem fR.framed(s:Nat)(x:iN):eu (fR s x):=λw O V ⟨v,h⟩ N=>⟨v,dN.framed _ (fP (yC s v x)) w O V h N⟩
section
variable{x:iN}
theorem fR.opn(h:St V w0 (.o (fR s x)::l) w):∃v,St V w0 (qW s v x++l) w:=St.opn h λ_ ⟨v,h⟩=>⟨v,h,yC _ _ _⟩
theorem fR.cls{v:K×K×K}(h:St V w0 (qW s v x++l) w):St V w0 (.o (fR s x)::l) w:=h.cls (fR.framed _ _) λ_ hM=>⟨v,hM⟩
end
theorem a5D:Elem W 109 42 1 8 (ae ah 0):=⟨Tryz.underlying109,info_parts aw,rfl,by decide,by decide⟩
theorem EN(w:X)(D:aV)(s:Nat)(x:iN)(a:Ac)(e:Ev)(Y:x.len<=1000000)(hs:x.Ok):Lw W D 44 #[s,aZ (j8 a),aZ (kB e)] [.o (fR s x)] (λ(_:Unit)en=>en=b5 (a_ #[])) (λ_=>[.o (fR s (x.add a.k e))]) w:=by
 obtain⟨R,HR⟩:=az (x.add a.k e);rw[<-HR.out];intro V hM hV;obtain⟨v,fN⟩:=fR.opn (St.begin_ hM (λb hb=>(hV b hb).1) ⟨fR.framed _ _,trivial⟩);obtain⟨v1,v2,v3⟩:=v;unfold j8 kB;obtain⟨k,aa,ab,an,aS⟩:=a;obtain⟨why,nd,co,⟨i1,i2,i3⟩,n,bag⟩:=e;dsimp only at HR ⊢;obtain⟨y,wa,HY,HA,ej⟩:=fN.new' #[J k,J aa,J ab,J an,aX aS] 75;obtain⟨z,wb,HZ,HB,dV⟩:=ej.new' #[J why,J nd,J co,J i1,J i2,J i3,ae ah n,J bag] 77;have E:=dV.facts;simp only[qW,ec] at E;have QJ:Hid (z=(w:Nat)+1):=Q (by rw[HZ.out,HA.out];simp);by_cases N:k≠2∨why≠0
 ·have jJ:R=x:=by rw[HR.out];exact aA N
  rw[jJ];have hb:(k != 2)=true∨((k != 2)=false∧(why != 0)=true):=by
   by_cases G:k=2;·exact .inr ⟨by simp[G],by simp;rcases N with h|h;exact absurd G h;exact h⟩
   ·exact .inl (by simp[G])
  replace N:=Q N;have uX:∃_:Unit,True∧dN (px [.o (fR s x)]) wb (iY V w wb)∧dM V w wb:=by obtain⟨r1,r2⟩:=(fR.cls (l:=[]) (dV.drop.drop)).fin;exact⟨(),trivial,r1,r2⟩
  obtain⟨_,_,r1,r2⟩:=uX;rcases hb with hb|⟨hb,lA⟩
  ·go_in
   go_wp2_with fail;rw[<-QJ.out,<-HY.out,<-HA.out,<-HB.out];refine bodyPost_ret (results_none rfl _ _ _) rfl ?_;exact⟨(),rfl,r1,r2⟩
  ·go_in
   go_wp2_with fail;rw[<-QJ.out,<-HY.out,<-HA.out,<-HB.out];refine bodyPost_ret (results_none rfl _ _ _) rfl ?_;exact⟨(),rfl,r1,r2⟩
 ·have Kb:k=2:=by
   by_cases h:k=2;·exact h
   ·exact absurd (.inl h) N
  have hww:why=0:=by
   by_cases h:why=0;·exact h
   ·exact absurd (.inr h) N
  subst Kb hww
  have jJ:R=if co=1∨co=2 then { x with ak:=mY (i1,i2,i3) x.ak } else if co=3 then { x with rf:=mY (i1,i2,i3) x.rf } else if co=8 then { x with rd:=x.rd++[n] } else x:=by rw[HR.out];exact aB N
  clear N HR
  by_cases iP:co=1∨co=2
  ·rw[aA iP] at jJ
   replace jJ:=Q jJ
   have hb:(co == 1)=true∨((co == 1)=false∧(co == 2)=true):=by
    rcases iP with rfl|rfl
    ·exact .inl rfl
    ·exact .inr ⟨rfl,rfl⟩
   replace iP:=Q iP
   obtain⟨U,⟨A1,c1,HV1,Ma⟩,_⟩:=dV.own.see 3 rfl
   obtain rfl:v1=Z A1 x.ak.length c1:=HV1
   have gD:∀b O,St V w (.c z 77 #[(),J nd,J co,J i1,J i2,J i3,ae ah n,J bag]::.c y 75 #[J 2,J aa,J ab,J an,aX aS]::.c s 166 #[Z A1 x.ak.length c1,v2,v3]::b) O->O.cell? ⟨s,0,none⟩=some (Z A1 x.ak.length c1)∧O.cell? ⟨z,3,none⟩=some (J i1)∧O.cell? ⟨z,4,none⟩=some (J i2)∧O.cell? ⟨z,5,none⟩=some (J i3):=λb O h=>
    ⟨h.facts.2.2.1.1 0,h.facts.1.1 3,h.facts.1.1 4,h.facts.1.1 5⟩
   rcases hb with hb|⟨hb,lA⟩
   all_goals
    go_in
    go_wp2_with fail
    rw[<-QJ.out,<-HY.out,<-HA.out,<-HB.out]
    have eW:=dV.grow (Grow.refl _).drew
    have eA:=gD _ _ eW
    refine dJ rfl ?_
    refine fC (λO=>O.cell? ⟨s,0,none⟩=some (Z A1 x.ak.length c1)∧O.cell? ⟨z,3,none⟩=some (J i1)∧O.cell? ⟨z,4,none⟩=some (J i2)∧O.cell? ⟨z,5,none⟩=some (J i3)) [9,10,11] 12 rfl [0,1,2,3,4,5,6] ?_
    iterate 7 (refine eV rfl eA (λw1 ⟨I,G,L,h4⟩=>aM) ?_)
    refine eZ 7 [] rfl ?_
    obtain⟨y3,wc,US,HC,PT⟩:=dV.new' #[J i1,J i2,J i3] 37
    go_wp2_with fail
    rw[<-HC.out,<-US.out]
    have dX:=PT.grow (Grow.refl _).drew
    have kM:=gD _ _ (dX.dO 0 rfl)
    have vz:In wc.drew (λb=>b=y3) 3 (some ⟨y3,0,none⟩) [((i1,i2,i3):I3)].length (fG [(i1,i2,i3)]):=(dX.blk 0 rfl).jL (size:=3) (n:=1) rfl
    obtain⟨U2,⟨ZU,c1',XG,It⟩,_⟩:=dX.own.see 4 rfl
    obtain⟨rfl,rfl⟩:A1=ZU∧c1=c1':=by injection XG with a b c;exact⟨a,c⟩
    have hxa:x.ak.length+1<=1048576:=by unfold iN.len at Y;omega
    have hU:=JK wc.drew A1 (some ⟨y3,0,none⟩) c1 1 x.ak [(i1,i2,i3)] U2 (λb=>b=y3) It vz hxa
    rw[JJ hs.ak] at hU
    refine⟨λ_=>kM,?_⟩
    refine eZ 8 [] rfl ?_
    go_wp2_with fail
    refine hU.mono ?_
    rintro e w3 ⟨A3,rfl,Qy,ib⟩
    have eO:=dX.join (qz.framed (Z A3 (mY (i1,i2,i3) x.ak).length (mY (i1,i2,i3) x.ak).length) (mY (i1,i2,i3) x.ak)) ib ⟨A3,_,rfl,Qy⟩ (λb hb=>hb)
    have lV:=gD _ _ ((eO.dO 0 rfl).dO 0 rfl)
    go_wp2_with fail
    refine⟨λ_=>lV,?_⟩
    refine fY 9 rfl aw ?_
    obtain⟨q,HQ⟩:=az (mY (i1,i2,i3) x.ak)
    rw[<-HQ.out] at eO ⊢
    have f3:=eO.facts.2.2.2.1
    go_wp2_with fail
    have eF:=(((((eO.put 4 rfl 0 (Z A3 q.length q.length)).dO 5 rfl).dO 3 rfl).dO 2 rfl).dO 1 rfl).front 1 rfl
    have eN:=fR.cls (x:={ x with ak:=q }) (v:=(Z A3 q.length q.length,v2,v3)) (l:=[]) eF
    have hRq:R={ x with ak:=q }:=by rw[jJ.out,HQ.out]
    rw[<-hRq] at eN
    obtain⟨r1,r2⟩:=eN.fin
    refine bodyPost_end (results_none rfl _ _ _) rfl ?_
    exact⟨rfl,r1,r2⟩
  ·by_cases ip:co=3
   ·rw[aB iP,aA ip] at jJ
    replace jJ:=Q jJ
    subst ip
    obtain⟨U,⟨A1,c1,HV1,Ma⟩,_⟩:=dV.own.see 4 rfl
    obtain rfl:v2=Z A1 x.rf.length c1:=HV1
    have gD:∀b O,St V w (.c z 77 #[(),J nd,J 3,J i1,J i2,J i3,ae ah n,J bag]::.c y 75 #[J 2,J aa,J ab,J an,aX aS]::.c s 166 #[v1,Z A1 x.rf.length c1,v3]::b) O->O.cell? ⟨s,1,none⟩=some (Z A1 x.rf.length c1)∧O.cell? ⟨z,3,none⟩=some (J i1)∧O.cell? ⟨z,4,none⟩=some (J i2)∧O.cell? ⟨z,5,none⟩=some (J i3):=λb O h=>
     ⟨h.facts.2.2.1.1 1,h.facts.1.1 3,h.facts.1.1 4,h.facts.1.1 5⟩
    have lU:((3:Int) == 1)=false:=rfl
    have lA:((3:Int) == 2)=false:=rfl
    have MB:((3:Int) == 3)=true:=rfl
    ·
     go_in
     go_wp2_with fail
     rw[<-QJ.out,<-HY.out,<-HA.out,<-HB.out]
     have eW:=dV.grow (Grow.refl _).drew
     have eA:=gD _ _ eW
     refine dJ rfl ?_
     refine fC (λO=>O.cell? ⟨s,1,none⟩=some (Z A1 x.rf.length c1)∧O.cell? ⟨z,3,none⟩=some (J i1)∧O.cell? ⟨z,4,none⟩=some (J i2)∧O.cell? ⟨z,5,none⟩=some (J i3)) [9,10,11] 12 rfl [0,1,2,3,4,5,6] ?_
     iterate 7 (refine eV rfl eA (λw1 ⟨I,G,L,h4⟩=>aM) ?_)
     refine eZ 7 [] rfl ?_
     obtain⟨y3,wc,US,HC,PT⟩:=dV.new' #[J i1,J i2,J i3] 37
     go_wp2_with fail
     rw[<-HC.out,<-US.out]
     have dX:=PT.grow (Grow.refl _).drew
     have kM:=gD _ _ (dX.dO 0 rfl)
     have vz:In wc.drew (λb=>b=y3) 3 (some ⟨y3,0,none⟩) [((i1,i2,i3):I3)].length (fG [(i1,i2,i3)]):=(dX.blk 0 rfl).jL (size:=3) (n:=1) rfl
     obtain⟨U2,⟨ZU,c1',XG,It⟩,_⟩:=dX.own.see 5 rfl
     obtain⟨rfl,rfl⟩:A1=ZU∧c1=c1':=by injection XG with a b c;exact⟨a,c⟩
     have hxa:x.rf.length+1<=1048576:=by unfold iN.len at Y;omega
     have hU:=JK wc.drew A1 (some ⟨y3,0,none⟩) c1 1 x.rf [(i1,i2,i3)] U2 (λb=>b=y3) It vz hxa
     rw[JJ hs.rf] at hU
     refine⟨λ_=>kM,?_⟩
     refine eZ 8 [] rfl ?_
     go_wp2_with fail
     refine hU.mono ?_
     rintro e w3 ⟨A3,rfl,Qy,ib⟩
     have eO:=dX.join (qz.framed (Z A3 (mY (i1,i2,i3) x.rf).length (mY (i1,i2,i3) x.rf).length) (mY (i1,i2,i3) x.rf)) ib ⟨A3,_,rfl,Qy⟩ (λb hb=>hb)
     have lV:=gD _ _ ((eO.dO 0 rfl).dO 0 rfl)
     go_wp2_with fail
     refine⟨λ_=>lV,?_⟩
     refine fY 9 rfl aw ?_
     obtain⟨q,HQ⟩:=az (mY (i1,i2,i3) x.rf)
     rw[<-HQ.out] at eO ⊢
     have f3:=eO.facts.2.2.2.1
     go_wp2_with fail
     have eF:=(((((eO.put 4 rfl 1 (Z A3 q.length q.length)).dO 6 rfl).dO 3 rfl).dO 2 rfl).dO 1 rfl).perm ((List.Perm.swap _ _ _).trans (List.Perm.cons _ (List.Perm.swap _ _ _)))
     have eN:=fR.cls (x:={ x with rf:=q }) (v:=(v1,Z A3 q.length q.length,v3)) (l:=[]) eF
     have hRq:R={ x with rf:=q }:=by rw[jJ.out,HQ.out]
     rw[<-hRq] at eN
     obtain⟨r1,r2⟩:=eN.fin
     refine bodyPost_end (results_none rfl _ _ _) rfl ?_
     exact⟨rfl,r1,r2⟩
   ·rw[aB iP,aB ip] at jJ
    have lU:(co == 1)=false:=by simp;exact λh=>iP (.inl h)
    have lA:(co == 2)=false:=by simp;exact λh=>iP (.inr h)
    have MB:(co == 3)=false:=by simp;exact ip
    by_cases YK:co=8
    ·rw[aA YK] at jJ
     replace jJ:=Q jJ
     subst YK
     clear iP ip
     obtain⟨A1,c1,HV1,_,_⟩:=fK.nW dV 5 rfl
     obtain rfl:v3=Z A1 x.rd.length c1:=HV1
     have gD:∀b O,St V w (.c z 77 #[(),J nd,J 8,J i1,J i2,J i3,ae ah n,J bag]::.c y 75 #[J 2,J aa,J ab,J an,aX aS]::.c s 166 #[v1,v2,Z A1 x.rd.length c1]::b) O->O.cell? ⟨s,2,none⟩=some (Z A1 x.rd.length c1)∧O.cell? ⟨z,6,none⟩=some (ae ah n):=λb O h=>
      ⟨h.facts.2.2.1.1 2,h.facts.1.1 6⟩
     go_in
     go_wp2_with fail
     rw[<-QJ.out,<-HY.out,<-HA.out,<-HB.out]
     have eW:=dV.grow (Grow.refl _).drew
     have eA:=gD _ _ eW
     refine dJ rfl ?_
     refine fC (λO=>O.cell? ⟨s,2,none⟩=some (Z A1 x.rd.length c1)∧O.cell? ⟨z,6,none⟩=some (ae ah n)) [9,10,11] 12 rfl [0,1,2,3,4,5,6] ?_
     iterate 7 (refine eV rfl eA (λw1 ⟨I,G⟩=>aM) ?_)
     refine eZ 7 [] rfl ?_
     obtain⟨y3,wc,US,HC,PT⟩:=dV.new' #[ae ah n] 42
     go_wp2_with fail
     rw[<-HC.out,<-US.out]
     have dX:=PT.grow (Grow.refl _).drew
     refine⟨λ_=>gD _ _ (dX.dO 0 rfl),?_⟩
     refine eZ 8 [] rfl ?_
     have QH:x.rd.length<=1000000:=by unfold iN.len at Y;omega
     refine g_ a5D rfl (.tmp 49) (.tmp 52) rfl rfl (dX.front 6 rfl) (A:=some ⟨y3,0,none⟩) (m:=1) (c:=1) (news:=[ae ah n]) rfl (In.reads ((dX.blk 0 rfl).jL (size:=1) (n:=1) rfl)) (by simp[Value.oneCell']) ap ?_
     intro v' w8 fD
     obtain⟨A8,c8,rfl,hc8,hm8⟩:=fK.nW fD 0 rfl
     refine wpList_nil ⟨λ_=>gD _ _ ((fD.dO 0 rfl).dO 0 rfl),?_⟩
     refine fY 9 rfl aw ?_
     have f3:=fD.facts.2.2.2.1
     go_wp2_with fail
     have eF:=(((fD.put 4 rfl 2 (Z A8 (x.rd.length+1) c8)).dO 3 rfl).dO 2 rfl).dO 1 rfl
     have eF:=eF.perm (l':=[.c s 166 #[v1,v2,Z A8 (x.rd.length+1) c8],.o (qz v1 x.ak),.o (qz v2 x.rf),.o (fK 42 1 (Z A8 (x.rd.length+1) c8) (x.rd.length+1) (XF x.rd++[ae ah n]))]) ((List.Perm.swap _ _ _).trans (List.Perm.cons _ ((List.Perm.swap _ _ _).trans (List.Perm.cons _ (List.Perm.swap _ _ _)))))
     have eN:=fR.cls (x:={ x with rd:=x.rd++[n] }) (v:=(v1,v2,Z A8 (x.rd.length+1) c8)) (l:=[]) (eF.cast (l':=_) (by unfold qW XF;rw[bI,bd];rfl))
     rw[<-jJ.out] at eN
     obtain⟨r1,r2⟩:=eN.fin
     refine bodyPost_end (results_none rfl _ _ _) rfl ?_
     exact⟨rfl,r1,r2⟩
    ·rw[aB YK] at jJ
     subst jJ
     have hb8:(co == 8)=false:=by simp;exact YK
     replace iP:=Q iP
     replace ip:=Q ip
     replace YK:=Q YK
     obtain⟨r1,r2⟩:=(fR.cls (l:=[]) (dV.drop.drop)).fin
     go_in
     go_wp2_with fail
     rw[<-QJ.out,<-HY.out,<-HA.out,<-HB.out]
     refine bodyPost_end (results_none rfl _ _ _) rfl ?_
     exact⟨(),rfl,r1,r2⟩
set_option maxRecDepth 100000
set_option maxHeartbeats 1000000
section
variable{x:Wl}
theorem PU(h:St V w0 l w)(i:Nat)(hi:l[i]?=some (.o (iw abq x))):∃P:my,P.w=abq∧pM P x∧Pj P x w∧∃U,Ne.fc P.g (x.nn:Int) (x.net.map jY) x.cut w U:=by obtain⟨P,hP,hQ,hS⟩:=iw.opn (h.front i hi);obtain⟨U,hN,_⟩:=hS.own.see 4 rfl;exact⟨P,hP,hQ,iM hS hQ,U,hN⟩
theorem JL(h:St V w0 l w)(i:Nat)(hi:l[i]?=some (.o (iw abq x))):∃g:Nat,dz W 37 #[abq] w (λe O=>e=b5 ((g:K))∧w=O)∧dz W 89 #[g] w (λe O=>e=b5 (J x.net.length)∧w=O):=by obtain⟨P,rfl,hQ,hF,U,hN⟩:=PU h i hi;have:=JA w P.g _ _ _ U hN;rw[bj] at this;exact⟨P.g,T3 hF,this⟩
end
def sn(v:K):Option Nat->dW
 | none=>λ_ _=>v=.pointer none
 | some n=>λw U=>∃(y:Nat)(cs:aP),v=.pointer (some ⟨y,6,none⟩)∧cs[6]?=some (.int .u64 (n:Int))∧U y∧eJ w y 77 cs
theorem sn.framed(v:K):∀o,eu (sn v o)
 | none=>λ_ _ _ h _=>h
 | some _=>λ_ _ _ ⟨y,cs,I,G,L,h4⟩ N=>⟨y,cs,I,G,L,(N y L).trans h4⟩
structure Dr where
 (n:Nat) (x:Wl) (s:iN) (v:Option Nat)
def Dr.step(d:Dr)(node:Int):Dr:=⟨d.n+1,if (d.x.kK 0).1.why=26 then (d.x.kK 0).2.del 0 else (d.x.kK 0).2,d.s.add 2 { (d.x.kK 0).1 with bag:=((d.x.kK 0).2.net.length:Int) },if (d.x.kK 0).1.why≠26∧(d.x.kK 0).1.code=8∧(d.x.kK 0).1.node=node then some (d.x.kK 0).1.n else d.v⟩
def eY(node:Int):Nat->Dr->Dr
 | 0,d=>d
 | k+1,d=>if d.x.net.length=0 then d else eY node k (d.step node)
theorem a5F{m:Ms}(h:m.Gd):m.n<18446744073709551616:=by
 cases h with
 | ans tg c n _ _ L=>exact L
 | _=>exact (by decide:(0:Nat)<18446744073709551616)
theorem UZ(x:Wl)(h:x.Good M)(i:Nat):(x.kK i).1.n<18446744073709551616:=by
 have h0:(0:Nat)<18446744073709551616:=by decide
 unfold Wl.kK;cases hl:x.net[i]? with
 | none=>exact h0
 | some l=>
   have hn:=a5F (h.net.all l (List.mem_of_getElem? hl)).gd;dsimp only;repeat' split
   all_goals first|exact h0|exact hn
theorem ls(node:Int){d:Dr}(h:d.x.net.length=0):∀k,eY node k d=d
 | 0=>rfl
 | _+1=>aA h
theorem TB{x:Wl}(h:(x.kK i).1.why=26):(x.kK i).2=x:=by
 revert h;unfold Wl.kK;cases x.net[i]? with
 | none=>exact λ_=>rfl
 | some l=>
   dsimp only;repeat' split
   all_goals first|exact λ_=>rfl|exact λh=>absurd h (show ¬ (0:Int)=26 by decide)
theorem JM(w:X)(D:aV)(abq s M most:Nat)(x:Wl)(t:iN)(Y:x.Good M)(ht:t.Ok)(hl:t.len+most<=1000000)(node:Int):Lw W D 93 #[abq,s,J most,J node] [.o (iw abq x),.o (fR s t)]
  (λv e=>e=b5 (a_ #[J ((eY node most ⟨0,x,t,none⟩).n:Int),v])) (λv=>[.o (sn v (eY node most ⟨0,x,t,none⟩).v),.o (iw abq (eY node most ⟨0,x,t,none⟩).x),.o (fR s (eY node most ⟨0,x,t,none⟩).s)]) w:=by
 obtain⟨R,HR⟩:=az (eY node most ⟨0,x,t,none⟩)
 rw[<-HR.out]
 intro V hM hV
 have fN:=St.begin_ hM (λb hb=>(hV b hb).1) ⟨iw.framed _ _,fR.framed _ _,trivial⟩
 have fN:=fN.join (sn.framed (.pointer none) none) (Grow.refl _) (U:=λ_=>False) rfl (λ_ h=>h.elim)
 go_in
 go_wp2_with fail
 go_loopw [10,11] (λv n wr=>∃(k:Nat)(d:Dr),n=J k∧(k<=most∧d.n=k∧d.s.len<=t.len+k)∧Hid (R=eY node (most-k) d)∧(d.x.Good M∧d.s.Ok)∧St V w [.o (sn v d.v),.o (iw abq d.x),.o (fR s d.s)] wr) (λ_ n _=>most-(intOf n).toNat)
 case atStart=>exact⟨0,⟨0,x,t,none⟩,rfl,⟨bo _,rfl,bh _⟩,HR,⟨Y,ht⟩,fN⟩
 case round=>
  obtain⟨k,d,rfl,⟨iP,ip,zd⟩,HRd,⟨Zo,tS⟩,hS⟩:=hrel
  obtain⟨g,hNt,Me⟩:=JL hS 1 rfl
  obtain⟨abn,HL⟩:=az (d.x.net.length)
  rw[<-HL.out] at Me
  by_cases Iw:k<most
  ·have c1:decide ((k:Int)<(most:Int))=true:=aC ap
   by_cases h0:abn=0
   ·subst h0
    go_wp2_with fail
    refine hNt.mono ?_
    rintro e w1 ⟨rfl,rfl⟩
    go_wp2_with fail
    refine Me.mono ?_
    rintro e w1 ⟨rfl,rfl⟩
    go_wp2
    go_ret2
    rw[HRd.out,ls node HL.out.symm,ip]
    obtain⟨r1,r2⟩:=hS.fin
    exact⟨_,rfl,r1,r2⟩
   ·have c2:decide ((0:Int)<(abn:Int))=true:=aC ap
    go_wp2_with fail
    refine hNt.mono ?_
    rintro e w1 ⟨rfl,rfl⟩
    go_wp2_with fail
    refine Me.mono ?_
    rintro e w1 ⟨rfl,rfl⟩
    have ej:=hS.new #[(),(),(),(),""] 75
    go_wp2_with (refine d_ ej 0 rfl 75 _ _ rfl 0 rfl [J 2,(),(),(),""] rfl (bf rfl) rfl aw (j8 ⟨2,0,0,0,⟨#[]⟩⟩) rfl rfl ?_;clear ej;intro w2 dV;refine stay ?_)
    refine dI ?_
    obtain⟨y,HY⟩:=az ((wr:Nat))
    rw[<-HY.out] at dV ⊢
    have hDo:je abq d.x ⟨2,0,0,0,⟨#[]⟩⟩ (d.x.kK 0).1 (d.x.kK 0).2:=XC Zo (i:=0) (by rw[<-HL.out];omega) 0 0 ⟨#[]⟩
    have YL:=UZ d.x Zo 0
    obtain⟨ev,HE⟩:=az ({ (d.x.kK 0).1 with bag:=((d.x.kK 0).2.net.length:Int) })
    obtain⟨x5,HX⟩:=az ((d.x.kK 0).2)
    have PV:Lw W (λ_=>False) 33 #[abq,aZ (j8 ⟨2,0,0,0,⟨#[]⟩⟩)] [.o (iw abq d.x)] (λ(_:Unit)e=>e=b5 (aZ (kB ev))) (λ_=>[.o (iw abq x5)]) w2:=by rw[HE.out,HX.out];exact hDo w2 _
    have hC:=dV.at_ 2 rfl (λ_=>iw.framed _ _) dV.no PV
    go_wp2_with (refine dU rfl 75 _ rfl _ rfl (dV.blk 0 rfl) Tryz.underlying75 aw ?_)
    refine hC.mono ?_
    rintro e w3 ⟨_,rfl,dX⟩
    clear hC PV hDo
    have dX:St V w [.c y 75 (j8 ⟨2,0,0,0,⟨#[]⟩⟩),.o (sn u10 d.v),.o (iw abq x5),.o (fR s d.s)] w3:=dX
    have eO:=dX.new aH 77
    clear dV hS
    go_wp2_with (refine d_ eO 0 rfl 77 _ _ rfl 0 rfl [J ev.why,J ev.node,J ev.code,J ev.id.1,J ev.id.2.1,J ev.id.2.2,ae ah ev.n,J ev.bag] rfl (bf rfl) rfl aw (kB ev) rfl rfl ?_;clear eO;intro w5 eF;refine stay ?_)
    refine dI ?_
    obtain⟨z,HZ⟩:=az ((w3:Nat))
    rw[<-HZ.out] at eF ⊢
    clear dX
    have eF:St V w [.c z 77 (kB ev),.c y 75 (j8 ⟨2,0,0,0,⟨#[]⟩⟩),.o (sn u10 d.v),.o (iw abq x5),.o (fR s d.s)] w5:=eF
    have UH:=eF.at_ 4 rfl (λ_=>fR.framed _ _) eF.no (EN w5 (λ_=>False) s d.s ⟨2,0,0,0,⟨#[]⟩⟩ ev ap tS)
    go_wp2_with (first|(refine dU rfl 75 _ rfl _ rfl (eF.blk 1 rfl) Tryz.underlying75 aw ?_)|(refine dU rfl 77 _ rfl _ rfl (eF.blk 0 rfl) bX aw ?_))
    refine UH.mono ?_
    rintro e w6 ⟨_,rfl,eN⟩
    clear UH eF
    obtain⟨s6,HS6⟩:=az (d.s.add 2 ev)
    have eN:St V w [.c z 77 (kB ev),.c y 75 (j8 ⟨2,0,0,0,⟨#[]⟩⟩),.o (sn u10 d.v),.o (iw abq x5),.o (fR s s6)] w6:=by rw[HS6.out];exact eN
    have f0:=eN.facts.1.1
    have e0:w6.cell? ⟨z,0,none⟩=some (J ev.why):=f0 0
    have e1:w6.cell? ⟨z,1,none⟩=some (J ev.node):=f0 1
    have e2:w6.cell? ⟨z,2,none⟩=some (J ev.code):=f0 2
    have iB:Hid (d.step node=⟨k+1,if ev.why=26 then x5.del 0 else x5,s6,if ev.why≠26∧ev.code=8∧ev.node=node then some ev.n else d.v⟩):=Q (by rw[HS6.out,HX.out,HE.out,<-ip];rfl)
    have vR:x5.Good M:=by rw[HX.out];exact Zo.kK 0
    have hgs:s6.Ok:=by rw[HS6.out];exact tS.add 2 (by rw[HE.out];exact YL)
    have sA:s6.len<=t.len+(k+1):=by rw[HS6.out];have:=d.s.nA 2 ev;omega
    have hRn:Hid (R=eY node (most-(k+1)) (d.step node)):=Q (by rw[HRd.out,show most-k=(most-(k+1))+1 by omega];exact aB (by rw[<-HL.out];exact h0))
    have Mh:ev.why=26->x5=d.x:=λh=>by rw[HX.out];exact TB (by rw[HE.out] at h;exact h)
    have a18:d.x.net.length=abn:=HL.out.symm
    clear HX HE HS6 YL f0
    by_cases hw:ev.why=26
    ·have b0:(ev.why == 26)=true:=by simp[hw]
     rw[aA hw,aB (λh=>h.1 hw)] at iB
     have U_:je abq x5 ⟨3,0,0,0,⟨#[]⟩⟩ { Ev.zero with why:=0 } (x5.del 0):=Tv (i:=0) (by rw[Mh hw,a18];omega) 0 0 ⟨#[]⟩
     have hC:=eN.at_ 3 rfl (λ_=>iw.framed _ _) eN.no (U_ w6 (λ_=>False))
     replace hw:=Q hw
     clear Mh a18
     unfold j8 at hC
     dsimp only at hC
     go_wp2_with fail
     refine hC.mono ?_
     rintro e w7 ⟨_,rfl,fH⟩
     clear hC U_
     go_wp2_with fail
     refine⟨⟨k+1,d.step node,by go_num,⟨by omega,by rw[iB.out],by rw[iB.out];exact sA⟩,hRn,by rw[iB.out];exact⟨vR.del 0,hgs⟩,?_⟩,by simp[intOf];omega⟩
     rw[iB.out]
     exact fH.drop.drop
    ·have b0:(ev.why == 26)=false:=by simp[hw]
     rw[aB hw] at iB
     by_cases h8:ev.code=8∧ev.node=node
     ·rw[aA ⟨hw,h8⟩] at iB
      replace hw:=Q hw
      have b1:(ev.code == 8)=true:=by simp[h8.1]
      have b2:(ev.node == node)=true:=by simp[h8.2]
      replace h8:=Q h8
      go_wp2_with fail
      have fH:=St.cls (S:=sn (.pointer (some ⟨z,6,none⟩)) (some ev.n)) (a:=[.c z 77 (kB ev)]) ((eN.dO 2 rfl).dO 1 rfl) (sn.framed _ _) λU hM=>by obtain⟨I,G⟩:=xe hM 0 rfl;exact⟨z,kB ev,rfl,rfl,I,G⟩
      refine⟨⟨k+1,d.step node,by go_num,⟨by omega,by rw[iB.out],by rw[iB.out];exact sA⟩,hRn,by rw[iB.out];exact⟨vR,hgs⟩,?_⟩,by simp[intOf];omega⟩
      rw[iB.out]
      exact fH
     ·rw[aB (λh=>h8 h.2)] at iB
      replace hw:=Q hw
      have hb:(ev.code == 8)=false∨((ev.code == 8)=true∧(ev.node == node)=false):=by
       by_cases h:ev.code=8;·exact .inr ⟨by simp[h],by simp;exact λG=>h8 ⟨h,G⟩⟩
       ·exact .inl (by simp[h])
      replace h8:=Q h8
      have fin:St V w [.o (sn u10 (d.step node).v),.o (iw abq (d.step node).x),.o (fR s (d.step node).s)] w6:=by rw[iB.out];exact eN.drop.drop
      rcases hb with b1|⟨b1,b2⟩
      all_goals
       go_wp2_with fail
       exact⟨⟨k+1,d.step node,by go_num,⟨by omega,by rw[iB.out],by rw[iB.out];exact sA⟩,hRn,by rw[iB.out];exact⟨vR,hgs⟩,fin⟩,by simp[intOf];omega⟩
  ·have c1:decide ((k:Int)<(most:Int))=false:=aD ap
   go_wp2
   go_ret2
   have e0:most-k=0:=by omega
   rw[HRd.out,e0]
   show ∃i,Ending.returned (a_ #[J k,u10])=b5 (a_ #[J d.n,i])∧_
   rw[ip]
   obtain⟨r1,r2⟩:=hS.fin
   exact⟨_,rfl,r1,r2⟩
set_option maxRecDepth 100000
set_option maxHeartbeats 1000000
theorem Co(w:X)(D:aV)(abq s M most:Nat)(x:Wl)(t:iN)(Y:x.Good M)(ht:t.Ok)(hl:t.len+most<=1000000):Lw W D 40 #[abq,s,J most] [.o (iw abq x),.o (fR s t)]
  (λ(_:Unit)e=>e=b5 (J ((eY (-1) most ⟨0,x,t,none⟩).n:Int))) (λ_=>[.o (iw abq (eY (-1) most ⟨0,x,t,none⟩).x),.o (fR s (eY (-1) most ⟨0,x,t,none⟩).s)]) w:=by
 intro V hM hV
 have fN:=St.begin_ hM (λb hb=>(hV b hb).1) ⟨iw.framed _ _,fR.framed _ _,trivial⟩
 have hD:=St.call (a:=[.o (iw abq x),.o (fR s t)]) (a':=λv=>[.o (sn v (eY (-1) most ⟨0,x,t,none⟩).v),.o (iw abq (eY (-1) most ⟨0,x,t,none⟩).x),.o (fR s (eY (-1) most ⟨0,x,t,none⟩).s)]) (b:=[]) fN (λv=>⟨sn.framed _ _,iw.framed _ _,fR.framed _ _,trivial⟩) fN.no (JM w (λ_=>False) abq s M most x t Y ht hl (-1))
 generalize eY (-1) most ⟨0,x,t,none⟩=R at hD ⊢
 go_in
 go_wp2_with fail
 refine hD.mono ?_
 rintro e w2 ⟨v,rfl,dV⟩
 go_wp2
 go_ret
 obtain⟨r1,r2⟩:=dV.drop.fin
 exact⟨(),rfl,r1,r2⟩
inductive kr(abq:Nat):Wl->iN->List Ac->Bool->Wl->iN->Prop
 | nil (x:Wl) (s:iN):kr abq x s [] true x s
 | ok {x x' x2:Wl} {s s2:iN} {a:Ac} {l:List Ac} {ev:Ev} {b:Bool} (h:je abq x a ev x') (h0:ev.why=0) (hn:ev.n<18446744073709551616) (r:kr abq x' (s.add a.k { ev with bag:=(x'.net.length:Int) }) l b x2 s2):kr abq x s (a::l) b x2 s2
 | bad {x x':Wl} {s:iN} {a:Ac} {l:List Ac} {ev:Ev} (h:je abq x a ev x') (h0:ev.why≠0) (hn:ev.n<18446744073709551616):kr abq x s (a::l) false x' (s.add a.k { ev with bag:=(x'.net.length:Int) })
def Ic(a:Ac):List K:=[J a.k,J a.a,J a.b,J a.n,aX a.s]
theorem PW(w:X)(D:aV)(abq s bk:Nat)(x x2:Wl)(t t2:iN)(l:List Ac)(b:Bool)(hr:kr abq x t l b x2 t2)(ht:t.Ok)(hl:t.len+l.length<=1000000):Lw W D 32 #[abq,s,Z (some ⟨bk,0,none⟩) l.length l.length] [.o (iw abq x),.o (fR s t),.c bk 75 (l.flatMap Ic).toArray]
  (λ(_:Unit)e=>e=b5 (aY b)) (λ_=>[.o (iw abq x2),.o (fR s t2),.c bk 75 (l.flatMap Ic).toArray]) w:=by
 obtain⟨cs,HC⟩:=az ((l.flatMap Ic).toArray)
 obtain⟨n,HN⟩:=az (l.length)
 rw[<-HC.out,<-HN.out]
 intro V hM hV
 have fN:=St.begin_ hM (λb hb=>(hV b hb).1) ⟨iw.framed _ _,fR.framed _ _,trivial,trivial⟩
 go_in
 go_wp2_with fail
 go_loopw [12] (λi wr=>∃(j:Nat)(y:Wl)(u:iN),i=J j∧(j<=n∧u.len<=t.len+j)∧kr abq y u (l.drop j) b x2 t2∧u.Ok∧St V w [.o (iw abq y),.o (fR s u),.c bk 75 cs] wr) (λi _=>n-(intOf i).toNat)
 case atStart=>exact⟨0,x,t,rfl,⟨bo _,bh _⟩,hr,ht,fN⟩
 case round=>
  obtain⟨j,y,u,rfl,⟨hj,hul⟩,YM,hu,hS⟩:=hrel
  by_cases Cw:j<n
  ·have Ix:j<l.length:=by rw[<-HN.out];exact Cw
   have c1:decide ((j:Int)<(n:Int))=true:=aC ap
   rw[bP Ix] at YM
   have hf:∀i,i<5->wr.cell? ⟨bk,j*5+i,none⟩=(Ic l[j])[i]?:=λi hi=>by have:=hS.facts.1.1 (j*5+i);rw[this,HC.out];rw[List.getElem?_toArray];exact flat_get Ic 5 (λ_=>rfl) l j i Ix hi
   have f0:wr.cell? ⟨bk,j*5,none⟩=_:=hf 0 ap
   have f1:=hf 1 ap
   have f2:=hf 2 ap
   have f3:=hf 3 ap
   have f4:=hf 4 ap
   clear hf
   generalize l[j]=a at YM f0 f1 f2 f3 f4
   obtain⟨k,aa,ab,an,aS⟩:=a
   simp only[Ic,List.getElem?_cons_zero,List.getElem?_cons_succ] at f0 f1 f2 f3 f4
   have ej:=hS.new #[(),(),(),(),""] 75
   go_wp2_with (refine d_ ej 0 rfl 75 _ _ rfl 0 rfl [J k,J aa,J ab,J an,aX aS] rfl (bf rfl) rfl aw (j8 ⟨k,aa,ab,an,aS⟩) rfl rfl ?_;clear ej;intro w2 dV;refine stay ?_)
   refine dI ?_
   clear f0 f1 f2 f3 f4
   obtain⟨y0,HY⟩:=az ((wr:Nat))
   rw[<-HY.out] at dV ⊢
   obtain⟨ev,y5,u5,hDo,YL,HU5,nh⟩:∃(ev:Ev)(y5:Wl)(u5:iN),je abq y ⟨k,aa,ab,an,aS⟩ ev y5∧ev.n<18446744073709551616∧Hid (u5=u.add k { ev with bag:=(y5.net.length:Int) })∧((ev.why=0∧kr abq y5 u5 (l.drop (j+1)) b x2 t2)∨(ev.why≠0∧Hid (b=false∧x2=y5∧t2=u5))):=by
    cases YM with
    | ok h h0 hn r=>exact⟨_,_,_,h,hn,Q rfl,.inl ⟨h0,r⟩⟩
    | bad h h0 hn=>exact⟨_,_,_,h,hn,Q rfl,.inr ⟨h0,Q ⟨rfl,rfl,rfl⟩⟩⟩
   clear YM
   obtain⟨e5,HE⟩:=az ({ ev with bag:=(y5.net.length:Int) })
   have PV:Lw W (λ_=>False) 33 #[abq,aZ (j8 ⟨k,aa,ab,an,aS⟩)] [.o (iw abq y)] (λ(_:Unit)e=>e=b5 (aZ (kB e5))) (λ_=>[.o (iw abq y5)]) w2:=by rw[HE.out];exact hDo w2 _
   have hw5:e5.why=ev.why:=by rw[HE.out]
   have YL:e5.n<18446744073709551616:=by rw[HE.out];exact YL
   rw[<-HE.out] at HU5
   have hC:=dV.at_ 1 rfl (λ_=>iw.framed _ _) dV.no PV
   go_wp2_with (refine dU rfl 75 _ rfl _ rfl (dV.blk 0 rfl) Tryz.underlying75 aw ?_)
   refine hC.mono ?_
   rintro e w3 ⟨_,rfl,dX⟩
   clear hC PV hDo
   have dX:St V w [.c y0 75 (j8 ⟨k,aa,ab,an,aS⟩),.o (iw abq y5),.o (fR s u),.c bk 75 cs] w3:=dX
   have eO:=dX.new aH 77
   clear dV hS
   go_wp2_with (refine d_ eO 0 rfl 77 _ _ rfl 0 rfl [J e5.why,J e5.node,J e5.code,J e5.id.1,J e5.id.2.1,J e5.id.2.2,ae ah e5.n,J e5.bag] rfl (bf rfl) rfl aw (kB e5) rfl rfl ?_;clear eO;intro w5 eF;refine stay ?_)
   refine dI ?_
   obtain⟨z,HZ⟩:=az ((w3:Nat))
   rw[<-HZ.out] at eF ⊢
   clear dX
   have eF:St V w [.c z 77 (kB e5),.c y0 75 (j8 ⟨k,aa,ab,an,aS⟩),.o (iw abq y5),.o (fR s u),.c bk 75 cs] w5:=eF
   have UH:=eF.at_ 3 rfl (λ_=>fR.framed _ _) eF.no (EN w5 (λ_=>False) s u ⟨k,aa,ab,an,aS⟩ e5 ap hu)
   go_wp2_with (first|(refine dU rfl 75 _ rfl _ rfl (eF.blk 1 rfl) Tryz.underlying75 aw ?_)|(refine dU rfl 77 _ rfl _ rfl (eF.blk 0 rfl) bX aw ?_))
   refine UH.mono ?_
   rintro e w6 ⟨_,rfl,eN⟩
   clear UH eF
   have eN:St V w [.c z 77 (kB e5),.c y0 75 (j8 ⟨k,aa,ab,an,aS⟩),.o (iw abq y5),.o (fR s u5),.c bk 75 cs] w6:=by rw[HU5.out];exact eN
   have e0:w6.cell? ⟨z,0,none⟩=some (J e5.why):=eN.facts.1.1 0
   rw[hw5] at e0
   have hgs:u5.Ok:=by rw[HU5.out];exact hu.add k YL
   have sA:u5.len<=t.len+(j+1):=by rw[HU5.out];have:=u.nA k e5;omega
   clear hw5 HE HU5
   rcases nh with ⟨hw,hr5⟩|⟨hw,hb⟩
   ·have b0:(ev.why != 0)=false:=by simp[hw]
    replace hw:=Q hw
    go_wp2_with fail
    exact⟨⟨j+1,y5,u5,by go_num,⟨by omega,sA⟩,hr5,hgs,eN.drop.drop⟩,by simp[intOf];omega⟩
   ·have b0:(ev.why != 0)=true:=by simp[hw]
    replace hw:=Q hw
    go_wp2
    go_ret
    obtain⟨lU,lA,MB⟩:=hb.out
    rw[lU,lA,MB]
    obtain⟨r1,r2⟩:=eN.drop.drop.fin
    exact⟨(),rfl,r1,r2⟩
  ·have c1:decide ((j:Int)<(n:Int))=false:=aD ap
   rw[cR (by rw[<-HN.out];omega)] at YM
   cases YM
   go_wp2
   go_ret
   obtain⟨r1,r2⟩:=hS.fin
   exact⟨(),rfl,r1,r2⟩
set_option maxRecDepth 100000
set_option maxHeartbeats 1000000
def EO(a n:Int)(o8:aR):List Ac:=[⟨9,a,0,n,o8⟩,⟨10,a,0,0,⟨#[]⟩⟩,⟨1,a,0,1,⟨#[]⟩⟩]
theorem XH(w:X)(D:aV)(abq s M:Nat)(x x2:Wl)(t t2:iN)(a n:Int)(o8:aR)(hr:kr abq x t (EO a n o8) true x2 t2)(ht:t.Ok)(Ka:t2.Ok)(lw:x2.Good M)(hl:t.len<=999000)(Be:t2.len<=999000):Lw W D 28 #[abq,s,J a,aX o8,J n] [.o (iw abq x),.o (fR s t)]
  (λ(_:Unit)e=>e=b5 (aY true)) (λ_=>[.o (iw abq (eY (-1) 400 ⟨0,x2,t2,none⟩).x),.o (fR s (eY (-1) 400 ⟨0,x2,t2,none⟩).s)]) w:=by
 obtain⟨R,HR⟩:=az (eY (-1) 400 ⟨0,x2,t2,none⟩)
 rw[<-HR.out]
 intro V hM hV
 have fN:=St.begin_ hM (λb hb=>(hV b hb).1) ⟨iw.framed _ _,fR.framed _ _,trivial⟩
 obtain⟨y,wa,HY,HA,ej⟩:=fN.new' #[J 9,J a,(),J n,aX o8,J 10,J a,(),(),"",J 1,J a,(),J 1,""] 75
 have ej:St V w [.o (iw abq x),.o (fR s t),.c y 75 ((EO a n o8).flatMap Ic).toArray] wa:=ej.perm (bg (l₁:=[_]))
 have T:=St.call (b:=[]) ej (a':=λ(_:Unit)=>[.o (iw abq x2),.o (fR s t2),.c y 75 ((EO a n o8).flatMap Ic).toArray]) (λ_=>⟨iw.framed _ _,fR.framed _ _,trivial,trivial⟩) ej.no (PW wa (λ_=>False) abq s y x x2 t t2 (EO a n o8) true hr ht (by show t.len+3<=_;omega))
 have T:dz W 32 #[abq,s,Z (some ⟨y,0,none⟩) 3 3] wa _:=T
 go_in
 go_wp2_with fail
 rw[<-HA.out,<-HY.out]
 refine T.mono ?_
 rintro e w2 ⟨_,rfl,dV⟩
 clear T ej fN
 have dV:St V w [.o (iw abq x2),.o (fR s t2)] w2:=dV.dO 2 rfl
 have hD:=St.call (a:=[.o (iw abq x2),.o (fR s t2)]) (b:=[]) dV (a':=λ(_:Unit)=>[.o (iw abq (eY (-1) 400 ⟨0,x2,t2,none⟩).x),.o (fR s (eY (-1) 400 ⟨0,x2,t2,none⟩).s)]) (λ_=>⟨iw.framed _ _,fR.framed _ _,trivial⟩) dV.no (Co w2 (λ_=>False) abq s M 400 x2 t2 lw Ka ap)
 rw[<-HR.out] at hD
 have hD:dz W 40 #[abq,s,J 400] w2 _:=hD
 go_wp2_with fail
 refine hD.mono ?_
 rintro e w3 ⟨_,rfl,dX⟩
 go_wp2
 go_ret
 obtain⟨r1,r2⟩:=dX.fin
 exact⟨(),rfl,r1,r2⟩
theorem XI(x:Wl)(i:Nat):(x.kK i).2.nr=x.nr∧(x.kK i).2.na=x.na:=by
 unfold Wl.kK;cases x.net[i]? with
 | none=>exact⟨rfl,rfl⟩
 | some l=>
   dsimp only;repeat' split
   all_goals exact⟨rfl,rfl⟩
theorem Dr.XJ(d:Dr)(node:Int):(d.step node).x.nr=d.x.nr∧(d.step node).x.na=d.x.na:=by
 have h:=XI d.x 0;unfold Dr.step;dsimp only;split;·exact h
 ·exact h
theorem Dr.M6{d:Dr}(h:d.x.Good M)(node:Int):(d.step node).x.Good M:=by
 unfold Dr.step;dsimp only;split;·exact (h.kK 0).del 0
 ·exact h.kK 0
theorem Dr.step_ok{d:Dr}(h:d.x.Good M)(hs:d.s.Ok)(node:Int):(d.step node).s.Ok:=hs.add 2 (e:={ (d.x.kK 0).1 with bag:=((d.x.kK 0).2.net.length:Int) }) (UZ d.x h 0)
theorem nP(node:Int){M:Nat}:∀(k:Nat)(d:Dr),d.x.Good M->d.s.Ok->(eY node k d).x.Good M∧(eY node k d).s.Ok∧(eY node k d).s.len<=d.s.len+k∧(eY node k d).x.nr=d.x.nr∧(eY node k d).x.na=d.x.na
 | 0,d,h,hs=>⟨h,hs,bh _,rfl,rfl⟩
 | k+1,d,h,hs=>by
   unfold eY;split;·exact⟨h,hs,by omega,rfl,rfl⟩
   ·obtain⟨a,b,c,e,f⟩:=nP node k (d.step node) (d.M6 h node) (d.step_ok h hs node)
    have I:=d.XJ node;have G:(d.step node).s.len<=d.s.len+1:=iN.nA _ _ _;exact⟨a,b,by omega,e.trans I.1,f.trans I.2⟩
abbrev WS:=Wl×iN
@[irreducible] def vJ(p:WS):WS:=((eY (-1) 400 ⟨0,p.1,p.2,none⟩).x,(eY (-1) 400 ⟨0,p.1,p.2,none⟩).s)
structure gY(p:WS)(nr na M abn:Nat):Prop where
 good:p.1.Good M
 ok:p.2.Ok
 len:p.2.len<=abn
 nr:p.1.nr=nr
 na:p.1.na=na
namespace gY
variable{p:WS}
theorem mono{M' L':Nat}(h:gY p nr na M abn)(hM:M<=M')(hL:abn<=L'):gY p nr na M' L':=⟨h.good.mono hM,h.ok,bB h.len hL,h.nr,h.na⟩
theorem YN(h:gY p nr na M abn):gY (vJ p) nr na M (abn+400):=by obtain⟨a,b,c,e,f⟩:=nP (-1) 400 ⟨0,p.1,p.2,none⟩ h.good h.ok;unfold vJ;exact⟨a,b,by have:=h.len;have:(eY (-1) 400 ⟨0,p.1,p.2,none⟩).s.len<=p.2.len+400:=c;show (eY (-1) 400 ⟨0,p.1,p.2,none⟩).s.len<=_;omega,e.trans h.nr,f.trans h.na⟩
theorem lead(h:gY p nr na M abn):gY (p.1.gH 0,p.2) nr na (M+1) abn:=⟨h.good.gH h.good.n.1,h.ok,h.len,h.nr,h.na⟩
theorem jy(h:gY p nr na M abn)(hM:M<=1048576){i n:Nat}(hi:i<na)(hn:n<=1024):gY (p.1.jy i n,p.2) nr na (M+1) abn:=⟨h.good.jy hM (by rw[h.na];exact hi) hn,h.ok,h.len,h.nr,h.na⟩
theorem look(h:gY p nr na M abn)(hM:M<=1048576)(hi:i<na){s:aR}(hp:Go.Proofs.YtpeepcmdehhbgaaGreatDoor.abn.fW s=0):gY (p.1.nO i s,p.2) nr na (M+1) abn:=⟨h.good.nO hM (by rw[h.na];exact hi) hp,h.ok,h.len,h.nr,h.na⟩
theorem few(h:gY p nr na M abn):na<=7:=by have:=h.good.n;unfold Wl.nn at this;have:=h.na;omega
end gY
set_option maxRecDepth 100000
set_option maxHeartbeats 1000000
section
variable{p:WS}{D:aV}
abbrev mZ(abq s:Nat)(p:WS):List Bl:=[.o (iw abq p.1),.o (fR s p.2)]
theorem pu(abq s:Nat)(p:WS):pF (mZ abq s p):=⟨iw.framed _ _,fR.framed _ _,trivial⟩
theorem Cp(h:St V w0 (mZ abq s p++l) w):∃P:my,P.w=abq∧pM P p.1∧Pj P p.1 w:=by obtain⟨P,a,b,c,_⟩:=PU h 0 rfl;exact⟨P,a,b,c⟩
end
set_option maxRecDepth 100000
set_option maxHeartbeats 1000000
@[irreducible] def ER(k:Nat)(o8:aR)(p:WS):Dr:=eY ((p.1.nr+k:Nat):Int) 400 ⟨0,p.1.nO k o8,p.2,none⟩
set_option maxRecDepth 100000
set_option maxHeartbeats 1000000
section
variable{r:Nat}{c0 c1 c2 c3 c4 c5 c6 c7:K}
theorem ES(hB:eJ w r 118 #[c0,c1,c2,c3,c4,c5,c6,c7]):dz W 17 #[r] w λe O=>e=b5 c3∧w=O:=by have c:=hB.cell 3;go_in;go_wp2;go_ret;exact⟨rfl,rfl⟩
theorem M7(hB:eJ w r 118 #[c0,c1,c2,c3,c4,c5,c6,c7]):dz W 83 #[r] w λe O=>e=b5 c6∧w=O:=by have c:=hB.cell 6;go_in;go_wp2;go_ret;exact⟨rfl,rfl⟩
theorem Ih(hB:eJ w r 118 #[c0,c1,c2,c3,c4,c5,c6,c7]):dz W 21 #[r] w λe O=>e=b5 c4∧w=O:=by have c:=hB.cell 4;go_in;go_wp2;go_ret;exact⟨rfl,rfl⟩
end
section
variable{p:WS}
theorem V0(h:St V w0 (mZ abq s p++l) w)(hi:i<p.1.nr):∃r m:Nat,dz W 31 #[abq,J i] w (λe O=>e=b5 ((r:K))∧w=O)∧dz W 17 #[r] w (λe O=>e=b5 ((m:K))∧w=O)∧dz W 83 #[r] w (λe O=>e=b5 (aY (p.1.rp i).leads)∧w=O)∧dz W 21 #[r] w (λe O=>e=b5 (J ((p.1.rp i).commit:Int))∧w=O):=by obtain⟨P,hP,hQ,hS⟩:=iw.opn h;have Uf:=qT (iM hS hQ) hQ hi;rw[hP] at Uf;obtain⟨U,⟨q,g,I,_,L⟩,_⟩:=(hS.front (5+i) (Ph P p.1 hi _)).own.see 0 rfl;obtain⟨_,hB⟩:=xe L 0 rfl;unfold iu at hB;rw[I] at hB;exact⟨P.r i,q.m,Uf,ES hB,M7 hB,Ih hB⟩
theorem a1d(h:St V w0 (mZ abq s p++l) w)(hi:i<p.1.na):∃a:Nat,dz W 47 #[abq,J i] w (λe O=>e=b5 ((a:K))∧w=O):=by obtain⟨P,hP,hQ,hF⟩:=Cp h;have:=nL hF hQ hi;rw[hP] at this;exact⟨P.a i,this⟩
theorem XL(h:St V w0 (mZ abq s p++l) w):∃g:Nat,dz W 37 #[abq] w (λe O=>e=b5 ((g:K))∧w=O)∧dz W 89 #[g] w (λe O=>e=b5 (J p.1.net.length)∧w=O):=JL h 0 rfl
end
theorem Ii(w:X)(V:aV)(A:aU)(c:Nat)(l:List I3)(h:In w V 3 A l.length (fG l))(hn:l.length<=1048576):dz W 94 #[Z A l.length c] w λe O=>∃A' c',e=b5 (Z A' l.length c')∧In O (New w O) 3 A' l.length (fG l)∧Grow w O:=by
 have kS:=λ(O:X)=>Lib.run_eql_slice_nil (P:=W) O 81 37 A l.length c 0 0 Tryz.underlying81;obtain⟨n,HN⟩:=az (l.length:Nat);rw[<-HN.out] at h hn kS ⊢;cases A with
 | none=>
   have y_:n=0:=by
    rcases b_ n with h0|h0
    ·exact h0
    ·obtain⟨_,e,_⟩:=h.2 ap;cases e
   subst y_;have hl:l=[]:=bu HN.out.symm;subst hl;go_in;go_wp2;go_ret;exact⟨_,_,rfl,In.nil,Grow.refl _⟩
 | some ad=>
   go_in;go_wp2_with (at_builtin;refine stay ?_);refine dI ?_;refine fO (V:=λb=>b=(w:Nat)) YA _ rfl (.tmp 5) (.tmp 6) rfl (Z (some ⟨(w:Nat),0,none⟩) 0 0) 0 [] rfl (lC w _ _) (w:Nat) (some ad) n c (fG l) rfl (Reads.alloc (In.reads h) (bh _) _) (uF l) ap ?_;intro v1 w1 kv wo;simp only[cJ,ch] at kv;obtain⟨sw,eD⟩:=ny kv wo;obtain⟨A2,c2,rfl,hI,iS,hm⟩:=sw.jL;go_wp2;go_ret;exact⟨A2,c2,rfl,hI,eD⟩
theorem Ij(w:X)(D:aV)(s:Nat)(x:iN)(Y:x.len<=1000000):Lw W D 36 #[s] [.o (fR s x)] (λ(j:Option dA×Nat)e=>e=b5 (Z j.1 x.ak.length j.2)) (λj=>[.o (qz (Z j.1 x.ak.length j.2) x.ak)]++[.o (fR s x)]) w:=by intro V hM hV;obtain⟨v,hS⟩:=fR.opn (St.begin_ hM (λb hb=>(hV b hb).1) ⟨fR.framed _ _,trivial⟩);obtain⟨U,⟨A,c,hv,hI⟩,_⟩:=hS.own.see 1 rfl;have c0:w.cell? ⟨s,0,none⟩=some v.1:=hS.facts.1.1 0;rw[hv] at c0;have hC:=Ii w U A c x.ak hI (by unfold iN.len at Y;omega);obtain⟨n,HN⟩:=az (x.ak.length:Nat);rw[<-HN.out] at hC c0 ⊢;go_in;go_wp2_with fail;refine hC.mono ?_;rintro e w2 ⟨A',c',rfl,It,H⟩;go_wp2;go_ret;have dV:=(fR.cls (l:=[]) hS).join (qz.framed (Z A' n c') x.ak) H (U:=New w w2) ⟨A',c',by rw[HN.out],by rw[<-HN.out];exact It⟩ (λb hb=>hb);obtain⟨r1,r2⟩:=dV.fin;exact⟨(A',c'),rfl,r1,r2⟩
theorem PZ(w:X):Lw W (λ_=>False) 82 #[] [] (λ(s:Nat)e=>e=b5 (((s:Nat):K))) (λs=>[.o (fR s iN.new)]) w:=by intro V hM hV;have fN:=St.begin_ hM (λb hb=>(hV b hb).1) trivial;have ej:=fN.new #[ay,ay,ay] 166;go_in;go_wp2;go_ret;have I:=ej.join (fK.framed 42 1 (Z none 0 0) 0 []) (Grow.refl _) (U:=λ_=>False) Row.nil (λ_ h=>h.elim);have G:=I.join (qz.framed (Z none 0 0) []) (Grow.refl _) (U:=λ_=>False) ⟨none,0,rfl,In.nil⟩ (λ_ h=>h.elim);have L:=G.join (qz.framed (Z none 0 0) []) (Grow.refl _) (U:=λ_=>False) ⟨none,0,rfl,In.nil⟩ (λ_ h=>h.elim);have h4:=fR.cls (x:=iN.new) (v:=(Z none 0 0,Z none 0 0,Z none 0 0)) (l:=[]) (L.front 3 rfl);obtain⟨r1,r2⟩:=h4.fin;exact⟨_,rfl,r1,r2⟩
end Go.Proofs.YtpeepcmdehhbgaaGreatDoor
