import Derived.Test.YtpeepcmdehhbgaaGreatDoorJa10
set_option linter.all false
set_option maxRecDepth 100000
open Go.Value renaming int->ae,slice->Z,string->aX,bool->aY,agg->aZ,tuple->a_
open Go.Ending renaming returned->b5
open Go.IntKind renaming i64->af,u64->ah
open Go.Proofs.Tryz renaming prog->W,underlying77->bX
open Go.Lib renaming hid->Q
open List renaming length_append->bd,perm_append_comm->bg,length_map->bj,map_append->bI,drop_eq_getElem_cons->bP,drop_eq_nil_of_le->cR,append_nil->bm,eq_nil_of_length_eq_zero->bu,length_singleton->bv,length_cons->bD,take_of_length_le->bH,flatMap_cons->bJ,range->bV,nil_append->ch,length_nil->cx,drop_of_length_le->cH,replicate->cS,length_set->dh
open Nat renaming le_of_ble_eq_true->bf,le_refl->bh,zero_le->bo,lt_of_lt_of_le->bw,le_trans->bB,eq_zero_or_pos->b_,zero_add->cJ
open Go renaming Value->K,World->X,Calls->dz,Addr->dA
open Int renaming toNat_natCast->cA
open Go (J az aE aA aB aC aD ay aj am ap aw aL aK aJ aI aH aV aU aT aR aQ aP aO aN)
section
open Go.Hop (Bl)
variable{l:List Bl}{M i abq s nr na abn:Nat}{V:aV}{w0 w:X}
namespace Go.Proofs.YtpeepcmdehhbgaaGreatDoor
open RowKit Hop V
theorem abC{α:Type}(f:Nat->α){j:Nat}(y:α)(h:j≠i):at_ f i y j=f j:=aB h
section
variable{x:Wl}{P:my}
end
set_option maxRecDepth 100000
set_option maxHeartbeats 1000000
theorem JK(w:X)(A A2:aU)(c c2:Nat)(l m:List I3)(D D2:aV)(hI:In w D 3 A l.length (fG l))(It:In w D2 3 A2 m.length (fG m))(hn:l.length+m.length<=1048576):dz W 103 #[Z A l.length c,Z A2 m.length c2] w λe O=>∃A3,e=b5 (Z A3 (PQ (l++m)).length (PQ (l++m)).length)∧In O (λb=>(w:Nat)<=b∧b<(O:Nat)) 3 A3 (PQ (l++m)).length (fG (PQ (l++m)))∧Grow w O:=by have ga:=dT w (.cells #[Z A l.length c,Z A2 m.length c2] 81);have hC:=E6 (w.alloc (.cells #[Z A l.length c,Z A2 m.length c2] 81)) (w:Nat) A A2 c c2 l m (eJ.made w _ _) D D2 (hI.grow ga) (It.grow ga) hn;obtain⟨n,HN⟩:=az (l.length:Nat);obtain⟨k,HK⟩:=az (m.length:Nat);obtain⟨lm,HLM⟩:=az (l++m);rw[<-HLM.out];obtain⟨u,HU⟩:=az (PQ lm);rw[<-HU.out];rw[<-HN.out,<-HK.out] at hC ga ⊢;rw[<-HN.out,<-HK.out] at hn;go_in;go_wp2_with fail;refine hC.mono ?_;rintro e w1 ⟨v1,rfl,T,eD⟩;have a1Y:=ga.trans eD;have T:=T.mono (V':=λb=>(w:Nat)<=b∧b<(w1:Nat)) λb hb=>⟨bB ga.size hb.1,hb.2⟩;rw[show fG l++fG m=fG lm by rw[HLM.out];simp[fG],show n+k=lm.length by rw[HLM.out,bd,HN.out,HK.out]] at T;have hS:=KZ w1 _ v1 lm T (by rw[HLM.out,bd,<-HN.out,<-HK.out];omega);go_wp2_with fail;refine hS.mono ?_;rintro e w2 ⟨rfl,l2,hp,hs,gS,k7⟩;have uw:Grow w w2:=Below.trans a1Y (k7.below (B:=(w:Nat)) (λb hb=>hb.1) a1Y.size);have Be:l2.length=lm.length:=hp.length_eq;have hK:=C0 w2 _ v1 l2 gS (by rw[Be,HLM.out,bd,<-HN.out,<-HK.out];omega);rw[XE hp (List.pairwise_iff_getElem.2 λi j hi hj wJ=>hs i j hi hj wJ)] at hK;clear Be;rw[<-HU.out] at hK;have iZ:=k7.size;go_wp2_with fail;refine hK.mono ?_;rintro e w3 ⟨v3,rfl,jN,mz⟩;have a5C:Grow w w3:=Below.trans uw (mz.below (B:=(w:Nat)) (λb hb=>hb.1) uw.size);obtain⟨A3,c3,rfl,Qy,sy,R4⟩:=jN.jL;have hP:=L3 w3 A3 u.length c3 sy;go_wp2_with fail;refine hP.mono ?_;rintro e w4 ⟨rfl,rfl⟩;go_wp2;go_ret;exact⟨A3,rfl,Qy.mono λb hb=>⟨hb.1,bw hb.2 (bB iZ mz.size)⟩,a5C⟩
def qz(v:K)(l:List I3):dW:=λw U=>∃A c,v=Z A l.length c∧In w U 3 A l.length (fG l)
theorem qz.framed(v:K)(l:List I3):eu (qz v l):=λ_ _ _ ⟨A,c,h,hI⟩ N=>⟨A,c,h,hI.keep λb hb _=>N b hb⟩
def XF(l:aQ):List K:=l.map λn:Nat=>Value.int .u64 (n:Int)
def qW(s:Nat)(v:K×K×K)(x:iN):List Bl:=[.c s 166 #[v.1,v.2.1,v.2.2],.o (qz v.1 x.ak),.o (qz v.2.1 x.rf),.o (fK 42 1 v.2.2 x.rd.length (XF x.rd))]
theorem yC(s:Nat)(v:K×K×K)(x:iN):pF (qW s v x):=⟨trivial,qz.framed _ _,qz.framed _ _,fK.framed _ _ _ _ _,trivial⟩
def fR(s:Nat)(x:iN):dW:=λw V=>∃v,dN (px (qW s v x)) w V
theorem fR.framed(s:Nat)(x:iN):eu (fR s x):=λw O V ⟨v,h⟩ N=>⟨v,dN.framed _ (fP (yC s v x)) w O V h N⟩
section
variable{x:iN}
theorem fR.opn(h:St V w0 (.o (fR s x)::l) w):∃v,St V w0 (qW s v x++l) w:=St.opn h λ_ ⟨v,h⟩=>⟨v,h,yC _ _ _⟩
theorem fR.cls{v:K×K×K}(h:St V w0 (qW s v x++l) w):St V w0 (.o (fR s x)::l) w:=h.cls (fR.framed _ _) λ_ hM=>⟨v,hM⟩
end
theorem a5D:Elem W 109 42 1 8 (ae ah 0):=⟨Tryz.underlying109,info_parts aw,rfl,by decide,by decide⟩
theorem EN(w:X)(D:aV)(s:Nat)(x:iN)(a:Ac)(e:Ev)(Y:x.len<=1000000)(hs:x.Ok):Lw W D 44 #[s,aZ (j8 a),aZ (kB e)] [.o (fR s x)] (λ(_:Unit)en=>en=b5 (a_ #[])) (λ_=>[.o (fR s (x.add a.k e))]) w:=by
 obtain⟨R,HR⟩:=az (x.add a.k e);rw[<-HR.out];intro V hM hV;obtain⟨v,fN⟩:=fR.opn (St.begin_ hM (λb hb=>(hV b hb).1) ⟨fR.framed _ _,trivial⟩);obtain⟨v1,v2,v3⟩:=v;unfold j8 kB;obtain⟨k,aa,ab,an,aS⟩:=a;obtain⟨why,nd,co,⟨i1,i2,i3⟩,n,bag⟩:=e;dsimp only at HR ⊢;obtain⟨y,wa,HY,HA,ej⟩:=fN.new' #[J k,J aa,J ab,J an,aX aS] 75;obtain⟨z,wb,HZ,HB,dV⟩:=ej.new' #[J why,J nd,J co,J i1,J i2,J i3,ae ah n,J bag] 77;have E:=dV.facts;simp only[qW,ec] at E;have QJ:Hid (z=(w:Nat)+1):=Q (by rw[HZ.out,HA.out];simp);by_cases N:k≠2∨why≠0
 ·have jJ:R=x:=by rw[HR.out];exact aA N
  rw[jJ];have hb:(k != 2)=true∨((k != 2)=false∧(why != 0)=true):=by
   by_cases G:k=2;·exact .inr ⟨by simp[G],by simp;rcases N with h|h;exact absurd G h;exact h⟩
   ·exact .inl (by simp[G])
  replace N:=Q N;have uX:∃_:Unit,True∧dN (px [.o (fR s x)]) wb (iY V w wb)∧dM V w wb:=by obtain⟨r1,r2⟩:=(fR.cls (l:=[]) (dV.drop.drop)).fin;exact⟨(),trivial,r1,r2⟩
  obtain⟨_,_,r1,r2⟩:=uX;rcases hb with hb|⟨hb,lA⟩
  ·go_in
   go_wp2_with fail;rw[<-QJ.out,<-HY.out,<-HA.out,<-HB.out];refine bodyPost_ret (results_none rfl _ _ _) rfl ?_;exact⟨(),rfl,r1,r2⟩
  ·go_in
   go_wp2_with fail;rw[<-QJ.out,<-HY.out,<-HA.out,<-HB.out];refine bodyPost_ret (results_none rfl _ _ _) rfl ?_;exact⟨(),rfl,r1,r2⟩
 ·have Kb:k=2:=by
   by_cases h:k=2;·exact h
   ·exact absurd (.inl h) N
  have hww:why=0:=by
   by_cases h:why=0;·exact h
   ·exact absurd (.inr h) N
  subst Kb hww
  have jJ:R=if co=1∨co=2 then { x with ak:=mY (i1,i2,i3) x.ak } else if co=3 then { x with rf:=mY (i1,i2,i3) x.rf } else if co=8 then { x with rd:=x.rd++[n] } else x:=by rw[HR.out];exact aB N
  clear N HR
  by_cases iP:co=1∨co=2
  ·rw[aA iP] at jJ
   replace jJ:=Q jJ
   have hb:(co == 1)=true∨((co == 1)=false∧(co == 2)=true):=by
    rcases iP with rfl|rfl
    ·exact .inl rfl
    ·exact .inr ⟨rfl,rfl⟩
   replace iP:=Q iP
   obtain⟨U,⟨A1,c1,HV1,Ma⟩,_⟩:=dV.own.see 3 rfl
   obtain rfl:v1=Z A1 x.ak.length c1:=HV1
   have gD:∀b O,St V w (.c z 77 #[(),J nd,J co,J i1,J i2,J i3,ae ah n,J bag]::.c y 75 #[J 2,J aa,J ab,J an,aX aS]::.c s 166 #[Z A1 x.ak.length c1,v2,v3]::b) O->O.cell? ⟨s,0,none⟩=some (Z A1 x.ak.length c1)∧O.cell? ⟨z,3,none⟩=some (J i1)∧O.cell? ⟨z,4,none⟩=some (J i2)∧O.cell? ⟨z,5,none⟩=some (J i3):=λb O h=>
    ⟨h.facts.2.2.1.1 0,h.facts.1.1 3,h.facts.1.1 4,h.facts.1.1 5⟩
   rcases hb with hb|⟨hb,lA⟩
   all_goals
    go_in
    go_wp2_with fail
    rw[<-QJ.out,<-HY.out,<-HA.out,<-HB.out]
    have eW:=dV.grow (Grow.refl _).drew
    have eA:=gD _ _ eW
    refine dJ rfl ?_
    refine fC (λO=>O.cell? ⟨s,0,none⟩=some (Z A1 x.ak.length c1)∧O.cell? ⟨z,3,none⟩=some (J i1)∧O.cell? ⟨z,4,none⟩=some (J i2)∧O.cell? ⟨z,5,none⟩=some (J i3)) [9,10,11] 12 rfl [0,1,2,3,4,5,6] ?_
    iterate 7 (refine eV rfl eA (λw1 ⟨I,G,L,h4⟩=>aM) ?_)
    refine eZ 7 [] rfl ?_
    obtain⟨y3,wc,US,HC,PT⟩:=dV.new' #[J i1,J i2,J i3] 37
    go_wp2_with fail
    rw[<-HC.out,<-US.out]
    have dX:=PT.grow (Grow.refl _).drew
    have kM:=gD _ _ (dX.dO 0 rfl)
    have vz:In wc.drew (λb=>b=y3) 3 (some ⟨y3,0,none⟩) [((i1,i2,i3):I3)].length (fG [(i1,i2,i3)]):=(dX.blk 0 rfl).jL (size:=3) (n:=1) rfl
    obtain⟨U2,⟨ZU,c1',XG,It⟩,_⟩:=dX.own.see 4 rfl
    obtain⟨rfl,rfl⟩:A1=ZU∧c1=c1':=by injection XG with a b c;exact⟨a,c⟩
    have hxa:x.ak.length+1<=1048576:=by unfold iN.len at Y;omega
    have hU:=JK wc.drew A1 (some ⟨y3,0,none⟩) c1 1 x.ak [(i1,i2,i3)] U2 (λb=>b=y3) It vz hxa
    rw[JJ hs.ak] at hU
    refine⟨λ_=>kM,?_⟩
    refine eZ 8 [] rfl ?_
    go_wp2_with fail
    refine hU.mono ?_
    rintro e w3 ⟨A3,rfl,Qy,ib⟩
    have eO:=dX.join (qz.framed (Z A3 (mY (i1,i2,i3) x.ak).length (mY (i1,i2,i3) x.ak).length) (mY (i1,i2,i3) x.ak)) ib ⟨A3,_,rfl,Qy⟩ (λb hb=>hb)
    have lV:=gD _ _ ((eO.dO 0 rfl).dO 0 rfl)
    go_wp2_with fail
    refine⟨λ_=>lV,?_⟩
    refine fY 9 rfl aw ?_
    obtain⟨q,HQ⟩:=az (mY (i1,i2,i3) x.ak)
    rw[<-HQ.out] at eO ⊢
    have f3:=eO.facts.2.2.2.1
    go_wp2_with fail
    have eF:=(((((eO.put 4 rfl 0 (Z A3 q.length q.length)).dO 5 rfl).dO 3 rfl).dO 2 rfl).dO 1 rfl).front 1 rfl
    have eN:=fR.cls (x:={ x with ak:=q }) (v:=(Z A3 q.length q.length,v2,v3)) (l:=[]) eF
    have hRq:R={ x with ak:=q }:=by rw[jJ.out,HQ.out]
    rw[<-hRq] at eN
    obtain⟨r1,r2⟩:=eN.fin
    refine bodyPost_end (results_none rfl _ _ _) rfl ?_
    exact⟨rfl,r1,r2⟩
  ·by_cases ip:co=3
   ·rw[aB iP,aA ip] at jJ
    replace jJ:=Q jJ
    subst ip
    obtain⟨U,⟨A1,c1,HV1,Ma⟩,_⟩:=dV.own.see 4 rfl
    obtain rfl:v2=Z A1 x.rf.length c1:=HV1
    have gD:∀b O,St V w (.c z 77 #[(),J nd,J 3,J i1,J i2,J i3,ae ah n,J bag]::.c y 75 #[J 2,J aa,J ab,J an,aX aS]::.c s 166 #[v1,Z A1 x.rf.length c1,v3]::b) O->O.cell? ⟨s,1,none⟩=some (Z A1 x.rf.length c1)∧O.cell? ⟨z,3,none⟩=some (J i1)∧O.cell? ⟨z,4,none⟩=some (J i2)∧O.cell? ⟨z,5,none⟩=some (J i3):=λb O h=>
     ⟨h.facts.2.2.1.1 1,h.facts.1.1 3,h.facts.1.1 4,h.facts.1.1 5⟩
    have lU:((3:Int) == 1)=false:=rfl
    have lA:((3:Int) == 2)=false:=rfl
    have MB:((3:Int) == 3)=true:=rfl
    ·
     go_in
     go_wp2_with fail
     rw[<-QJ.out,<-HY.out,<-HA.out,<-HB.out]
     have eW:=dV.grow (Grow.refl _).drew
     have eA:=gD _ _ eW
     refine dJ rfl ?_
     refine fC (λO=>O.cell? ⟨s,1,none⟩=some (Z A1 x.rf.length c1)∧O.cell? ⟨z,3,none⟩=some (J i1)∧O.cell? ⟨z,4,none⟩=some (J i2)∧O.cell? ⟨z,5,none⟩=some (J i3)) [9,10,11] 12 rfl [0,1,2,3,4,5,6] ?_
     iterate 7 (refine eV rfl eA (λw1 ⟨I,G,L,h4⟩=>aM) ?_)
     refine eZ 7 [] rfl ?_
     obtain⟨y3,wc,US,HC,PT⟩:=dV.new' #[J i1,J i2,J i3] 37
     go_wp2_with fail
     rw[<-HC.out,<-US.out]
     have dX:=PT.grow (Grow.refl _).drew
     have kM:=gD _ _ (dX.dO 0 rfl)
     have vz:In wc.drew (λb=>b=y3) 3 (some ⟨y3,0,none⟩) [((i1,i2,i3):I3)].length (fG [(i1,i2,i3)]):=(dX.blk 0 rfl).jL (size:=3) (n:=1) rfl
     obtain⟨U2,⟨ZU,c1',XG,It⟩,_⟩:=dX.own.see 5 rfl
     obtain⟨rfl,rfl⟩:A1=ZU∧c1=c1':=by injection XG with a b c;exact⟨a,c⟩
     have hxa:x.rf.length+1<=1048576:=by unfold iN.len at Y;omega
     have hU:=JK wc.drew A1 (some ⟨y3,0,none⟩) c1 1 x.rf [(i1,i2,i3)] U2 (λb=>b=y3) It vz hxa
     rw[JJ hs.rf] at hU
     refine⟨λ_=>kM,?_⟩
     refine eZ 8 [] rfl ?_
     go_wp2_with fail
     refine hU.mono ?_
     rintro e w3 ⟨A3,rfl,Qy,ib⟩
     have eO:=dX.join (qz.framed (Z A3 (mY (i1,i2,i3) x.rf).length (mY (i1,i2,i3) x.rf).length) (mY (i1,i2,i3) x.rf)) ib ⟨A3,_,rfl,Qy⟩ (λb hb=>hb)
     have lV:=gD _ _ ((eO.dO 0 rfl).dO 0 rfl)
     go_wp2_with fail
     refine⟨λ_=>lV,?_⟩
     refine fY 9 rfl aw ?_
     obtain⟨q,HQ⟩:=az (mY (i1,i2,i3) x.rf)
     rw[<-HQ.out] at eO ⊢
     have f3:=eO.facts.2.2.2.1
     go_wp2_with fail
     have eF:=(((((eO.put 4 rfl 1 (Z A3 q.length q.length)).dO 6 rfl).dO 3 rfl).dO 2 rfl).dO 1 rfl).perm ((List.Perm.swap _ _ _).trans (List.Perm.cons _ (List.Perm.swap _ _ _)))
     have eN:=fR.cls (x:={ x with rf:=q }) (v:=(v1,Z A3 q.length q.length,v3)) (l:=[]) eF
     have hRq:R={ x with rf:=q }:=by rw[jJ.out,HQ.out]
     rw[<-hRq] at eN
     obtain⟨r1,r2⟩:=eN.fin
     refine bodyPost_end (results_none rfl _ _ _) rfl ?_
     exact⟨rfl,r1,r2⟩
   ·rw[aB iP,aB ip] at jJ
    have lU:(co == 1)=false:=by simp;exact λh=>iP (.inl h)
    have lA:(co == 2)=false:=by simp;exact λh=>iP (.inr h)
    have MB:(co == 3)=false:=by simp;exact ip
    by_cases YK:co=8
    ·rw[aA YK] at jJ
     replace jJ:=Q jJ
     subst YK
     clear iP ip
     obtain⟨A1,c1,HV1,_,_⟩:=fK.nW dV 5 rfl
     obtain rfl:v3=Z A1 x.rd.length c1:=HV1
     have gD:∀b O,St V w (.c z 77 #[(),J nd,J 8,J i1,J i2,J i3,ae ah n,J bag]::.c y 75 #[J 2,J aa,J ab,J an,aX aS]::.c s 166 #[v1,v2,Z A1 x.rd.length c1]::b) O->O.cell? ⟨s,2,none⟩=some (Z A1 x.rd.length c1)∧O.cell? ⟨z,6,none⟩=some (ae ah n):=λb O h=>
      ⟨h.facts.2.2.1.1 2,h.facts.1.1 6⟩
     go_in
     go_wp2_with fail
     rw[<-QJ.out,<-HY.out,<-HA.out,<-HB.out]
     have eW:=dV.grow (Grow.refl _).drew
     have eA:=gD _ _ eW
     refine dJ rfl ?_
     refine fC (λO=>O.cell? ⟨s,2,none⟩=some (Z A1 x.rd.length c1)∧O.cell? ⟨z,6,none⟩=some (ae ah n)) [9,10,11] 12 rfl [0,1,2,3,4,5,6] ?_
     iterate 7 (refine eV rfl eA (λw1 ⟨I,G⟩=>aM) ?_)
     refine eZ 7 [] rfl ?_
     obtain⟨y3,wc,US,HC,PT⟩:=dV.new' #[ae ah n] 42
     go_wp2_with fail
     rw[<-HC.out,<-US.out]
     have dX:=PT.grow (Grow.refl _).drew
     refine⟨λ_=>gD _ _ (dX.dO 0 rfl),?_⟩
     refine eZ 8 [] rfl ?_
     have QH:x.rd.length<=1000000:=by unfold iN.len at Y;omega
     refine g_ a5D rfl (.tmp 49) (.tmp 52) rfl rfl (dX.front 6 rfl) (A:=some ⟨y3,0,none⟩) (m:=1) (c:=1) (news:=[ae ah n]) rfl (In.reads ((dX.blk 0 rfl).jL (size:=1) (n:=1) rfl)) (by simp[Value.oneCell']) ap ?_
     intro v' w8 fD
     obtain⟨A8,c8,rfl,hc8,hm8⟩:=fK.nW fD 0 rfl
     refine wpList_nil ⟨λ_=>gD _ _ ((fD.dO 0 rfl).dO 0 rfl),?_⟩
     refine fY 9 rfl aw ?_
     have f3:=fD.facts.2.2.2.1
     go_wp2_with fail
     have eF:=(((fD.put 4 rfl 2 (Z A8 (x.rd.length+1) c8)).dO 3 rfl).dO 2 rfl).dO 1 rfl
     have eF:=eF.perm (l':=[.c s 166 #[v1,v2,Z A8 (x.rd.length+1) c8],.o (qz v1 x.ak),.o (qz v2 x.rf),.o (fK 42 1 (Z A8 (x.rd.length+1) c8) (x.rd.length+1) (XF x.rd++[ae ah n]))]) ((List.Perm.swap _ _ _).trans (List.Perm.cons _ ((List.Perm.swap _ _ _).trans (List.Perm.cons _ (List.Perm.swap _ _ _)))))
     have eN:=fR.cls (x:={ x with rd:=x.rd++[n] }) (v:=(v1,v2,Z A8 (x.rd.length+1) c8)) (l:=[]) (eF.cast (l':=_) (by unfold qW XF;rw[bI,bd];rfl))
     rw[<-jJ.out] at eN
     obtain⟨r1,r2⟩:=eN.fin
     refine bodyPost_end (results_none rfl _ _ _) rfl ?_
     exact⟨rfl,r1,r2⟩
    ·rw[aB YK] at jJ
     subst jJ
     have hb8:(co == 8)=false:=by simp;exact YK
     replace iP:=Q iP
     replace ip:=Q ip
     replace YK:=Q YK
     obtain⟨r1,r2⟩:=(fR.cls (l:=[]) (dV.drop.drop)).fin
     go_in
     go_wp2_with fail
     rw[<-QJ.out,<-HY.out,<-HA.out,<-HB.out]
     refine bodyPost_end (results_none rfl _ _ _) rfl ?_
     exact⟨(),rfl,r1,r2⟩
set_option maxRecDepth 100000
set_option maxHeartbeats 1000000
section
variable{x:Wl}
theorem PU(h:St V w0 l w)(i:Nat)(hi:l[i]?=some (.o (iw abq x))):∃P:my,P.w=abq∧pM P x∧Pj P x w∧∃U,Ne.fc P.g (x.nn:Int) (x.net.map jY) x.cut w U:=by obtain⟨P,hP,hQ,hS⟩:=iw.opn (h.front i hi);obtain⟨U,hN,_⟩:=hS.own.see 4 rfl;exact⟨P,hP,hQ,iM hS hQ,U,hN⟩
theorem JL(h:St V w0 l w)(i:Nat)(hi:l[i]?=some (.o (iw abq x))):∃g:Nat,dz W 37 #[abq] w (λe O=>e=b5 ((g:K))∧w=O)∧dz W 89 #[g] w (λe O=>e=b5 (J x.net.length)∧w=O):=by obtain⟨P,rfl,hQ,hF,U,hN⟩:=PU h i hi;have:=JA w P.g _ _ _ U hN;rw[bj] at this;exact⟨P.g,T3 hF,this⟩
end
def sn(v:K):Option Nat->dW
 | none=>λ_ _=>v=.pointer none
 | some n=>λw U=>∃(y:Nat)(cs:aP),v=.pointer (some ⟨y,6,none⟩)∧cs[6]?=some (.int .u64 (n:Int))∧U y∧eJ w y 77 cs
theorem sn.framed(v:K):∀o,eu (sn v o)
 | none=>λ_ _ _ h _=>h
 | some _=>λ_ _ _ ⟨y,cs,I,G,L,h4⟩ N=>⟨y,cs,I,G,L,(N y L).trans h4⟩
structure Dr where
 (n:Nat) (x:Wl) (s:iN) (v:Option Nat)
def Dr.step(d:Dr)(node:Int):Dr:=⟨d.n+1,if (d.x.kK 0).1.why=26 then (d.x.kK 0).2.del 0 else (d.x.kK 0).2,d.s.add 2 { (d.x.kK 0).1 with bag:=((d.x.kK 0).2.net.length:Int) },if (d.x.kK 0).1.why≠26∧(d.x.kK 0).1.code=8∧(d.x.kK 0).1.node=node then some (d.x.kK 0).1.n else d.v⟩
def eY(node:Int):Nat->Dr->Dr
 | 0,d=>d
 | k+1,d=>if d.x.net.length=0 then d else eY node k (d.step node)
theorem a5F{m:Ms}(h:m.Gd):m.n<18446744073709551616:=by
 cases h with
 | ans tg c n _ _ L=>exact L
 | _=>exact (by decide:(0:Nat)<18446744073709551616)
theorem UZ(x:Wl)(h:x.Good M)(i:Nat):(x.kK i).1.n<18446744073709551616:=by
 have h0:(0:Nat)<18446744073709551616:=by decide
 unfold Wl.kK;cases hl:x.net[i]? with
 | none=>exact h0
 | some l=>
   have hn:=a5F (h.net.all l (List.mem_of_getElem? hl)).gd;dsimp only;repeat' split
   all_goals first|exact h0|exact hn
theorem ls(node:Int){d:Dr}(h:d.x.net.length=0):∀k,eY node k d=d
 | 0=>rfl
 | _+1=>aA h
theorem TB{x:Wl}(h:(x.kK i).1.why=26):(x.kK i).2=x:=by
 revert h;unfold Wl.kK;cases x.net[i]? with
 | none=>exact λ_=>rfl
 | some l=>
   dsimp only;repeat' split
   all_goals first|exact λ_=>rfl|exact λh=>absurd h (show ¬ (0:Int)=26 by decide)
theorem JM(w:X)(D:aV)(abq s M most:Nat)(x:Wl)(t:iN)(Y:x.Good M)(ht:t.Ok)(hl:t.len+most<=1000000)(node:Int):Lw W D 93 #[abq,s,J most,J node] [.o (iw abq x),.o (fR s t)]
  (λv e=>e=b5 (a_ #[J ((eY node most ⟨0,x,t,none⟩).n:Int),v])) (λv=>[.o (sn v (eY node most ⟨0,x,t,none⟩).v),.o (iw abq (eY node most ⟨0,x,t,none⟩).x),.o (fR s (eY node most ⟨0,x,t,none⟩).s)]) w:=by
 obtain⟨R,HR⟩:=az (eY node most ⟨0,x,t,none⟩)
 rw[<-HR.out]
 intro V hM hV
 have fN:=St.begin_ hM (λb hb=>(hV b hb).1) ⟨iw.framed _ _,fR.framed _ _,trivial⟩
 have fN:=fN.join (sn.framed (.pointer none) none) (Grow.refl _) (U:=λ_=>False) rfl (λ_ h=>h.elim)
 go_in
 go_wp2_with fail
 go_loopw [10,11] (λv n wr=>∃(k:Nat)(d:Dr),n=J k∧(k<=most∧d.n=k∧d.s.len<=t.len+k)∧Hid (R=eY node (most-k) d)∧(d.x.Good M∧d.s.Ok)∧St V w [.o (sn v d.v),.o (iw abq d.x),.o (fR s d.s)] wr) (λ_ n _=>most-(intOf n).toNat)
 case atStart=>exact⟨0,⟨0,x,t,none⟩,rfl,⟨bo _,rfl,bh _⟩,HR,⟨Y,ht⟩,fN⟩
 case round=>
  obtain⟨k,d,rfl,⟨iP,ip,zd⟩,HRd,⟨Zo,tS⟩,hS⟩:=hrel
  obtain⟨g,hNt,Me⟩:=JL hS 1 rfl
  obtain⟨abn,HL⟩:=az (d.x.net.length)
  rw[<-HL.out] at Me
  by_cases Iw:k<most
  ·have c1:decide ((k:Int)<(most:Int))=true:=aC ap
   by_cases h0:abn=0
   ·subst h0
    go_wp2_with fail
    refine hNt.mono ?_
    rintro e w1 ⟨rfl,rfl⟩
    go_wp2_with fail
    refine Me.mono ?_
    rintro e w1 ⟨rfl,rfl⟩
    go_wp2
    go_ret2
    rw[HRd.out,ls node HL.out.symm,ip]
    obtain⟨r1,r2⟩:=hS.fin
    exact⟨_,rfl,r1,r2⟩
   ·have c2:decide ((0:Int)<(abn:Int))=true:=aC ap
    go_wp2_with fail
    refine hNt.mono ?_
    rintro e w1 ⟨rfl,rfl⟩
    go_wp2_with fail
    refine Me.mono ?_
    rintro e w1 ⟨rfl,rfl⟩
    have ej:=hS.new #[(),(),(),(),""] 75
    go_wp2_with (refine d_ ej 0 rfl 75 _ _ rfl 0 rfl [J 2,(),(),(),""] rfl (bf rfl) rfl aw (j8 ⟨2,0,0,0,⟨#[]⟩⟩) rfl rfl ?_;clear ej;intro w2 dV;refine stay ?_)
    refine dI ?_
    obtain⟨y,HY⟩:=az ((wr:Nat))
    rw[<-HY.out] at dV ⊢
    have hDo:je abq d.x ⟨2,0,0,0,⟨#[]⟩⟩ (d.x.kK 0).1 (d.x.kK 0).2:=XC Zo (i:=0) (by rw[<-HL.out];omega) 0 0 ⟨#[]⟩
    have YL:=UZ d.x Zo 0
    obtain⟨ev,HE⟩:=az ({ (d.x.kK 0).1 with bag:=((d.x.kK 0).2.net.length:Int) })
    obtain⟨x5,HX⟩:=az ((d.x.kK 0).2)
    have PV:Lw W (λ_=>False) 33 #[abq,aZ (j8 ⟨2,0,0,0,⟨#[]⟩⟩)] [.o (iw abq d.x)] (λ(_:Unit)e=>e=b5 (aZ (kB ev))) (λ_=>[.o (iw abq x5)]) w2:=by rw[HE.out,HX.out];exact hDo w2 _
    have hC:=dV.at_ 2 rfl (λ_=>iw.framed _ _) dV.no PV
    go_wp2_with (refine dU rfl 75 _ rfl _ rfl (dV.blk 0 rfl) Tryz.underlying75 aw ?_)
    refine hC.mono ?_
    rintro e w3 ⟨_,rfl,dX⟩
    clear hC PV hDo
    have dX:St V w [.c y 75 (j8 ⟨2,0,0,0,⟨#[]⟩⟩),.o (sn u10 d.v),.o (iw abq x5),.o (fR s d.s)] w3:=dX
    have eO:=dX.new aH 77
    clear dV hS
    go_wp2_with (refine d_ eO 0 rfl 77 _ _ rfl 0 rfl [J ev.why,J ev.node,J ev.code,J ev.id.1,J ev.id.2.1,J ev.id.2.2,ae ah ev.n,J ev.bag] rfl (bf rfl) rfl aw (kB ev) rfl rfl ?_;clear eO;intro w5 eF;refine stay ?_)
    refine dI ?_
    obtain⟨z,HZ⟩:=az ((w3:Nat))
    rw[<-HZ.out] at eF ⊢
    clear dX
    have eF:St V w [.c z 77 (kB ev),.c y 75 (j8 ⟨2,0,0,0,⟨#[]⟩⟩),.o (sn u10 d.v),.o (iw abq x5),.o (fR s d.s)] w5:=eF
    have UH:=eF.at_ 4 rfl (λ_=>fR.framed _ _) eF.no (EN w5 (λ_=>False) s d.s ⟨2,0,0,0,⟨#[]⟩⟩ ev ap tS)
    go_wp2_with (first|(refine dU rfl 75 _ rfl _ rfl (eF.blk 1 rfl) Tryz.underlying75 aw ?_)|(refine dU rfl 77 _ rfl _ rfl (eF.blk 0 rfl) bX aw ?_))
    refine UH.mono ?_
    rintro e w6 ⟨_,rfl,eN⟩
    clear UH eF
    obtain⟨s6,HS6⟩:=az (d.s.add 2 ev)
    have eN:St V w [.c z 77 (kB ev),.c y 75 (j8 ⟨2,0,0,0,⟨#[]⟩⟩),.o (sn u10 d.v),.o (iw abq x5),.o (fR s s6)] w6:=by rw[HS6.out];exact eN
    have f0:=eN.facts.1.1
    have e0:w6.cell? ⟨z,0,none⟩=some (J ev.why):=f0 0
    have e1:w6.cell? ⟨z,1,none⟩=some (J ev.node):=f0 1
    have e2:w6.cell? ⟨z,2,none⟩=some (J ev.code):=f0 2
    have iB:Hid (d.step node=⟨k+1,if ev.why=26 then x5.del 0 else x5,s6,if ev.why≠26∧ev.code=8∧ev.node=node then some ev.n else d.v⟩):=Q (by rw[HS6.out,HX.out,HE.out,<-ip];rfl)
    have vR:x5.Good M:=by rw[HX.out];exact Zo.kK 0
    have hgs:s6.Ok:=by rw[HS6.out];exact tS.add 2 (by rw[HE.out];exact YL)
    have sA:s6.len<=t.len+(k+1):=by rw[HS6.out];have:=d.s.nA 2 ev;omega
    have hRn:Hid (R=eY node (most-(k+1)) (d.step node)):=Q (by rw[HRd.out,show most-k=(most-(k+1))+1 by omega];exact aB (by rw[<-HL.out];exact h0))
    have Mh:ev.why=26->x5=d.x:=λh=>by rw[HX.out];exact TB (by rw[HE.out] at h;exact h)
    have a18:d.x.net.length=abn:=HL.out.symm
    clear HX HE HS6 YL f0
    by_cases hw:ev.why=26
    ·have b0:(ev.why == 26)=true:=by simp[hw]
     rw[aA hw,aB (λh=>h.1 hw)] at iB
     have U_:je abq x5 ⟨3,0,0,0,⟨#[]⟩⟩ { Ev.zero with why:=0 } (x5.del 0):=Tv (i:=0) (by rw[Mh hw,a18];omega) 0 0 ⟨#[]⟩
     have hC:=eN.at_ 3 rfl (λ_=>iw.framed _ _) eN.no (U_ w6 (λ_=>False))
     replace hw:=Q hw
     clear Mh a18
     unfold j8 at hC
     dsimp only at hC
     go_wp2_with fail
     refine hC.mono ?_
     rintro e w7 ⟨_,rfl,fH⟩
     clear hC U_
     go_wp2_with fail
     refine⟨⟨k+1,d.step node,by go_num,⟨by omega,by rw[iB.out],by rw[iB.out];exact sA⟩,hRn,by rw[iB.out];exact⟨vR.del 0,hgs⟩,?_⟩,by simp[intOf];omega⟩
     rw[iB.out]
     exact fH.drop.drop
    ·have b0:(ev.why == 26)=false:=by simp[hw]
     rw[aB hw] at iB
     by_cases h8:ev.code=8∧ev.node=node
     ·rw[aA ⟨hw,h8⟩] at iB
      replace hw:=Q hw
      have b1:(ev.code == 8)=true:=by simp[h8.1]
      have b2:(ev.node == node)=true:=by simp[h8.2]
      replace h8:=Q h8
      go_wp2_with fail
      have fH:=St.cls (S:=sn (.pointer (some ⟨z,6,none⟩)) (some ev.n)) (a:=[.c z 77 (kB ev)]) ((eN.dO 2 rfl).dO 1 rfl) (sn.framed _ _) λU hM=>by obtain⟨I,G⟩:=xe hM 0 rfl;exact⟨z,kB ev,rfl,rfl,I,G⟩
      refine⟨⟨k+1,d.step node,by go_num,⟨by omega,by rw[iB.out],by rw[iB.out];exact sA⟩,hRn,by rw[iB.out];exact⟨vR,hgs⟩,?_⟩,by simp[intOf];omega⟩
      rw[iB.out]
      exact fH
     ·rw[aB (λh=>h8 h.2)] at iB
      replace hw:=Q hw
      have hb:(ev.code == 8)=false∨((ev.code == 8)=true∧(ev.node == node)=false):=by
       by_cases h:ev.code=8;·exact .inr ⟨by simp[h],by simp;exact λG=>h8 ⟨h,G⟩⟩
       ·exact .inl (by simp[h])
      replace h8:=Q h8
      have fin:St V w [.o (sn u10 (d.step node).v),.o (iw abq (d.step node).x),.o (fR s (d.step node).s)] w6:=by rw[iB.out];exact eN.drop.drop
      rcases hb with b1|⟨b1,b2⟩
      all_goals
       go_wp2_with fail
       exact⟨⟨k+1,d.step node,by go_num,⟨by omega,by rw[iB.out],by rw[iB.out];exact sA⟩,hRn,by rw[iB.out];exact⟨vR,hgs⟩,fin⟩,by simp[intOf];omega⟩
  ·have c1:decide ((k:Int)<(most:Int))=false:=aD ap
   go_wp2
   go_ret2
   have e0:most-k=0:=by omega
   rw[HRd.out,e0]
   show ∃i,Ending.returned (a_ #[J k,u10])=b5 (a_ #[J d.n,i])∧_
   rw[ip]
   obtain⟨r1,r2⟩:=hS.fin
   exact⟨_,rfl,r1,r2⟩
set_option maxRecDepth 100000
set_option maxHeartbeats 1000000
theorem Co(w:X)(D:aV)(abq s M most:Nat)(x:Wl)(t:iN)(Y:x.Good M)(ht:t.Ok)(hl:t.len+most<=1000000):Lw W D 40 #[abq,s,J most] [.o (iw abq x),.o (fR s t)]
  (λ(_:Unit)e=>e=b5 (J ((eY (-1) most ⟨0,x,t,none⟩).n:Int))) (λ_=>[.o (iw abq (eY (-1) most ⟨0,x,t,none⟩).x),.o (fR s (eY (-1) most ⟨0,x,t,none⟩).s)]) w:=by
 intro V hM hV
 have fN:=St.begin_ hM (λb hb=>(hV b hb).1) ⟨iw.framed _ _,fR.framed _ _,trivial⟩
 have hD:=St.call (a:=[.o (iw abq x),.o (fR s t)]) (a':=λv=>[.o (sn v (eY (-1) most ⟨0,x,t,none⟩).v),.o (iw abq (eY (-1) most ⟨0,x,t,none⟩).x),.o (fR s (eY (-1) most ⟨0,x,t,none⟩).s)]) (b:=[]) fN (λv=>⟨sn.framed _ _,iw.framed _ _,fR.framed _ _,trivial⟩) fN.no (JM w (λ_=>False) abq s M most x t Y ht hl (-1))
 generalize eY (-1) most ⟨0,x,t,none⟩=R at hD ⊢
 go_in
 go_wp2_with fail
 refine hD.mono ?_
 rintro e w2 ⟨v,rfl,dV⟩
 go_wp2
 go_ret
 obtain⟨r1,r2⟩:=dV.drop.fin
 exact⟨(),rfl,r1,r2⟩
inductive kr(abq:Nat):Wl->iN->List Ac->Bool->Wl->iN->Prop
 | nil (x:Wl) (s:iN):kr abq x s [] true x s
 | ok {x x' x2:Wl} {s s2:iN} {a:Ac} {l:List Ac} {ev:Ev} {b:Bool} (h:je abq x a ev x') (h0:ev.why=0) (hn:ev.n<18446744073709551616) (r:kr abq x' (s.add a.k { ev with bag:=(x'.net.length:Int) }) l b x2 s2):kr abq x s (a::l) b x2 s2
 | bad {x x':Wl} {s:iN} {a:Ac} {l:List Ac} {ev:Ev} (h:je abq x a ev x') (h0:ev.why≠0) (hn:ev.n<18446744073709551616):kr abq x s (a::l) false x' (s.add a.k { ev with bag:=(x'.net.length:Int) })
def Ic(a:Ac):List K:=[J a.k,J a.a,J a.b,J a.n,aX a.s]
theorem PW(w:X)(D:aV)(abq s bk:Nat)(x x2:Wl)(t t2:iN)(l:List Ac)(b:Bool)(hr:kr abq x t l b x2 t2)(ht:t.Ok)(hl:t.len+l.length<=1000000):Lw W D 32 #[abq,s,Z (some ⟨bk,0,none⟩) l.length l.length] [.o (iw abq x),.o (fR s t),.c bk 75 (l.flatMap Ic).toArray]
  (λ(_:Unit)e=>e=b5 (aY b)) (λ_=>[.o (iw abq x2),.o (fR s t2),.c bk 75 (l.flatMap Ic).toArray]) w:=by
 obtain⟨cs,HC⟩:=az ((l.flatMap Ic).toArray)
 obtain⟨n,HN⟩:=az (l.length)
 rw[<-HC.out,<-HN.out]
 intro V hM hV
 have fN:=St.begin_ hM (λb hb=>(hV b hb).1) ⟨iw.framed _ _,fR.framed _ _,trivial,trivial⟩
 go_in
 go_wp2_with fail
 go_loopw [12] (λi wr=>∃(j:Nat)(y:Wl)(u:iN),i=J j∧(j<=n∧u.len<=t.len+j)∧kr abq y u (l.drop j) b x2 t2∧u.Ok∧St V w [.o (iw abq y),.o (fR s u),.c bk 75 cs] wr) (λi _=>n-(intOf i).toNat)
 case atStart=>exact⟨0,x,t,rfl,⟨bo _,bh _⟩,hr,ht,fN⟩
 case round=>
  obtain⟨j,y,u,rfl,⟨hj,hul⟩,YM,hu,hS⟩:=hrel
  by_cases Cw:j<n
  ·have Ix:j<l.length:=by rw[<-HN.out];exact Cw
   have c1:decide ((j:Int)<(n:Int))=true:=aC ap
   rw[bP Ix] at YM
   have hf:∀i,i<5->wr.cell? ⟨bk,j*5+i,none⟩=(Ic l[j])[i]?:=λi hi=>by have:=hS.facts.1.1 (j*5+i);rw[this,HC.out];rw[List.getElem?_toArray];exact flat_get Ic 5 (λ_=>rfl) l j i Ix hi
   have f0:wr.cell? ⟨bk,j*5,none⟩=_:=hf 0 ap
   have f1:=hf 1 ap
   have f2:=hf 2 ap
   have f3:=hf 3 ap
   have f4:=hf 4 ap
   clear hf
   generalize l[j]=a at YM f0 f1 f2 f3 f4
   obtain⟨k,aa,ab,an,aS⟩:=a
   simp only[Ic,List.getElem?_cons_zero,List.getElem?_cons_succ] at f0 f1 f2 f3 f4
   have ej:=hS.new #[(),(),(),(),""] 75
   go_wp2_with (refine d_ ej 0 rfl 75 _ _ rfl 0 rfl [J k,J aa,J ab,J an,aX aS] rfl (bf rfl) rfl aw (j8 ⟨k,aa,ab,an,aS⟩) rfl rfl ?_;clear ej;intro w2 dV;refine stay ?_)
   refine dI ?_
   clear f0 f1 f2 f3 f4
   obtain⟨y0,HY⟩:=az ((wr:Nat))
   rw[<-HY.out] at dV ⊢
   obtain⟨ev,y5,u5,hDo,YL,HU5,nh⟩:∃(ev:Ev)(y5:Wl)(u5:iN),je abq y ⟨k,aa,ab,an,aS⟩ ev y5∧ev.n<18446744073709551616∧Hid (u5=u.add k { ev with bag:=(y5.net.length:Int) })∧((ev.why=0∧kr abq y5 u5 (l.drop (j+1)) b x2 t2)∨(ev.why≠0∧Hid (b=false∧x2=y5∧t2=u5))):=by
    cases YM with
    | ok h h0 hn r=>exact⟨_,_,_,h,hn,Q rfl,.inl ⟨h0,r⟩⟩
    | bad h h0 hn=>exact⟨_,_,_,h,hn,Q rfl,.inr ⟨h0,Q ⟨rfl,rfl,rfl⟩⟩⟩
   clear YM
   obtain⟨e5,HE⟩:=az ({ ev with bag:=(y5.net.length:Int) })
   have PV:Lw W (λ_=>False) 33 #[abq,aZ (j8 ⟨k,aa,ab,an,aS⟩)] [.o (iw abq y)] (λ(_:Unit)e=>e=b5 (aZ (kB e5))) (λ_=>[.o (iw abq y5)]) w2:=by rw[HE.out];exact hDo w2 _
   have hw5:e5.why=ev.why:=by rw[HE.out]
   have YL:e5.n<18446744073709551616:=by rw[HE.out];exact YL
   rw[<-HE.out] at HU5
   have hC:=dV.at_ 1 rfl (λ_=>iw.framed _ _) dV.no PV
   go_wp2_with (refine dU rfl 75 _ rfl _ rfl (dV.blk 0 rfl) Tryz.underlying75 aw ?_)
   refine hC.mono ?_
   rintro e w3 ⟨_,rfl,dX⟩
   clear hC PV hDo
   have dX:St V w [.c y0 75 (j8 ⟨k,aa,ab,an,aS⟩),.o (iw abq y5),.o (fR s u),.c bk 75 cs] w3:=dX
   have eO:=dX.new aH 77
   clear dV hS
   go_wp2_with (refine d_ eO 0 rfl 77 _ _ rfl 0 rfl [J e5.why,J e5.node,J e5.code,J e5.id.1,J e5.id.2.1,J e5.id.2.2,ae ah e5.n,J e5.bag] rfl (bf rfl) rfl aw (kB e5) rfl rfl ?_;clear eO;intro w5 eF;refine stay ?_)
   refine dI ?_
   obtain⟨z,HZ⟩:=az ((w3:Nat))
   rw[<-HZ.out] at eF ⊢
   clear dX
   have eF:St V w [.c z 77 (kB e5),.c y0 75 (j8 ⟨k,aa,ab,an,aS⟩),.o (iw abq y5),.o (fR s u),.c bk 75 cs] w5:=eF
   have UH:=eF.at_ 3 rfl (λ_=>fR.framed _ _) eF.no (EN w5 (λ_=>False) s u ⟨k,aa,ab,an,aS⟩ e5 ap hu)
   go_wp2_with (first|(refine dU rfl 75 _ rfl _ rfl (eF.blk 1 rfl) Tryz.underlying75 aw ?_)|(refine dU rfl 77 _ rfl _ rfl (eF.blk 0 rfl) bX aw ?_))
   refine UH.mono ?_
   rintro e w6 ⟨_,rfl,eN⟩
   clear UH eF
   have eN:St V w [.c z 77 (kB e5),.c y0 75 (j8 ⟨k,aa,ab,an,aS⟩),.o (iw abq y5),.o (fR s u5),.c bk 75 cs] w6:=by rw[HU5.out];exact eN
   have e0:w6.cell? ⟨z,0,none⟩=some (J e5.why):=eN.facts.1.1 0
   rw[hw5] at e0
   have hgs:u5.Ok:=by rw[HU5.out];exact hu.add k YL
   have sA:u5.len<=t.len+(j+1):=by rw[HU5.out];have:=u.nA k e5;omega
   clear hw5 HE HU5
   rcases nh with ⟨hw,hr5⟩|⟨hw,hb⟩
   ·have b0:(ev.why != 0)=false:=by simp[hw]
    replace hw:=Q hw
    go_wp2_with fail
    exact⟨⟨j+1,y5,u5,by go_num,⟨by omega,sA⟩,hr5,hgs,eN.drop.drop⟩,by simp[intOf];omega⟩
   ·have b0:(ev.why != 0)=true:=by simp[hw]
    replace hw:=Q hw
    go_wp2
    go_ret
    obtain⟨lU,lA,MB⟩:=hb.out
    rw[lU,lA,MB]
    obtain⟨r1,r2⟩:=eN.drop.drop.fin
    exact⟨(),rfl,r1,r2⟩
  ·have c1:decide ((j:Int)<(n:Int))=false:=aD ap
   rw[cR (by rw[<-HN.out];omega)] at YM
   cases YM
   go_wp2
   go_ret
   obtain⟨r1,r2⟩:=hS.fin
   exact⟨(),rfl,r1,r2⟩
set_option maxRecDepth 100000
set_option maxHeartbeats 1000000
def EO(a n:Int)(o8:aR):List Ac:=[⟨9,a,0,n,o8⟩,⟨10,a,0,0,⟨#[]⟩⟩,⟨1,a,0,1,⟨#[]⟩⟩]
theorem XH(w:X)(D:aV)(abq s M:Nat)(x x2:Wl)(t t2:iN)(a n:Int)(o8:aR)(hr:kr abq x t (EO a n o8) true x2 t2)(ht:t.Ok)(Ka:t2.Ok)(lw:x2.Good M)(hl:t.len<=999000)(Be:t2.len<=999000):Lw W D 28 #[abq,s,J a,aX o8,J n] [.o (iw abq x),.o (fR s t)]
  (λ(_:Unit)e=>e=b5 (aY true)) (λ_=>[.o (iw abq (eY (-1) 400 ⟨0,x2,t2,none⟩).x),.o (fR s (eY (-1) 400 ⟨0,x2,t2,none⟩).s)]) w:=by
 obtain⟨R,HR⟩:=az (eY (-1) 400 ⟨0,x2,t2,none⟩)
 rw[<-HR.out]
 intro V hM hV
 have fN:=St.begin_ hM (λb hb=>(hV b hb).1) ⟨iw.framed _ _,fR.framed _ _,trivial⟩
 obtain⟨y,wa,HY,HA,ej⟩:=fN.new' #[J 9,J a,(),J n,aX o8,J 10,J a,(),(),"",J 1,J a,(),J 1,""] 75
 have ej:St V w [.o (iw abq x),.o (fR s t),.c y 75 ((EO a n o8).flatMap Ic).toArray] wa:=ej.perm (bg (l₁:=[_]))
 have T:=St.call (b:=[]) ej (a':=λ(_:Unit)=>[.o (iw abq x2),.o (fR s t2),.c y 75 ((EO a n o8).flatMap Ic).toArray]) (λ_=>⟨iw.framed _ _,fR.framed _ _,trivial,trivial⟩) ej.no (PW wa (λ_=>False) abq s y x x2 t t2 (EO a n o8) true hr ht (by show t.len+3<=_;omega))
 have T:dz W 32 #[abq,s,Z (some ⟨y,0,none⟩) 3 3] wa _:=T
 go_in
 go_wp2_with fail
 rw[<-HA.out,<-HY.out]
 refine T.mono ?_
 rintro e w2 ⟨_,rfl,dV⟩
 clear T ej fN
 have dV:St V w [.o (iw abq x2),.o (fR s t2)] w2:=dV.dO 2 rfl
 have hD:=St.call (a:=[.o (iw abq x2),.o (fR s t2)]) (b:=[]) dV (a':=λ(_:Unit)=>[.o (iw abq (eY (-1) 400 ⟨0,x2,t2,none⟩).x),.o (fR s (eY (-1) 400 ⟨0,x2,t2,none⟩).s)]) (λ_=>⟨iw.framed _ _,fR.framed _ _,trivial⟩) dV.no (Co w2 (λ_=>False) abq s M 400 x2 t2 lw Ka ap)
 rw[<-HR.out] at hD
 have hD:dz W 40 #[abq,s,J 400] w2 _:=hD
 go_wp2_with fail
 refine hD.mono ?_
 rintro e w3 ⟨_,rfl,dX⟩
 go_wp2
 go_ret
 obtain⟨r1,r2⟩:=dX.fin
 exact⟨(),rfl,r1,r2⟩
theorem XI(x:Wl)(i:Nat):(x.kK i).2.nr=x.nr∧(x.kK i).2.na=x.na:=by
 unfold Wl.kK;cases x.net[i]? with
 | none=>exact⟨rfl,rfl⟩
 | some l=>
   dsimp only;repeat' split
   all_goals exact⟨rfl,rfl⟩
theorem Dr.XJ(d:Dr)(node:Int):(d.step node).x.nr=d.x.nr∧(d.step node).x.na=d.x.na:=by
 have h:=XI d.x 0;unfold Dr.step;dsimp only;split;·exact h
 ·exact h
theorem Dr.M6{d:Dr}(h:d.x.Good M)(node:Int):(d.step node).x.Good M:=by
 unfold Dr.step;dsimp only;split;·exact (h.kK 0).del 0
 ·exact h.kK 0
theorem Dr.step_ok{d:Dr}(h:d.x.Good M)(hs:d.s.Ok)(node:Int):(d.step node).s.Ok:=hs.add 2 (e:={ (d.x.kK 0).1 with bag:=((d.x.kK 0).2.net.length:Int) }) (UZ d.x h 0)
theorem nP(node:Int){M:Nat}:∀(k:Nat)(d:Dr),d.x.Good M->d.s.Ok->(eY node k d).x.Good M∧(eY node k d).s.Ok∧(eY node k d).s.len<=d.s.len+k∧(eY node k d).x.nr=d.x.nr∧(eY node k d).x.na=d.x.na
 | 0,d,h,hs=>⟨h,hs,bh _,rfl,rfl⟩
 | k+1,d,h,hs=>by
   unfold eY;split;·exact⟨h,hs,by omega,rfl,rfl⟩
   ·obtain⟨a,b,c,e,f⟩:=nP node k (d.step node) (d.M6 h node) (d.step_ok h hs node)
    have I:=d.XJ node;have G:(d.step node).s.len<=d.s.len+1:=iN.nA _ _ _;exact⟨a,b,by omega,e.trans I.1,f.trans I.2⟩
abbrev WS:=Wl×iN
@[irreducible] def vJ(p:WS):WS:=((eY (-1) 400 ⟨0,p.1,p.2,none⟩).x,(eY (-1) 400 ⟨0,p.1,p.2,none⟩).s)
structure gY(p:WS)(nr na M abn:Nat):Prop where
 good:p.1.Good M
 ok:p.2.Ok
 len:p.2.len<=abn
 nr:p.1.nr=nr
 na:p.1.na=na
namespace gY
variable{p:WS}
theorem mono{M' L':Nat}(h:gY p nr na M abn)(hM:M<=M')(hL:abn<=L'):gY p nr na M' L':=⟨h.good.mono hM,h.ok,bB h.len hL,h.nr,h.na⟩
theorem YN(h:gY p nr na M abn):gY (vJ p) nr na M (abn+400):=by obtain⟨a,b,c,e,f⟩:=nP (-1) 400 ⟨0,p.1,p.2,none⟩ h.good h.ok;unfold vJ;exact⟨a,b,by have:=h.len;have:(eY (-1) 400 ⟨0,p.1,p.2,none⟩).s.len<=p.2.len+400:=c;show (eY (-1) 400 ⟨0,p.1,p.2,none⟩).s.len<=_;omega,e.trans h.nr,f.trans h.na⟩
theorem lead(h:gY p nr na M abn):gY (p.1.gH 0,p.2) nr na (M+1) abn:=⟨h.good.gH h.good.n.1,h.ok,h.len,h.nr,h.na⟩
theorem jy(h:gY p nr na M abn)(hM:M<=1048576){i n:Nat}(hi:i<na)(hn:n<=1024):gY (p.1.jy i n,p.2) nr na (M+1) abn:=⟨h.good.jy hM (by rw[h.na];exact hi) hn,h.ok,h.len,h.nr,h.na⟩
theorem look(h:gY p nr na M abn)(hM:M<=1048576)(hi:i<na){s:aR}(hp:Go.Proofs.YtpeepcmdehhbgaaGreatDoor.abn.fW s=0):gY (p.1.nO i s,p.2) nr na (M+1) abn:=⟨h.good.nO hM (by rw[h.na];exact hi) hp,h.ok,h.len,h.nr,h.na⟩
theorem few(h:gY p nr na M abn):na<=7:=by have:=h.good.n;unfold Wl.nn at this;have:=h.na;omega
end gY
set_option maxRecDepth 100000
set_option maxHeartbeats 1000000
section
variable{p:WS}{D:aV}
abbrev mZ(abq s:Nat)(p:WS):List Bl:=[.o (iw abq p.1),.o (fR s p.2)]
theorem pu(abq s:Nat)(p:WS):pF (mZ abq s p):=⟨iw.framed _ _,fR.framed _ _,trivial⟩
theorem B9{a:Ac}{ev:Ev}{x':Wl}(h:St V w0 (mZ abq s p++l) w)(hd:je abq p.1 a ev x'):dz W 33 #[abq,aZ (j8 a)] w λe O=>e=b5 (aZ (kB { ev with bag:=(x'.net.length:Int) }))∧St V w0 (mZ abq s (x',p.2)++l) O:=by have:=St.at_ h 0 rfl (λ_=>iw.framed _ _) h.no (hd w (λ_=>False));exact this.mono λe O ⟨_,I,G⟩=>⟨I,G⟩
theorem Cp(h:St V w0 (mZ abq s p++l) w):∃P:my,P.w=abq∧pM P p.1∧Pj P p.1 w:=by obtain⟨P,a,b,c,_⟩:=PU h 0 rfl;exact⟨P,a,b,c⟩
end
set_option maxRecDepth 100000
set_option maxHeartbeats 1000000
@[irreducible] def ER(k:Nat)(o8:aR)(p:WS):Dr:=eY ((p.1.nr+k:Nat):Int) 400 ⟨0,p.1.nO k o8,p.2,none⟩
end Go.Proofs.YtpeepcmdehhbgaaGreatDoor
end
section
open Go.Proofs.YtpeepcmdehhbgaaGreatDoor (Dl)
variable{n B g c i nr na abm Bd k sq B' tg m:Nat}{d:Dl}{w:X}{ac:aN}
namespace Go.Proofs.YtpeepcmdehhbgaaGreatDoor
open RowKit Hop V
set_option maxRecDepth 100000
set_option maxHeartbeats 1000000
section
variable{r:Nat}{c0 c1 c2 c3 c4 c5 c6 c7:K}
theorem ES(hB:eJ w r 118 #[c0,c1,c2,c3,c4,c5,c6,c7]):dz W 17 #[r] w λe O=>e=b5 c3∧w=O:=by have c:=hB.cell 3;go_in;go_wp2;go_ret;exact⟨rfl,rfl⟩
theorem M7(hB:eJ w r 118 #[c0,c1,c2,c3,c4,c5,c6,c7]):dz W 83 #[r] w λe O=>e=b5 c6∧w=O:=by have c:=hB.cell 6;go_in;go_wp2;go_ret;exact⟨rfl,rfl⟩
theorem Ih(hB:eJ w r 118 #[c0,c1,c2,c3,c4,c5,c6,c7]):dz W 21 #[r] w λe O=>e=b5 c4∧w=O:=by have c:=hB.cell 4;go_in;go_wp2;go_ret;exact⟨rfl,rfl⟩
end
section
variable{V:aV}{w0:X}{abq s:Nat}{p:WS}{l:List Bl}
theorem V0(h:St V w0 (mZ abq s p++l) w)(hi:i<p.1.nr):∃r m:Nat,dz W 31 #[abq,J i] w (λe O=>e=b5 ((r:K))∧w=O)∧dz W 17 #[r] w (λe O=>e=b5 ((m:K))∧w=O)∧dz W 83 #[r] w (λe O=>e=b5 (aY (p.1.rp i).leads)∧w=O)∧dz W 21 #[r] w (λe O=>e=b5 (J ((p.1.rp i).commit:Int))∧w=O):=by obtain⟨P,hP,hQ,hS⟩:=iw.opn h;have Uf:=qT (iM hS hQ) hQ hi;rw[hP] at Uf;obtain⟨U,⟨q,g,I,_,L⟩,_⟩:=(hS.front (5+i) (Ph P p.1 hi _)).own.see 0 rfl;obtain⟨_,hB⟩:=xe L 0 rfl;unfold iu at hB;rw[I] at hB;exact⟨P.r i,q.m,Uf,ES hB,M7 hB,Ih hB⟩
theorem a1d(h:St V w0 (mZ abq s p++l) w)(hi:i<p.1.na):∃a:Nat,dz W 47 #[abq,J i] w (λe O=>e=b5 ((a:K))∧w=O):=by obtain⟨P,hP,hQ,hF⟩:=Cp h;have:=nL hF hQ hi;rw[hP] at this;exact⟨P.a i,this⟩
theorem XL(h:St V w0 (mZ abq s p++l) w):∃g:Nat,dz W 37 #[abq] w (λe O=>e=b5 ((g:K))∧w=O)∧dz W 89 #[g] w (λe O=>e=b5 (J p.1.net.length)∧w=O):=JL h 0 rfl
end
theorem Ii(w:X)(V:aV)(A:aU)(c:Nat)(l:List I3)(h:In w V 3 A l.length (fG l))(hn:l.length<=1048576):dz W 94 #[Z A l.length c] w λe O=>∃A' c',e=b5 (Z A' l.length c')∧In O (New w O) 3 A' l.length (fG l)∧Grow w O:=by
 have kS:=λ(O:X)=>Lib.run_eql_slice_nil (P:=W) O 81 37 A l.length c 0 0 Tryz.underlying81;obtain⟨n,HN⟩:=az (l.length:Nat);rw[<-HN.out] at h hn kS ⊢;cases A with
 | none=>
   have y_:n=0:=by
    rcases b_ n with h0|h0
    ·exact h0
    ·obtain⟨_,e,_⟩:=h.2 ap;cases e
   subst y_;have hl:l=[]:=bu HN.out.symm;subst hl;go_in;go_wp2;go_ret;exact⟨_,_,rfl,In.nil,Grow.refl _⟩
 | some ad=>
   go_in;go_wp2_with (at_builtin;refine stay ?_);refine dI ?_;refine fO (V:=λb=>b=(w:Nat)) YA _ rfl (.tmp 5) (.tmp 6) rfl (Z (some ⟨(w:Nat),0,none⟩) 0 0) 0 [] rfl (lC w _ _) (w:Nat) (some ad) n c (fG l) rfl (Reads.alloc (In.reads h) (bh _) _) (uF l) ap ?_;intro v1 w1 kv wo;simp only[cJ,ch] at kv;obtain⟨sw,eD⟩:=ny kv wo;obtain⟨A2,c2,rfl,hI,iS,hm⟩:=sw.jL;go_wp2;go_ret;exact⟨A2,c2,rfl,hI,eD⟩
theorem Ij(w:X)(D:aV)(s:Nat)(x:iN)(Y:x.len<=1000000):Lw W D 36 #[s] [.o (fR s x)] (λ(j:Option dA×Nat)e=>e=b5 (Z j.1 x.ak.length j.2)) (λj=>[.o (qz (Z j.1 x.ak.length j.2) x.ak)]++[.o (fR s x)]) w:=by intro V hM hV;obtain⟨v,hS⟩:=fR.opn (St.begin_ hM (λb hb=>(hV b hb).1) ⟨fR.framed _ _,trivial⟩);obtain⟨U,⟨A,c,hv,hI⟩,_⟩:=hS.own.see 1 rfl;have c0:w.cell? ⟨s,0,none⟩=some v.1:=hS.facts.1.1 0;rw[hv] at c0;have hC:=Ii w U A c x.ak hI (by unfold iN.len at Y;omega);obtain⟨n,HN⟩:=az (x.ak.length:Nat);rw[<-HN.out] at hC c0 ⊢;go_in;go_wp2_with fail;refine hC.mono ?_;rintro e w2 ⟨A',c',rfl,It,H⟩;go_wp2;go_ret;have dV:=(fR.cls (l:=[]) hS).join (qz.framed (Z A' n c') x.ak) H (U:=New w w2) ⟨A',c',by rw[HN.out],by rw[<-HN.out];exact It⟩ (λb hb=>hb);obtain⟨r1,r2⟩:=dV.fin;exact⟨(A',c'),rfl,r1,r2⟩
theorem PZ(w:X):Lw W (λ_=>False) 82 #[] [] (λ(s:Nat)e=>e=b5 (((s:Nat):K))) (λs=>[.o (fR s iN.new)]) w:=by intro V hM hV;have fN:=St.begin_ hM (λb hb=>(hV b hb).1) trivial;have ej:=fN.new #[ay,ay,ay] 166;go_in;go_wp2;go_ret;have I:=ej.join (fK.framed 42 1 (Z none 0 0) 0 []) (Grow.refl _) (U:=λ_=>False) Row.nil (λ_ h=>h.elim);have G:=I.join (qz.framed (Z none 0 0) []) (Grow.refl _) (U:=λ_=>False) ⟨none,0,rfl,In.nil⟩ (λ_ h=>h.elim);have L:=G.join (qz.framed (Z none 0 0) []) (Grow.refl _) (U:=λ_=>False) ⟨none,0,rfl,In.nil⟩ (λ_ h=>h.elim);have h4:=fR.cls (x:=iN.new) (v:=(Z none 0 0,Z none 0 0,Z none 0 0)) (l:=[]) (L.front 3 rfl);obtain⟨r1,r2⟩:=h4.fin;exact⟨_,rfl,r1,r2⟩
set_option maxRecDepth 100000
set_option maxHeartbeats 1000000
theorem Ik(h:n<18446744073709551616):(Rc.ep n).B.length<=20:=by show (iJ 1 [n]).length<=20;have I:=eE h;have G:=eE (show 1<18446744073709551616 by decide);unfold iJ;simp;omega
theorem ET(I:1<=nr)(h8:nr+na<=8):(Wl.new nr na).Good 1:=by
 refine⟨⟨I,h8⟩,λi hi=>?_,λi hi=>?_,mm.nil _,λ_ h=>by simp[Wl.new] at h⟩
 ·have hi:i<nr:=hi
  exact⟨Rp.Wf.open_ ⟨hi,by omega⟩ ⟨λ_ h=>by simp at h,by show (ye []).length<=_;exact bo _⟩,λ_ h=>by simp[Wl.new,Rp.open_] at h,rfl,rfl,bo _,λ_ h=>by cases h⟩
 ·have hi:i<na:=hi
  have U8:(rm ([]++[.ep 1])).length<=1048576:=by show (frame (Rc.ep 1).B++[]).length<=_;rw[bm,jB];have I:=Ik (n:=1) am;have G:=eE (show (Rc.ep 1).B.length<18446744073709551616 by omega);omega
  refine⟨Ag.Wf.new ap ⟨I,by omega⟩ (λ_ h=>by simp at h) ⟨bh _,by decide⟩ U8,λr hr=>?_,(Ag.Ti.new (nr+i) nr I [] 1).mono am⟩;have:r=.ep 1:=by simpa [Wl.new,Ag.new] using hr
  subst this;exact bB (Ik am) am
@[irreducible] def jP(nr na:Nat):WS:=((eY (-1) 100 ⟨0,(Wl.new nr na).gH 0,iN.new,none⟩).x,(eY (-1) 100 ⟨0,(Wl.new nr na).gH 0,iN.new,none⟩).s)
theorem yF(I:1<=nr)(h8:nr+na<=8):gY (jP nr na) nr na 2 100:=by have h:=(ET I h8).gH (i:=0) I;obtain⟨a,b,c,e,f⟩:=nP (-1) 100 ⟨0,(Wl.new nr na).gH 0,iN.new,none⟩ h iN.Ok.new;unfold jP;exact⟨a,b,c,e,f⟩
theorem JO(w:X)(nr na:Nat)(I:1<=nr)(G:1<=na)(h8:nr+na<=8)(hL:((jP nr na).1.rp 0).leads=true):Lw W (λ_=>False) 26 #[J nr,J na] [] (λ(i:Nat×Nat)e=>e=b5 (a_ #[.pointer (some ⟨i.1,0,none⟩),.pointer (some ⟨i.2,0,none⟩)])) (λi=>mZ i.1 i.2 (jP nr na)) w:=by
 intro V hM hV;have fN:St V w ([]++[]) w:=St.begin_ hM (λb hb=>(hV b hb).1) trivial;have hN:=St.call (a:=[]) (b:=[]) fN (a':=λabq=>[.o (iw abq (Wl.new nr na))]) (λabq=>⟨iw.framed _ _,trivial⟩) fN.no (Xy w nr na I G h8);have gC:=yF I h8;have gl:=ET I h8;obtain⟨F,HF⟩:=az (jP nr na);rw[<-HF.out] at gC hL ⊢;obtain⟨x0,HX0⟩:=az (Wl.new nr na);have TU:x0.nr=nr∧x0.na=na:=by rw[HX0.out];exact⟨rfl,rfl⟩
 rw[<-HX0.out] at hN gl;have HF:Hid (F=((eY (-1) 100 ⟨0,x0.gH 0,iN.new,none⟩).x,(eY (-1) 100 ⟨0,x0.gH 0,iN.new,none⟩).s)):=Q (by rw[HF.out,HX0.out];unfold jP;rfl);clear HX0;go_in;go_wp2_with fail;refine hN.mono ?_;rintro e w1 ⟨abq,rfl,ej⟩;unfold ptr;have MD:=St.call (a:=[]) (b:=[.o (iw abq x0)]) ej (a':=λs=>[.o (fR s iN.new)]) (λs=>⟨fR.framed _ _,trivial⟩) ej.no (PZ w1);clear fN hN;go_wp2_with fail;refine MD.mono ?_;rintro e w2 ⟨s,rfl,dV⟩;have dV:St V w (mZ abq s (x0,iN.new)++[]) w2:=dV.front 1 rfl;clear ej MD;go_wp2_with fail;go_loopw [8] (λi wr=>∃k:Nat,i=J k∧k<=na∧w2=wr) (λi _=>na-(intOf i).toNat);case atStart=>exact⟨0,rfl,bo _,rfl⟩
 case round=>
  obtain⟨k,rfl,N,rfl⟩:=hrel;by_cases oL:k<na
  ·have c1:decide ((k:Int)<(na:Int))=true:=aC ap
   obtain⟨a,Qw⟩:=a1d dV (i:=k) (by rw[TU.2];exact oL);go_wp2_with fail;refine Qw.mono ?_;rintro e w3 ⟨rfl,rfl⟩;go_wp2_with fail;exact⟨⟨k+1,by go_num,by omega,by trivial⟩,by simp[intOf];omega⟩
  ·have c1:decide ((k:Int)<(na:Int))=false:=aD ap
   go_wp2_with fail;clear c1;go_loopw [9] (λi wr=>∃k:Nat,i=J k∧k<=nr∧w2=wr) (λi _=>nr-(intOf i).toNat);case atStart=>exact⟨0,rfl,bo _,rfl⟩
   case round=>
    obtain⟨j,rfl,hj,rfl⟩:=hrel;by_cases Cw:j<nr
    ·have c1:decide ((j:Int)<(nr:Int))=true:=aC ap
     obtain⟨r,m,Uf,h17,_⟩:=V0 dV (i:=j) (by rw[TU.1];exact Cw);go_wp2_with fail;refine Uf.mono ?_;rintro e w3 ⟨rfl,rfl⟩;go_wp2_with fail;refine Uf.mono ?_;rintro e w3 ⟨rfl,rfl⟩;go_wp2_with fail;refine h17.mono ?_;rintro e w3 ⟨rfl,rfl⟩;go_wp2_with fail;exact⟨⟨j+1,by go_num,by omega,by trivial⟩,by simp[intOf];omega⟩
    ·have c1:decide ((j:Int)<(nr:Int))=false:=aD ap
     obtain⟨g,h37,_⟩:=XL dV;go_wp2_with fail;refine h37.mono ?_;rintro e w3 ⟨rfl,rfl⟩;clear c1 h37;obtain⟨y,wa,HY,HA,dX⟩:=dV.new' (j8 ⟨8,0,0,0,⟨#[]⟩⟩) 75;unfold j8 at HA;dsimp only at HA;have lT:kr abq x0 iN.new [⟨8,0,0,0,⟨#[]⟩⟩] true (x0.gH 0) iN.new:=by refine kr.ok (ev:={ Ev.zero with node:=0 }) (x':=x0.gH 0) (gl.PP am (i:=0) (by rw[TU.1];exact I) 0 0 ⟨#[]⟩) rfl am ?_;exact kr.nil _ _
     have dX:St V w [.o (iw abq x0),.o (fR s iN.new),.c y 75 (([⟨8,0,0,0,⟨#[]⟩⟩]:List Ac).flatMap Ic).toArray] wa:=dX.perm (bg (l₁:=[_]));have T:=St.call (b:=[]) dX (a':=λ(_:Unit)=>[.o (iw abq (x0.gH 0)),.o (fR s iN.new),.c y 75 (([⟨8,0,0,0,⟨#[]⟩⟩]:List Ac).flatMap Ic).toArray]) (λ_=>⟨iw.framed _ _,fR.framed _ _,trivial,trivial⟩) dX.no (PW wa (λ_=>False) abq s y x0 (x0.gH 0) iN.new iN.new [⟨8,0,0,0,⟨#[]⟩⟩] true lT iN.Ok.new am);have T:dz W 32 #[abq,s,Z (some ⟨y,0,none⟩) 1 1] wa _:=T;go_wp2_with fail;rw[<-HA.out,<-HY.out];refine T.mono ?_;rintro e w4 ⟨_,rfl,eO⟩;clear T dX lT HA HY;have eO:St V w [.o (iw abq (x0.gH 0)),.o (fR s iN.new)] w4:=eO.dO 2 rfl;have eD:=gl.gH (i:=0) (by rw[TU.1];exact I);have hD:=St.call (a:=[.o (iw abq (x0.gH 0)),.o (fR s iN.new)]) (b:=[]) eO (a':=λ(_:Unit)=>mZ abq s F) (λ_=>pu _ _ _) eO.no (by have:=Co w4 (λ_=>False) abq s _ 100 (x0.gH 0) iN.new eD iN.Ok.new am;rw[HF.out];exact this)
     generalize (eY (-1) 100 ⟨0,x0.gH 0,iN.new,none⟩).n=m at hD;have hD:dz W 40 #[abq,s,J 100] w4 _:=hD;go_wp2_with fail;refine hD.mono ?_;rintro e w5 ⟨_,rfl,eF⟩;clear hD eO;obtain⟨r,_,Uf,_,h83,_⟩:=V0 eF (i:=0) (by rw[gC.nr];exact I);rw[hL] at h83;have Uf:dz W 31 #[abq,()] w5 _:=Uf;go_wp2_with fail;refine Uf.mono ?_;rintro e w6 ⟨rfl,rfl⟩;go_wp2_with fail;refine h83.mono ?_;rintro e w6 ⟨rfl,rfl⟩;go_wp2;go_ret2;obtain⟨r1,r2⟩:=eF.fin;exact⟨(abq,s),rfl,r1,r2⟩
def M8(e:En):Prop:=e.Ok∧(pg e).length<=340
structure SR(x:Rp)(es:List En)(ms:j4)(abm Bd:Nat):Prop where
 node:x.node=0
 nodes:x.nodes=1
 T1:1<=abm∧abm<=1000000
 c:x.s.c=⟨abm,abm,es⟩
 m:x.m=ms
 commit:x.commit=es.length
 leads:x.leads=true
 own:x.own<=es.length
 v:∃v,x.v=some v∧v.t=abm∧v.nodes=1∧v.ac.length=8∧v.ac.getD 0 0<=(es.length:Int)
 bs:x.s.bs.length<=Bd
 ok:∀e∈es,M8 e
theorem P_{l:List En}(h:∀e∈l,M8 e):(r_ l).length<=l.length*350:=by
 unfold r_;induction l with
 | nil=>exact bh _
 | cons e l ih=>
   have I:=ih λx Y=>h x (by simp[Y]);have G:=(h e (by simp)).2;have L:=eE (n:=(pg e).length) ap;rw[bJ,bd,bD];have h4:(eB e).length=(enc (pg e).length).length+(pg e).length:=by unfold eB;rw[bd]
   omega
theorem tP{l:List En}(h:∀e∈l,M8 e)(hl:l.length<=51){t h':Nat}(ht:t<18446744073709551616)(hh:h'<18446744073709551616):(nC t h' l).length<=30+l.length*350:=by have I:=P_ h;have G:=eE ht;have L:=eE hh;have h4:=eE (n:=l.length) ap;unfold nC;simp only[bd];omega
theorem lu{b:aT}(h:b.length<=65536):(frame b).length<=b.length+14:=by have:=eE (n:=b.length) ap;rw[jB];omega
theorem qA{s:Vs}{y:Wo}(I:y.B.length<=65536)(G:s.bs.length+(frame y.B).length<=1048576):s.keep y=some ⟨s.ws++[y]⟩:=aA (oB.2 ⟨I,G⟩)
theorem Cq(ws:List Wo)(y:Wo):(Vs.mk (ws++[y])).bs=ye ws++frame y.B:=qh _ _
theorem EU(h:ac.length=8):most 1 ac=ac.getD 0 0:=by
 match ac,h with
 | a::l,_=>
   unfold most;show (pB [a]).getD 0 0=a;rw[List.perm_singleton.1 (xq [a])];rfl
theorem Q0(h:ac.length=8)(hn:ac.getD 0 0<=(n:Int)):most 1 (ac.set 0 (max (ac.getD 0 0) (n:Int)))=(n:Int):=by
 rw[EU (by rw[dh];exact h)];match ac,h with
 | a::l,_=>
   show max a (n:Int)=_;have:a<=(n:Int):=hn;omega
theorem SR.told{x:Rp}{es:List En}{ms:j4}{abm Bd YP:Nat}(h:SR x es ms abm Bd){v:Vt}(hv:x.v=some v){s:Vs}{e:En}(hs:s.c=⟨abm,abm,es++[e]⟩)(hb:s.bs.length<=YP)(he:M8 e):SR (Rp.told { x with s:=s } v).1 (es++[e]) (ei ms e).2.2 abm YP∧(Rp.told { x with s:=s } v).2=[(e.fr,fx e.tg (ei ms e).1 (ei ms e).2.1)]:=by
 obtain⟨v',hv',v1,v2,v3,v4⟩:=h.v;rw[hv] at hv';cases hv';have fj:s.c.es.length=es.length+1:=by rw[hs];simp
 have hN:(v.accepted x.node s.c.es.length).1.toNat=es.length+1:=by show (most v.nodes (v.ac.set x.node (max (v.ac.getD x.node 0) (s.c.es.length:Int)))).toNat=_;rw[h.node,v2,Q0 v3 (by rw[fj];omega),fj];simp
 have Z8:(s.c.es.take (es.length+1)).drop x.commit=[e]:=by rw[hs,h.commit];show ((es++[e]).take (es.length+1)).drop es.length=_;rw[bH (by simp),List.drop_left]
 have Ub:CJ x.leads x.own [e] x.commit x.m []=((ei ms e).2.2,[rk e.fr e.tg (ei ms e).1 (ei ms e).2.1]):=by have ho:decide (x.own<=x.commit)=true:=aC (by rw[h.commit];exact h.own);unfold CJ;rw[h.leads,ho,h.m];rfl
 have E:Rp.counted { x with s:=s } v x.node s.c.es.length=({ x with s:=s,v:=some (v.told x.node s.c.es.length),m:=(ei ms e).2.2,commit:=es.length+1 },[(e.fr,fx e.tg (ei ms e).1 (ei ms e).2.1)]):=by unfold Rp.counted;rw[hN];unfold Rp.apply;dsimp only;rw[Z8,Ub,fj,h.commit];dsimp only;rw[show max es.length (min (es.length+1) (es.length+1))=es.length+1 by omega];rfl
 have ht:Rp.told { x with s:=s } v=({ x with s:=s,v:=some (v.told x.node s.c.es.length),m:=(ei ms e).2.2,commit:=es.length+1 },[(e.fr,fx e.tg (ei ms e).1 (ei ms e).2.1)]):=by
  unfold Rp.told;dsimp only;rw[E];dsimp only;have:Rp.accepts { x with s:=s,v:=some (v.told x.node s.c.es.length),m:=(ei ms e).2.2,commit:=es.length+1 }=[]:=by unfold Rp.accepts;dsimp only;rw[h.node,h.nodes];rfl
  rw[this,bm]
 rw[ht];refine⟨⟨h.node,h.nodes,h.T1,hs,rfl,by simp,h.leads,by have:=h.own;rw[bd];show x.own<=_;omega,⟨_,rfl,v1,v2,by show (v.ac.set _ _).length=8;rw[dh];exact v3,?_⟩,?_,λz hz=>?_⟩,rfl⟩
 ·show (v.ac.set x.node (max (v.ac.getD x.node 0) (s.c.es.length:Int))).getD 0 0<=_
  rw[h.node,fj,bd,bv];revert v3 v4;match v.ac with
  | []=>intro I;simp at I
  | a::l=>
    intro _ G;have G:a<=(es.length:Int):=G;show max a ((es.length+1:Nat):Int)<=_;omega
 ·exact hb
 ·rcases List.mem_append.1 hz with hz|hz
  ·exact h.ok z hz
  ·rw[List.mem_singleton.1 hz];exact he
theorem SR.ask{x:Rp}{es:List En}{ms:j4}{abm Bd:Nat}(h:SR x es ms abm Bd)(pL:Bd<=1000000)(hn:es.length<=50){f:Int}{e:En}(he:M8 { e with fr:=f }):SR (x.ask f e).1 (es++[{ e with fr:=f }]) (ei ms { e with fr:=f }).2.2 abm (Bd+18000)∧(x.ask f e).2=[(f,fx e.tg (ei ms { e with fr:=f }).1 (ei ms { e with fr:=f }).2.1)]:=by
 obtain⟨v,hv,v1,_⟩:=h.v;have hf:0<=f∧f<8:=he.1.1.1;have CP:x.s.c.es=es:=by rw[h.c]
 have gC:∀z∈es++[{ e with fr:=f }],M8 z:=λz hz=>by
  rcases List.mem_append.1 hz with hz|hz
  ·exact h.ok z hz
  ·rw[List.mem_singleton.1 hz];exact he
 have Be:(es++[{ e with fr:=f }]).length=es.length+1:=by rw[bd,bv]
 have hw:=tP gC ap (t:=abm) (h':=abm) (by have:=h.T1;omega) (by have:=h.T1;omega);obtain⟨es',HE⟩:=az (es++[{ e with fr:=f }]);have a6F:x.s.c.es++[{ e with fr:=f }]=es':=by rw[CP,HE.out]
 rw[<-HE.out] at hw Be gC;have hB:Wo.B ⟨abm,abm,es'⟩=nC abm abm es':=rfl;have qX:=lu (b:=nC abm abm es') ap;have QP:=h.bs;have N:=qA (s:=x.s) (y:=⟨abm,abm,es'⟩) (by rw[hB];omega) (by rw[hB];omega);have hac:x.s.accept v.t (x.s.c.es++[{ e with fr:=f }])=some ⟨x.s.ws++[⟨abm,abm,es'⟩]⟩:=by rw[a6F];unfold Vs.accept Vs.next;rw[v1,h.c];dsimp only;have:=h.T1;rw[aB ap,aB ap,aA ap];exact N
 have a5M:x.ask f e=Rp.told { x with s:=⟨x.s.ws++[⟨abm,abm,es'⟩]⟩ } v:=by unfold Rp.ask;rw[h.leads,hv];dsimp only;rw[aB (by rw[CP];omega),hac]
 rw[a5M];exact h.told hv (by rw[Vs.m7,HE.out]) (by rw[Cq,bd,hB];have:(ye x.s.ws).length<=Bd:=QP;omega) he
theorem SR.begin_:SR ((Rp.open_ 0 1 []).lead).1 [] j4.new 1 100∧((Rp.open_ 0 1 []).lead).2=[]:=by
 have hz:∀t h:Nat,t<18446744073709551616->h<18446744073709551616->(Wo.B ⟨t,h,[]⟩).length<=30:=λt h ht hh=>tP (l:=[]) (λ_ h=>by simp at h) am ht hh;have h0:=hz 1 0 am am;have I:=hz 1 1 am am;have f0:=lu (b:=Wo.B ⟨1,0,[]⟩) ap;have f1:=lu (b:=Wo.B ⟨1,1,[]⟩) ap;have k0:(Vs.mk []).promise 1=some ⟨[⟨1,0,[]⟩]⟩:=qA (s:=⟨[]⟩) (y:=⟨1,0,[]⟩) ap (by show 0+_<=_;omega);have b0:(Vs.mk [⟨1,0,[]⟩]).bs=frame (Wo.B ⟨1,0,[]⟩):=bm _;have k1:(Vs.mk [⟨1,0,[]⟩]).accept 1 []=some ⟨[⟨1,0,[]⟩,⟨1,1,[]⟩]⟩:=qA (s:=⟨[⟨1,0,[]⟩]⟩) (y:=⟨1,1,[]⟩) ap (by rw[b0];omega);obtain⟨v,HV⟩:=az (((Vt.new 1 1).promise 0 0 []).2);have e:(Rp.open_ 0 1 []).lead=Rp.told ⟨0,1,⟨[⟨1,0,[]⟩,⟨1,1,[]⟩]⟩,j4.new,0,some v,true,0⟩ v:=by have hp:(Rp.open_ 0 1 []).s.promise (lM (Rp.open_ 0 1 []).s.c.t (Rp.open_ 0 1 []).node (Rp.open_ 0 1 []).nodes)=some ⟨[⟨1,0,[]⟩]⟩:=k0;unfold Rp.lead;rw[aB (show ¬ ((Rp.open_ 0 1 []).s.c.t > 1099511627776) from (by decide:¬ (0 > 1099511627776))),hp];dsimp only;rw[aA aj];unfold Rp.won;have ha:(Rp.mk 0 1 ⟨[⟨1,0,[]⟩]⟩ j4.new 0 (some ((Vt.new 1 1).promise 0 0 []).2) false 0).s.accept ((Vt.new 1 1).promise 0 0 []).2.t ((Vt.new 1 1).promise 0 0 []).2.best=some ⟨[⟨1,0,[]⟩,⟨1,1,[]⟩]⟩:=k1;show (match (Rp.mk 0 1 ⟨[⟨1,0,[]⟩]⟩ j4.new 0 (some ((Vt.new 1 1).promise 0 0 []).2) false 0).s.accept ((Vt.new 1 1).promise 0 0 []).2.t ((Vt.new 1 1).promise 0 0 []).2.best with|none=>_|some s=>_)=_;rw[ha,HV.out];rfl
 have E:∀n,Rp.apply ⟨0,1,⟨[⟨1,0,[]⟩,⟨1,1,[]⟩]⟩,j4.new,0,some (v.told 0 0),true,0⟩ n=(⟨0,1,⟨[⟨1,0,[]⟩,⟨1,1,[]⟩]⟩,j4.new,0,some (v.told 0 0),true,0⟩,[]):=λn=>by unfold Rp.apply;have:(Rp.mk 0 1 ⟨[⟨1,0,[]⟩,⟨1,1,[]⟩]⟩ j4.new 0 (some (v.told 0 0)) true 0).s.c.es=[]:=rfl;rw[this,List.take_nil,List.drop_nil];simp[CJ]
 have e2:Rp.told ⟨0,1,⟨[⟨1,0,[]⟩,⟨1,1,[]⟩]⟩,j4.new,0,some v,true,0⟩ v=(⟨0,1,⟨[⟨1,0,[]⟩,⟨1,1,[]⟩]⟩,j4.new,0,some (v.told 0 0),true,0⟩,[]):=by have L:Rp.counted ⟨0,1,⟨[⟨1,0,[]⟩,⟨1,1,[]⟩]⟩,j4.new,0,some v,true,0⟩ v 0 0=(⟨0,1,⟨[⟨1,0,[]⟩,⟨1,1,[]⟩]⟩,j4.new,0,some (v.told 0 0),true,0⟩,[]):=E _;unfold Rp.told;show ((Rp.counted _ v 0 0).1,(Rp.counted _ v 0 0).2++(Rp.counted _ v 0 0).1.accepts)=_;rw[L];rfl
 rw[e,e2];have hv:v.t=1∧v.nodes=1∧v.ac=cS 8 0:=by rw[HV.out];exact⟨rfl,rfl,rfl⟩
 refine⟨⟨rfl,rfl,by decide,rfl,rfl,rfl,rfl,bh _,⟨_,rfl,hv.1,hv.2.1,?_,?_⟩,?_,λ_ h=>by simp at h⟩,rfl⟩
 ·show (v.ac.set _ _).length=8
  rw[hv.2.2];rfl
 ·show (v.ac.set 0 (max (v.ac.getD 0 0) ((0:Nat):Int))).getD 0 0<=_
  rw[hv.2.2];decide
 ·show (ye [⟨1,0,[]⟩,⟨1,1,[]⟩]).length<=_
  have:ye [⟨1,0,[]⟩,⟨1,1,[]⟩]=frame (Wo.B ⟨1,0,[]⟩)++(frame (Wo.B ⟨1,1,[]⟩)++[]):=rfl;rw[this];simp only[bd,cx];omega
theorem SR.again{x:Rp}{es:List En}{ms:j4}(h:SR x es ms abm Bd)(pL:Bd<=1000000)(hn:es.length<=51)(hT:abm<1000000):SR x.lead.1 es ms (abm+1) (Bd+36000)∧x.lead.2=[]:=by
 have hT1:=h.T1;have hw0:=tP h.ok hn (t:=abm+1) (h':=abm) ap ap;have wv:=tP h.ok hn (t:=abm+1) (h':=abm+1) ap ap;have uW:Wo.B ⟨abm+1,abm,es⟩=nC (abm+1) abm es:=rfl;have ky:Wo.B ⟨abm+1,abm+1,es⟩=nC (abm+1) (abm+1) es:=rfl;have hf0:=lu (b:=nC (abm+1) abm es) ap;have hf1:=lu (b:=nC (abm+1) (abm+1) es) ap;have QP:=h.bs;have Yl:x.s.c.t=abm:=by rw[h.c]
 have htm:lM x.s.c.t x.node x.nodes=abm+1:=by rw[Yl,h.node,h.nodes];unfold lM;simp[Nat.mod_one]
 obtain⟨s1,HS1⟩:=az (⟨x.s.ws++[⟨abm+1,abm,es⟩]⟩:Vs);have k0:x.s.promise (abm+1)=some s1:=by unfold Vs.promise;rw[aA (by rw[Yl];omega),h.c,HS1.out];exact qA (s:=x.s) (y:=⟨abm+1,abm,es⟩) (by rw[uW];omega) (by rw[uW];omega)
 have kM:s1.c=⟨abm+1,abm,es⟩:=by rw[HS1.out];exact Vs.m7 _ _
 have lU:s1.bs.length<=Bd+18000:=by rw[HS1.out,Cq,bd,uW];have:(ye x.s.ws).length<=Bd:=QP;omega
 obtain⟨s2,HS2⟩:=az (⟨s1.ws++[⟨abm+1,abm+1,es⟩]⟩:Vs);have k1:s1.accept (abm+1) es=some s2:=by unfold Vs.accept Vs.next;rw[kM];dsimp only;rw[aB ap,aB ap,aA ap,HS2.out];exact qA (s:=s1) (y:=⟨abm+1,abm+1,es⟩) (by rw[ky];omega) (by rw[ky];omega)
 have lV:s2.c=⟨abm+1,abm+1,es⟩:=by rw[HS2.out];exact Vs.m7 _ _
 have lA:s2.bs.length<=Bd+36000:=by rw[HS2.out,Cq,bd,ky];have:(ye s1.ws).length<=Bd+18000:=lU;omega
 obtain⟨v,HV⟩:=az (((Vt.new (abm+1) 1).promise 0 abm es).2);have hvp:(Vt.new (abm+1) 1).promise 0 abm es=(true,⟨abm+1,1,[true,false,false,false,false,false,false,false],cS 8 0,abm,es,1⟩):=rfl;have hv:v=⟨abm+1,1,[true,false,false,false,false,false,false,false],cS 8 0,abm,es,1⟩:=by rw[HV.out,hvp]
 have e:x.lead=Rp.told { x with s:=s2,leads:=true,own:=es.length,v:=some v } v:=by
  unfold Rp.lead;rw[aB (by rw[Yl];omega),htm,k0];dsimp only;rw[kM,h.node,h.nodes,hvp,<-hv];dsimp only;rw[aA rfl];unfold Rp.won;have ha:s1.accept v.t v.best=some s2:=by rw[hv];exact k1
  show (match s1.accept v.t v.best with|none=>_|some s=>_)=_;rw[ha];dsimp only;rw[lV]
 have hac:∀n:Nat,(v.told 0 n).ac=(n:Int)::cS 7 0:=λn=>by rw[hv];show (cS 8 (0:Int)).set 0 (max 0 (n:Int))=_;rw[Int.max_eq_right ap];rfl
 have hN:(v.accepted 0 es.length).1.toNat=es.length:=by show (most v.nodes (v.told 0 es.length).ac).toNat=_;rw[hac,hv];show (most 1 ((es.length:Int)::cS 7 0)).toNat=_;rw[EU (by simp)];simp
 have Ub:∀z:Rp,z.s=s2->z.commit=es.length->z.m=ms->z.apply es.length=(z,[]):=λz I G L=>by obtain⟨a1,a2,a3,a4,a5,a6,a7,a8⟩:=z;dsimp only at I G L;subst I G L;unfold Rp.apply;dsimp only;rw[lV];dsimp only;rw[bH (bh _),cH (bh _)];simp[CJ]
 have e2:Rp.told { x with s:=s2,leads:=true,own:=es.length,v:=some v } v=({ x with s:=s2,leads:=true,own:=es.length,v:=some (v.told 0 es.length) },[]):=by
  have L:∀i m,i=0->m=es.length->Rp.counted { x with s:=s2,leads:=true,own:=es.length,v:=some v } v i m=({ x with s:=s2,leads:=true,own:=es.length,v:=some (v.told 0 es.length) },[]):=by rintro _ _ rfl rfl;unfold Rp.counted;rw[hN];exact Ub _ rfl h.commit h.m
  unfold Rp.told;dsimp only;rw[L x.node s2.c.es.length h.node (by rw[lV])];dsimp only;have:Rp.accepts { x with s:=s2,leads:=true,own:=es.length,v:=some (v.told 0 es.length) }=[]:=by unfold Rp.accepts;dsimp only;rw[h.node,h.nodes];rfl
  rw[this];rfl
 rw[e,e2];refine⟨⟨h.node,h.nodes,by omega,lV,h.m,h.commit,rfl,bh _,⟨_,rfl,by rw[hv];rfl,by rw[hv];rfl,by rw[hac];simp,by rw[hac];exact Int.le_refl _⟩,lA,h.ok⟩,rfl⟩
theorem TC(s:aR):abn.lX s 1=0:=by
 have h:abn.xk 1=1:=by decide
 unfold abn.lX;rw[h];exact Int.emod_one _
structure DS(d:Dl):Prop where
 p:abn.fW d.1=0
 n:1<=d.2∧d.2<=18446744073709551615
 s:d.1.size<=20
structure SA(a:Ag)(n:Nat)(eP:List Dl)(q:List abo.Ab)(tr:List (lp×(Nat×Nat)))(ask:List (Int×lp))(B:Nat):Prop where
 node:a.node=1
 eX:a.eX=1
 last:a.last=0
 ep:a.b.ep=1
 eP:a.b.eP=eP
 sh:a.b.sh=1
 q:a.b.q=[⟨q,(n:Int)⟩,⟨[],0⟩,⟨[],0⟩,⟨[],0⟩]
 tr:a.tr=tr
 ask:a.ask=ask
 bs:a.bs.length<=B
theorem Il(h:DS d):(dB d).length<=40:=by have I:=eE (n:=d.1.size) (by have:=h.s;omega);have G:=eE (n:=d.2) (by have:=h.n;omega);have L:d.1.data.toList.length=d.1.size:=rfl;have:=h.s;unfold dB;simp only[bd];omega
theorem yG{ns:aQ}(N:k<18446744073709551616)(h:∀x∈ns,x<18446744073709551616):(iJ k ns).length<=10+ns.length*10:=by have I:=eE N;have G:=tj ns h;unfold iJ;rw[bd];omega
theorem TD(h:DS d):(Rc.eP d).B.length<=80:=by
 have I:=yG (k:=2) (ns:=[]) am (λ_ h=>by simp at h);have G:=Il h;show (iJ 2 []++o7 [d]).length<=80;have:(o7 [d]).length=(dB d).length:=by simp[o7]
 rw[bd,this];simp only[cx] at I;omega
theorem TF(h:DS d)(hs:sq<=9223372036854775807):(Rc.pH 0 sq [d]).B.length<=80:=by
 have I:=yG (k:=3) (ns:=[0,sq,1]) am (λx Y=>by simp at Y;rcases Y with rfl|rfl|rfl<;>omega);have G:=Il h;show (iJ 3 [0,sq,1]++o7 [d]).length<=80;have:(o7 [d]).length=(dB d).length:=by simp[o7]
 rw[bd,this];simp only[bD,cx] at I;omega
theorem Q1(hs:sq<=9223372036854775807):(Rc.dn 0 sq).B.length<=80:=by have I:=yG (k:=5) (ns:=[0,sq]) am (λx Y=>by simp at Y;rcases Y with rfl|rfl<;>omega);show (iJ 5 [0,sq]).length<=80;simp only[bD,cx] at I;omega
theorem wn{a:Ag}{r:Rc}(hb:a.bs.length<=B)(hB:B<=1000000)(hr:r.B.length<=80):a.i6 r=0∧(rm (a.rs++[r])).length<=B+100:=by have hf:=lu (b:=r.B) ap;refine⟨((mG a.bs r.B).1 (oB.2 ⟨by omega,by omega⟩)).1,?_⟩;rw[oD,bd];have:(rm a.rs).length<=B:=hb;omega
namespace SA
variable{a:Ag}{eP:List Dl}{q:List abo.Ab}{tr:List (lp×(Nat×Nat))}{ask:List (Int×lp)}
theorem mono(h:SA a n eP q tr ask B)(hB:B<=B'):SA a n eP q tr ask B':=⟨h.node,h.eX,h.last,h.ep,h.eP,h.sh,h.q,h.tr,h.ask,bB h.bs hB⟩
theorem fX(h:SA a n eP q tr ask B)(hB:B<=1000000){d:Dl}(hd:DS d)(hm:iV eP d=0):SA (a.fX d).1 n (eP++[d]) q tr ask (B+100)∧(a.fX d).2=0:=by
 obtain⟨r1,r2⟩:=wn (a:=a) h.bs hB (TD hd);have e:a.fX d=({ a with b:={ a.b with eP:=a.b.eP++[d] },rs:=a.rs++[.eP d] },0):=by unfold Ag.fX;rw[aB (by rw[h.eP];omega),aB ap]
 rw[e];exact⟨⟨h.node,h.eX,h.last,h.ep,by show a.b.eP++[d]=_;rw[h.eP],h.sh,h.q,h.tr,h.ask,r2⟩,rfl⟩
theorem Q2(h:SA a n eP q tr ask B):a.b.qu 0=⟨q,(n:Int)⟩:=by unfold Bk.qu;rw[h.q];rfl
theorem XM(h:SA a n eP q tr ask B)(N:k=1∨k=2∨k=3):(a.b.qu k).l=[]:=by unfold Bk.qu;rw[h.q];rcases N with rfl|rfl|rfl<;>rfl
theorem cut(h:SA a n eP [] tr ask B)(hB:B<=1000000)(hn:n<1000000){d:Dl}(hd:DS d)(hj:pE eP=[d])(o5:∀x∈eP,x.1=d.1):SA a.cut.1 (n+1) [] [(((n+1:Nat):Int),[d])] tr ask (B+100)∧a.cut.2=[(0,((n+1:Nat):Int))]:=by
 obtain⟨r1,r2⟩:=wn (a:=a) (r := .pH 0 (n+1) [d]) h.bs hB (TF hd ap);have tY:a.jI 0=[d]:=by unfold Ag.jI;rw[h.sh,h.eP,<-hj];congr 1;rw[List.filter_eq_self];intro x _;exact aC (TC x.1)
 have Bh:a.pH 0 [d]=.pH 0 (n+1) [d]:=by unfold Ag.pH;rw[h.Q2];rfl
 obtain⟨y,HY⟩:=az ({ a with b:=a.b.add 0 ((a.b.qu 0).k+1) [d],rs:=a.rs++[a.pH 0 [d]] });have kM:a.kx 0 [d]=some y:=by rw[HY.out];unfold Ag.kx;rw[aB];rw[h.Q2,Bh];show ¬ (16<=0∨(n:Int)=9223372036854775807∨a.i6 (.pH 0 (n+1) [d])≠0);omega
 have qC:a.b.add 0 ((a.b.qu 0).k+1) [d]={ a.b with eP:=[],q:=[⟨[(((n+1:Nat):Int),[d])],((n+1:Nat):Int)⟩,⟨[],0⟩,⟨[],0⟩,⟨[],0⟩],cuts:=a.b.cuts++[((0:Int),((n+1:Nat):Int))] }:=by
  unfold Bk.add;rw[h.Q2,aA (by show abo.uB [] (n:Int) ((n:Int)+1) 1=0;unfold abo.uB;rw[aB ap,aB ap,aB am,aB am,aB am])]
  have:a.b.eP.filter (λz => !Mn [d] z)=[]:=by rw[List.filter_eq_nil_iff,h.eP];intro z hz;unfold Mn;simp[o5 z hz]
  rw[this,h.q];rfl
 have hK:a.kg 0=(y,[((n+1:Nat):Int)],true):=by
  unfold Ag.kg;rw[tY];show (if [d]=[] then _ else match a.kx 0 ([d].take 8) with|none=>_|some y=>_)=_;rw[aB (by simp)];have:[d].take 8=[d]:=rfl;rw[this,kM];show (y,(y.b.qu 0).k::[],true)=_;have:(y.b.qu 0).k=((n+1:Nat):Int):=by rw[HY.out];dsimp only;rw[qC];rfl
  rw[this]
 have hA:a.ey (bV a.b.sh)=(y,[(0,((n+1:Nat):Int))]):=by rw[h.sh];show (if (a.kg 0).2.2=true then _ else _)=_;rw[hK,aA rfl];rfl
 have Mh:a.cut=(y.sync,[(0,((n+1:Nat):Int))]):=by unfold Ag.cut;rw[hA,aB (by simp)]
 rw[Mh];refine⟨?_,rfl⟩;rw[HY.out];unfold Ag.sync;refine⟨h.node,h.eX,h.last,?_,?_,?_,?_,h.tr,h.ask,?_⟩;·show (a.b.add 0 _ [d]).ep=1;rw[qC];exact h.ep
 ·show (a.b.add 0 _ [d]).eP=[];rw[qC]
 ·show (a.b.add 0 _ [d]).sh=1;rw[qC];exact h.sh
 ·show (a.b.add 0 _ [d]).q=_;rw[qC]
 ·show (rm (a.rs++[a.pH 0 [d]])).length<=_;rw[Bh];exact r2
end SA
def ku(n:Nat):lp:=(1,0,(n:Int))
def lQ(n:Nat)(d:Dl)(tg:Nat):En:=⟨1,1,0,(n:Int),1,[d],⟨#[]⟩,1,(tg:Int)⟩
namespace SA
variable{a:Ag}{eP:List Dl}{q:List abo.Ab}{tr:List (lp×(Nat×Nat))}{ask:List (Int×lp)}{ds:List Dl}{t:Nat×Nat}
theorem tick(h:SA a n eP [((n:Int),ds)] [] [] B){ds':Dl}(tS:ds=[ds']):∃t,SA (a.f_ 1 []).1 n eP [((n:Int),[ds'])] [(ku n,t)] [(((a.tag+1:Nat):Int),ku n)] B∧(a.f_ 1 []).2=[(0,gp (lQ n ds' (a.tag+1)))]:=by
 subst tS;obtain⟨b,HB⟩:=az (({ a with now:=a.now+1 }:Ag));have yU:(b.b.qu 0).l.take 4=[((n:Int),[ds'])]:=by rw[HB.out];show (a.b.qu 0).l.take 4=_;rw[h.Q2];rfl
 have hid:b.iX 0 (n:Int)=ku n:=by rw[HB.out];show ((a.node:Int),((0:Nat):Int),(n:Int))=_;rw[h.node];rfl
 have Vo:b.tries (ku n)=(0,0):=by rw[HB.out];show (qR a.tr (ku n)).getD (0,0)=_;rw[h.tr];rfl
 have hE:b.tI (ku n) [ds']=lQ n ds' (a.tag+1):=by rw[HB.out];show (⟨1,1,0,(n:Int),a.b.ep,[ds'],⟨#[]⟩,(a.node:Int),((a.tag+1:Nat):Int)⟩:En)=_;rw[h.ep,h.node];rfl
 have Fu:b.to 0=0:=by rw[HB.out];show (a.last+0) % a.eX=0;rw[h.last,h.eX]
 obtain⟨c,HC⟩:=az (b.send (ku n) (0,0));have ky:Ag.ff 0 [((n:Int),[ds'])] b []=(c,[(0,gp (lQ n ds' (a.tag+1)))]):=by show (if (b.tries (b.iX 0 (n:Int))).1=0∨_ then _ else _)=_;rw[hid,Vo,aA (.inl rfl)];show (b.send (ku n) (0,0),[]++[(((b.to 0:Nat):Int),gp (b.tI (ku n) [ds']))])=_;rw[Fu,hE,HC.out];rfl
 have Fl:c.b=a.b:=by rw[HC.out,HB.out];rfl
 have kS:∀k,k=1∨k=2∨k=3->(c.b.qu k).l.take 4=[]:=λk N=>by rw[Fl,h.XM N];rfl
 have Ir:a.f_ 1 []=(c,[(0,gp (lQ n ds' (a.tag+1)))]):=by
  show Ag.f_ 0 (Ag.fZ [0,1,2,3] { a with now:=a.now+1 } []).1 (Ag.fZ [0,1,2,3] { a with now:=a.now+1 } []).2=_;rw[<-HB.out];have:Ag.fZ [0,1,2,3] b []=(c,[(0,gp (lQ n ds' (a.tag+1)))]):=by show Ag.fZ [1,2,3] (Ag.ff 0 ((b.b.qu 0).l.take 4) b []).1 (Ag.ff 0 ((b.b.qu 0).l.take 4) b []).2=_;rw[yU,ky];show Ag.fZ [2,3] (Ag.ff 1 ((c.b.qu 1).l.take 4) c _).1 (Ag.ff 1 ((c.b.qu 1).l.take 4) c _).2=_;rw[kS 1 (by simp)];show Ag.fZ [3] (Ag.ff 2 ((c.b.qu 2).l.take 4) c _).1 (Ag.ff 2 ((c.b.qu 2).l.take 4) c _).2=_;rw[kS 2 (by simp)];show Ag.fZ [] (Ag.ff 3 ((c.b.qu 3).l.take 4) c _).1 (Ag.ff 3 ((c.b.qu 3).l.take 4) c _).2=_;rw[kS 3 (by simp)];rfl
  rw[this];rfl
 rw[Ir];refine⟨(0+1,b.now+rD (b.tag+1) 0),⟨?_,?_,?_,?_,?_,?_,?_,?_,?_,?_⟩,rfl⟩;·rw[HC.out,HB.out];exact h.node
 ·rw[HC.out,HB.out];exact h.eX
 ·rw[HC.out,HB.out];exact h.last
 ·show c.b.ep=1;rw[Fl];exact h.ep
 ·show c.b.eP=_;rw[Fl];exact h.eP
 ·show c.b.sh=1;rw[Fl];exact h.sh
 ·show c.b.q=_;rw[Fl];exact h.q
 ·rw[HC.out]
  show si b.tr (ku n) _=_;have:b.tr=[]:=by rw[HB.out];exact h.tr
  rw[this];rfl
 ·rw[HC.out]
  show si b.ask ((b.tag+1:Nat):Int) (ku n)=_;have:b.ask=[]:=by rw[HB.out];exact h.ask
  rw[this,HB.out];rfl
 ·rw[HC.out,HB.out];exact h.bs
theorem done(h:SA a n eP [((n:Int),ds)] [(ku n,t)] [(((g:Nat):Int),ku n)] B)(oK:1<=n)(hn:n<1000000)(hB:B<=1000000){code:Nat}(E:code=1∨code=2∨code=3):SA (a.took 0 g code) n eP [] [] [] (B+100):=by
 obtain⟨r1,r2⟩:=wn (a:=a) (r := .dn 0 n) h.bs hB (Q1 ap);have tY:a.jw g=ku n:=by unfold Ag.jw;rw[h.ask];unfold qR;simp
 have jT:ku n≠(0,0,0):=λe=>by have:(1:Int)=0:=congrArg (·.1) e;omega
 have h6:code≠6:=by omega
 have Fu:a.took 0 g code=Ag.fin { a with ask:=gV a.ask (g:Int),last:=0 } 1 0 n:=by unfold Ag.took;dsimp only;rw[tY,aB jT,aB h6,aA E];rfl
 rw[Fu];have Cx:Ag.put { a with ask:=gV a.ask (g:Int),last:=0 } (.dn 0 n)={ a with ask:=gV a.ask (g:Int),last:=0,rs:=a.rs++[.dn 0 n] }:=by unfold Ag.put;exact aA r1
 unfold Ag.fin;rw[Cx];have pK:abo.p_ (a.b.qu 0).l (n:Int)=[]:=by rw[h.Q2];unfold abo.p_ abo.t6;simp
 refine⟨h.node,h.eX,rfl,h.ep,h.eP,h.sh,?_,?_,?_,r2⟩
 ·show a.b.q.set 0 ⟨abo.p_ (a.b.qu 0).l (n:Int),(a.b.qu 0).k⟩=_
  rw[pK,h.Q2,h.q];rfl
 ·show gV a.tr ((1:Int),(0:Int),(n:Int))=_
  rw[h.tr];unfold gV ku;simp
 ·show vH (gV a.ask (g:Int)) _=_
  rw[h.ask];unfold gV;simp[vH]
theorem look(h:SA a n eP q tr [] B){s:aR}(hp:abn.fW s=0):SA (a.look s).1 n eP q tr [(((a.tag+1:Nat):Int),(0,0,0))] B:=by
 have e:(a.look s).1=a.next (0,0,0):=by unfold Ag.look;rw[aB ap]
 rw[e];exact⟨h.node,h.eX,h.last,h.ep,h.eP,h.sh,h.q,h.tr,by show si a.ask _ _=_;rw[h.ask];rfl,h.bs⟩
theorem seen(h:SA a n eP q tr [(((g:Nat):Int),(0,0,0))] B):SA (a.took 0 g 8) n eP q tr [] B:=by
 have tY:a.jw g=(0,0,0):=by unfold Ag.jw;rw[h.ask];unfold qR;simp
 have Fu:a.took 0 g 8={ a with ask:=gV a.ask (g:Int),last:=0 }:=by unfold Ag.took;dsimp only;rw[tY,aA rfl,aB (by simp)];rfl
 rw[Fu];refine⟨h.node,h.eX,rfl,h.ep,h.eP,h.sh,h.q,h.tr,?_,h.bs⟩;show gV a.ask (g:Int)=_;rw[h.ask];unfold gV;simp
end SA
theorem SA.new:SA (Ag.new 1 1 [] 1) 0 [] [] [] [] 100:=by refine⟨rfl,rfl,rfl,rfl,rfl,rfl,rfl,rfl,rfl,?_⟩;show (frame (Rc.ep 1).B++[]).length<=_;rw[bm];have I:=Ik (n:=1) am;have:=lu (b:=(Rc.ep 1).B) ap;omega
structure SW(x:Wl)(es:List En)(ms:j4)(abm Bd n:Nat)(eP:List Dl)(q:List abo.Ab)(tr:List (lp×(Nat×Nat)))(ask:List (Int×lp))(B:Nat)(net:List Lt3):Prop where
 nr:x.nr=1
 na:x.na=1
 cut:x.cut=λ_=>false
 net:x.net=net
 rp:SR (x.rp 0) es ms abm Bd
 ag:SA (x.ag 0) n eP q tr ask B
theorem a1e{a b d e:Nat}(ha:a<18446744073709551616)(hb:b<18446744073709551616)(E:c<18446744073709551616)(hd:d<18446744073709551616)(he:e<18446744073709551616):([a,b,c,d,e].flatMap enc).length<=50:=by have:=qb [a,b,c,d,e] (λx Y=>by simp at Y;rcases Y with rfl|rfl|rfl|rfl|rfl<;>assumption);exact this
theorem Cr(hd:DS d)(hn:1<=n∧n<=9223372036854775807)(ht:tg<=9223372036854775807):M8 (lQ n d tg):=by
 refine⟨⟨⟨⟨by show (0:Int)<=1;decide,by show (1:Int)<8;decide⟩,by show (0:Int)<=(tg:Int);omega,by show (tg:Int)<=_;omega⟩,.inl ⟨rfl,rfl,⟨by show (0:Int)<=1;decide,by show (1:Int)<8;decide⟩,⟨by show (0:Int)<=0;decide,by show (0:Int)<4;decide⟩,⟨by show (1:Int)<=(n:Int);omega,by show (n:Int)<=_;omega⟩,⟨by show (1:Int)<=1;decide,by show (1:Int)<=9223372036854775807;decide⟩,⟨by show 1<=[d].length;simp,by show [d].length<=8;simp⟩,λz hz=>?_⟩⟩,?_⟩
 ·rw[List.mem_singleton.1 (show z∈[d] from hz)]
  exact⟨hd.n.1,hd.n.2,hd.p,by have:=hd.s;omega⟩
 ·have I:=eE (n:=1) am
  have G:=eE (n:=tg) ap;have L:=a1e (a:=1) (b:=0) (c:=n) (d:=1) (e:=1) am am ap am am;have h4:=Il hd;have h5:(o7 [d]).length=(dB d).length:=by simp[o7]
  have e:pg (lQ n d tg)=[UInt8.ofNat 1]++enc 1++enc tg++([1,0,n,1,1].flatMap enc)++o7 [d]:=by unfold pg lQ;rw[aB (show ¬ (1:Int)=2 by decide)];simp
  rw[e];simp only[bd,bv];omega
theorem Q3{s:aR}(hp:abn.fW s=0)(hs:s.size<=20)(ht:tg<=9223372036854775807):M8 (kq s 1 tg):=by
 refine⟨⟨⟨⟨by show (0:Int)<=1;decide,by show (1:Int)<8;decide⟩,by show (0:Int)<=(tg:Int);omega,by show (tg:Int)<=_;omega⟩,.inr ⟨rfl,rfl,rfl,rfl,rfl,rfl,hp,jt hp⟩⟩,?_⟩;have I:=eE (n:=1) am;have G:=eE (n:=tg) ap;have L:=eE (n:=s.size) ap;have h4:s.data.toList.length=s.size:=rfl;have e:pg (kq s 1 tg)=[UInt8.ofNat 2]++enc 1++enc tg++enc s.size++s.data.toList:=by unfold pg kq;rw[aA rfl];simp
 rw[e];simp only[bd,bv];omega
theorem EV{e:En}(h:M8 e):kX (gp e)=true:=by have I:=eE (n:=(pg e).length) (by have:=h.2;omega);have G:=h.2;have e1:jj (gp e)=[UInt8.ofNat 1]++enc (pg e).length++pg e:=aA rfl;unfold kX;rw[e1];refine aC ?_;simp only[bd,bv];omega
theorem Q4(H:g<18446744073709551616)(E:c<18446744073709551616)(hn:n<18446744073709551616):kX (fx (g:Int) (c:Int) n)=true:=by
 have I:=eE H;have G:=eE E;have L:=eE hn;have e1:jj (fx (g:Int) (c:Int) n)=[UInt8.ofNat 2]++enc g++enc c++enc n:=by unfold jj;rw[aB (show ¬ (fx (g:Int) (c:Int) n).k=1 from (by decide:¬ (2:Int)=1)),aA (show (fx (g:Int) (c:Int) n).k=2 from rfl)];simp[fx]
 unfold kX;rw[e1];refine aC ?_;simp only[bd,bv];omega
namespace SW
variable{x:Wl}{es:List En}{ms:j4}{eP:List Dl}{q:List abo.Ab}{tr:List (lp×(Nat×Nat))}{ask:List (Int×lp)}{rest:List Lt3}
theorem yH{e:En}(h:SW x es ms abm Bd n eP q tr ask B ((1,0,gp e)::rest))(hr:rest.length<=62)(pL:Bd<=1000000)(hn:es.length<=50)(he:M8 e)(hf:e.fr=1)(H:e.tg=(g:Int))(z8:g<=9223372036854775807)(E:(ei ms e).1=(c:Int))(lV:c<=255)(hm:(ei ms e).2.1=m)(zE:m<18446744073709551616):(x.kK 0).1={ Ev.zero with node:=0 }∧SW (x.kK 0).2 (es++[e]) (ei ms e).2.2 abm (Bd+18000) n eP q tr ask B (rest++[(0,1,fx (g:Int) (c:Int) m)]):=by
 have hee:{ e with fr:=(1:Int) }=e:=by rw[<-hf]
 obtain⟨r1,r2⟩:=h.rp.ask pL hn (f:=1) (e:=e) (by rw[hee];exact he);rw[hee] at r1 r2;have hrc:(x.rp 0).recv 1 (gp e)=(x.rp 0).ask 1 e:=aA rfl;have hd:x.kK 0=({ Ev.zero with node:=0 },((x.del 0).qv 0 ((x.rp 0).ask 1 e).1).send 0 ((x.rp 0).ask 1 e).2):=by unfold Wl.kK;rw[h.net];show (if x.cut (1*8+0)=true then _ else if 0<x.nr then _ else _)=_;rw[h.cut,aB (by simp),h.nr,aA am];show (({ Ev.zero with node:=0 }:Ev),((x.del 0).qv 0 ((x.rp 0).recv 1 (gp e)).1).send 0 ((x.rp 0).recv 1 (gp e)).2)=_;rw[hrc]
 rw[hd,r2,H,E,hm];refine⟨rfl,h.nr,h.na,h.cut,?_,?_,h.ag⟩
 ·show il (x.nr+x.na) 0 (x.net.eraseIdx 0) [((1:Int),fx (g:Int) (c:Int) m)]=_
  rw[h.net,h.nr,h.na];show (if kX (fx (g:Int) (c:Int) m)=true∧((0:Int)<=1∧(1:Int)<((1+1:Nat):Int))∧rest.length<64 then _ else _)=_;rw[aA ⟨Q4 ap ap zE,am,by omega⟩];rfl
 ·show SR (at_ x.rp 0 ((x.rp 0).ask 1 e).1 0) _ _ _ _
  rw[nK];exact r1
theorem Q5{i:lp}(h:SW x es ms abm Bd n eP q tr ask B ((0,1,fx (g:Int) (c:Int) m)::rest))(hi:qR ask (g:Int)=some i){n':Nat}{Q6:List Dl}{q':List abo.Ab}{V5:List (lp×(Nat×Nat))}{Q7:List (Int×lp)}(Yb:SA ((x.ag 0).took 0 g c) n' Q6 q' V5 Q7 B'):(x.kK 0).1={ Ev.zero with node:=1,code:=(c:Int),id:=i,n:=if (c:Int)=8 then m else 0 }∧SW (x.kK 0).2 es ms abm Bd n' Q6 q' V5 Q7 B' rest:=by
 have kT:(qR (x.ag 0).ask (g:Int)).isSome=true:=by rw[h.ag.ask,hi];rfl
 have tY:(x.ag 0).jw g=i:=by unfold Ag.jw;rw[h.ag.ask,hi];rfl
 have hd:x.kK 0=({ Ev.zero with node:=1,code:=(c:Int),id:=i,n:=if (c:Int)=8 then m else 0 },(x.del 0).jx 0 ((x.ag 0).took 0 g c)):=by unfold Wl.kK;rw[h.net];show (if x.cut (0*8+1)=true then _ else if 1<x.nr then _ else _)=_;rw[h.cut,aB (by simp),h.nr,aB am];show (if (qR (x.ag 0).ask (g:Int)).isSome=true then (({ Ev.zero with node:=1,code:=(c:Int),id:=(x.ag 0).jw (g:Int).toNat,n:=if (c:Int)=8 then m else 0 }:Ev),(x.del 0).jx 0 ((x.ag 0).took 0 (g:Int).toNat (c:Int).toNat)) else _)=_;rw[aA kT,cA,cA,tY]
 rw[hd];refine⟨rfl,h.nr,h.na,h.cut,?_,h.rp,?_⟩
 ·show x.net.eraseIdx 0=rest
  rw[h.net];rfl
 ·show SA (at_ x.ag 0 ((x.ag 0).took 0 g c) 0) _ _ _ _ _ _
  rw[nK];exact Yb
end SW
end Go.Proofs.YtpeepcmdehhbgaaGreatDoor
end
