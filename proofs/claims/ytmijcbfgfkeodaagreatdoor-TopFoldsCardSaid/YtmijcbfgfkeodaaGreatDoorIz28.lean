/- Ga2, Fd3, Fd4, Fd5. -/
import Derived.Test.YtmijcbfgfkeodaaGreatDoorIz27
set_option linter.all false
set_option maxRecDepth 100000
set_option maxHeartbeats 2000000
open Go.Value renaming int → ae,slice → ai
open Go.IntKind renaming i64 → af,u64 → ah
open Go.Proofs.Tryz renaming prog → au
open List renaming setIfInBounds_toArray → aw,drop_succ_cons → ax,set_cons_zero → ay,set_cons_succ → az,drop_zero → aB,not_mem_nil → aE,mem_cons → aF,take_succ_eq_append_getElem → aI,length_take → aK,take_of_length_le → aN,getElem_mem → aO,length_map → aP,append_nil → bf,mem_of_mem_eraseIdx → bo,take_zero → bw
open Nat renaming lt_of_lt_of_le → aA,le_refl → aC,le_trans → aH,le_of_ble_eq_true → aQ,zero_le → aZ,lt_or_ge → bn
section
namespace Go.Hop
open Go.RowKit
theorem Solo.op {P:Nat→Prop} {S:cg} {l:List cg} {w:World} (i:Nat) (hi:l[i]?=some S) (hF:bM l) (h:Solo P (Many l) w) :
 ∃ U:Nat→Prop,S w U∧(∀ b,U b→P b∧b<w.heap.size)∧∀ (S':cg) (w':World),S' w' (Ext U w w')→Just U w w'→Solo P (Many (l.set i S')) w'∧Just P w w':=by
 obtain⟨h0,V,h1,h4⟩:=h
 obtain⟨V1,V2,a,b,c,d,e⟩:=Many.pick l i S hi h1
 refine⟨V1,a,fun x hx=>h4 x (c x hx),fun S' w' hs hj=>⟨⟨fun x hx=>h0 x (aH hj.size hx),Ext V w w',Many.i4 l i S S' hi ⟨Ext V1 w w',V2,hs,Many.framed _ (fun R hR=>hF R (bo hR)) w w' V2 b fun x hx=>hj.block x (h4 x (d x hx)).2 (fun h1=>e x h1 hx),fun x hx=>?_,fun x hx => .inl (d x hx),fun x hx h2=>?_⟩,jd h4 h0 hj.size⟩,hj.imp fun x hx=>(h4 x (c x hx)).1⟩⟩
 ·rcases hx with hx|hx
  ·exact .inl (c x hx)
  ·exact .inr hx
 ·rcases hx with hx|hx
  ·exact e x hx h2
  ·have:=(h4 x (d x h2)).2;have:=hx.1;omega
end Go.Hop
namespace Go.Proofs.YtmijcbfgfkeodaaGreatDoor
open Go.RowKit Go.Hop V
def Bi (v:Value) (l:List (Int×Int×Int)):cg:=fun w V=>Row w V 26 3 v l.length (dN l)
theorem Bi.framed (v:Value) (l:List (Int×Int×Int)):Framed (Bi v l):=fun w w' V h hk=>Row.keep h fun b hb _=>hk b hb
end Go.Proofs.YtmijcbfgfkeodaaGreatDoor
end
section
namespace Go.Proofs.YtmijcbfgfkeodaaGreatDoor
open Go.RowKit Go.Hop V
theorem nS (w:World) (q:List El) (hq:∀ x∈q,x.e.Ok∧x.e.se.size≤maxLen) (JD:q.length≤1000) (A:Option Addr) (c:Nat) (D0:Nat→Prop) (hE:lh w D0 A q) (hDl:∀ b,D0 b→b<w.heap.size) :
 Calls au 17 #[.slice A q.length c] w fun e w'=>∃ (A2:Option Addr) (l2:List (Int×Int×Int)),e=.returned (.slice A2 l2.length l2.length)∧l2.Perm (dW fl.new (q.map El.e))∧In w' (New w w') 3 A2 l2.length (dN l2)∧Grow w w':=by
 obtain⟨n,HN⟩:∃ n:Nat,Hid (n=q.length):=⟨_,rfl⟩
 rw[←HN.out]
 rw[←HN.out] at JD
 have Fp:=pu w
 go_enter Tryz.func17,Tryz.ntmps17
 go_wp2_with fail
 refine Fp.mono ?_
 rintro e w1 ⟨m,rfl,hM1,hg1⟩
 have hS1:Solo (fun b=>w.heap.size≤b) (Many [eQ m fl.new,Bi (ai none 0 0) []]) w1:=⟨fun b hb=>aH hg1.size hb,New w w1,⟨New w w1,fun _=>False,hM1,⟨fun _=>False,fun _=>False,⟨rfl,.inl ⟨rfl,rfl⟩⟩,trivial,fun _ h=>h,fun _ h=>h,fun _ h _=>h⟩,fun _ h=>h,fun _ h=>h.elim,fun _ _ h=>h⟩,fun b hb=>⟨hb.1,hb.2⟩⟩
 have J1:Just (fun b=>w.heap.size≤b) w w1:=Just.bJ hg1
 go_wp2_with fail
 go_loopw [4,12] (fun v x wr=>∃ j:Nat,j≤n∧x=ae af (j:Int)∧Solo (fun b=>w.heap.size≤b) (Many [eQ m (eJ fl.new ((q.map El.e).take j)),Bi v (dW fl.new ((q.map El.e).take j))]) wr∧Just (fun b=>w.heap.size≤b) w wr) (fun _ x _=>n-(intOf x).toNat)
 case atStart=>exact⟨0,by omega,rfl,by rw[bw];exact hS1,J1⟩
 case round=>
  clear hS1 J1 Fp hM1 hg1
  obtain⟨j,hjn,rfl,hS,hJ⟩:=hrel
  have hgr:Grow w wr:=hJ.below (fun b hb=>hb) (aC _)
  have hF:bM [eQ m (eJ fl.new ((q.map El.e).take j)),Bi u4 (dW fl.new ((q.map El.e).take j))]:=(bM.nil.cons (Bi.framed _ _)).cons (eQ.framed _ _)
  by_cases hj':j<n
  ·have hj:j<q.length:=by rw[←HN.out];exact hj'
   have hEr:=hE.grow hgr
   obtain⟨ad,hkq,rfl,Nx,hBb,e0,e1⟩:=hEr.1.iS al kG hj
   have gy:=hEr.2 q[j] (aO hkq)
   have xe:=hq q[j] (aO hkq)
   have hsn:(q.map El.e).take (j+1)=(q.map El.e).take j++[q[j].e]:=by
    rw[aI (by simpa using hkq)]
    simp
   have HS:=Lib.hid hsn
   clear hsn
   generalize q[j]=b at gy e0 e1 xe HS
   obtain⟨⟨k,ag,sh,sq,ep,ds,se,fr,tg⟩,Ab,cb⟩:=b
   have hd0:fV wr D0 Ab ds.length ds:=gy.1
   have e2:=e1 1 (ae af sh) rfl
   have e3:=e1 2 (ae af sq) rfl
   have e4:=e1 3 (ae af ep) rfl
   have e5:=e1 4 (.slice Ab ds.length cb) rfl
   have e6:=e1 5 (.string se) rfl
   have e7:=e1 6 (ae af fr) rfl
   have e8:=e1 7 (ae af tg) rfl
   have e1:=e1 0 (ae af ag) rfl
   have e0:=e0 (ae af k) rfl
   clear gy
   have hga:=bN wr (.cells #[ae af k,ae af ag,ae af sh,ae af sq,ae af ep,.slice Ab ds.length cb,.string se,ae af fr,ae af tg] 32)
   have du:=ct.made wr 32 #[ae af k,ae af ag,ae af sh,ae af sq,ae af ep,.slice Ab ds.length cb,.string se,ae af fr,ae af tg]
   obtain⟨y,HY⟩:∃ y:Nat,Hid (y=wr.heap.size):=⟨_,rfl⟩
   obtain⟨wa,dq⟩:∃ wa:World,Hid (wa=wr.alloc (.cells #[ae af k,ae af ag,ae af sh,ae af sq,ae af ep,.slice Ab ds.length cb,.string se,ae af fr,ae af tg] 32)):=⟨_,rfl⟩
   rw[←dq.out] at hga du
   rw[←HY.out] at du
   have ez:=hS.join hF hga (R:=Cell y 32 #[ae af k,ae af ag,ae af sh,ae af sq,ae af ep,.slice Ab ds.length cb,.string se,ae af fr,ae af tg]) (U:=fun b=>b=y) ⟨rfl,du⟩ (fun b hb=>by have:=HY.out;have:=du.lt;omega)
   have eP:=hF.cons (Cell.framed y 32 #[ae af k,ae af ag,ae af sh,ae af sq,ae af ep,.slice Ab ds.length cb,.string se,ae af fr,ae af tg])
   have Ja:=hJ.trans (Just.bJ (V:=fun b=>w.heap.size≤b) hga)
   have hda:=In.grow hd0 hga
   have hxo:nq (8*j) (eJ fl.new ((q.map El.e).take j)):=uk hq j al
   have Ds:=Solo.zw 1 rfl eP ez (fun U hU ey Gv=>ri wa m (eJ fl.new ((q.map El.e).take j)) (8*j) ⟨k,ag,sh,sq,ep,ds,se,fr,tg⟩ Ab cb D0 U ey xe.1 xe.2 hda (fun b hb=>aA (hDl b hb) Ja.size) (fun b hb hu=>by have:=hDl b hb;have:=Gv b hu;omega) hxo al hU)
   have hya:=ez.blk 0 rfl
   obtain⟨C,HC⟩:∃ C:Int,Hid (C=(eh (eJ fl.new ((q.map El.e).take j)) ⟨k,ag,sh,sq,ep,ds,se,fr,tg⟩).1):=⟨_,rfl⟩
   obtain⟨N,Po⟩:∃ N:Nat,Hid (N=(eh (eJ fl.new ((q.map El.e).take j)) ⟨k,ag,sh,sq,ep,ds,se,fr,tg⟩).2.1):=⟨_,rfl⟩
   rw[←HC.out,←Po.out] at Ds
   rw[←pD,←HS.out] at Ds
   have hcl:=jW fl.new ((q.map El.e).take j)
   rw[aK,aP] at hcl
   have hcl:(dW fl.new ((q.map El.e).take j)).length≤j:=by omega
   have LX:Hid ((dW fl.new ((q.map El.e).take (j+1)))=(dW fl.new ((q.map El.e).take j))++if C=1 then [(ag,sh,sq)] else []):=Lib.hid (by rw[HS.out,uj,HC.out];rfl)
   clear hxo
   generalize (dW fl.new ((q.map El.e).take j))=l at hS ez hF eP Ds hcl LX
   obtain⟨l',Nz⟩:∃ l':List (Int×Int×Int),Hid (l'=(dW fl.new ((q.map El.e).take (j+1)))):=⟨_,Lib.hid rfl⟩
   rw[←Nz.out] at LX
   generalize (eJ fl.new ((q.map El.e).take j))=X at hS ez hF eP Ds HC Po
   obtain⟨X',NA⟩:∃ X':fl,Hid (X'=(eJ fl.new ((q.map El.e).take (j+1)))):=⟨_,Lib.hid rfl⟩
   rw[←NA.out] at Ds
   go_wp2_with fail
   rw[←dq.out,←HY.out]
   clear e0 e1 e2 e3 e4 e5 e6 e7 e8 du
   by_cases h1:C=1
   ·subst h1
    have hl':l'=l++[(ag,sh,sq)]:=by rw[LX.out,if_pos rfl]
    subst hl'
    go_wp2_with (refine bY rfl 32 _ rfl _ rfl (hya) Tryz.underlying32 am ?_)
    refine Ds.mono ?_
    rintro e w2 ⟨rfl,hj2,hS2⟩
    have hS2:Solo (fun b=>w.heap.size≤b) (Many [Cell y 32 #[ae af k,ae af ag,ae af sh,ae af sq,ae af ep,.slice Ab ds.length cb,.string se,ae af fr,ae af tg],eQ m X',Bi u4 l]) w2:=hS2
    have hF2:bM [Cell y 32 #[ae af k,ae af ag,ae af sh,ae af sq,ae af ep,.slice Ab ds.length cb,.string se,ae af fr,ae af tg],eQ m X',Bi u4 l]:=((bM.nil.cons (Bi.framed _ _)).cons (eQ.framed _ _)).cons (Cell.framed _ _ _)
    have J2:=Ja.trans hj2
    have hy2:=hS2.blk 0 rfl
    have c1:=hy2.cell 1
    have c2:=hy2.cell 2
    have c3:=hy2.cell 3
    obtain⟨A4,e4,Ey⟩:=iK (ct.made w2 26 #[ae af ag,ae af sh,ae af sq]) (size:=3) (n:=1) rfl
    injection e4 with e4
    subst e4
    have hgb:=bN w2 (.cells #[ae af ag,ae af sh,ae af sq] 26)
    have dO:=hS2.grows hF2 hgb
    have J3:=J2.trans (Just.bJ (V:=fun b=>w.heap.size≤b) hgb)
    obtain⟨U3,qQ,Gp,hop⟩:=dO.op 2 rfl hF2
    have qQ:Row _ U3 26 3 u4 l.length (dN l):=qQ
    have hic:dN l++[ae af ag,ae af sh,ae af sq]=dN (l++[(ag,sh,sq)]):=by simp[dN,gi]
    have hlm:l.length+1=(l++[(ag,sh,sq)]).length:=by simp
    go_wp2_with (at_builtin;refine stay ?_)
    refine bV ?_
    refine eD Ex _ rfl (.tmp 24) (.tmp 27) rfl u4 l.length _ rfl qQ _ _ 1 1 [ae af ag,ae af sh,ae af sq] rfl Ey.reads (jw _ _ _) al ?_
    intro v5 w5 xZ dY
    rw[hic,hlm] at xZ
    obtain⟨hS5,J5⟩:=hop (Bi v5 (l++[(ag,sh,sq)])) w5 xZ dY
    have hS5:Solo (fun b=>w.heap.size≤b) (Many [eQ m X',Bi v5 (l++[(ag,sh,sq)])]) w5:=Solo.drop1 hS5
    have J5:=J3.trans J5
    clear c1 c2 c3 hS ez hS2 dO hop hlm hic
    go_wp2_with fail
    go_roundw
    case rel=>exact⟨j+1,by omega,by go_num,by rw[←Nz.out,←NA.out];exact hS5,J5⟩
    case measure=>simp[intOf];omega
   ·have hl':l'=l:=by rw[LX.out,if_neg h1,bf]
    subst hl'
    have hd1:decide (C=1)=false:=decide_eq_false h1
    have hd2:(C == 1)=false:=beq_eq_false_iff_ne.2 h1
    go_wp2_with (refine bY rfl 32 _ rfl _ rfl (hya) Tryz.underlying32 am ?_)
    refine Ds.mono ?_
    rintro e w2 ⟨rfl,hj2,hS2⟩
    have hS2:Solo (fun b=>w.heap.size≤b) (Many [eQ m X',Bi u4 l']) w2:=Solo.drop1 hS2
    have J2:=Ja.trans hj2
    clear hS ez Ds
    go_wp2_with fail
    go_roundw
    case rel=>exact⟨j+1,by omega,by go_num,by rw[←Nz.out,←NA.out];exact hS2,J2⟩
    case measure=>simp[intOf];omega
  ·obtain rfl:j=n:=by omega
   have hTL:(q.map El.e).take j=q.map El.e:=aN (by rw[aP,←HN.out];omega)
   obtain⟨l,HL⟩:∃ l:List (Int×Int×Int),Hid (l=dW fl.new (q.map El.e)):=⟨_,Lib.hid rfl⟩
   rw[hTL,←HL.out] at hS
   obtain⟨U,hR,hU⟩:=hS.see 1 rfl
   obtain⟨A3,c3,rfl,H2,hc3,B_⟩:=Row.fw hR
   have NB:=yz gC.new (q.map El.e) fun e he=>by
    obtain⟨x,hx,rfl⟩:=List.mem_map.1 he
    exact (hq x hx).1
   have hcl:=jW fl.new (q.map El.e)
   rw[aP,←HN.out,←HL.out] at hcl
   rw[←HL.out] at NB
   have R2:=zZ wr A3 c3 l U H2 al NB.2
   clear NB
   clear hTL hR H2 hS hE hc3 B_ hU
   go_wp2_with fail
   refine R2.mono ?_
   rintro e w2 ⟨A2,l2,rfl,hp,hI2,hg2⟩
   go_wp2_with fail
   go_ret
   have hsz:=hgr.size
   have hll:=hp.length_eq
   exact⟨A2,l2,by rw[hll];rfl,HL.out▸hp,by rw[hll];exact hI2.mono fun b hb=>⟨by have:=hb.1;omega,hb.2⟩,hgr.trans hg2⟩
end Go.Proofs.YtmijcbfgfkeodaaGreatDoor
end
section
namespace Go.Proofs.YtmijcbfgfkeodaaGreatDoor
open Go.RowKit Go.Hop
theorem Ae (w:World) (V:Nat→Prop) (A:Option Addr) (n c:Nat) (l:List (Int×Int×Int)) (x1 x2 x3:Int) (hlx:(x1,x2,x3)∈l) (h:In w V 3 A n (dN l)) (hn:n≤1048576) :
 Calls au 144 #[.slice A n c,.agg #[ae af x1,ae af x2,ae af x3]] w fun e w'=>∃ z:Int,e=.returned (ae af z)∧0≤z∧Grow w w':=by
 have hll:l.length=n:=by have:=h.1;rw[jV] at this;omega
 have hga:=bN w (.cells #[ae af x1,ae af x2,ae af x3] 26)
 have hB:=ct.made w 26 #[ae af x1,ae af x2,ae af x3]
 obtain⟨y,HY⟩:∃ y:Nat,Hid (y=w.heap.size):=⟨_,rfl⟩
 obtain⟨wa,dq⟩:∃ wa:World,Hid (wa=w.alloc (.cells #[ae af x1,ae af x2,ae af x3] 26)):=⟨_,rfl⟩
 rw[←dq.out] at hga hB
 rw[←HY.out] at hB
 have ha:=h.grow hga
 clear h
 go_enter Tryz.func144,Tryz.ntmps144
 go_wp2_with fail
 rw[←dq.out,←HY.out]
 go_loopw [8] (fun i wr=>∃ k:Nat,k≤n∧i=ae af (k:Int)∧(∀ (j:Nat) (hj:j<l.length),j<k→l[j]≠(x1,x2,x3))∧Grow wa wr) (fun i _=>n-(intOf i).toNat)
 case atStart=>exact⟨0,by omega,rfl,fun j hj h0=>absurd h0 al,Grow.refl _⟩
 case round=>
  obtain⟨k,hkn,rfl,hno,hgr⟩:=hrel
  have hk:k<n:=by
   rcases bn k n with h|h
   ·exact h
   ·exfalso
    obtain⟨j,hj,e⟩:=List.getElem_of_mem hlx
    exact hno j hj al e
  have hd:decide ((k:Int)<(n:Int))=true:=decide_eq_true al
  have hBr:=hB.grow hgr
  obtain⟨ad,hq,rfl,_,hba,f0,f12⟩:=(ha.grow hgr).iS al gj hk
  have HN:Hid (l[k]≠(x1,x2,x3)→∀ (j:Nat) (hj:j<l.length),j<k+1→l[j]≠(x1,x2,x3)):=Lib.hid fun h0 j hj hjk=>by
   rcases bn j k with h1|h1
   ·exact hno j hj h1
   ·have:j=k:=by omega
    subst this;exact h0
  generalize l[k]=a at f0 f12 HN
  obtain⟨a1,a2,a3⟩:=a
  have f0:=f0 _ rfl
  have f1:wr.cell? ⟨(ad.add (k*3)).block,(ad.add (k*3)).off+1,none⟩=some (ae af a2):=f12 0 _ rfl
  have f2:wr.cell? ⟨(ad.add (k*3)).block,(ad.add (k*3)).off+2,none⟩=some (ae af a3):=f12 1 _ rfl
  have HX:=Lib.hid hlx
  have HNO:=Lib.hid hno
  have hk':¬ n≤k:=by omega
  clear f12 hno hlx ha
  by_cases hx:(a1,a2,a3)=(x1,x2,x3)
  ·injection hx with h1 hx
   injection hx with h2 h3
   subst h1 h2 h3
   have q1:a1=a1:=rfl
   have q2:a2=a2:=rfl
   have q3:a3=a3:=rfl
   clear HN
   go_wp2_with fail
   refine bL 6 19 [] rfl rfl am am am ?_ ?_
   ·intro x hx φ he
    cases hx
   intro ops' A' K' T hops hA' hK hT
   refine bI 11 (.tmp 3) (((y:Nat):Value)) (.agg #[ae af a1,ae af a2,ae af a3]) (fun ρ h1 kk w1 (hg:Grow _ w1) hb hf=>by have hB:=hBr.grow hg;have c0:=hB.cell 0;have c1:=hB.cell 1;have c2:=hB.cell 2;go_simp) ?_
   refine bP 12 (.slice (some ad) n c) ?_
   refine bP 13 (ae af (k:Int)) ?_
   refine cm 14 (.tmp 12) (.tmp 13) (.slice (some ad) n c) (ae af (k:Int)) (.pointer (some (ad.add (k*3)))) (fun ρ h1 h2 kk w1 (hg:Grow _ w1) hb hf=>by go_simp;try (intro hlt;omega)) ?_
   refine bI 15 (.tmp 14) (.pointer (some (ad.add (k*3)))) (.agg #[ae af a1,ae af a2,ae af a3]) (fun ρ h1 kk w1 (hg:Grow _ w1) hb hf=>by have c0:=(hg.cell (by rw[block_add];exact hba)).trans f0;have c1:=(hg.cell (p:=⟨(ad.add (k*3)).block,(ad.add (k*3)).off+1,none⟩) (show (ad.add (k*3)).block<_ by rw[block_add];exact hba)).trans f1;have c2:=(hg.cell (p:=⟨(ad.add (k*3)).block,(ad.add (k*3)).off+2,none⟩) (show (ad.add (k*3)).block<_ by rw[block_add];exact hba)).trans f2;go_simp) ?_
   refine cm 16 (.tmp 11) (.tmp 15) (.agg #[ae af a1,ae af a2,ae af a3]) (.agg #[ae af a1,ae af a2,ae af a3]) (.bool true) (fun ρ h1 h2 kk w1 (hg:Grow _ w1) hb hf=>by go_simp;try simp[q1,q2,q3]) ?_
   refine ce (fun _ _ w1 (hg:Grow _ w1) _ bR=>hT _ _ ?_)
   clear hops hA' hK hT
   simp only[cj,Act.put,aw,ay,az,ax,aB]
   have hg2:=hga.trans (hgr.trans hg)
   clear f0 f1 f2 hBr
   go_wp2_with fail
   go_ret
   exact⟨(k:Int),rfl,by omega,hg2⟩
  ·have q:¬ (x1=a1∧x2=a2∧x3=a3):=fun ⟨e1,e2,e3⟩=>hx (by rw[e1,e2,e3])
   have NO:=Lib.hid (HN.out hx)
   clear HN hx
   go_wp2_with fail
   refine bL 6 19 [] rfl rfl am am am ?_ ?_
   ·intro x hx φ he
    cases hx
   intro ops' A' K' T hops hA' hK hT
   refine bI 11 (.tmp 3) (((y:Nat):Value)) (.agg #[ae af x1,ae af x2,ae af x3]) (fun ρ h1 kk w1 (hg:Grow _ w1) hb hf=>by have hB:=hBr.grow hg;have c0:=hB.cell 0;have c1:=hB.cell 1;have c2:=hB.cell 2;go_simp) ?_
   refine bP 12 (.slice (some ad) n c) ?_
   refine bP 13 (ae af (k:Int)) ?_
   refine cm 14 (.tmp 12) (.tmp 13) (.slice (some ad) n c) (ae af (k:Int)) (.pointer (some (ad.add (k*3)))) (fun ρ h1 h2 kk w1 (hg:Grow _ w1) hb hf=>by go_simp;try (intro hlt;omega)) ?_
   refine bI 15 (.tmp 14) (.pointer (some (ad.add (k*3)))) (.agg #[ae af a1,ae af a2,ae af a3]) (fun ρ h1 kk w1 (hg:Grow _ w1) hb hf=>by have c0:=(hg.cell (by rw[block_add];exact hba)).trans f0;have c1:=(hg.cell (p:=⟨(ad.add (k*3)).block,(ad.add (k*3)).off+1,none⟩) (show (ad.add (k*3)).block<_ by rw[block_add];exact hba)).trans f1;have c2:=(hg.cell (p:=⟨(ad.add (k*3)).block,(ad.add (k*3)).off+2,none⟩) (show (ad.add (k*3)).block<_ by rw[block_add];exact hba)).trans f2;go_simp) ?_
   refine cm 16 (.tmp 11) (.tmp 15) (.agg #[ae af x1,ae af x2,ae af x3]) (.agg #[ae af a1,ae af a2,ae af a3]) (.bool false) (fun ρ h1 h2 kk w1 (hg:Grow _ w1) hb hf=>by go_simp;try exact fun e1 e2 e3=>q ⟨e1,e2,e3⟩) ?_
   refine ce (fun _ _ w1 (hg:Grow _ w1) _ bR=>hT _ _ ?_)
   clear hops hA' hK hT
   simp only[cj,Act.put,aw,ay,az,ax,aB]
   have hg2:=hgr.trans hg
   clear f0 f1 f2 hBr
   go_wp2_with fail
   go_roundw
   case rel=>exact⟨k+1,by omega,by go_num,NO.out,hg2⟩
   case measure=>simp[intOf];omega
theorem xh (w:World) (V:Nat→Prop) (A:Option Addr) (n c:Nat) (l:List (Int×Int×Int)) (x1 x2 x3:Int) (hlx:(x1,x2,x3)∈l) (h:In w V 3 A n (dN l)) (hn:n≤1048576) :
 Calls au 64 #[.slice A n c,.agg #[ae af x1,ae af x2,ae af x3]] w fun e w'=>e=.returned (.bool true)∧Grow w w':=by
 have hga:=bN w (.cells #[ae af x1,ae af x2,ae af x3] 26)
 have hB:=ct.made w 26 #[ae af x1,ae af x2,ae af x3]
 have c0:=hB.cell 0
 have c1:=hB.cell 1
 have c2:=hB.cell 2
 have hI:=Ae (w.alloc (.cells #[ae af x1,ae af x2,ae af x3] 26)) V A n c l x1 x2 x3 hlx (h.grow hga) hn
 go_enter Tryz.func64,Tryz.ntmps64
 go_wp2_with fail
 refine hI.mono ?_
 rintro e w2 ⟨z,rfl,hz,hg2⟩
 have hd:decide ((0:Int)≤z)=true:=decide_eq_true hz
 clear hz
 go_wp2_with fail
 go_ret
 exact⟨rfl,hga.trans hg2⟩
theorem Dx (w:World) (V:Nat→Prop) (A:Option Addr) (n c:Nat) (l:List (Int×Int×Int)) (x1 x2 x3:Int) (b:Nat) (hb:ct w b 41 #[.slice A n c]) (hlx:(x1,x2,x3)∈l) (h:In w V 3 A n (dN l)) (hn:n≤1048576) :
 Calls au 63 #[.agg #[ae af x1,ae af x2,ae af x3],((b:Nat):Value)] w fun e w'=>e=.returned (.bool false)∧Grow w w':=by
 have hga:=bN w (.cells #[ae af x1,ae af x2,ae af x3] 26)
 have hB:=ct.made w 26 #[ae af x1,ae af x2,ae af x3]
 have d0:=(hb.grow hga).cell 0
 have c0:=hB.cell 0
 have c1:=hB.cell 1
 have c2:=hB.cell 2
 have hI:=xh (w.alloc (.cells #[ae af x1,ae af x2,ae af x3] 26)) V A n c l x1 x2 x3 hlx (h.grow hga) hn
 go_enter Tryz.func63,Tryz.ntmps63
 go_wp2_with fail
 refine hI.mono ?_
 rintro e w2 ⟨rfl,hg2⟩
 go_wp2_with fail
 go_ret
 exact⟨rfl,hga.trans hg2⟩
theorem Af (w:World) (V U:Nat→Prop) (A B:Option Addr) (n c m d:Nat) (L l:List (Int×Int×Int)) (b:Nat) (hb:ct w b 41 #[.slice A n c]) (h:In w V 3 A n (dN L)) (hn:n≤1048576) (hl:In w U 3 B m (dN l)) (hm:m≤1048576) (hsub:∀ x∈l,x∈L) :
 Calls au 143 #[.slice B m d,.func (.func 63) #[] #[((b:Nat):Value)]] w fun e w'=>e=.returned (ae af (-1))∧Grow w w':=by
 have hll:l.length=m:=by have:=hl.1;rw[jV] at this;omega
 go_enter Tryz.func143,Tryz.ntmps143
 go_wp2_with fail
 go_loopw [8] (fun i wr=>∃ k:Nat,k≤m∧i=ae af (k:Int)∧Grow w wr) (fun i _=>m-(intOf i).toNat)
 case atStart=>exact⟨0,by omega,rfl,Grow.refl _⟩
 case round=>
  obtain⟨k,hkm,rfl,hgr⟩:=hrel
  by_cases hk:k<m
  ·have hd:decide ((k:Int)<(m:Int))=true:=decide_eq_true al
   have hk':¬ m≤k:=by omega
   obtain⟨ad,hq,rfl,_,hba,f0,f12⟩:=(hl.grow hgr).iS al gj hk
   have hx:=hsub l[k] (aO hq)
   have HS:=Lib.hid hsub
   clear hsub
   generalize l[k]=a at f0 f12 hx
   obtain⟨a1,a2,a3⟩:=a
   have f0:=f0 _ rfl
   have f1:wr.cell? ⟨(ad.add (k*3)).block,(ad.add (k*3)).off+1,none⟩=some (ae af a2):=f12 0 _ rfl
   have f2:wr.cell? ⟨(ad.add (k*3)).block,(ad.add (k*3)).off+2,none⟩=some (ae af a3):=f12 1 _ rfl
   clear f12
   have hc:=Dx wr V A n c L a1 a2 a3 b (hb.grow hgr) hx (h.grow hgr) hn
   clear hx
   go_wp2_with fail
   refine hc.mono ?_
   rintro e w2 ⟨rfl,hg2⟩
   go_wp2_with fail
   go_roundw
   case rel=>exact⟨k+1,by omega,by go_num,hgr.trans hg2⟩
   case measure=>simp[intOf];omega
  ·obtain rfl:k=m:=by omega
   have hd:decide ((k:Int)<(k:Int))=false:=decide_eq_false al
   go_wp2_with fail
   go_ret
   exact⟨rfl,hgr⟩
theorem xi (w:World) (V U:Nat→Prop) (A B:Option Addr) (n c m d:Nat) (L l:List (Int×Int×Int)) (b:Nat) (hb:ct w b 41 #[.slice A n c]) (h:In w V 3 A n (dN L)) (hn:n≤1048576) (hl:In w U 3 B m (dN l)) (hm:m≤1048576) (hsub:∀ x∈l,x∈L) :
 Calls au 62 #[.slice B m d,.func (.func 63) #[] #[((b:Nat):Value)]] w fun e w'=>e=.returned (.bool false)∧Grow w w':=by
 have hI:=Af w V U A B n c m d L l b hb h hn hl hm hsub
 go_enter Tryz.func62,Tryz.ntmps62
 go_wp2_with fail
 refine hI.mono ?_
 rintro e w2 ⟨rfl,hg2⟩
 go_wp2_with fail
 go_ret
 exact⟨rfl,hg2⟩
theorem sG (w:World) (V U:Nat→Prop) (A B:Option Addr) (n c m d:Nat) (L l:List (Int×Int×Int)) (h:In w V 3 A n (dN L)) (hn:n≤1048576) (hl:In w U 3 B m (dN l)) (hm:m≤1048576) (hsub:∀ x∈l,x∈L) :
 Calls au 21 #[.slice B m d,.slice A n c] w fun e w'=>e=.returned (.bool true)∧Grow w w':=by
 have hga:=bN w (.cells #[.slice A n c] 41)
 have hB:=ct.made w 41 #[.slice A n c]
 have hI:=xi (w.alloc (.cells #[.slice A n c] 41)) V U A B n c m d L l w.heap.size hB (h.grow hga) hn (hl.grow hga) hm hsub
 go_enter Tryz.func21,Tryz.ntmps21
 go_wp2_with fail
 refine hI.mono ?_
 rintro e w2 ⟨rfl,hg2⟩
 go_wp2_with fail
 go_ret
 exact⟨rfl,hga.trans hg2⟩
end Go.Proofs.YtmijcbfgfkeodaaGreatDoor
end
section
namespace Go.Proofs.YtmijcbfgfkeodaaGreatDoor.Tp
open Go.RowKit Go.Hop K
theorem nw {s:ByteArray} (a b:L.Lb) (h1:L.dG s=[a,b]) (h2:(!L.slt b.1 a.1)=true) (h3:L.dS [a,b]=0) (h4:L.txt [a,b]=s):L.fH s=0:=by
 have hc:L.can [a,b]=[a,b]:=by
  unfold L.can
  exact List.mergeSort_of_pairwise (by simpa using h2)
 unfold L.fH L.ie
 rw[h1,hc,h3,h4]
 simp
theorem pG {s:ByteArray} (h:s∈nH):L.fH s=0:=by
 simp only[nH,aF,aE,or_false] at h
 rcases h with rfl|rfl|rfl|rfl|rfl|rfl|rfl|rfl
 ·decide +kernel
 ·decide +kernel
 ·exact nw (⟨#[97]⟩,⟨#[49]⟩) (⟨#[98]⟩,⟨#[120]⟩) (by decide +kernel) (by decide +kernel) (by decide +kernel) (by decide +kernel)
 ·exact nw (⟨#[106,111,98]⟩,⟨#[97,112,105]⟩) (⟨#[122,111,110,101]⟩,⟨#[101,117]⟩) (by decide +kernel) (by decide +kernel) (by decide +kernel) (by decide +kernel)
 ·decide +kernel
 ·decide +kernel
 ·decide +kernel
 ·exact nw (⟨#[97]⟩,⟨#[51]⟩) (⟨#[99]⟩,⟨#[57]⟩) (by decide +kernel) (by decide +kernel) (by decide +kernel) (by decide +kernel)
theorem Ah (w:World) (x:Nat) (D:Nat→Prop) (hT:d_ x D w) (rQ:∀ b,D b→b<w.heap.size) :
 Calls au 34 #[((x:Nat):Value)] w fun en w'=>∃ (e:En) (A:Option Addr) (c:Nat),en=.returned (.agg (e.agg A c))∧e.Ok∧e.se.size≤maxLen∧fY w' (New w w') ⟨e,A,c⟩∧d_ x D w'∧Just (fun b=>b=x) w w':=by
 have hxl:=hT.lt
 have hga:=bN w (.cells #[ae af 0,ae af 0,ae af 0,ae af 0,ae af 0,ai none 0 0,.string ⟨#[]⟩,ae af 0,ae af 0] 32)
 have hZ:=ct.made w 32 #[ae af 0,ae af 0,ae af 0,ae af 0,ae af 0,ai none 0 0,.string ⟨#[]⟩,ae af 0,ae af 0]
 obtain⟨z,HZ⟩:∃ z:Nat,Hid (z=w.heap.size):=⟨_,rfl⟩
 obtain⟨wa,dq⟩:∃ wa:World,Hid (wa=w.alloc (.cells #[ae af 0,ae af 0,ae af 0,ae af 0,ae af 0,ai none 0 0,.string ⟨#[]⟩,ae af 0,ae af 0] 32)):=⟨_,rfl⟩
 rw[←dq.out] at hga hZ
 rw[←HZ.out] at hZ
 have hzx:¬ z=x:=by have:=HZ.out;omega
 have hT:=hT.grow hga
 have J:Just (fun b=>b=x) w wa:=Just.bJ hga
 go_enter Tryz.func34,Tryz.ntmps34
 have hN:=eu wa x D hT 8 al al
 rw[show ((8:Nat):Int)=8 from rfl] at hN
 go_wp2_with fail
 rw[←dq.out,←HZ.out]
 refine hN.mono ?_
 rintro en w1 ⟨k1,hk1,rfl,hT',hj⟩
 clear hN hT
 have hT:=hT'
 clear hT'
 have hZ:=hj.blk hZ hzx
 have J:=J.trans hj
 clear hj
 have hN:=eu w1 x D hT 40 al al
 rw[show ((40:Nat):Int)=40 from rfl] at hN
 go_wp2_with fail
 refine hN.mono ?_
 rintro en w2 ⟨k2,hk2,rfl,hT',hj⟩
 clear hN hT
 have hT:=hT'
 clear hT'
 have hZ:=hj.blk hZ hzx
 have J:=J.trans hj
 clear hj
 have hgb:=bN w2 (.cells #[ae af 1,ae af 0,ae af 0,ae af 0,ae af 0,ai none 0 0,.string ⟨#[]⟩,ae af (k1:Int),ae af (k2:Int)] 32)
 have hY:=ct.made w2 32 #[ae af 1,ae af 0,ae af 0,ae af 0,ae af 0,ai none 0 0,.string ⟨#[]⟩,ae af (k1:Int),ae af (k2:Int)]
 obtain⟨y,HY⟩:∃ y:Nat,Hid (y=w2.heap.size):=⟨_,rfl⟩
 obtain⟨wb,ia⟩:∃ wb:World,Hid (wb=w2.alloc (.cells #[ae af 1,ae af 0,ae af 0,ae af 0,ae af 0,ai none 0 0,.string ⟨#[]⟩,ae af (k1:Int),ae af (k2:Int)] 32)):=⟨_,rfl⟩
 rw[←ia.out] at hgb hY
 rw[←HY.out] at hY
 have hyx:¬ y=x:=by have:=HY.out;have:=J.size;omega
 have hyz:¬ y=z:=by have:=HY.out;have:=hZ.lt;omega
 have F7:w.heap.size≤y:=by have:=HY.out;have:=J.size;omega
 have hZ:=hZ.grow hgb
 have J:=J.trans (Just.bJ hgb)
 have hT:=hT.grow hgb
 have hN:=eu wb x D hT 5 al al
 rw[show ((5:Nat):Int)=5 from rfl] at hN
 go_wp2_with fail
 rw[←ia.out,←HY.out]
 refine hN.mono ?_
 rintro en w3 ⟨k3,hk3,rfl,hT',hj⟩
 clear hN hT
 have hT:=hT'
 clear hT'
 have hZ:=hj.blk hZ hzx
 have hY:=hj.blk hY hyx
 have J:=J.trans hj
 clear hj
 by_cases h0:k3=0
 ·have e0:((k3:Int) == 0)=true:=beq_iff_eq.2 al
  clear h0
  go_wp2_with fail
  refine (oJ w3 x D hT).mono ?_
  rintro en w4 ⟨s,hs,rfl,Pp,hj⟩
  have hZ:=hj.blk hZ hzx
  have hY:=hj.blk hY hyx
  have J:=J.trans hj
  clear hj hT
  have c0:=hY.cell 0
  have f0:=hY.frozen 0
  have c6:=hY.cell 6
  have f6:=hY.frozen 6
  have kX:ct ((w4.setCell ⟨y,0,none⟩ (ae af 2)).setCell ⟨y,6,none⟩ (.string s)) y 32 #[ae af 2,ae af 0,ae af 0,ae af 0,ae af 0,ai none 0 0,.string s,ae af (k1:Int),ae af (k2:Int)]:=(hY.put 0 _).put 6 _
  have KO:ct ((w4.setCell ⟨y,0,none⟩ (ae af 2)).setCell ⟨y,6,none⟩ (.string s)) z 32 #[ae af 0,ae af 0,ae af 0,ae af 0,ae af 0,ai none 0 0,.string ⟨#[]⟩,ae af 0,ae af 0]:=(hZ.far (p:=⟨y,0,none⟩) (fun e=>hyz e.symm) _).far (p:=⟨y,6,none⟩) (fun e=>hyz e.symm) _
  have dY:Just (fun b=>b=y) w4 ((w4.setCell ⟨y,0,none⟩ (ae af 2)).setCell ⟨y,6,none⟩ (.string s)):=((Just.bJ (Grow.refl w4)).put (V:=fun b=>b=y) rfl 0 _).put (V:=fun b=>b=y) rfl 6 _
  have J5:=eO J dY (fun b hb => .inl (by have e2:b=y:=hb;omega))
  have Gw:=Pp.keep (dY.block x Pp.lt (fun e=>hyx e.symm)) (fun b hb hbl=>dY.block b hbl (fun e=>by have e2:b=y:=e;have:=rQ b hb;omega))
  go_wp2_with (first|(refine bY rfl 32 _ rfl _ rfl (kX) Tryz.underlying32 am ?_)|(refine ch rfl 32 _ _ rfl _ rfl [ae af 2,ae af 0,ae af 0,ae af 0,ae af 0,ai none 0 0,.string s,ae af (k1:Int),ae af (k2:Int)] rfl (KO) rfl rfl am ?_;intro w6 KP fI hs6;refine stay ?_))
  refine bV ?_
  go_wp2_with fail
  refine bodyPost_ret (dr rfl _ z rfl KP Tryz.underlying32 am) rfl ?_
  have Pq:w.heap.size≤z:=by have:=HZ.out;omega
  have J6:=eO J5 fI (fun b hb => .inl (by have e2:b=z:=hb;omega))
  have ER:=Gw.keep (fI.block x Gw.lt (fun e=>hzx e.symm)) (fun b hb hbl=>fI.block b hbl (fun e=>by have e2:b=z:=e;have:=rQ b hb;omega))
  refine⟨⟨2,0,0,0,0,[],s,(k1:Int),(k2:Int)⟩,none,0,rfl,⟨⟨⟨by show (0:Int)≤(k1:Int);omega,by show (k1:Int)<8;omega⟩,by show (0:Int)≤(k2:Int);omega,by show (k2:Int)≤_;omega⟩,.inr ⟨rfl,rfl,rfl,rfl,rfl,rfl,pG hs,by have:=j6 hs;show s.size≤1000;omega⟩⟩,by have:=j6 hs;show s.size≤maxLen;unfold maxLen;omega,⟨In.nil,aZ _,aZ _,aZ _⟩,ER,J6⟩
 ·have e0:((k3:Int) == 0)=false:=beq_eq_false_iff_ne.2 al
  clear h0
  have hN:=eu w3 x D hT 3 al al
  rw[show ((3:Nat):Int)=3 from rfl] at hN
  go_wp2_with fail
  refine hN.mono ?_
  rintro en w4 ⟨k4,hk4,rfl,hT',hj⟩
  clear hN hT
  have hT:=hT'
  clear hT'
  have hZ:=hj.blk hZ hzx
  have hY:=hj.blk hY hyx
  have J:=J.trans hj
  clear hj
  have hN:=eu w4 x D hT 2 al al
  rw[show ((2:Nat):Int)=2 from rfl] at hN
  go_wp2_with fail
  refine hN.mono ?_
  rintro en w5 ⟨k5,hk5,rfl,hT',hj⟩
  clear hN hT
  have hT:=hT'
  clear hT'
  have hZ:=hj.blk hZ hzx
  have hY:=hj.blk hY hyx
  have J:=J.trans hj
  clear hj
  have hN:=eu w5 x D hT 12 al al
  rw[show ((12:Nat):Int)=12 from rfl] at hN
  go_wp2_with fail
  refine hN.mono ?_
  rintro en w6 ⟨k6,OZ,rfl,hT',hj⟩
  clear hN hT
  have hT:=hT'
  clear hT'
  have hZ:=hj.blk hZ hzx
  have hY:=hj.blk hY hyx
  have J:=J.trans hj
  clear hj
  have Ph:IntKind.i64.wrap (1+(k6:Int))=1+(k6:Int):=by rw[IntKind.wrap_i64];(try unfold wrap64);omega
  go_wp2_with (refine kH rfl 26 _ _ rfl (y) 1 rfl [ae af (k4:Int),ae af (k5:Int),ae af (1+(k6:Int))] rfl (hY) (aQ rfl) rfl am (cs':=#[ae af 1,ae af (k4:Int),ae af (k5:Int),ae af (1+(k6:Int)),ae af 0,ai none 0 0,.string ⟨#[]⟩,ae af (k1:Int),ae af (k2:Int)]) rfl ?_;intro w7 Cb nn hs7;refine stay ?_)
  refine bV ?_
  have hZ:=nn.blk hZ (fun e=>hyz e.symm)
  have hT:=hT.keep (nn.block x hT.lt (fun e=>hyx e.symm)) (fun b hb hbl=>nn.block b hbl (fun e=>by have e2:b=y:=e;have:=rQ b hb;omega))
  have J:=eO J nn (fun b hb => .inl (by have e2:b=y:=hb;omega))
  have hY:=Cb
  clear nn Cb
  have hN:=eu w7 x D hT 9 al al
  rw[show ((9:Nat):Int)=9 from rfl] at hN
  go_wp2_with fail
  refine hN.mono ?_
  rintro en w8 ⟨k7,hk7,rfl,hT',hj⟩
  clear hN hT
  have hT:=hT'
  clear hT'
  have hZ:=hj.blk hZ hzx
  have hY:=hj.blk hY hyx
  have J:=J.trans hj
  clear hj
  by_cases h7:k7=0
  ·have e7:((k7:Int) == 0)=true:=beq_iff_eq.2 al
   clear h7
   have hN:=eu w8 x D hT 90 al al
   rw[show ((90:Nat):Int)=90 from rfl] at hN
   go_wp2_with fail
   refine hN.mono ?_
   rintro en w9 ⟨k9,hk9,rfl,hT',hj⟩
   clear hN hT
   have hT:=hT'
   clear hT'
   have hZ:=hj.blk hZ hzx
   have hY:=hj.blk hY hyx
   have J:=J.trans hj
   clear hj
   have R3:IntKind.i64.wrap (1+(k9:Int))=1+(k9:Int):=by rw[IntKind.wrap_i64];(try unfold wrap64);omega
   have c3:=hY.cell 3
   have f3:=hY.frozen 3
   obtain⟨wc,It⟩:∃ wc:World,Hid (wc=w9.setCell ⟨y,3,none⟩ (ae af (1+(k9:Int)))):=⟨_,rfl⟩
   have hjp:Just (fun b=>b=y) w9 wc:=by rw[It.out];exact (Just.bJ (Grow.refl w9)).put (V:=fun b=>b=y) rfl 3 _
   have Gx:ct wc y 32 #[ae af 1,ae af (k4:Int),ae af (k5:Int),ae af (1+(k9:Int)),ae af 0,ai none 0 0,.string ⟨#[]⟩,ae af (k1:Int),ae af (k2:Int)]:=by rw[It.out];exact hY.put 3 _
   have hZ:=hjp.blk hZ (fun e=>hyz e.symm)
   have hT:=hT.keep (hjp.block x hT.lt (fun e=>hyx e.symm)) (fun b hb hbl=>hjp.block b hbl (fun e=>by have e2:b=y:=e;have:=rQ b hb;omega))
   have J:=eO J hjp (fun b hb => .inl (by have e2:b=y:=hb;omega))
   have hY:=Gx
   clear hjp Gx
   have hN:=eu wc x D hT 4 al al
   rw[show ((4:Nat):Int)=4 from rfl] at hN
   go_wp2_with fail
   rw[←It.out]
   refine hN.mono ?_
   rintro en wd ⟨k8,OT,rfl,hT',hj⟩
   clear hN hT
   have hT:=hT'
   clear hT'
   have hZ:=hj.blk hZ hzx
   have hY:=hj.blk hY hyx
   have J:=J.trans hj
   clear hj
   have hw8:IntKind.i64.wrap (1+(k8:Int))=1+(k8:Int):=by rw[IntKind.wrap_i64];(try unfold wrap64);omega
   have c4:=hY.cell 4
   have f4:=hY.frozen 4
   obtain⟨we,xj⟩:∃ we:World,Hid (we=wd.setCell ⟨y,4,none⟩ (ae af (1+(k8:Int)))):=⟨_,rfl⟩
   have hjp:Just (fun b=>b=y) wd we:=by rw[xj.out];exact (Just.bJ (Grow.refl wd)).put (V:=fun b=>b=y) rfl 4 _
   have Gx:ct we y 32 #[ae af 1,ae af (k4:Int),ae af (k5:Int),ae af (1+(k9:Int)),ae af (1+(k8:Int)),ai none 0 0,.string ⟨#[]⟩,ae af (k1:Int),ae af (k2:Int)]:=by rw[xj.out];exact hY.put 4 _
   have hZ:=hjp.blk hZ (fun e=>hyz e.symm)
   have hT:=hT.keep (hjp.block x hT.lt (fun e=>hyx e.symm)) (fun b hb hbl=>hjp.block b hbl (fun e=>by have e2:b=y:=e;have:=rQ b hb;omega))
   have J:=eO J hjp (fun b hb => .inl (by have e2:b=y:=hb;omega))
   have hY:=Gx
   clear hjp Gx
   have hyl:=hY.lt
   have hzl:=hZ.lt
   have NC:=J.size
   have hDe:=oK we x D hT (fun b hb=>aA (rQ b hb) J.size) 4 al al
   rw[show ((4:Nat):Int)=4 from rfl] at hDe
   go_wp2_with fail
   rw[←xj.out]
   refine hDe.mono ?_
   rintro en wf ⟨v,ld,rfl,hO,hl1,hl4,hK,hT',hj⟩
   clear hDe hT
   have hT:=hT'
   clear hT'
   have hZ:=hj.blk hZ hzx
   have hY:=hj.blk hY hyx
   have J:=J.trans hj
   clear hj
   obtain⟨Ad,cd,rfl,hId,hcd,hmd⟩:=Own.fw hO
   have c5:=hY.cell 5
   have f5:=hY.frozen 5
   have kX:ct (wf.setCell ⟨y,5,none⟩ (.slice Ad ld.length cd)) y 32 #[ae af 1,ae af (k4:Int),ae af (k5:Int),ae af (1+(k9:Int)),ae af (1+(k8:Int)),.slice Ad ld.length cd,.string ⟨#[]⟩,ae af (k1:Int),ae af (k2:Int)]:=hY.put 5 _
   have KO:ct (wf.setCell ⟨y,5,none⟩ (.slice Ad ld.length cd)) z 32 #[ae af 0,ae af 0,ae af 0,ae af 0,ae af 0,ai none 0 0,.string ⟨#[]⟩,ae af 0,ae af 0]:=hZ.far (p:=⟨y,5,none⟩) (fun e=>hyz e.symm) _
   have dY:Just (fun b=>b=y) wf (wf.setCell ⟨y,5,none⟩ (.slice Ad ld.length cd)):=(Just.bJ (Grow.refl wf)).put (V:=fun b=>b=y) rfl 5 _
   have J5:=eO J dY (fun b hb => .inl (by have e2:b=y:=hb;omega))
   have Gw:=hT.keep (dY.block x hT.lt (fun e=>hyx e.symm)) (fun b hb hbl=>dY.block b hbl (fun e=>by have e2:b=y:=e;have:=rQ b hb;omega))
   go_wp2_with (first|(refine bY rfl 32 _ rfl _ rfl (kX) Tryz.underlying32 am ?_)|(refine ch rfl 32 _ _ rfl _ rfl [ae af 1,ae af (k4:Int),ae af (k5:Int),ae af (1+(k9:Int)),ae af (1+(k8:Int)),.slice Ad ld.length cd,.string ⟨#[]⟩,ae af (k1:Int),ae af (k2:Int)] rfl (KO) rfl rfl am ?_;intro w6 KP fI hs6;refine stay ?_))
   refine bV ?_
   go_wp2_with fail
   refine bodyPost_ret (dr rfl _ z rfl KP Tryz.underlying32 am) rfl ?_
   have Pq:w.heap.size≤z:=by have:=HZ.out;omega
   have J6:=eO J5 fI (fun b hb => .inl (by have e2:b=z:=hb;omega))
   have ER:=Gw.keep (fI.block x Gw.lt (fun e=>hzx e.symm)) (fun b hb hbl=>fI.block b hbl (fun e=>by have e2:b=z:=e;have:=rQ b hb;omega))
   have Ft:wf.heap.size≤w6.heap.size:=aH dY.size fI.size
   have Iu:=(In.just (In.just hId dY fun b hb e=>by have e2:b=y:=e;have:=hb.1;omega) fI fun b hb e=>by have e2:b=z:=e;have:=hb.1;omega).mono (V':=New w w6) fun b hb=>⟨aH NC hb.1,aA hb.2 Ft⟩
   refine⟨⟨1,(k4:Int),(k5:Int),(1+(k9:Int)),1+(k8:Int),ld,⟨#[]⟩,(k1:Int),(k2:Int)⟩,Ad,cd,rfl,⟨⟨⟨by show (0:Int)≤(k1:Int);omega,by show (k1:Int)<8;omega⟩,by show (0:Int)≤(k2:Int);omega,by show (k2:Int)≤_;omega⟩,.inl ⟨rfl,rfl,⟨by show (0:Int)≤(k4:Int);omega,by show (k4:Int)<8;omega⟩,⟨by show (0:Int)≤(k5:Int);omega,by show (k5:Int)<4;omega⟩,⟨by show 1≤(1+(k9:Int));omega,by show (1+(k9:Int))≤_;omega⟩,⟨by show 1≤1+(k8:Int);omega,by show 1+(k8:Int)≤_;omega⟩,⟨hl1,aH hl4 al⟩,fun d hd=>⟨(hK d hd).2.1,(hK d hd).2.2,pG (hK d hd).1,aH (j6 (hK d hd).1) al⟩⟩⟩,aZ _,⟨Iu,hcd,hmd,aH hl4 al⟩,ER,J6⟩
  ·have e7:((k7:Int) == 0)=false:=beq_eq_false_iff_ne.2 al
   clear h7
   have hN:=eu w8 x D hT 4 al al
   rw[show ((4:Nat):Int)=4 from rfl] at hN
   go_wp2_with fail
   refine hN.mono ?_
   rintro en wd ⟨k8,OT,rfl,hT',hj⟩
   clear hN hT
   have hT:=hT'
   clear hT'
   have hZ:=hj.blk hZ hzx
   have hY:=hj.blk hY hyx
   have J:=J.trans hj
   clear hj
   have hw8:IntKind.i64.wrap (1+(k8:Int))=1+(k8:Int):=by rw[IntKind.wrap_i64];(try unfold wrap64);omega
   have c4:=hY.cell 4
   have f4:=hY.frozen 4
   obtain⟨we,xj⟩:∃ we:World,Hid (we=wd.setCell ⟨y,4,none⟩ (ae af (1+(k8:Int)))):=⟨_,rfl⟩
   have hjp:Just (fun b=>b=y) wd we:=by rw[xj.out];exact (Just.bJ (Grow.refl wd)).put (V:=fun b=>b=y) rfl 4 _
   have Gx:ct we y 32 #[ae af 1,ae af (k4:Int),ae af (k5:Int),ae af (1+(k6:Int)),ae af (1+(k8:Int)),ai none 0 0,.string ⟨#[]⟩,ae af (k1:Int),ae af (k2:Int)]:=by rw[xj.out];exact hY.put 4 _
   have hZ:=hjp.blk hZ (fun e=>hyz e.symm)
   have hT:=hT.keep (hjp.block x hT.lt (fun e=>hyx e.symm)) (fun b hb hbl=>hjp.block b hbl (fun e=>by have e2:b=y:=e;have:=rQ b hb;omega))
   have J:=eO J hjp (fun b hb => .inl (by have e2:b=y:=hb;omega))
   have hY:=Gx
   clear hjp Gx
   have hyl:=hY.lt
   have hzl:=hZ.lt
   have NC:=J.size
   have hDe:=oK we x D hT (fun b hb=>aA (rQ b hb) J.size) 4 al al
   rw[show ((4:Nat):Int)=4 from rfl] at hDe
   go_wp2_with fail
   rw[←xj.out]
   refine hDe.mono ?_
   rintro en wf ⟨v,ld,rfl,hO,hl1,hl4,hK,hT',hj⟩
   clear hDe hT
   have hT:=hT'
   clear hT'
   have hZ:=hj.blk hZ hzx
   have hY:=hj.blk hY hyx
   have J:=J.trans hj
   clear hj
   obtain⟨Ad,cd,rfl,hId,hcd,hmd⟩:=Own.fw hO
   have c5:=hY.cell 5
   have f5:=hY.frozen 5
   have kX:ct (wf.setCell ⟨y,5,none⟩ (.slice Ad ld.length cd)) y 32 #[ae af 1,ae af (k4:Int),ae af (k5:Int),ae af (1+(k6:Int)),ae af (1+(k8:Int)),.slice Ad ld.length cd,.string ⟨#[]⟩,ae af (k1:Int),ae af (k2:Int)]:=hY.put 5 _
   have KO:ct (wf.setCell ⟨y,5,none⟩ (.slice Ad ld.length cd)) z 32 #[ae af 0,ae af 0,ae af 0,ae af 0,ae af 0,ai none 0 0,.string ⟨#[]⟩,ae af 0,ae af 0]:=hZ.far (p:=⟨y,5,none⟩) (fun e=>hyz e.symm) _
   have dY:Just (fun b=>b=y) wf (wf.setCell ⟨y,5,none⟩ (.slice Ad ld.length cd)):=(Just.bJ (Grow.refl wf)).put (V:=fun b=>b=y) rfl 5 _
   have J5:=eO J dY (fun b hb => .inl (by have e2:b=y:=hb;omega))
   have Gw:=hT.keep (dY.block x hT.lt (fun e=>hyx e.symm)) (fun b hb hbl=>dY.block b hbl (fun e=>by have e2:b=y:=e;have:=rQ b hb;omega))
   go_wp2_with (first|(refine bY rfl 32 _ rfl _ rfl (kX) Tryz.underlying32 am ?_)|(refine ch rfl 32 _ _ rfl _ rfl [ae af 1,ae af (k4:Int),ae af (k5:Int),ae af (1+(k6:Int)),ae af (1+(k8:Int)),.slice Ad ld.length cd,.string ⟨#[]⟩,ae af (k1:Int),ae af (k2:Int)] rfl (KO) rfl rfl am ?_;intro w6 KP fI hs6;refine stay ?_))
   refine bV ?_
   go_wp2_with fail
   refine bodyPost_ret (dr rfl _ z rfl KP Tryz.underlying32 am) rfl ?_
   have Pq:w.heap.size≤z:=by have:=HZ.out;omega
   have J6:=eO J5 fI (fun b hb => .inl (by have e2:b=z:=hb;omega))
   have ER:=Gw.keep (fI.block x Gw.lt (fun e=>hzx e.symm)) (fun b hb hbl=>fI.block b hbl (fun e=>by have e2:b=z:=e;have:=rQ b hb;omega))
   have Ft:wf.heap.size≤w6.heap.size:=aH dY.size fI.size
   have Iu:=(In.just (In.just hId dY fun b hb e=>by have e2:b=y:=e;have:=hb.1;omega) fI fun b hb e=>by have e2:b=z:=e;have:=hb.1;omega).mono (V':=New w w6) fun b hb=>⟨aH NC hb.1,aA hb.2 Ft⟩
   refine⟨⟨1,(k4:Int),(k5:Int),(1+(k6:Int)),1+(k8:Int),ld,⟨#[]⟩,(k1:Int),(k2:Int)⟩,Ad,cd,rfl,⟨⟨⟨by show (0:Int)≤(k1:Int);omega,by show (k1:Int)<8;omega⟩,by show (0:Int)≤(k2:Int);omega,by show (k2:Int)≤_;omega⟩,.inl ⟨rfl,rfl,⟨by show (0:Int)≤(k4:Int);omega,by show (k4:Int)<8;omega⟩,⟨by show (0:Int)≤(k5:Int);omega,by show (k5:Int)<4;omega⟩,⟨by show 1≤(1+(k6:Int));omega,by show (1+(k6:Int))≤_;omega⟩,⟨by show 1≤1+(k8:Int);omega,by show 1+(k8:Int)≤_;omega⟩,⟨hl1,aH hl4 al⟩,fun d hd=>⟨(hK d hd).2.1,(hK d hd).2.2,pG (hK d hd).1,aH (j6 (hK d hd).1) al⟩⟩⟩,aZ _,⟨Iu,hcd,hmd,aH hl4 al⟩,ER,J6⟩
end Go.Proofs.YtmijcbfgfkeodaaGreatDoor.Tp
end
