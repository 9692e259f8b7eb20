/- Fo1, Rowk, Kito. -/
import Derived.Test.YtmijcbfgfkeodaaGreatDoorIz44
import Derived.ProofKit
import Derived.OpenShut
import Derived.JoinedCond
set_option linter.all false
set_option maxRecDepth 100000
set_option maxHeartbeats 2000000
open Go.Value renaming int → ae,slice → ai
open Go.IntKind renaming i64 → af,u64 → ah
open Go.Proofs.Tryz renaming prog → au
open Nat renaming lt_of_lt_of_le → aA,le_refl → aC,zero_le → aZ,zero_add → a_
open List renaming length_append → aD,getElem_mem → aO,length_map → aP,nil_append → aR,map_append → aX,mem_cons_of_mem → bb,append_nil → bf,mem_of_mem_take → bp
section
namespace Go.Proofs.YtmijcbfgfkeodaaGreatDoor
open Go.RowKit Go.Hop
theorem Ek {n:Nat} {x:fl} (h:gC n x):∀ (l:List En),(∀ e∈l,e.Ok)→∃ n',gC n' (eJ x l):=by
 intro l
 induction l generalizing n x with
 | nil=>intro _;exact⟨n,h⟩
 | cons e l ih=>
   intro hl
   exact ih (h.step e (iB (hl e (by simp))).2) (fun e he=>hl e (bb _ he))
theorem xK (w:World) (A0:Option Addr) (no co:Nat) (lo:List Int) (hr:Reads w w.heap.size 1 A0 no (lo.map (Value.int .i64))) (hl:∀ z∈lo,-9223372036854775808≤z∧z≤9223372036854775807) (hco:no≤co∧co≤maxLen) :
 Calls au 5 #[.slice A0 no co] w fun e w'=>e=.returned (.bool true)∧Grow w w':=by
 have k20:∀ (vs:Array Value) (w:World),(callFunc 20 vs).run au w=.ok (.enter 20 vs) w:=fun vs w=>by go_simp
 have hga:=bN w (.cells #[.slice A0 no co,ae af 0] 46)
 have hX:=ct.made w 46 #[.slice A0 no co,ae af 0]
 obtain⟨x,HX⟩:∃ x:Nat,Hid (x=w.heap.size):=⟨_,rfl⟩
 obtain⟨wa,dq⟩:∃ wa:World,Hid (wa=w.alloc (.cells #[.slice A0 no co,ae af 0] 46)):=⟨_,rfl⟩
 rw[←dq.out] at hga hX
 rw[←HX.out] at hX
 have hT:Tp.d_ x (fun b=>b<w.heap.size) wa:=⟨by have:=HX.out;omega,A0,no,co,lo,0,hX,(Reads.fw (V:=fun b=>b<w.heap.size) hr (aC _) fun _ h=>h).grow hga,aZ _,by have:=hco.1;have:=hco.2;unfold maxLen at this;omega,hl⟩
 have M6:=Tp.Fu wa x (fun b=>b<w.heap.size) hT (fun b hb=>aA hb hga.size)
 go_enter Tryz.func5,Tryz.ntmps5
 go_wp2_with fail
 rw[←dq.out,←HX.out]
 refine M6.mono ?_
 rintro e w1 ⟨v,q,rfl,hO,hq,hq60,_,hj⟩
 obtain⟨Aq,cq,rfl,PW,hcq,hmq⟩:=hO.fw
 have hg1:Grow w w1:=Below.trans hga (hj.below (B:=w.heap.size) (fun b hb=>by have e2:b=x:=hb;have:=HX.out;omega) hga.size)
 have hE1:lh w1 (fun b=>b<w1.heap.size) Aq q:=⟨PW.mono fun b hb=>hb.2,fun a ha=>gV _ _ _ _ (hq a ha).1 fun b hb=>hb.2⟩
 have hqo:∀ a∈q,a.e.Ok∧a.e.se.size≤maxLen:=fun a ha=>(hq a ha).2
 clear M6 hT hX hr hO PW hj
 have hF1:=ul w1 q hqo al Aq cq _ hE1 (fun b hb=>hb)
 go_wp2_with fail
 refine hF1.mono ?_
 rintro e w2 ⟨m1,rfl,hM1,hg2⟩
 clear hF1
 have hE2:lh w2 (fun b=>b<w2.heap.size) Aq q:=(hE1.grow hg2).mono fun b hb=>aA hb hg2.size
 obtain⟨Q,HQ⟩:∃ Q:List El,Hid (Q=q++q):=⟨_,Lib.hid rfl⟩
 have hqq:∀ a∈Q,a.e.Ok∧a.e.se.size≤maxLen:=fun a ha=>hqo a (by rw[HQ.out] at ha;simpa using ha)
 have hq2:Q.length≤1000:=by rw[HQ.out,aD];omega
 go_wp2_with (at_builtin;refine stay ?_)
 refine bV ?_
 have Lv:=bN w2 (.cells #[] 32)
 refine cR (V:=fun b=>b=w2.heap.size) lM _ rfl (.tmp 18) (.tmp 19) rfl (.slice (some ⟨w2.heap.size,0,none⟩) 0 0) 0 [] rfl (fO w2 _ _) _ Aq q.length cq _ rfl ((hE2.1.grow Lv).reads) (fun u hu=>by
  obtain⟨a,_,ha⟩:=List.mem_flatMap.1 hu
  exact lL a u ha) al ?_
 intro av3 S2 Gd Lw
 have Ma:Grow w2 S2:=Below.trans Lv (Lw.below (B:=w2.heap.size) (fun b hb=>by have e2:b=w2.heap.size:=hb;omega) Lv.size)
 rw[a_,aR] at Gd
 obtain⟨S3,S4,rfl,_,_,_⟩:=Gd.fw
 go_wp2_with (at_builtin;refine stay ?_)
 refine bV ?_
 refine cR lM _ rfl (.tmp 20) (.tmp 21) rfl (.slice S3 q.length S4) q.length _ rfl Gd _ Aq q.length cq _ rfl ((hE2.1.grow Ma).reads) (fun u hu=>by
  obtain⟨a,_,ha⟩:=List.mem_flatMap.1 hu
  exact lL a u ha) al ?_
 intro av4 Jp Jq Lx
 have Mb:Grow w2 Jp:=Below.trans Ma (Lx.below (B:=w2.heap.size) (fun b hb=>by
  rcases hb with hb|hb
  ·have e2:b=w2.heap.size:=hb;omega
  ·have:=hb.1;have:=Lv.size;omega) Ma.size)
 have PX:q.flatMap El.cells++q.flatMap El.cells=Q.flatMap El.cells:=by rw[HQ.out];simp
 have PY:q.length+q.length=Q.length:=by rw[HQ.out];simp
 rw[PX,PY] at Jq
 obtain⟨PZ,S5,rfl,Ly,_,_⟩:=Jq.fw
 have P_:lh Jp (fun b=>b<Jp.heap.size) PZ Q:=⟨Reads.fw Ly.reads (aC _) fun _ h=>h,fun a ha=>gV _ _ _ _ ((hE2.grow Mb).2 a (by rw[HQ.out] at ha;simpa using ha)) fun b hb=>aA hb Mb.size⟩
 clear Lv Ma Lw Lx Gd Jq Ly PX PY
 have hF2:=ul Jp Q hqq hq2 PZ S5 _ P_ (fun b hb=>hb)
 go_wp2_with fail
 refine hF2.mono ?_
 rintro e w5 ⟨m2,rfl,hM2,hg5⟩
 clear hF2
 have hgc:=Mb.trans hg5
 have o8:lh w5 (fun b=>b<w5.heap.size) Aq q:=(hE2.grow hgc).mono fun b hb=>aA hb hgc.size
 have Es:=nS w5 q hqo al Aq cq _ o8 (fun b hb=>hb)
 go_wp2_with fail
 refine Es.mono ?_
 rintro e w6 ⟨A6,l6,rfl,Mc,Q0,dT⟩
 clear Es
 obtain⟨X1,Lz⟩:∃ X1:fl,Hid (X1=eJ fl.new (q.map El.e)):=⟨_,Lib.hid rfl⟩
 obtain⟨X2,OI⟩:∃ X2:fl,Hid (X2=eJ fl.new (Q.map El.e)):=⟨_,Lib.hid rfl⟩
 rw[←Lz.out] at hM1
 rw[←OI.out] at hM2
 have Em:∀ e∈q.map El.e,e.Ok:=fun e he=>by
  obtain⟨a,ha,rfl⟩:=List.mem_map.1 he
  exact (hqo a ha).1
 have LA:∀ e∈Q.map El.e,e.Ok:=fun e he=>by
  obtain⟨a,ha,rfl⟩:=List.mem_map.1 he
  exact (hqq a ha).1
 have LC:nq (0+8*(q.map El.e).length) X1:=by rw[Lz.out];exact nu nq.new _ Em
 have LD:nq (0+8*(Q.map El.e).length) X2:=by rw[OI.out];exact nu nq.new _ LA
 obtain⟨LF,_⟩:=yz gC.new (q.map El.e) Em
 have F3:X2=eJ X1 (q.map El.e):=by rw[OI.out,Lz.out,←z_,HQ.out,aX]
 have GI:∃ n,gC n X1:=by rw[Lz.out];exact Ek gC.new _ Em
 have hhas:Hid (∀ id∈l6,lj X1 id∧lj X2 id∧id.2.2≤9223372036854775807):=Lib.hid fun id hid=>by
  obtain⟨_,a,b⟩:=LF id (Mc.mem_iff.1 hid)
  rw[←Lz.out] at a
  obtain⟨n,hf⟩:=GI
  exact⟨a,by rw[F3];exact yy hf _ Em a,b⟩
 have hsub:Hid (∀ id∈l6,id∈dW fl.new (Q.map El.e)):=Lib.hid fun id hid=>by
  rw[HQ.out,aX,pE]
  exact List.mem_append_left _ (Mc.mem_iff.1 hid)
 have LM:l6.length≤60:=by
  have:=jW fl.new (q.map El.e)
  rw[aP] at this
  rw[Mc.length_eq];omega
 have Q1:lh w6 (fun b=>b<w6.heap.size) Aq q:=(o8.grow dT).mono fun b hb=>aA hb dT.size
 have Js:eQ m1 X1 w6 (New w1 w2):=eQ.framed m1 X1 w2 w6 _ hM1 fun b hb=>(hgc.trans dT).block b hb.2
 have Jt:eQ m2 X2 w6 (New Jp w5):=eQ.framed m2 X2 w5 w6 _ hM2 fun b hb=>dT.block b hb.2
 have hV1:∀ b,New w1 w2 b→b<w6.heap.size:=fun b hb=>aA hb.2 (hgc.trans dT).size
 have hV2:∀ b,New Jp w5 b→b<w6.heap.size:=fun b hb=>aA hb.2 dT.size
 have OJ:Grow w w6:=hg1.trans (hg2.trans (hgc.trans dT))
 clear LF Mc Em LA F3 GI hM1 hM2 hE1 hE2 o8 hq hg1 hg2 Mb hg5 hgc dT P_ hl hco
 generalize New w1 w2=U1 at Js hV1
 generalize New Jp w5=U2 at Jt hV2
 go_wp2_with fail
 go_loopw [34] (fun i wr=>∃ k:Nat,k≤l6.length∧i=ae af (k:Int)∧Grow w6 wr) (fun i _=>l6.length-(intOf i).toNat)
 case atStart=>exact⟨0,by omega,rfl,Grow.refl _⟩
 case round=>
  obtain⟨k,hk,rfl,hgr⟩:=hrel
  by_cases hk1:k<l6.length
  ·have hd:decide ((k:Int)<(l6.length:Int))=true:=decide_eq_true al
   have hk':¬ l6.length≤k:=by omega
   obtain⟨ad,S6,rfl,_,hba,f0,f12⟩:=(Q0.grow hgr).iS al gj hk1
   have hx:=hhas.out l6[k] (aO S6)
   generalize l6[k]=a at f0 f12 hx
   obtain⟨a1,a2,a3⟩:=a
   have f0:=f0 _ rfl
   have f1:wr.cell? ⟨(ad.add (k*3)).block,(ad.add (k*3)).off+1,none⟩=some (ae af a2):=f12 0 _ rfl
   have f2:wr.cell? ⟨(ad.add (k*3)).block,(ad.add (k*3)).off+2,none⟩=some (ae af a3):=f12 1 _ rfl
   clear f12
   have hgb:=bN wr (.cells #[ae af a1,ae af a2,ae af a3] 26)
   have hB:=ct.made wr 26 #[ae af a1,ae af a2,ae af a3]
   obtain⟨y,HY⟩:∃ y:Nat,Hid (y=wr.heap.size):=⟨_,rfl⟩
   obtain⟨wb,ia⟩:∃ wb:World,Hid (wb=wr.alloc (.cells #[ae af a1,ae af a2,ae af a3] 26)):=⟨_,rfl⟩
   rw[←ia.out] at hgb hB
   rw[←HY.out] at hB
   have o1:=hgr.trans hgb
   have hH1:=yv wb m1 _ X1 a1 a2 a3 U1 (fun b hb=>aA (hV1 b hb) o1.size) LC hx.2.2 hx.1 (eQ.framed m1 X1 w6 wb _ Js fun b hb=>o1.block b (hV1 b hb))
   go_wp2_with fail
   rw[←ia.out,←HY.out]
   have c0:=hB.cell 0
   have c1:=hB.cell 1
   have c2:=hB.cell 2
   clear f0 f1 f2
   go_wp2_with fail
   refine hH1.mono ?_
   rintro e w8 ⟨rfl,mK⟩
   clear c0 c1 c2
   have IQ:=o1.trans mK
   have hH2:=yv w8 m2 _ X2 a1 a2 a3 U2 (fun b hb=>aA (hV2 b hb) IQ.size) LD hx.2.2 hx.2.1 (eQ.framed m2 X2 w6 w8 _ Jt fun b hb=>IQ.block b (hV2 b hb))
   have OL:=hB.grow mK
   have c0:=OL.cell 0
   have c1:=OL.cell 1
   have c2:=OL.cell 2
   clear hx
   go_wp2_with fail
   refine hH2.mono ?_
   rintro e w9 ⟨rfl,S7⟩
   go_wp2_with fail
   go_roundw
   case rel=>exact⟨k+1,by omega,by go_num,IQ.trans S7⟩
   case measure=>simp[intOf];omega
  ·obtain rfl:k=l6.length:=by omega
   have hd:decide ((l6.length:Int)<(l6.length:Int))=false:=decide_eq_false al
   have OM:lh wr (fun b=>b<wr.heap.size) Aq q:=(Q1.grow hgr).mono fun b hb=>aA hb hgr.size
   clear Q1 Js Jt hV1 hV2 LC LD hhas
   go_wp2_with (at_builtin;refine stay ?_)
   refine bV ?_
   have LG:=bN wr (.cells #[] 32)
   refine cR (V:=fun b=>b=wr.heap.size) lM _ rfl (.tmp 49) (.tmp 50) rfl (.slice (some ⟨wr.heap.size,0,none⟩) 0 0) 0 [] rfl (fO wr _ _) _ Aq q.length cq _ rfl ((OM.1.grow LG).reads) (fun u hu=>by
    obtain⟨a,_,ha⟩:=List.mem_flatMap.1 hu
    exact lL a u ha) al ?_
   intro bv3 S8 Ge LH
   have Md:Grow wr S8:=Below.trans LG (LH.below (B:=wr.heap.size) (fun b hb=>by have e2:b=wr.heap.size:=hb;omega) LG.size)
   rw[a_,aR] at Ge
   obtain⟨S9,bc3,rfl,_,_,_⟩:=Ge.fw
   go_wp2_with (at_builtin;refine stay ?_)
   refine bV ?_
   refine cR lM _ rfl (.tmp 51) (.tmp 52) rfl (.slice S9 q.length bc3) q.length _ rfl Ge _ Aq q.length cq _ rfl ((OM.1.grow Md).reads) (fun u hu=>by
    obtain⟨a,_,ha⟩:=List.mem_flatMap.1 hu
    exact lL a u ha) al ?_
   intro bv4 Me Ju LI
   have Mf:Grow wr Me:=Below.trans Md (LI.below (B:=wr.heap.size) (fun b hb=>by
    rcases hb with hb|hb
    ·have e2:b=wr.heap.size:=hb;omega
    ·have:=hb.1;have:=LG.size;omega) Md.size)
   have Q2:q.flatMap El.cells++q.flatMap El.cells=Q.flatMap El.cells:=by rw[HQ.out];simp
   have Q3:q.length+q.length=Q.length:=by rw[HQ.out];simp
   rw[Q2,Q3] at Ju
   obtain⟨Q4,Sb,rfl,LJ,_,_⟩:=Ju.fw
   have Sc:lh Me (fun b=>b<Me.heap.size) Q4 Q:=⟨Reads.fw LJ.reads (aC _) fun _ h=>h,fun a ha=>gV _ _ _ _ ((OM.grow Mf).2 a (by rw[HQ.out] at ha;simpa using ha)) fun b hb=>aA hb Mf.size⟩
   clear LG Md LH LI Ge Ju LJ Q2 Q3
   have hC2:=nS Me Q hqq hq2 Q4 Sb _ Sc (fun b hb=>hb)
   go_wp2_with fail
   refine hC2.mono ?_
   rintro e w8 ⟨A8,l8,rfl,ON,JQ,mK⟩
   clear hC2
   have LO:l8.length≤1000:=by
    have:=jW fl.new (Q.map El.e)
    rw[aP] at this
    rw[ON.length_eq];omega
   have hW:=sG w8 _ _ A8 A6 l8.length l8.length l6.length l6.length l8 l6 JQ al (((Q0.grow hgr).grow Mf).grow mK) al (fun x hx=>ON.mem_iff.2 (hsub.out x hx))
   clear ON hsub
   go_wp2_with fail
   refine hW.mono ?_
   rintro e w9 ⟨rfl,IQ⟩
   have Sd:=Gc w9
   clear hW
   go_wp2_with fail
   refine Sd.mono ?_
   rintro e wA ⟨rfl,hgA⟩
   go_wp2_with fail
   go_ret
   exact⟨rfl,OJ.trans (hgr.trans (Mf.trans (mK.trans (IQ.trans hgA))))⟩
end Go.Proofs.YtmijcbfgfkeodaaGreatDoor
end
section
namespace Go.Hop
open Go.ChangeShapes Go.WideShapes Go.ChangeAt Go.RowKit
section
variable {H:Type} {enc:TypeId×Value→H} {P:Program}
theorem lw (hl:laidOutB P=true) {W W':World} (hb:Below W.heap.size W W'):∀ (ts:List TypeId) (vs:List Value) (ds:List (DataW H)) (ps:List MemPlace),
 (∀ t∈ts,P.readableRec t=true∧t<P.types.size)→DataW.TrodAll enc P W 0 (fun _=>true) true ts vs ds ps→(∀ x∈ps,x.block<W.heap.size)→
 DataW.TrodAll enc P W' 0 (fun b=>decide (b<W.heap.size)) true ts vs ds ps
 | [],vs,ds,ps,_,h,_=>by
   obtain⟨rfl,rfl,rfl⟩:=trodAll_nil h
   exact trodAll_mk0
 | t :: ts,vs,ds,ps,hr,h,hlt=>by
   obtain⟨v0,Q5,d0,ds0,p0,q0,rfl,rfl,rfl,h0,r0⟩:=trodAll_cons h
   obtain⟨h1,h2⟩:=hr t (by simp)
   exact⟨p0,q0,Below.trod hl h1 h2 h0 hb (fun x hx=>hlt x (by simp[hx])),lw hl hb ts Q5 ds0 q0 (fun u hu=>hr u (by simp[hu])) r0 (fun x hx=>hlt x (by simp[hx])),rfl⟩
theorem Eo {f:Func} {s:ChangeSpec} {tb:TypeId} (hl:laidOutB P=true) (htb:P.underlying tb=some .bool) (hres:f.resultTypes=#[tb]) (hvars:s.vars=[])
 (hr0:(f.params.toList.all fun t=>P.readableRec t && decide (t<P.types.size))=true) {W W':World} {args:Array Value} {ds gs:List (DataW H)} {before:List MemPlace}
 (hW:DataW.Whole enc P f.params.toList s.vars false W args.toList ds gs before) (hspec:s.fn H ds={ results:=[.lit (.bool true)],args:=ds }) (hb:Below W.heap.size W W') :
 s.post enc P f false true false false W args (.bool true) W':=by
 have hW':=hW
 have hr:∀ t∈f.params.toList,P.readableRec t=true∧t<P.types.size:=by
  intro t ht
  simpa using List.all_eq_true.1 hr0 t ht
 have hlt:∀ p∈before,p.block<W.heap.size:=fun p hp=>hW'.lt p hp
 obtain⟨p,q,hA,hV,rfl,hfz,hnd⟩:=hW
 rw[hvars] at hV
 obtain⟨rfl,rfl⟩:=trodVars_none hV
 refine⟨ds,[],p++[],[],p,[],hW',?_,?_,?_,World.keptBut_mono (fun x hx=>⟨hx,?_⟩) (hb.frame (·∈p++[])),fun h=>by cases h⟩
 ·rw[bf,hspec,hres]
  exact trodAll_mk1 (shut_bool htb true)
 ·rw[bf,hspec]
  exact lw hl hb _ _ _ _ hr hA (fun x hx=>hlt x (by simp[hx]))
 ·rw[bf,hspec,hvars]
  rfl
 ·exact Or.inr (Or.inl (by simpa using hx))
theorem B7 {t e:TypeId} {k:IntKind} (ht:P.underlying t=some (.slice e)) (he:P.underlying e=some (.int k)) (hc:P.cellsOf e=1) {w:World} {v:Value} {d:DataW H} {p:List MemPlace} {r:Reach} {b0:Nat}
 (hv:Value.okWide P w r b0 t v) (h:DataW.Trod enc P w 0 (fun _=>true) true t v d p) :
 ∃ (A:Option Addr) (n cap:Nat) (l:List Int),v=.slice A n cap∧Reads w w.heap.size 1 A n (l.map (Value.int k))∧(∀ z∈l,(Lit.int k z).wf=true)∧n≤cap∧cap≤maxLen∧
   ((d=.nil∧n=0)∨∃ zs:List Int,d=.slice (lits k (zs.take n)) (lits k (zs.drop n))∧zs.length=cap):=by
 obtain⟨A,n,cap,rfl⟩:=okWide_slice ht hv
 obtain⟨fuel,hf⟩:=h
 rcases open_ints ht he hc hf with ⟨hcs,hx⟩|⟨a,len',cap',zs,hcs,_,hl,hm,hz,hx,hcell,hwz⟩
 ·simp only[Value.cells,List.cons.injEq,Value.slice.injEq,and_true] at hcs
  simp only[Prod.mk.injEq] at hx
  obtain⟨rfl,rfl,rfl⟩:=hcs
  exact⟨none,0,0,[],rfl,Reads.nil,by simp,aC _,aZ _,.inl ⟨hx.1,rfl⟩⟩
 ·simp only[Value.cells,List.cons.injEq,Value.slice.injEq,and_true] at hcs
  simp only[Prod.mk.injEq] at hx
  obtain⟨rfl,rfl,rfl⟩:=hcs
  simp only[if_true] at hz
  refine⟨_,_,_,zs.take n,rfl,⟨by simp;omega,fun hn=>⟨a,rfl,?_,fun j u hu=>?_⟩⟩,fun z hz=>hwz z (bp hz),hl,hm,.inr ⟨zs,hx.1,hz⟩⟩
  ·have:=World.block_lt_of_cell? w (a.add 0) (hcell 0 al)
   rwa [block_add] at this
  ·rw[List.getElem?_map,List.getElem?_take] at hu
   split at hu
   ·rename_i hj
    rw[List.getElem?_eq_getElem al] at hu
    rw[hcell j al]
    simp only[Option.map_some,Option.some.injEq] at hu
    rw[←hu]
    simp[List.getD,show j<zs.length by omega]
   ·cases hu
end
end Go.Hop
end
section
namespace Go.Proofs.YtmijcbfgfkeodaaGreatDoor
open Go.RowKit Go.Hop Go.ChangeShapes Go.WideShapes Go.ChangeAt
theorem own:ownKnob Tryz.prog.godebug=none:=by kernel_rfl
theorem laidOut:laidOutB au=true:=by kernel_rfl
end Go.Proofs.YtmijcbfgfkeodaaGreatDoor
end
