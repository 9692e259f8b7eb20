/- Ag6, Wd3, Newx. -/
import Derived.Test.YtmijcbfgfkeodaaGreatDoorIz37
import Derived.WalkMore
set_option linter.all false
set_option maxRecDepth 100000
set_option maxHeartbeats 2000000
open Go.Value renaming int → ae,slice → ai
open Go.IntKind renaming i64 → af,u64 → ah
open Go.Proofs.Tryz renaming prog → au
open List renaming setIfInBounds_toArray → aw,drop_succ_cons → ax,set_cons_zero → ay,set_cons_succ → az,drop_zero → aB,length_append → aD,not_mem_nil → aE,mem_cons → aF,length_cons → aL,nil_append → aR,mem_of_mem_eraseIdx → bo,length_nil → bu
open Nat renaming lt_of_lt_of_le → aA,le_refl → aC,le_trans → aH,zero_add → a_
section
namespace Go.Proofs.YtmijcbfgfkeodaaGreatDoor
open Go.RowKit Go.Hop V
theorem AY (s:ByteArray):L.sK s 1=0:=by
 have h:L.pK 1=1:=by decide
 unfold L.sK
 rw[h]
 exact Int.emod_one _
def Lh (v:Value):Nat:=match v with | .slice _ n _=>n|_=>0
theorem AZ (w:World) (p:uq) (node dH now tag last:Int) (asks:List (Int×Value)) (tr:List ((Int×Int×Int)×Value)) (n:Int) (bs:List UInt8) (k:Nat) (B:cg) (hB:Framed B) (V:Nat→Prop) (hM:Many (iW p (B) node dH now tag last asks tr n bs k) w V) (hV:∀ b,V b→b<w.heap.size):Calls au 77 #[.pointer (some ⟨p.a,0,none⟩)] w fun e w'=>e=.returned (.tuple #[])∧Many (iW p (B) node dH now tag last asks tr n bs bs.length) w' (Ext V w w')∧Just V w w':=by
 have hS:=Solo.begin_ hM hV
 have hF:=cE p B hB node dH now tag last asks tr n bs k
 have ha:=hS.blk 1 rfl
 unfold ib at ha
 have k2:=ha.cell 2
 have hC:=hS.at_ 4 rfl hF (r7 w p.x p.d n bs k)
 go_enter Tryz.func77,Tryz.ntmps77
 go_wp2_with fail
 clear k2
 refine hC.mono ?_
 rintro e w1 ⟨rfl,hj,hS1⟩
 go_wp2_with fail
 go_end0
 obtain⟨r1,r2⟩:=Solo.done hS1 hj hV
 exact⟨rfl,r1,r2⟩
theorem I_ (w:World) (p:uq) (node:Nat) (dH now tag last:Int) (asks:List (Int×Value)) (tr:List ((Int×Int×Int)×Value)) (n:Int) (bs:List UInt8) (k:Nat) (ep:Int) (sl:Value) (s:ByteArray) (x:Nat) (hs:Small (s,x)) (hn:0≤n∧n≤1099511627776) (hbs:bs.length≤1000000) (V:Nat→Prop) (hM:Many (iW p (cP p.st p.z ep sl [(s,x)] [] 0 (ai none 0 0)) node dH now tag last asks tr n bs k) w V) (hV:∀ b,V b→b<w.heap.size) :
 Calls au 25 #[.pointer (some ⟨p.a,0,none⟩)] w fun e w'=>(∃ A c,e=.returned (.slice A 1 c))∧Many (iW p (iO p.st p.z ep [(1,[(s,x)])] 1) node dH now tag last asks tr (n+1) (bs++frame (kn s x)) (bs++frame (kn s x)).length) w' (Ext V w w')∧Just V w w':=by
 have NJ:∀ (vs:Array Value) (w:World),(callFunc 76 vs).run au w=.ok (.enter 76 vs) w:=fun vs w=>by go_simp
 have RF:∀ (vs:Array Value) (w:World),(callFunc 73 vs).run au w=.ok (.enter 73 vs) w:=fun vs w=>by go_simp
 have hsz:s.size≤1000:=hs.1
 have hS0:=Solo.begin_ hM hV
 have hS0:Solo (cB V w) (Many (eR p.st p.z ep sl [(s,x)] [] 0 (ai none 0 0)++[Cell p.a 143 (ib p node dH now tag last),cJ k_ p.bK asks,cJ mL p.bT tr,cU p.x p.d n bs k])) w:=Solo.flat hS0
 have xn:=hS0.blk 0 rfl
 have ha0:=hS0.blk 6 rfl
 unfold ov at xn
 unfold ib at ha0
 obtain⟨U0,hR0,KE⟩:=hS0.see 1 rfl
 obtain⟨A2,c2,rfl,hI0,_,_⟩:=Row.fw hR0
 have hI0:fV w U0 A2 1 [(s,x)]:=hI0
 have k3:=ha0.cell 3
 have q1:=xn.cell 1
 have q2:=xn.cell 2
 obtain⟨V0,HV0⟩:∃ V0:Nat→Prop,Hid (V0=V):=⟨_,rfl⟩
 have Jc:∀ w1:World,Calls au 73 #[.string s,ae af 1] w1 fun e w'=>e=.returned (ae af 0)∧Grow w1 w':=fun w1=>by
  have h:=L.AX w1 s 1 (by unfold maxLen;omega) ak
  rw[AY] at h
  exact h.mono fun _ _ ⟨h1,h2⟩=>⟨h1,h2▸Grow.refl _⟩
 have hmn:∀ ts t w,(Builtin.min_ ts t #[ae af 1,ae af 8]).run au w=.ok (ae af 1) w:=fun ts t w=>by rw[run_min_int2];rfl
 go_enter Tryz.func25,Tryz.ntmps25
 go_wp2_with fail
 go_step3
 go_wp2_with fail
 go_step3
 go_wp2_with fail
 go_loopw [3,16] (fun u i wr=>(u=(ai none 0 0)∧i=ae af 0∧w=wr)∨(i=ae af 1∧(∃ A c,u=.slice A 1 c)∧Many (iW p (iO p.st p.z ep [(1,[(s,x)])] 1) node dH now tag last asks tr (n+1) (bs++frame (kn s x)) k) wr (Ext V w wr)∧Just V w wr)) (fun _ i _=>1-(intOf i).toNat)
 case atStart=>exact .inl ⟨rfl,rfl,rfl⟩
 case round=>
  rcases hrel with ⟨rfl,rfl,rfl⟩|⟨rfl,⟨A,c,rfl⟩,GD,sI⟩
  ·go_wp2_with fail
   clear k3 q1 q2
   go_loopw [5,27] (fun u i wr=>(u=(ai none 0 0)∧i=ae af 0∧w=wr)∨(i=ae af 1∧fC w.heap.size 29 2 1 [.string s,ae ah (x:Int)] u wr∧Grow w wr)) (fun _ i _=>1-(intOf i).toNat)
   case atStart=>exact .inl ⟨rfl,rfl,rfl⟩
   case round=>
    rcases hrel with ⟨rfl,rfl,rfl⟩|⟨rfl,hR,hg⟩
    ·obtain⟨ad,hq,rfl,f0,f1⟩:=gM hI0 (k:=0) al
     have e0:w.cell? ad=some (.string s):=f0 w (Grow.refl _)
     have e1:w.cell? ⟨ad.block,ad.off+1,none⟩=some (ae ah (x:Int)):=f1 w (Grow.refl _)
     clear f0 f1
     have hga:=bN w (.cells #[.string s,ae ah (x:Int)] 29)
     have du:=ct.made w 29 #[.string s,ae ah (x:Int)]
     obtain⟨y,HY⟩:∃ y:Nat,Hid (y=w.heap.size):=⟨_,rfl⟩
     obtain⟨wa,dq⟩:∃ wa:World,Hid (wa=w.alloc (.cells #[.string s,ae ah (x:Int)] 29)):=⟨_,rfl⟩
     rw[←dq.out] at hga du
     rw[←HY.out] at du
     have ha1:=ha0.grow hga
     have qi:=xn.grow hga
     go_wp2_with fail
     rw[←dq.out,←HY.out]
     refine bL 12 92 [(9,.inl (ae af 0))] rfl rfl am am am ?_ ?_
     ·intro x hx φ he
      simp only[aF,aE,or_false] at hx
      rcases hx with rfl<;>cases he
     intro ops' A' K' T hops hA' hK hT
     refine bQ 31 (.tmp 7) (((y:Nat):Value)) (((y:Nat):Value)) ?_
     refine bI 32 (.tmp 31) (((y:Nat):Value)) (.string s) (fun ρ h1 kk w1 (hg:Grow _ w1) hb hf=>by have c:=(du.grow hg).cell 0;go_simp) ?_
     refine bP 33 (.pointer (some ⟨p.a,0,none⟩)) ?_
     refine bQ 34 (.tmp 33) (.pointer (some ⟨p.a,0,none⟩)) (.pointer (some ⟨p.a,0,none⟩)) ?_
     refine bQ 35 (.tmp 34) (.pointer (some ⟨p.a,0,none⟩)) (.pointer (some ⟨p.a,3,none⟩)) ?_
     refine bI 36 (.tmp 35) (.pointer (some ⟨p.a,3,none⟩)) (.pointer (some ⟨p.st,0,none⟩)) (fun ρ h1 kk w1 (hg:Grow _ w1) hb hf=>by have c:=(ha1.grow hg).cell 3;go_simp) ?_
     refine bQ 37 (.tmp 36) (.pointer (some ⟨p.st,0,none⟩)) (.pointer (some ⟨p.st,0,none⟩)) ?_
     refine bQ 38 (.tmp 37) (.pointer (some ⟨p.st,0,none⟩)) (.pointer (some ⟨p.st,2,none⟩)) ?_
     refine bI 39 (.tmp 38) (.pointer (some ⟨p.st,2,none⟩)) (ae af 1) (fun ρ h1 kk w1 (hg:Grow _ w1) hb hf=>by have c:=(qi.grow hg).cell 2;go_simp) ?_
     refine cC 40 aj ak (bO aj) (ae af 0) (by rw[hK.out];rfl) 73 _ _ aj [.string s,ae af 1] aj RF (fun kk w1 (hg:Grow _ w1) hb hf=>b_ aj (by exact Jc w1)) ?_
     refine bP 41 (ae af 0) ?_
     refine cm 42 (.tmp 40) (.tmp 41) (ae af 0) (ae af 0) (.bool true) (fun ρ h1 h2 kk w1 (hg:Grow _ w1) hb hf=>by go_simp) ?_
     refine ce (fun _ _ w1 (hg:Grow _ w1) _ bR=>hT _ _ ?_)
     clear hops hA' hK hT
     simp only[cj,Act.put,aw,ay,az,ax,aB]
     have hgw:Grow w w1:=hga.trans hg
     have hB1:=du.grow hg
     have c0:=hB1.cell 0
     have c1:=hB1.cell 1
     have hgb:=bN w1 (.cells #[.string s,ae ah (x:Int)] 29)
     obtain⟨A4,e4,Ey⟩:=iK (ct.made w1 29 #[.string s,ae ah (x:Int)]) (size:=2) (n:=1) rfl
     injection e4 with e4
     subst e4
     go_wp2_with (at_builtin;refine stay ?_)
     refine bV ?_
     refine eD Dh _ rfl (.tmp 43) (.tmp 45) rfl (ai none 0 0) 0 [] rfl (Row.nil (V:=fun _=>False)) _ _ 1 1 [.string s,ae ah (x:Int)] rfl Ey.reads (sH _ _) ak ?_
     intro v5 w5 xZ dY
     have hw1:=hgw.size
     have hg5:=dY.below (B:=w.heap.size) (fun b hb=>hb.elim) (by simp;omega)
     have hN:fC w.heap.size 29 2 1 [.string s,ae ah (x:Int)] v5 w5:=by
      simp only[a_,aR] at xZ
      refine⟨_,xZ,fun b hb=>?_⟩
      rcases hb with hb|hb
      ·exact hb.elim
      ·exact⟨by have:=hb.1;simp at this;omega,hb.2⟩
     have Oc:Grow w w5:=Below.trans (hgw.trans hgb) hg5
     clear c0 c1
     go_wp2_with fail
     go_roundw
     case rel=>exact .inr ⟨rfl,hN,Oc⟩
     case measure=>simp[intOf]
    ·obtain⟨A6,c6,e6⟩:=iN hR
     obtain⟨U6,JG,NH⟩:=hR
     subst e6
     obtain⟨A7,c7,e7,M0,Px,R6⟩:=Row.fw JG
     injection e7 with e7 _ e8
     subst e7 e8
     have hE:=An wr s x A6 c6 U6 M0
     go_wp2_with fail
     refine hE.mono ?_
     rintro e w3 ⟨A8,rfl,JQ,mK⟩
     have Jd:Grow w w3:=hg.trans mK
     have hw3:=Jd.size
     have hwr:=hg.size
     have hD3:∃ D:Nat→Prop,fV w3 D A8 1 [(s,x)]∧(∀ b,D b→b<w3.heap.size)∧(∀ b,D b→¬ V b):=⟨New wr w3,JQ,fun b hb=>hb.2,fun b hb hv=>by have:=hV b hv;have:=hb.1;omega⟩
     have JJ:=Many.framed _ (cE p (cP p.st p.z ep (.slice A2 1 c2) [(s,x)] [] 0 (ai none 0 0)) (cP.framed _ _ _ _ _ _ _ _) node dH now tag last asks tr n bs k) w w3 V hM fun b hb=>Jd.block b (hV b hb)
     have PQ:∀ b,V b→b<w3.heap.size:=fun b hb=>by have:=hV b hb;omega
     clear hE JQ mK M0 JG NH hwr
     go_wp2_with fail
     go_loopw [3,5] (fun u v wr=>(u=(ai none 0 0)∧v=.slice A8 1 1∧w3=wr)∨((∃ A c,u=.slice A 1 c)∧(∃ A c,v=.slice A 0 c)∧Many (iW p (iO p.st p.z ep [(1,[(s,x)])] 1) node dH now tag last asks tr (n+1) (bs++frame (kn s x)) k) wr (Ext V w wr)∧Just V w wr)) (fun _ v _=>Lh v)
     case atStart=>exact .inl ⟨rfl,rfl,rfl⟩
     case round=>
      rcases hrel with ⟨rfl,rfl,rfl⟩|⟨⟨A,c,rfl⟩,⟨A',c',rfl⟩,GD,sI⟩
      ·obtain⟨D,hd3,hDl,j5⟩:=hD3
       have hc:=IC w3 p node dH now tag last asks tr n bs k ep _ s x 1 A8 D hs (aC _) (by unfold maxLen;omega) hn hbs V JJ PQ hd3 hDl j5
       go_wp2_with fail
       refine hc.mono ?_
       rintro e w4 ⟨rfl,uZ,ko⟩
       obtain⟨b2,HB2⟩:∃ b2:List UInt8,Hid (b2=bs++frame (kn s x)):=⟨_,rfl⟩
       rw[←HB2.out] at uZ
       obtain⟨V1,V2,⟨Ab,cb,RG,iT⟩,hrest,hs1,hs2,hs3⟩:=id uZ
       have PR:∀ b,Ext V w3 w4 b→b<w4.heap.size:=fun b hb=>hb.elim (fun h=>by have:=PQ b h;have:=ko.size;omega) fun h=>h.2
       have ev:Solo (fun _=>True) (Many (eR p.st p.z ep (.slice Ab 0 cb) [] [(1,[(s,x)])] 1 RG++[Cell p.a 143 (ib p node dH now tag last),cJ k_ p.bK asks,cJ mL p.bT tr,cU p.x p.d (n+1) b2 k])) w4:=Solo.pr (fun _ _=>trivial) (Many.flat _ ⟨V1,V2,iT,hrest,hs1,hs2,hs3⟩) fun b hb=>⟨trivial,PR b hb⟩
       have Je:=ev.blk 0 rfl
       have Ez:=ev.blk 6 rfl
       unfold ov at Je
       unfold ib at Ez
       obtain⟨U4,RH,AF⟩:=ev.see 2 rfl
       have JS:∀ w1,Grow w4 w1→Q.ck p.z.a [(1,[(s,x)])] 1 w1 U4:=fun w1 hg=>Q.ck.framed _ _ _ w4 w1 U4 RH fun b hb=>hg.block b (AF b hb).2
       go_wp2_with fail
       refine bL 20 92 [(15,.inl (ae af 1)),(17,.inr (fun _=>fT 3 1 [ae af (node:Int),ae af 0,ae af 1])),(18,.inr (fun _=>fC w4.heap.size 26 3 1 [ae af (node:Int),ae af 0,ae af 1]))] rfl rfl am am am ?_ ?_
       ·intro x hx φ he
        simp only[aF,aE,or_false] at hx
        rcases hx with rfl|rfl|rfl<;>cases he
        all_goals first|exact ca (cn _)|first|exact ca (fj _ _ _)|exact ca (iM _ _ _ _ _)
       intro ops' A' K' T hops hA' hK hT
       refine bP 63 (ai none 0 0) ?_
       refine bP 64 (.pointer (some ⟨p.a,0,none⟩)) ?_
       refine bI 65 (.tmp 64) (.pointer (some ⟨p.a,0,none⟩)) (.pointer (some ⟨p.a,0,none⟩)) (fun ρ h1 kk w5 (hg5:Grow _ w5) hb hf=>by go_simp) ?_
       refine bI 66 (.tmp 65) (.pointer (some ⟨p.a,0,none⟩)) (.pointer (some ⟨p.a,0,none⟩)) (fun ρ h1 kk w5 (hg5:Grow _ w5) hb hf=>by go_simp) ?_
       refine bI 67 (.tmp 66) (.pointer (some ⟨p.a,0,none⟩)) (ae af (node:Int)) (fun ρ h1 kk w5 (hg5:Grow _ w5) hb hf=>by have c:=(Ez.grow hg5).cell 0;go_simp) ?_
       refine bP 68 (ae af 0) ?_
       refine bP 69 (.pointer (some ⟨p.a,0,none⟩)) ?_
       refine bI 70 (.tmp 69) (.pointer (some ⟨p.a,0,none⟩)) (.pointer (some ⟨p.a,0,none⟩)) (fun ρ h1 kk w5 (hg5:Grow _ w5) hb hf=>by go_simp) ?_
       refine bI 71 (.tmp 70) (.pointer (some ⟨p.a,0,none⟩)) (.pointer (some ⟨p.a,3,none⟩)) (fun ρ h1 kk w5 (hg5:Grow _ w5) hb hf=>by go_simp) ?_
       refine bI 72 (.tmp 71) (.pointer (some ⟨p.a,3,none⟩)) (.pointer (some ⟨p.st,0,none⟩)) (fun ρ h1 kk w5 (hg5:Grow _ w5) hb hf=>by have c:=(Ez.grow hg5).cell 3;go_simp) ?_
       refine bP 73 (ae af 0) ?_
       refine bI 74 (.tmp 72) (.pointer (some ⟨p.st,0,none⟩)) (.pointer (some ⟨p.st,0,none⟩)) (fun ρ h1 kk w5 (hg5:Grow _ w5) hb hf=>by go_simp) ?_
       refine bI 75 (.tmp 74) (.pointer (some ⟨p.st,0,none⟩)) (.pointer (some ⟨p.st,3,none⟩)) (fun ρ h1 kk w5 (hg5:Grow _ w5) hb hf=>by go_simp) ?_
       refine cm 76 (.tmp 75) (.tmp 73) (.pointer (some ⟨p.st,3,none⟩)) (ae af 0) (.pointer (some ⟨p.st,3,none⟩)) (fun ρ h1 h2 kk w5 (hg5:Grow _ w5) hb hf=>by go_simp) ?_
       refine bI 77 (.tmp 76) (.pointer (some ⟨p.st,3,none⟩)) (.pointer (some ⟨p.z.a,0,none⟩)) (fun ρ h1 kk w5 (hg5:Grow _ w5) hb hf=>by have c:=(Je.grow hg5).cell 3;go_simp) ?_
       refine cC 78 aj ak (bO aj) (ae af 1) (by rw[hK.out];rfl) 76 _ _ aj [.pointer (some ⟨p.z.a,0,none⟩)] aj NJ (fun kk w5 (hg5:Grow _ w5) hb hf=>b_ aj (by exact yA w5 p.z.a [(1,[(s,x)])] 1 U4 (JS w5 hg5))) ?_
       refine mP 79 aj ak (bO aj) (by rw[hK.out];rfl) aj (.tmp 67) (.tmp 68) (.tmp 78) (ae af (node:Int)) (ae af 0) (ae af 1) aj aj aj (.agg #[ae af (node:Int),ae af 0,ae af 1]) (fun ρ h1 h2 h3 kk w5 (hg5:Grow _ w5) hb hf=>by go_simp) ?_
       refine fE 80 aj ak (bO aj) (fun _=>fT 3 1 [ae af (node:Int),ae af 0,ae af 1]) (by rw[hK.out];rfl) (.tmp 79) (.agg #[ae af (node:Int),ae af 0,ae af 1]) aj (fun ρ h1 kk w5 (hg5:Grow _ w5) hb hf=>by refine cA (φ:=fun _=>fT 3 1 [ae af (node:Int),ae af 0,ae af 1]) aj ?_;exact lU rfl h1) (fun v80=>?_)
       refine gv 81 aj ak (bO aj) (fun _=>fC w4.heap.size 26 3 1 [ae af (node:Int),ae af 0,ae af 1]) (by rw[hK.out];rfl) (.tmp 63) (.tmp 80) (ai none 0 0) (v80) aj aj (fun ρ h1 h2 kk w5 (hg5:Grow _ w5) hb hf=>by refine cA (φ:=fun _=>fC w4.heap.size 26 3 1 [ae af (node:Int),ae af 0,ae af 1]) aj ?_;exact sB Ex hg5.size (cy hf (by rw[hA'.out];kernel_rfl)) h1 h2 rfl (jw _ _ _) ak) (fun v81=>?_)
       refine bP 3 (v81) ?_
       refine ce (fun _ _ w5 (hg5:Grow _ w5) _ bR=>hT _ _ ?_)
       clear hops hA' hK hT
       simp only[cj,Act.put,aw,ay,az,ax,aB]
       obtain⟨A9,c9,rfl⟩:=iN bR.1
       clear bR JS
       have Od:=Many.framed _ (cE p (iO p.st p.z ep [(1,[(s,x)])] 1) (iO.framed _ _ _ _ _) node dH now tag last asks tr (n+1) b2 k) w4 w5 _ uZ fun b hb=>hg5.block b (PR b hb)
       have GF:Many (iW p (iO p.st p.z ep [(1,[(s,x)])] 1) node dH now tag last asks tr (n+1) b2 k) w5 (Ext V w w5):=Many.wide _ w5 _ _ (fun b hb=>hb.elim .inl fun h => .inr ⟨by have:=h.1;omega,by have:=h.2;have:=hg5.size;omega⟩) Od
       have fI:Just V w w5:=(Just.bJ Jd).trans (ko.trans (Just.bJ hg5))
       rw[HB2.out] at GF
       clear Je Ez
       go_wp2_with fail
       go_roundw
       case rel=>exact .inr ⟨⟨_,_,rfl⟩,⟨_,_,rfl⟩,GF,fI⟩
       case measure=>simp[Lh]
      ·go_wp2_with fail
       go_roundw
       case rel=>exact .inr ⟨rfl,⟨_,_,rfl⟩,GD,sI⟩
       case measure=>simp[intOf]
  ·have hlt:∀ b,Ext V w wr b→b<wr.heap.size:=fun b hb=>hb.elim (fun h=>by have:=hV b h;have:=sI.size;omega) fun h=>h.2
   have NP:=AZ wr p node dH now tag last asks tr (n+1) (bs++frame (kn s x)) k (iO p.st p.z ep [(1,[(s,x)])] 1) (iO.framed _ _ _ _ _) (Ext V w wr) GD hlt
   go_wp2_with fail
   refine NP.mono ?_
   rintro e w2 ⟨rfl,hM2,hj2⟩
   go_wp2_with fail
   try rw[Exit.noGoto_ret]
   go_ret
   refine⟨⟨_,_,rfl⟩,Many.wide _ w2 _ _ (fun b hb=>?_) hM2,Go.RowKit.Just.NG sI hj2⟩
   have h2:=hj2.size
   have h1:=sI.size
   rcases hb with (hb|hb)|hb
   ·exact .inl hb
   ·exact .inr ⟨hb.1,by have:=hb.2;omega⟩
   ·exact .inr ⟨by have:=hb.1;omega,hb.2⟩
def xC:List UInt8:=frame (eI 1 [1])
def A0 (a:Nat):cg:=fun w V=>∃ p:uq,p.a=a∧Many (iW p (cP p.st p.z 1 (ai none 0 0) [] [] 0 (ai none 0 0)) ((1:Nat):Int) 1 0 4294967296 0 [] [] 1 xC xC.length) w V
def A1 (a:Nat):cg:=fun w V=>∃ (p:uq) (sl:Value),p.a=a∧Many (iW p (cP p.st p.z 1 sl [(ei,7)] [] 0 (ai none 0 0)) ((1:Nat):Int) 1 0 4294967296 0 [] [] (1+1) (xC++frame (ny ei 7)) xC.length) w V
def A2 (a:Nat):cg:=fun w V=>∃ (p:uq) (bs:List UInt8),p.a=a∧bs.length≤100000∧Many (iW p (iO p.st p.z 1 [(1,[(ei,7)])] 1) ((1:Nat):Int) 1 0 4294967296 0 [] [] (1+1+1) bs bs.length) w V
def A3 (a:Nat):cg:=fun w V=>∃ (p:uq) (bs:List UInt8) (sl cu:Value) (fJ:List Dl) (y:Int),p.a=a∧bs.length≤100000∧Many (iW p (cP p.st p.z 1 sl fJ [(1,[(ei,7)])] 1 cu) ((1:Nat):Int) 1 (0+1) (4294967296+1) 0 [(4294967296+1,.agg #[ae af ((1:Nat):Int),ae af 0,ae af 1])] [((((1:Nat):Int),0,1),.agg #[ae af 1,ae af y])] (1+1+1) bs bs.length) w V
theorem A0.framed (a:Nat):Framed (A0 a):=fun w w' V ⟨p,h1,h2⟩ hk=>⟨p,h1,Many.framed _ (cE _ _ (cP.framed _ _ _ _ _ _ _ _) _ _ _ _ _ _ _ _ _ _) w w' V h2 hk⟩
theorem A1.framed (a:Nat):Framed (A1 a):=fun w w' V ⟨p,sl,h1,h2⟩ hk=>⟨p,sl,h1,Many.framed _ (cE _ _ (cP.framed _ _ _ _ _ _ _ _) _ _ _ _ _ _ _ _ _ _) w w' V h2 hk⟩
theorem A2.framed (a:Nat):Framed (A2 a):=fun w w' V ⟨p,bs,h1,h3,h2⟩ hk=>⟨p,bs,h1,h3,Many.framed _ (cE _ _ (iO.framed _ _ _ _ _) _ _ _ _ _ _ _ _ _ _) w w' V h2 hk⟩
theorem A3.framed (a:Nat):Framed (A3 a):=fun w w' V ⟨p,bs,sl,cu,fJ,y,h1,h3,h2⟩ hk=>⟨p,bs,sl,cu,fJ,y,h1,h3,Many.framed _ (cE _ _ (cP.framed _ _ _ _ _ _ _ _) _ _ _ _ _ _ _ _ _ _) w w' V h2 hk⟩
theorem mF:Small (ei,7):=⟨show 3≤1000 by decide,by decide⟩
theorem uO:xC.length≤1000:=by
 have h1:=iL 1 [1] ak (by simp)
 have h2:=eS (eI 1 [1]) (by simp only[aL,bu] at h1;omega)
 simp only[aL,bu] at h1
 unfold xC
 omega
theorem Ea:(xC++frame (ny ei 7)).length≤3000:=by
 have h0:=uO
 have h1:=ut mF
 have h2:=eS (ny ei 7) al
 rw[aD]
 omega
theorem Jf (w:World) (d:Nat) (V:Nat→Prop) (hD:cT 133 d [] 0 w V) (hV:∀ b,V b→b<w.heap.size) :
 Calls au 23 #[ae af 1,ae af 1,((d:Nat):Value)] w fun e w'=>∃ a,e=.returned (((a:Nat):Value))∧A0 a w' (Ext V w w')∧Just V w w':=
 (Iz w d 1 1 al al al V hD hV).mono fun e w' ⟨p,_,h1,h2,h3⟩=>⟨p.a,h1,⟨p,rfl,h2⟩,h3⟩
theorem A_ (w:World) (a:Nat):Turns au 24 #[((a:Nat):Value),.string ei,ae ah 7] (fun e=>e=.returned (ae af 0)) (A0 a) (A1 a) w:=by
 rintro V ⟨p,rfl,hM⟩ hV
 have h0:=uO
 exact (Al w p _ _ _ _ _ _ _ _ _ _ _ _ _ _ ei 7 un mF al al al V hM hV).mono fun e w' ⟨h1,⟨sl,h2⟩,h3⟩=>⟨h1,⟨p,sl,rfl,h2⟩,h3⟩
theorem Jg (w:World) (a:Nat):Turns au 25 #[((a:Nat):Value)] (fun e=>∃ A c,e=.returned (.slice A 1 c)) (A1 a) (A2 a) w:=by
 rintro V ⟨p,sl,rfl,hM⟩ hV
 have h0:=Ea
 have h1:=uu mF
 have h2:=eS (kn ei 7) al
 refine (I_ w p 1 _ _ _ _ _ _ _ _ _ _ _ ei 7 mF al al V hM hV).mono fun e w' ⟨h1,h2,h3⟩=>⟨h1,⟨p,_,rfl,?_,h2⟩,h3⟩
 rw[aD]
 omega
def dK:En:=⟨1,((1:Nat):Int),0,1,1,[(ei,7)],⟨#[]⟩,((1:Nat):Int),4294967296+1⟩
theorem FT (w:World) (a:Nat) (V:Nat→Prop) (hA:A2 a w V) (hV:∀ b,V b→b<w.heap.size):Calls au 245 #[((a:Nat):Value),ae af 1] w fun e w'=>(∃ u,e=.returned u∧ej w.heap.size 0 dK u w')∧A3 a w' (Ext V w w')∧Just V w w':=by
 obtain⟨p,bs,rfl,hb,V1,V2,⟨A,c,cu,hB⟩,hM⟩:=hA
 exact (FD w p 1 0 4294967296 _ bs _ 1 (.slice A 0 c) [] 1 cu ei 7 al al V ⟨V1,V2,hB,hM⟩ hV).mono fun e w' ⟨h1,⟨y,h2⟩,h3⟩=>⟨h1,⟨p,bs,_,cu,[],y,rfl,hb,h2⟩,h3⟩
theorem xD (w:World) (a:Nat):Turns au 247 #[((a:Nat):Value),ae af 0,.agg (eW (4294967296+1) 1 0)] (fun e=>e=.returned (.tuple #[.agg #[ae af ((1:Nat):Int),ae af 0,ae af 1],ae af 1])) (A3 a) cW w:=by
 rintro V ⟨p,bs,sl,cu,fJ,y,rfl,hb,hM⟩ hV
 exact (xA w p 1 (0+1) (4294967296+1) 0 _ bs _ 1 sl fJ 1 cu ei 7 _ (4294967296+1) al al al V hM hV).mono fun e w' ⟨h1,_,h3⟩=>⟨h1,trivial,h3⟩
end Go.Proofs.YtmijcbfgfkeodaaGreatDoor
end
section
namespace Go.Hop
open Go.RowKit
section
variable {Pr:Program} {S R:cg} {l rest:List cg} {w w':World} {P V:Nat→Prop}
theorem Solo.FU (i:Nat) (hi:l[i]?=some S) (hF:bM l) (h:Solo P (Many l) w):∃ U:Nat→Prop,S w U∧(∀ b,U b→P b∧b<w.heap.size)∧∀ (w':World) (S':cg),Just U w w'→S' w' (Ext U w w')→Solo P (Many (l.set i S')) w'∧Just P w w':=by
 obtain⟨h0,V,h1,h4⟩:=h
 obtain⟨V1,V2,a,b,c,d,e⟩:=Many.pick l i S hi h1
 have hR:=Many.framed (l.eraseIdx i) fun R hR=>hF R (bo hR)
 refine⟨V1,a,fun x hx=>h4 x (c x hx),fun w' S' hj hs=>⟨⟨fun b hb=>h0 b (aH hj.size hb),Ext V w w',Many.i4 l i S S' hi ⟨Ext V1 w w',V2,hs,hR w w' V2 b fun x hx=>hj.block x (h4 x (d x hx)).2 (fun h1=>e x h1 hx),fun x hx=>?_,fun x hx => .inl (d x hx),fun x hx h2=>?_⟩,jd h4 h0 hj.size⟩,hj.imp fun x hx=>(h4 x (c x hx)).1⟩⟩
 ·rcases hx with hx|hx
  ·exact .inl (c x hx)
  ·exact .inr hx
 ·rcases hx with hx|hx
  ·exact e x hx h2
  ·have:=(h4 x (d x h2)).2;have:=hx.1;omega
theorem Solo.uP (hF:bM rest) (h:Solo P (Many (S :: rest)) w):∃ U:Nat→Prop,S w U∧(∀ b,U b→P b∧b<w.heap.size)∧(∀ (i:Nat) (x:Nat) (t:TypeId) (cs:Array Value),rest[i]?=some (Cell x t cs)→¬ U x)∧
 ∀ (w':World) (l':List cg) (V':Nat→Prop),Just U w w'→Many l' w' V'→(∀ b,V' b→(U b∨w.heap.size≤b)∧b<w'.heap.size)→Solo P (Many (l'++rest)) w'∧Just P w w':=by
 obtain⟨h0,V,⟨V1,V2,a,b,c,d,e⟩,h4⟩:=h
 refine⟨V1,a,fun x hx=>h4 x (c x hx),fun i x t cs hi hu=>?_,fun w' l' V' hj hl hv=>⟨⟨fun b hb=>h0 b (aH hj.size hb),fun b=>V' b∨V2 b,Many.flat l' ⟨V',V2,hl,Many.framed rest hF w w' V2 b fun x hx=>hj.block x (h4 x (d x hx)).2 (fun h1=>e x h1 hx),fun _ h => .inl h,fun _ h => .inr h,fun x h1 h2=>?_⟩,fun x hx=>?_⟩,hj.imp fun x hx=>(h4 x (c x hx)).1⟩⟩
 ·obtain⟨U,hU,hs⟩:=(Many.pick rest i _ hi b).fst
  exact e x hu (hs x hU.1)
 ·rcases (hv x h1).1 with h|h
  ·exact e x h h2
  ·have:=(h4 x (d x h2)).2;omega
 ·rcases hx with hx|hx
  ·refine⟨?_,(hv x hx).2⟩
   rcases (hv x hx).1 with h|h
   ·exact (h4 x (c x h)).1
   ·exact h0 x h
  ·exact⟨(h4 x (d x hx)).1,aA (h4 x (d x hx)).2 hj.size⟩
end
def pL (U:Nat→Prop) (D0:World→Prop) (m1:Nat) (st:List (Nat×Nat)):cQ where
 G:=Just U
 T:=fun _=>Just U
 I := fun k w=>match k with
   | 0=>D0 w
   | _=>True
 muts:=[m1]
 stage:=fun j=>if j=m1 then some 0 else st.lookup j
theorem rB {U:Nat→Prop} {D0:World→Prop} {m1:Nat} {st:List (Nat×Nat)} (h0:∀ a b,D0 a→Grow a b→D0 b):(pL U D0 m1 st).Ok:=by
 refine⟨fun _ _ _=>Just.trans,fun _ _ h=>Just.bJ h,fun _ _ _ h=>h,fun k a b h hg=>?_⟩
 rcases k with _|k
 ·exact h0 a b h hg
 ·exact trivial
def Since (φ:Value→World→Prop):Fact:=fun k u w=>match k with
 | 0=>False
 | _=>φ u w
theorem gQ {φ:Value→World→Prop} {k:Nat} {u:Value} {w:World} (h:Since φ k u w):φ u w:=by
 cases k with
 | zero=>exact h.elim
 | succ k=>exact h
theorem mG {φ ψ:Value→World→Prop} {k:Nat} {u v:Value} {w w':World} (h:Since φ k u w) (hψ:ψ v w'):Since ψ k v w':=by
 cases k with
 | zero=>exact h.elim
 | succ k=>exact hψ
theorem fG {U:Nat→Prop} {D0:World→Prop} {m1:Nat} {st:List (Nat×Nat)} {φ:Value→World→Prop} (h:dv φ):jl (pL U D0 m1 st) (Since φ):=fun k u w w' hu=>by
 rcases k with _|k
 ·exact hu.elim
 ·exact⟨fun hg=>h u w w' hu hg,fun hk=>by simp[pL] at hk⟩
section
variable {X:Nat→cg} {Q:Nat→Prop} {u:Value} {w w':World}
def o6 (X:Nat→cg) (Q:Nat→Prop) (u:Value) (w:World):Prop:=∃ (r:Nat) (V:Nat→Prop),u=((r:Nat):Value)∧X r w V∧∀ b,V b→Q b∧b<w.heap.size
def fD (e:TypeId) (X:Nat→cg) (Q:Nat→Prop) (u:Value) (w:World):Prop:=∃ (r:Nat) (V:Nat→Prop),Many [cD e u [r],X r] w V∧∀ b,V b→Q b∧b<w.heap.size
theorem mH (hX:∀ r,Framed (X r)):dv (o6 X Q):=fun u w w' ⟨r,V,h1,h2,h3⟩ hg=>⟨r,V,h1,hX r w w' V h2 fun b hb=>hg.block b (h3 b hb).2,fun b hb=>⟨(h3 b hb).1,aA (h3 b hb).2 hg.size⟩⟩
theorem lv {e:TypeId} (hX:∀ r,Framed (X r)):dv (fD e X Q):=fun u w w' ⟨r,V,h2,h3⟩ hg=>⟨r,V,Many.framed _ ((bM.nil.cons (hX r)).cons (cD.framed _ _ _)) w w' V h2 fun b hb=>hg.block b (h3 b hb).2,fun b hb=>⟨(h3 b hb).1,aA (h3 b hb).2 hg.size⟩⟩
theorem rC {e:TypeId} {r:Nat} {V U:Nat→Prop} {v:Value} (hX:∀ r,Framed (X r)) (hx:X r w V) (h3:∀ b,V b→Q b∧b<w.heap.size) (hg:Grow w w') (hR:cD e v [r] w' U) (hU:∀ b,U b→w.heap.size≤b∧b<w'.heap.size) (hQ:∀ b,w.heap.size≤b→Q b):fD e X Q v w':=by
 refine⟨r,fun b=>U b∨V b,⟨U,V,hR,⟨V,fun _=>False,hX r w w' V hx fun b hb=>hg.block b (h3 b hb).2,trivial,fun _ h=>h,fun _ h=>h.elim,fun _ _ h=>h⟩,fun _ h => .inl h,fun _ h => .inr h,fun b h1 h2=>?_⟩,fun b hb=>?_⟩
 ·have:=(hU b h1).1;have:=(h3 b h2).2;omega
 ·rcases hb with hb|hb
  ·exact⟨hQ b (hU b hb).1,(hU b hb).2⟩
  ·exact⟨(h3 b hb).1,aA (h3 b hb).2 hg.size⟩
theorem nW {P:Program} {t e:TypeId} {ρ:Operand→Value} {o:Oper} (hX:∀ r,Framed (X r)) (hQ:∀ b,w.heap.size≤b→Q b) (hu:o6 X Q u w)
 (hrun:∀ r:Nat,u=((r:Nat):Value)→(execOp ρ o).run P w=.ok (.value (.slice (some ⟨w.heap.size,0,none⟩) 1 1)) (w.alloc (.cells #[((r:Nat):Value)] e))):cz P (fun v w'=>Grow w w'∧fD e X Q v w') ((execOp ρ o).run P w):=by
 obtain⟨r,V,h1,h2,h3⟩:=hu
 have hg:Grow w (w.alloc (.cells #[((r:Nat):Value)] e)):=(Below.refl _ w).alloc (aC _) _
 refine cF (hrun r h1) ⟨hg,rC hX h2 h3 hg (U:=fun b=>b=w.heap.size) ⟨by simp,.inr ⟨w.heap.size,1,_,rfl,rfl,heap_alloc_new w _,aC _,by decide,rfl,by simp⟩⟩ (fun b hb=>by obtain rfl:b=w.heap.size:=hb;simp) hQ⟩
theorem rD {P:Program} {t e:TypeId} {bytes:Nat} {z:Value} (E:Elem P t e 1 bytes z) (hbytes:bytes≤1000) {ρ:Operand→Value} {o:Oper} {s x:Operand} (hX:∀ r,Framed (X r)) (hQ:∀ b,w.heap.size≤b→Q b) (hs:ρ s=ai none 0 0) (hx:ρ x=u) (ho:o.op=.call { callee := .builtin .append,args:=#[s,x],argTypes:=#[t,t] }) (hu:fD e X Q u w):cz P (fun v w'=>Grow w w'∧fD e X Q v w') ((execOp ρ o).run P w):=by
 obtain⟨r,V,⟨V1,V2,hR,⟨V3,_,hx3,_,hs3,_⟩,h5,h6,h7⟩,h3⟩:=hu
 obtain⟨A,c,e2,hI,_,_⟩:=Row.fw hR
 rw[e2] at hx
 refine fm E ho hs (Row.nil (V:=fun _=>False)) hx (In.reads (hI.mono (V':=fun b=>b<w.heap.size) fun b hb=>(h3 b (h5 b hb)).2)) (by simp[Value.oneCell']) (by simp;omega) fun v' w' hR' hj=>?_
 have hg:Grow w w':=hj.below (B:=w.heap.size) (fun b hb=>hb.elim) (aC _)
 rw[aR] at hR'
 have hR2:cD e v' [r] w' (Ext (fun _=>False) w w'):=by simpa [cD] using hR'
 exact⟨hg,rC hX hx3 (fun b hb=>h3 b (h6 b (hs3 b hb))) hg hR2 (fun b hb=>hb.elim (fun h=>h.elim) fun h=>h) hQ⟩
end
end Go.Hop
end
