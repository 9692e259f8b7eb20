/- Lright, Lstrs. -/
import Derived.Test.YtmijcbfgfkeodaaGreatDoorIz06
import Derived.Shelf.Strings.SplitCore
import Derived.Shelf.Strings.Search3
import Derived.Shelf.Strings.Count
import Derived.Shelf.Strings.OnBuilder
set_option linter.all false
set_option maxRecDepth 100000
set_option maxHeartbeats 2000000
open Go.Value renaming int → ae,slice → ai
open Go.IntKind renaming i64 → af,u64 → ah
open Go.Proofs.Tryz renaming prog → au
open List renaming setIfInBounds_toArray → aw,drop_succ_cons → ax,set_cons_zero → ay,set_cons_succ → az,drop_zero → aB,not_mem_nil → aE,mem_cons → aF,eq_nil_of_length_eq_zero → aJ,length_cons → aL,getElem_mem → aO,length_map → aP
open Nat renaming le_refl → aC,zero_le → aZ,zero_add → a_,eq_zero_or_pos → bj,lt_or_ge → bn
section
namespace Go.Proofs.YtmijcbfgfkeodaaGreatDoor.L
open Go.RowKit Go.Hop
theorem xU {a b:ByteArray} (h:a≠b):(a.toList == b.toList)=false:=beq_eq_false_iff_ne.2 fun e=>h (rJ.1 e)
theorem yX (w:World) (V:Nat→Prop) (A:Option Addr) (n c:Nat) (l:List Lb) (h:In w V 2 A n (dR l)) (hl:∀ d∈l,d.1.size≤maxLen∧d.2.size≤maxLen) (hn:n≤9223372036854775807) :
 Calls au 239 #[.slice A n c] w fun e w'=>e=.returned (ae af (dS l))∧Grow w w':=by
 have hll:=LN.len h
 have m6:∀ (vs:Array Value) (w:World),(callFunc 297 vs).run au w=.ok (.enter 297 vs) w:=fun vs w=>by go_simp
 by_cases h8:8<n
 ·have hd:decide ((8:Int)<(n:Int))=true:=decide_eq_true al
  rw[vH al]
  clear h
  go_enter Tryz.func239,Tryz.ntmps239
  go_wp2_with fail
  go_ret
  exact⟨rfl,Grow.refl _⟩
 have hd:decide ((8:Int)<(n:Int))=false:=decide_eq_false al
 have LO:l.length≤8:=by omega
 have hso:=oN w V A n c l h al
 obtain⟨R,HR⟩:∃ R:Int,Hid (R=dS l):=⟨_,rfl⟩
 rw[←HR.out]
 clear h
 go_enter Tryz.func239,Tryz.ntmps239
 go_wp2_with fail
 refine hso.mono ?_
 rintro e w1 ⟨A1,q,rfl,hq,hI,hg1⟩
 clear hso
 have gS:q.length=n:=by rw[hq.len];exact hll
 have Qf:∀ d∈q,d.1.size≤maxLen∧d.2.size≤maxLen:=fun d hd=>hl d (hq.perm.mem_iff.1 hd)
 have yY:=Lib.hid gS
 have LP:=Lib.hid hll
 clear gS hll
 go_wp2_with fail
 go_loopw [13] (fun i wr=>∃ k:Nat,k≤n∧i=ae af (k:Int)∧(∀ j (hj:j<q.length),j<k→tn q[j]=true)∧(∀ j (hj:j+1<q.length),j+1<k→q[j].1≠q[j+1].1)∧Grow w1 wr) (fun i _=>n-(intOf i).toNat)
 case atStart=>exact⟨0,by omega,rfl,fun _ _ h=>absurd h al,fun _ _ h=>absurd h al,Grow.refl _⟩
 case round=>
  obtain⟨i,hin,rfl,hok,hne,hgr⟩:=hrel
  have OU:=Lib.hid hok
  have Mp:=Lib.hid hne
  clear hok hne
  have hgw:=cL hg1 hgr hg1.size
  by_cases hi:i<n
  ·have hit:decide ((i:Int)<(n:Int))=true:=decide_eq_true al
   obtain⟨ad,hqi,rfl,e0,e1⟩:=vD (hI.grow hgr) hi
   have Ba:=e0 wr (Grow.refl _)
   have Gi:=e1 wr (Grow.refl _)
   have LQ:q[i]∈q:=aO hqi
   have hds:=Qf _ LQ
   obtain⟨d,hdd⟩:∃ d,d=q[i]:=⟨_,rfl⟩
   rw[←hdd] at Ba Gi LQ hds
   have HD:=Lib.hid hdd
   clear hdd e0 e1
   obtain⟨x,HX⟩:∃ x:Nat,Hid (x=wr.heap.size):=⟨_,rfl⟩
   have hB:ct (wr.alloc (.cells #[.string d.1,.string d.2] 90)) x 90 #[.string d.1,.string d.2]:=by rw[HX.out];exact ct.made wr _ _
   have hgx:Grow wr (wr.alloc (.cells #[.string d.1,.string d.2] 90)):=(Below.refl _ _).alloc (aC _) _
   have hN1:=fun w1=>tj w1 d.1 hds.1
   have BR:=fun w1=>tj w1 d.2 hds.2
   have hin2:¬ n≤i:=by omega
   cases hb1:i8 d.1 with
   | false=>
     have hn1:∀ w1,Calls au 297 #[.string d.1] w1 fun e w'=>e=.returned (.bool false)∧w1=w':=fun w1=>by have:=hN1 w1;rwa [hb1] at this
     have hR:R=1:=by
      rw[HR.out]
      exact kW LO (xT (hq.perm.mem_iff.1 LQ) (by unfold tn;rw[hb1];rfl))
     have HR1:=Lib.hid hR
     clear hR hb1 hN1 BR
     go_wp2_with fail
     rw[←HX.out]
     generalize hwb:wr.alloc (.cells #[.string d.1,.string d.2] 90)=wb at hB hgx ⊢
     clear hwb
     refine bL 25 47 [(2,.inl (.bool false))] rfl rfl am am am ?_ ?_
     ·intro x hx φ he
      simp only[aF,aE,or_false] at hx
      rcases hx with rfl<;>cases he
     intro ops' A' K' T hops hA' hK hT
     refine bQ 18 (.tmp 5) (((x:Nat):Value)) (((x:Nat):Value)) ?_
     refine bI 19 (.tmp 18) (((x:Nat):Value)) (.string d.1) (fun ρ h1 kk w1 (hg:Grow _ w1) hb hf=>by have c:=(hB.grow hg).cell 0;go_simp) ?_
     refine cC 20 aj ak (bO aj) (.bool false) (by rw[hK.out];rfl) 297 _ _ aj [.string d.1] aj m6 (fun kk w1 (hg:Grow _ w1) hb hf=>b_ aj (by exact db (hn1 w1))) ?_
     refine bQ 21 (.tmp 20) (.bool false) (.bool true) ?_
     refine bP 22 (.bool true) ?_
     refine bU 23 (cx hops 4 false 22 true) ?_
     refine bU 24 (cx hops 4 false 22 true) ?_
     refine bU 25 (cx hops 4 false 22 true) ?_
     refine bU 26 (cx hops 4 false 22 true) ?_
     refine cG 27 true (.bool true) ?_
     refine bP 28 (.bool true) ?_
     refine bU 29 (cx hops 10 false 28 true) ?_
     refine bU 30 (cx hops 10 false 28 true) ?_
     refine bU 31 (cx hops 10 false 28 true) ?_
     refine bU 32 (cM hops 13 true aj 31 aj aj) ?_
     refine bU 33 (cM hops 13 true aj 31 aj aj) ?_
     refine bU 34 (cM hops 13 true aj 31 aj aj) ?_
     refine bU 35 (cM hops 13 true aj 31 aj aj) ?_
     refine bU 36 (cM hops 13 true aj 31 aj aj) ?_
     refine bU 37 (cM hops 13 true aj 31 aj aj) ?_
     refine bU 38 (cM hops 13 true aj 31 aj aj) ?_
     refine bU 39 (cM hops 13 true aj 31 aj aj) ?_
     refine bU 40 (cM hops 13 true aj 31 aj aj) ?_
     refine bU 41 (cx hops 10 false 28 true) ?_
     refine cG 42 true (.bool true) ?_
     refine ce (fun _ _ w1 (hg:Grow _ w1) _ bR=>hT _ _ ?_)
     clear hops hA' hK hT
     simp only[cj,Act.put,aw,ay,az,ax,aB]
     clear bR
     go_wp2_with fail
     go_ret
     have tu:=cL hgw hgx hgw.size
     exact⟨gu HR1.out.symm,cL tu hg tu.size⟩
   | true=>
     have hn1:∀ w1,Calls au 297 #[.string d.1] w1 fun e w'=>e=.returned (.bool true)∧w1=w':=fun w1=>by have:=hN1 w1;rwa [hb1] at this
     have HB1:=Lib.hid hb1
     clear hb1 hN1
     cases hb2:i8 d.2 with
     | false=>
       have hn2:∀ w1,Calls au 297 #[.string d.2] w1 fun e w'=>e=.returned (.bool false)∧w1=w':=fun w1=>by have:=BR w1;rwa [hb2] at this
       have hR:R=1:=by
        rw[HR.out]
        exact kW LO (xT (hq.perm.mem_iff.1 LQ) (by unfold tn;rw[HB1.out,hb2];rfl))
       have HR1:=Lib.hid hR
       clear hR hb2 BR
       go_wp2_with fail
       rw[←HX.out]
       generalize hwb:wr.alloc (.cells #[.string d.1,.string d.2] 90)=wb at hB hgx ⊢
       clear hwb
       refine bL 25 47 [(2,.inl (.bool true)),(7,.inl (.bool false))] rfl rfl am am am ?_ ?_
       ·intro x hx φ he
        simp only[aF,aE,or_false] at hx
        rcases hx with rfl|rfl<;>cases he
       intro ops' A' K' T hops hA' hK hT
       refine bQ 18 (.tmp 5) (((x:Nat):Value)) (((x:Nat):Value)) ?_
       refine bI 19 (.tmp 18) (((x:Nat):Value)) (.string d.1) (fun ρ h1 kk w1 (hg:Grow _ w1) hb hf=>by have c:=(hB.grow hg).cell 0;go_simp) ?_
       refine cC 20 aj ak (bO aj) (.bool true) (by rw[hK.out];rfl) 297 _ _ aj [.string d.1] aj m6 (fun kk w1 (hg:Grow _ w1) hb hf=>b_ aj (by exact db (hn1 w1))) ?_
       refine bQ 21 (.tmp 20) (.bool true) (.bool false) ?_
       refine bP 22 (.bool false) ?_
       refine bX 23 (cx hops 4 false 22 false) (.tmp 5) (((x:Nat):Value)) (.pointer (some ⟨x,1,none⟩)) (fun ρ h1 kk w1 (hg:Grow _ w1) hb hf=>by go_simp) ?_
       refine bX 24 (cx hops 4 false 22 false) (.tmp 23) (.pointer (some ⟨x,1,none⟩)) (.string d.2) (fun ρ h1 kk w1 (hg:Grow _ w1) hb hf=>by have c:=(hB.grow hg).cell 1;go_simp) ?_
       refine cC 25 aj ak (dF hops 4 false aj 22 aj false aj) (.bool false) (by rw[hK.out];rfl) 297 _ _ aj [.string d.2] aj m6 (fun kk w1 (hg:Grow _ w1) hb hf=>b_ aj (by exact db (hn2 w1))) ?_
       refine bX 26 (cx hops 4 false 22 false) (.tmp 25) (.bool false) (.bool true) (fun ρ h1 kk w1 (hg:Grow _ w1) hb hf=>by go_simp) ?_
       refine cG 27 false (.bool true) ?_
       refine bP 28 (.bool true) ?_
       refine bU 29 (cx hops 10 false 28 true) ?_
       refine bU 30 (cx hops 10 false 28 true) ?_
       refine bU 31 (cx hops 10 false 28 true) ?_
       refine bU 32 (cM hops 13 true aj 31 aj aj) ?_
       refine bU 33 (cM hops 13 true aj 31 aj aj) ?_
       refine bU 34 (cM hops 13 true aj 31 aj aj) ?_
       refine bU 35 (cM hops 13 true aj 31 aj aj) ?_
       refine bU 36 (cM hops 13 true aj 31 aj aj) ?_
       refine bU 37 (cM hops 13 true aj 31 aj aj) ?_
       refine bU 38 (cM hops 13 true aj 31 aj aj) ?_
       refine bU 39 (cM hops 13 true aj 31 aj aj) ?_
       refine bU 40 (cM hops 13 true aj 31 aj aj) ?_
       refine bU 41 (cx hops 10 false 28 true) ?_
       refine cG 42 true (.bool true) ?_
       refine ce (fun _ _ w1 (hg:Grow _ w1) _ bR=>hT _ _ ?_)
       clear hops hA' hK hT
       simp only[cj,Act.put,aw,ay,az,ax,aB]
       clear bR
       go_wp2_with fail
       go_ret
       have tu:=cL hgw hgx hgw.size
       exact⟨gu HR1.out.symm,cL tu hg tu.size⟩
     | true=>
       have hn2:∀ w1,Calls au 297 #[.string d.2] w1 fun e w'=>e=.returned (.bool true)∧w1=w':=fun w1=>by have:=BR w1;rwa [hb2] at this
       have hdo:tn d=true:=by unfold tn;rw[HB1.out,hb2];rfl
       have Kb:Hid (∀ j (hj:j<q.length),j<i+1→tn q[j]=true):=Lib.hid fun j hj hji=>by
        rcases bn j i with h|h
        ·exact OU.out j hj h
        ·obtain rfl:j=i:=by omega
         rw[←HD.out];exact hdo
       clear hb2 BR HB1
       by_cases h0:i=0
       ·have hp0:decide ((0:Int)<(i:Int))=false:=decide_eq_false al
        have hi0:¬ 0<i:=by omega
        have H0:=Lib.hid h0
        clear h0
        go_wp2_with fail
        rw[←HX.out]
        generalize hwb:wr.alloc (.cells #[.string d.1,.string d.2] 90)=wb at hB hgx ⊢
        clear hwb
        refine bL 25 47 [(2,.inl (.bool true)),(7,.inl (.bool true))] rfl rfl am am am ?_ ?_
        ·intro x hx φ he
         simp only[aF,aE,or_false] at hx
         rcases hx with rfl|rfl<;>cases he
        intro ops' A' K' T hops hA' hK hT
        refine bQ 18 (.tmp 5) (((x:Nat):Value)) (((x:Nat):Value)) ?_
        refine bI 19 (.tmp 18) (((x:Nat):Value)) (.string d.1) (fun ρ h1 kk w1 (hg:Grow _ w1) hb hf=>by have c:=(hB.grow hg).cell 0;go_simp) ?_
        refine cC 20 aj ak (bO aj) (.bool true) (by rw[hK.out];rfl) 297 _ _ aj [.string d.1] aj m6 (fun kk w1 (hg:Grow _ w1) hb hf=>b_ aj (by exact db (hn1 w1))) ?_
        refine bQ 21 (.tmp 20) (.bool true) (.bool false) ?_
        refine bP 22 (.bool false) ?_
        refine bX 23 (cx hops 4 false 22 false) (.tmp 5) (((x:Nat):Value)) (.pointer (some ⟨x,1,none⟩)) (fun ρ h1 kk w1 (hg:Grow _ w1) hb hf=>by go_simp) ?_
        refine bX 24 (cx hops 4 false 22 false) (.tmp 23) (.pointer (some ⟨x,1,none⟩)) (.string d.2) (fun ρ h1 kk w1 (hg:Grow _ w1) hb hf=>by have c:=(hB.grow hg).cell 1;go_simp) ?_
        refine cC 25 aj ak (dF hops 4 false aj 22 aj false aj) (.bool true) (by rw[hK.out];rfl) 297 _ _ aj [.string d.2] aj m6 (fun kk w1 (hg:Grow _ w1) hb hf=>b_ aj (by exact db (hn2 w1))) ?_
        refine bX 26 (cx hops 4 false 22 false) (.tmp 25) (.bool true) (.bool false) (fun ρ h1 kk w1 (hg:Grow _ w1) hb hf=>by go_simp) ?_
        refine cG 27 false (.bool false) ?_
        refine bP 28 (.bool false) ?_
        refine da 29 (cx hops 10 false 28 false) (ae af (i:Int)) ?_
        refine dc 30 (cx hops 10 false 28 false) (.tmp 29) (.const (ae af 0)) (ae af (i:Int)) (ae af 0) (.bool false) (fun ρ h1 h2 kk w1 (hg:Grow _ w1) hb hf=>by go_simp) ?_
        refine da 31 (cx hops 10 false 28 false) (.bool false) ?_
        refine bU 32 (cx hops 13 true 31 false) ?_
        refine bU 33 (cx hops 13 true 31 false) ?_
        refine bU 34 (cx hops 13 true 31 false) ?_
        refine bU 35 (cx hops 13 true 31 false) ?_
        refine bU 36 (cx hops 13 true 31 false) ?_
        refine bU 37 (cx hops 13 true 31 false) ?_
        refine bU 38 (cx hops 13 true 31 false) ?_
        refine bU 39 (cx hops 13 true 31 false) ?_
        refine bU 40 (cx hops 13 true 31 false) ?_
        refine ks 41 (cx hops 10 false 28 false) false (.bool false) ?_
        refine cG 42 false (.bool false) ?_
        refine ce (fun _ _ w1 (hg:Grow _ w1) _ bR=>hT _ _ ?_)
        clear hops hA' hK hT
        simp only[cj,Act.put,aw,ay,az,ax,aB]
        clear bR
        go_wp2_with fail
        go_roundw
        case rel=>exact⟨i+1,by omega,by go_num,Kb.out,fun j hj hji=>absurd hji (by have:=H0.out;omega),(hgr.trans hgx).trans hg⟩
        case measure=>simp[intOf];omega
       ·have hp0:decide ((0:Int)<(i:Int))=true:=decide_eq_true al
        obtain⟨j,HJ⟩:∃ j:Nat,Hid (i=j+1):=⟨i-1,Lib.hid al⟩
        have hjn:j<n:=by have:=HJ.out;omega
        obtain⟨Jv,hqj,ea,j0,_⟩:=vD (hI.grow hgr) hjn
        injection ea with ea
        subst ea
        have hij:(i:Int)-1=(j:Int):=by have:=HJ.out;omega
        have Qg:IntKind.i64.wrap (j:Int)=(j:Int):=by rw[IntKind.wrap_i64];omega
        have hjneg:¬ (j:Int)<0:=by omega
        have hpos:0<i:=by omega
        obtain⟨p,hpp⟩:∃ p,p=q[j].1:=⟨_,rfl⟩
        rw[←hpp] at j0
        have HP:=Lib.hid hpp
        have hp:∀ w9,Grow (wr.alloc (.cells #[.string d.1,.string d.2] 90)) w9→w9.cell? (ad.add (j*2))=some (.string p):=fun w9 h9=>j0 w9 (hgx.trans h9)
        have hlt2:¬ n≤j:=by omega
        clear hpp j0 h0
        by_cases heq:p=d.1
        ·have hR:R=1:=by
          rw[HR.out,←oQ hq.perm]
          have e9:i=j+1:=HJ.out
          subst e9
          exact kW (by have:=yY.out;omega) (EU hqj hqi al (by rw[←HP.out,←HD.out];exact heq))
         have HR1:=Lib.hid hR
         have Mr:(p.toList == d.1.toList)=true:=by rw[heq];simp
         have OV:=Lib.hid heq
         clear hR heq
         go_wp2_with fail
         rw[←HX.out]
         generalize hwb:wr.alloc (.cells #[.string d.1,.string d.2] 90)=wb at hB hgx hp ⊢
         clear hwb
         refine bL 25 47 [(2,.inl (.bool true)),(7,.inl (.bool true))] rfl rfl am am am ?_ ?_
         ·intro x hx φ he
          simp only[aF,aE,or_false] at hx
          rcases hx with rfl|rfl<;>cases he
         intro ops' A' K' T hops hA' hK hT
         refine bQ 18 (.tmp 5) (((x:Nat):Value)) (((x:Nat):Value)) ?_
         refine bI 19 (.tmp 18) (((x:Nat):Value)) (.string d.1) (fun ρ h1 kk w1 (hg:Grow _ w1) hb hf=>by have c:=(hB.grow hg).cell 0;go_simp) ?_
         refine cC 20 aj ak (bO aj) (.bool true) (by rw[hK.out];rfl) 297 _ _ aj [.string d.1] aj m6 (fun kk w1 (hg:Grow _ w1) hb hf=>b_ aj (by exact db (hn1 w1))) ?_
         refine bQ 21 (.tmp 20) (.bool true) (.bool false) ?_
         refine bP 22 (.bool false) ?_
         refine bX 23 (cx hops 4 false 22 false) (.tmp 5) (((x:Nat):Value)) (.pointer (some ⟨x,1,none⟩)) (fun ρ h1 kk w1 (hg:Grow _ w1) hb hf=>by go_simp) ?_
         refine bX 24 (cx hops 4 false 22 false) (.tmp 23) (.pointer (some ⟨x,1,none⟩)) (.string d.2) (fun ρ h1 kk w1 (hg:Grow _ w1) hb hf=>by have c:=(hB.grow hg).cell 1;go_simp) ?_
         refine cC 25 aj ak (dF hops 4 false aj 22 aj false aj) (.bool true) (by rw[hK.out];rfl) 297 _ _ aj [.string d.2] aj m6 (fun kk w1 (hg:Grow _ w1) hb hf=>b_ aj (by exact db (hn2 w1))) ?_
         refine bX 26 (cx hops 4 false 22 false) (.tmp 25) (.bool true) (.bool false) (fun ρ h1 kk w1 (hg:Grow _ w1) hb hf=>by go_simp) ?_
         refine cG 27 false (.bool false) ?_
         refine bP 28 (.bool false) ?_
         refine da 29 (cx hops 10 false 28 false) (ae af (i:Int)) ?_
         refine dc 30 (cx hops 10 false 28 false) (.tmp 29) (.const (ae af 0)) (ae af (i:Int)) (ae af 0) (.bool true) (fun ρ h1 h2 kk w1 (hg:Grow _ w1) hb hf=>by go_simp) ?_
         refine da 31 (cx hops 10 false 28 false) (.bool true) ?_
         refine da 32 (cx hops 13 true 31 true) (.slice (some ad) n n) ?_
         refine da 33 (cx hops 13 true 31 true) (ae af (i:Int)) ?_
         refine dc 34 (cx hops 13 true 31 true) (.tmp 33) (.const (ae af 1)) (ae af (i:Int)) (ae af 1) (ae af (j:Int)) (fun ρ h1 h2 kk w1 (hg:Grow _ w1) hb hf=>by go_simp) ?_
         refine dc 35 (cx hops 13 true 31 true) (.tmp 32) (.tmp 34) (.slice (some ad) n n) (ae af (j:Int)) (.pointer (some (ad.add (j*2)))) (fun ρ h1 h2 kk w1 (hg:Grow _ w1) hb hf=>by go_simp;try (intro hlt;omega)) ?_
         refine bX 36 (cx hops 13 true 31 true) (.tmp 35) (.pointer (some (ad.add (j*2)))) (.pointer (some (ad.add (j*2)))) (fun ρ h1 kk w1 (hg:Grow _ w1) hb hf=>by go_simp) ?_
         refine bX 37 (cx hops 13 true 31 true) (.tmp 36) (.pointer (some (ad.add (j*2)))) (.string p) (fun ρ h1 kk w1 (hg:Grow _ w1) hb hf=>by have c:=hp w1 hg;go_simp) ?_
         refine bX 38 (cx hops 13 true 31 true) (.tmp 5) (((x:Nat):Value)) (((x:Nat):Value)) (fun ρ h1 kk w1 (hg:Grow _ w1) hb hf=>by go_simp) ?_
         refine bX 39 (cx hops 13 true 31 true) (.tmp 38) (((x:Nat):Value)) (.string d.1) (fun ρ h1 kk w1 (hg:Grow _ w1) hb hf=>by have c:=(hB.grow hg).cell 0;go_simp) ?_
         refine dc 40 (cx hops 13 true 31 true) (.tmp 37) (.tmp 39) (.string p) (.string d.1) (.bool true) (fun ρ h1 h2 kk w1 (hg:Grow _ w1) hb hf=>by go_simp) ?_
         refine ks 41 (cx hops 10 false 28 false) true (.bool true) ?_
         refine cG 42 false (.bool true) ?_
         refine ce (fun _ _ w1 (hg:Grow _ w1) _ bR=>hT _ _ ?_)
         clear hops hA' hK hT
         simp only[cj,Act.put,aw,ay,az,ax,aB]
         clear bR
         go_wp2_with fail
         go_ret
         have tu:=cL hgw hgx hgw.size
         exact⟨gu HR1.out.symm,cL tu hg tu.size⟩
        ·have OV:=Lib.hid heq
         have Mr:=xU heq
         clear heq
         go_wp2_with fail
         rw[←HX.out]
         generalize hwb:wr.alloc (.cells #[.string d.1,.string d.2] 90)=wb at hB hgx hp ⊢
         clear hwb
         refine bL 25 47 [(2,.inl (.bool true)),(7,.inl (.bool true))] rfl rfl am am am ?_ ?_
         ·intro x hx φ he
          simp only[aF,aE,or_false] at hx
          rcases hx with rfl|rfl<;>cases he
         intro ops' A' K' T hops hA' hK hT
         refine bQ 18 (.tmp 5) (((x:Nat):Value)) (((x:Nat):Value)) ?_
         refine bI 19 (.tmp 18) (((x:Nat):Value)) (.string d.1) (fun ρ h1 kk w1 (hg:Grow _ w1) hb hf=>by have c:=(hB.grow hg).cell 0;go_simp) ?_
         refine cC 20 aj ak (bO aj) (.bool true) (by rw[hK.out];rfl) 297 _ _ aj [.string d.1] aj m6 (fun kk w1 (hg:Grow _ w1) hb hf=>b_ aj (by exact db (hn1 w1))) ?_
         refine bQ 21 (.tmp 20) (.bool true) (.bool false) ?_
         refine bP 22 (.bool false) ?_
         refine bX 23 (cx hops 4 false 22 false) (.tmp 5) (((x:Nat):Value)) (.pointer (some ⟨x,1,none⟩)) (fun ρ h1 kk w1 (hg:Grow _ w1) hb hf=>by go_simp) ?_
         refine bX 24 (cx hops 4 false 22 false) (.tmp 23) (.pointer (some ⟨x,1,none⟩)) (.string d.2) (fun ρ h1 kk w1 (hg:Grow _ w1) hb hf=>by have c:=(hB.grow hg).cell 1;go_simp) ?_
         refine cC 25 aj ak (dF hops 4 false aj 22 aj false aj) (.bool true) (by rw[hK.out];rfl) 297 _ _ aj [.string d.2] aj m6 (fun kk w1 (hg:Grow _ w1) hb hf=>b_ aj (by exact db (hn2 w1))) ?_
         refine bX 26 (cx hops 4 false 22 false) (.tmp 25) (.bool true) (.bool false) (fun ρ h1 kk w1 (hg:Grow _ w1) hb hf=>by go_simp) ?_
         refine cG 27 false (.bool false) ?_
         refine bP 28 (.bool false) ?_
         refine da 29 (cx hops 10 false 28 false) (ae af (i:Int)) ?_
         refine dc 30 (cx hops 10 false 28 false) (.tmp 29) (.const (ae af 0)) (ae af (i:Int)) (ae af 0) (.bool true) (fun ρ h1 h2 kk w1 (hg:Grow _ w1) hb hf=>by go_simp) ?_
         refine da 31 (cx hops 10 false 28 false) (.bool true) ?_
         refine da 32 (cx hops 13 true 31 true) (.slice (some ad) n n) ?_
         refine da 33 (cx hops 13 true 31 true) (ae af (i:Int)) ?_
         refine dc 34 (cx hops 13 true 31 true) (.tmp 33) (.const (ae af 1)) (ae af (i:Int)) (ae af 1) (ae af (j:Int)) (fun ρ h1 h2 kk w1 (hg:Grow _ w1) hb hf=>by go_simp) ?_
         refine dc 35 (cx hops 13 true 31 true) (.tmp 32) (.tmp 34) (.slice (some ad) n n) (ae af (j:Int)) (.pointer (some (ad.add (j*2)))) (fun ρ h1 h2 kk w1 (hg:Grow _ w1) hb hf=>by go_simp;try (intro hlt;omega)) ?_
         refine bX 36 (cx hops 13 true 31 true) (.tmp 35) (.pointer (some (ad.add (j*2)))) (.pointer (some (ad.add (j*2)))) (fun ρ h1 kk w1 (hg:Grow _ w1) hb hf=>by go_simp) ?_
         refine bX 37 (cx hops 13 true 31 true) (.tmp 36) (.pointer (some (ad.add (j*2)))) (.string p) (fun ρ h1 kk w1 (hg:Grow _ w1) hb hf=>by have c:=hp w1 hg;go_simp) ?_
         refine bX 38 (cx hops 13 true 31 true) (.tmp 5) (((x:Nat):Value)) (((x:Nat):Value)) (fun ρ h1 kk w1 (hg:Grow _ w1) hb hf=>by go_simp) ?_
         refine bX 39 (cx hops 13 true 31 true) (.tmp 38) (((x:Nat):Value)) (.string d.1) (fun ρ h1 kk w1 (hg:Grow _ w1) hb hf=>by have c:=(hB.grow hg).cell 0;go_simp) ?_
         refine dc 40 (cx hops 13 true 31 true) (.tmp 37) (.tmp 39) (.string p) (.string d.1) (.bool false) (fun ρ h1 h2 kk w1 (hg:Grow _ w1) hb hf=>by go_simp) ?_
         refine ks 41 (cx hops 10 false 28 false) true (.bool false) ?_
         refine cG 42 false (.bool false) ?_
         refine ce (fun _ _ w1 (hg:Grow _ w1) _ bR=>hT _ _ ?_)
         clear hops hA' hK hT
         simp only[cj,Act.put,aw,ay,az,ax,aB]
         clear bR
         go_wp2_with fail
         go_roundw
         case rel=>
          refine⟨i+1,by omega,by go_num,Kb.out,fun k hk hki=>?_,(hgr.trans hgx).trans hg⟩
          rcases bn (k+1) i with h|h
          ·exact Mp.out k hk h
          ·have e9:i=j+1:=HJ.out
           obtain rfl:k=j:=by omega
           subst e9
           rw[←HP.out,←HD.out];exact OV.out
         case measure=>simp[intOf];omega
  ·obtain rfl:n=i:=by omega
   have hit:decide ((n:Int)<(n:Int))=false:=decide_eq_false al
   by_cases h0:n=0
   ·have hR:R=1:=by
     rw[HR.out]
     refine kW LO ?_
     obtain rfl:l=[]:=aJ (by rw[LP.out];exact h0)
     rfl
    have HR1:=Lib.hid hR
    have Qh:((n:Int) == 0)=true:=beq_iff_eq.2 al
    clear hR
    go_wp2_with fail
    go_ret
    exact⟨gu HR1.out.symm,hgw⟩
   ·have hR:R=0:=by
     rw[HR.out,←oQ hq.perm]
     refine BN (by have:=yY.out;omega) (EV (fun e=>h0 (by rw[←yY.out,e];rfl)) (fun d hd=>?_) (hq.step fun i hi=>Mp.out i hi (by have:=yY.out;omega)))
     obtain⟨j,hj,rfl⟩:=List.getElem_of_mem hd
     exact OU.out j hj (by have:=yY.out;omega)
    have HR1:=Lib.hid hR
    have Qh:((n:Int) == 0)=false:=beq_eq_false_iff_ne.2 al
    clear hR
    go_wp2_with fail
    go_ret
    exact⟨gu HR1.out.symm,hgw⟩
end Go.Proofs.YtmijcbfgfkeodaaGreatDoor.L
end
section
namespace Go.Proofs.YtmijcbfgfkeodaaGreatDoor.L
open Go.Shelf
def qL:Go.Shelf.Ren:=⟨fun|156=>241|165=>301|166=>302|169=>303|240=>344|241=>345|276=>359|277=>360|n=>n,fun|31=>83|9=>9|3=>3|4=>4|0=>0|20=>20|72=>371|76=>375|70=>369|37=>65|75=>374|127=>408|164=>422|5=>5|80=>174|n=>n,fun|n=>n⟩
theorem joinL:Go.Proofs.Lays.n156 au qL:={
 mixed:=by kernel_rfl
 f156:=Tryz.func241.trans (congrArg some am)
 f165:=Tryz.func301.trans (congrArg some am)
 f166:=Tryz.func302.trans (congrArg some am)
 f169:=Tryz.func303.trans (congrArg some am)
 f240:=Tryz.func344.trans (congrArg some am)
 f241:=Tryz.func345.trans (congrArg some am)
 f276:=Tryz.func359.trans (congrArg some am)
 f277:=Tryz.func360.trans (congrArg some am)
 t0:=Tryz.underlying0
 a0:=Tryz.isAgg0
 z0:=Tryz.sizeOf0
 v0:=Tryz.zeroValue0
 t3:=Tryz.underlying3
 a3:=Tryz.isAgg3
 z3:=Tryz.sizeOf3
 v3:=Tryz.zeroValue3
 t4:=Tryz.underlying4
 a4:=Tryz.isAgg4
 z4:=Tryz.sizeOf4
 v4:=Tryz.zeroValue4
 t9:=Tryz.underlying9
 a9:=Tryz.isAgg9
 z9:=Tryz.sizeOf9
 v9:=Tryz.zeroValue9
 t20:=Tryz.underlying20
 a20:=Tryz.isAgg20
 z20:=Tryz.sizeOf20
 v20:=Tryz.zeroValue20
 t31:=Tryz.underlying83
 a31:=Tryz.isAgg83
 z31:=Tryz.sizeOf83
 v31:=Tryz.zeroValue83
 t37:=Tryz.underlying65
 a37:=Tryz.isAgg65
 z37:=Tryz.sizeOf65
 v37:=Tryz.zeroValue65
 t70:=Tryz.underlying369
 a70:=Tryz.isAgg369
 z70:=Tryz.sizeOf369
 v70:=Tryz.zeroValue369
 t72:=Tryz.underlying371
 a72:=Tryz.isAgg371
 z72:=Tryz.sizeOf371
 v72:=Tryz.zeroValue371
 t75:=Tryz.underlying374
 a75:=Tryz.isAgg374
 z75:=Tryz.sizeOf374
 v75:=Tryz.zeroValue374
 t76:=Tryz.underlying375
 a76:=Tryz.isAgg375
 z76:=Tryz.sizeOf375
 v76:=Tryz.zeroValue375
 t127:=Tryz.underlying408
 a127:=Tryz.isAgg408
 z127:=Tryz.sizeOf408
 v127:=Tryz.zeroValue408
 t164:=Tryz.underlying422
 a164:=Tryz.isAgg422
 z164:=Tryz.sizeOf422
 v164:=Tryz.zeroValue422 }
def jf:Go.Shelf.Ren:=⟨fun|221=>237|268=>293|138=>294|143=>295|195=>336|197=>337|218=>338|219=>296|260=>354|217=>339|225=>340|224=>341|267=>342|266=>355|314=>356|n=>n,fun|9=>9|3=>3|31=>83|4=>4|0=>0|105=>404|21=>21|5=>5|46=>86|119=>427|139=>430|138=>429|146=>418|51=>85|n=>n,fun|1=>0|3=>1|4=>2|n=>n⟩
theorem mS:Go.Proofs.Lays.n221 au jf:={
 mixed:=by kernel_rfl
 f138:=Tryz.func294.trans (congrArg some am)
 f143:=Tryz.func295.trans (congrArg some am)
 f195:=Tryz.func336.trans (congrArg some am)
 f197:=Tryz.func337.trans (congrArg some am)
 f217:=Tryz.func339.trans (congrArg some am)
 f218:=Tryz.func338.trans (congrArg some am)
 f219:=Tryz.func296.trans (congrArg some am)
 f221:=Tryz.func237.trans (congrArg some am)
 f224:=Tryz.func341.trans (congrArg some am)
 f225:=Tryz.func340.trans (congrArg some am)
 f260:=Tryz.func354.trans (congrArg some am)
 f266:=Tryz.func355.trans (congrArg some am)
 f267:=Tryz.func342.trans (congrArg some am)
 f268:=Tryz.func293.trans (congrArg some am)
 f314:=Tryz.func356.trans (congrArg some am)
 t0:=Tryz.underlying0
 a0:=Tryz.isAgg0
 z0:=Tryz.sizeOf0
 v0:=Tryz.zeroValue0
 t3:=Tryz.underlying3
 a3:=Tryz.isAgg3
 z3:=Tryz.sizeOf3
 v3:=Tryz.zeroValue3
 t4:=Tryz.underlying4
 a4:=Tryz.isAgg4
 z4:=Tryz.sizeOf4
 v4:=Tryz.zeroValue4
 t5:=Tryz.underlying5
 a5:=Tryz.isAgg5
 z5:=Tryz.sizeOf5
 v5:=Tryz.zeroValue5
 t9:=Tryz.underlying9
 a9:=Tryz.isAgg9
 z9:=Tryz.sizeOf9
 v9:=Tryz.zeroValue9
 t21:=Tryz.underlying21
 a21:=Tryz.isAgg21
 z21:=Tryz.sizeOf21
 v21:=Tryz.zeroValue21
 t31:=Tryz.underlying83
 a31:=Tryz.isAgg83
 z31:=Tryz.sizeOf83
 v31:=Tryz.zeroValue83
 t46:=Tryz.underlying86
 a46:=Tryz.isAgg86
 z46:=Tryz.sizeOf86
 v46:=Tryz.zeroValue86
 t51:=Tryz.underlying85
 a51:=Tryz.isAgg85
 z51:=Tryz.sizeOf85
 v51:=Tryz.zeroValue85
 t105:=Tryz.underlying404
 a105:=Tryz.isAgg404
 z105:=Tryz.sizeOf404
 v105:=Tryz.zeroValue404
 t119:=Tryz.underlying427
 a119:=Tryz.isAgg427
 z119:=Tryz.sizeOf427
 t138:=Tryz.underlying429
 a138:=Tryz.isAgg429
 z138:=Tryz.sizeOf429
 v138:=Tryz.zeroValue429
 t139:=Tryz.underlying430
 a139:=Tryz.isAgg430
 z139:=Tryz.sizeOf430
 v139:=Tryz.zeroValue430
 t146:=Tryz.underlying418
 a146:=Tryz.isAgg418
 z146:=Tryz.sizeOf418
 v146:=Tryz.zeroValue418
 g1:=by kernel_rfl
 g3:=by kernel_rfl
 g4:=by kernel_rfl }
def tw:Go.Shelf.Ren:=⟨fun|145=>190|220=>238|219=>296|217=>339|225=>340|224=>341|267=>342|266=>355|314=>356|n=>n,fun|9=>9|4=>4|59=>287|3=>3|5=>5|46=>86|146=>418|51=>85|n=>n,fun|1=>0|n=>n⟩
theorem EX:Go.Proofs.Lays.n145 au tw:={
 mixed:=by kernel_rfl
 f145:=Tryz.func190.trans (congrArg some am)
 f217:=Tryz.func339.trans (congrArg some am)
 f219:=Tryz.func296.trans (congrArg some am)
 f220:=Tryz.func238.trans (congrArg some am)
 f224:=Tryz.func341.trans (congrArg some am)
 f225:=Tryz.func340.trans (congrArg some am)
 f266:=Tryz.func355.trans (congrArg some am)
 f267:=Tryz.func342.trans (congrArg some am)
 f314:=Tryz.func356.trans (congrArg some am)
 t3:=Tryz.underlying3
 a3:=Tryz.isAgg3
 z3:=Tryz.sizeOf3
 v3:=Tryz.zeroValue3
 t4:=Tryz.underlying4
 a4:=Tryz.isAgg4
 z4:=Tryz.sizeOf4
 v4:=Tryz.zeroValue4
 t5:=Tryz.underlying5
 a5:=Tryz.isAgg5
 z5:=Tryz.sizeOf5
 v5:=Tryz.zeroValue5
 t9:=Tryz.underlying9
 a9:=Tryz.isAgg9
 z9:=Tryz.sizeOf9
 v9:=Tryz.zeroValue9
 t46:=Tryz.underlying86
 a46:=Tryz.isAgg86
 z46:=Tryz.sizeOf86
 v46:=Tryz.zeroValue86
 t51:=Tryz.underlying85
 a51:=Tryz.isAgg85
 z51:=Tryz.sizeOf85
 v51:=Tryz.zeroValue85
 t59:=Tryz.underlying287
 a59:=Tryz.isAgg287
 z59:=Tryz.sizeOf287
 v59:=Tryz.zeroValue287
 t146:=Tryz.underlying418
 a146:=Tryz.isAgg418
 z146:=Tryz.sizeOf418
 v146:=Tryz.zeroValue418
 g1:=by kernel_rfl }
theorem Gj:Go.Proofs.Builder.Extra au qL:={
 sizeBuilder:=by kernel_rfl
 liesBuilder:=by kernel_rfl
 t5:=Tryz.underlying5
 a5:=Tryz.isAgg5
 z5:=Tryz.sizeOf5
 v5:=Tryz.zeroValue5
 infoByte:=by kernel_rfl
 cellsByte:=by kernel_rfl
 sizeByte:=by kernel_rfl
 neB5:=by decide }
end Go.Proofs.YtmijcbfgfkeodaaGreatDoor.L
namespace Go.Proofs.YtmijcbfgfkeodaaGreatDoor.L
open Go.RowKit Go.Hop Go.Shelf
theorem BS (w:World) (V:Nat→Prop) (A:Option Addr) (n c:Nat) (xs:List ByteArray) (sep:ByteArray) (h:In w V 1 A n (xs.map Value.string)) (hn:n≤c) (hn2:n≤140737488355328) (hlen:(Lib.join (xs.map (·.data.toList)) sep.data.toList).length≤140737488355328) :
 Calls au 241 #[.slice A n c,.string sep] w fun e w'=>e=.returned (.string (mk (Lib.join (xs.map (·.data.toList)) sep.data.toList)))∧Grow w w':=by
 have hl:xs.length=n:=by have:=h.1;simpa using this
 rcases bj n with h0|h0
 ·subst h0
  obtain rfl:xs=[]:=aJ hl
  refine (Go.Proofs.Any.strings_Join_none joinL Gj A c sep w).mono ?_
  rintro e w' ⟨he,rfl⟩
  exact⟨he,Grow.refl _⟩
 ·obtain⟨ad,rfl,_,hb,hc⟩:=h.2 h0
  obtain⟨bk,o,m⟩:=ad
  have hm:m=none:=by
   have h1:=hc 0 (.string xs[0]) (by rw[List.getElem?_map,List.getElem?_eq_getElem al];rfl)
   cases m with
   | none=>rfl
   | some m=>
     simp only[World.cell?,Addr.add] at h1
     split at h1<;>simp at h1
  subst hm
  subst hl
  exact Go.Proofs.Any.strings_Join joinL Gj bk o c xs sep w (fun j x hx=>by
   have:=hc j (.string x) (by rw[List.getElem?_map,hx];rfl)
   rwa [Addr.add_lit] at this) hb hn2 hn hlen
theorem qM (c:UInt8) (s:ByteArray):(Lib.splitB ⟨#[c]⟩ 0 (Lib.countB s ⟨#[c]⟩) s)=(dP c s.data.toList).map mk:=by
 have h:=Lib.splitB_data ⟨#[c]⟩ 0 (Lib.countB s ⟨#[c]⟩) s
 have h2:Lib.splitK [c] 0 (Lib.countB s ⟨#[c]⟩) s.data.toList=dP c s.data.toList:=tm c _ _ (aC _)
 have h3:(Lib.splitB ⟨#[c]⟩ 0 (Lib.countB s ⟨#[c]⟩) s).map (·.data.toList)=dP c s.data.toList:=h.trans h2
 rw[←h3,List.map_map]
 conv=>lhs;rw[←List.map_id (Lib.splitB ⟨#[c]⟩ 0 (Lib.countB s ⟨#[c]⟩) s)]
 exact List.map_congr_left fun x _=>rfl
theorem oU (c:UInt8):∀ s:List UInt8,(dP c s).length≤s.length+1
 | []=>by simp[dP]
 | b :: r=>by
   have ih:=oU c r
   unfold dP
   split
   ·simp only[aL];omega
   ·split
    ·simp
    ·rename_i p ps e
     rw[e] at ih
     simp only[aL] at ih ⊢
     omega
theorem yZ (w:World) (s:ByteArray) (c:UInt8) (hs:s.size<4294967281) :
 Calls au 189 #[.string s,.string ⟨#[c]⟩] w fun e w'=>∃ A,e=.returned (.slice A (dP c s.data.toList).length (dP c s.data.toList).length)∧In w' (New w w') 1 A (dP c s.data.toList).length (((dP c s.data.toList).map mk).map Value.string)∧Grow w w':=by
 have h1:1≤(⟨#[c]⟩:ByteArray).size:=by show 1≤1;omega
 have hle:=Lib.countB_le ⟨#[c]⟩ h1 s.size s (aC _)
 have hlen:=Lib.splitB_all ⟨#[c]⟩ h1 0 _ s rfl
 have hcount:∀ w,Calls au 294 #[.string s,.string ⟨#[c]⟩] w fun e w'=>e=.returned (ae af (Lib.countB s ⟨#[c]⟩))∧w'=w:=fun w=>by
  refine (Go.Proofs.Any.strings_Count_one (P:=au) (ρ:=jf) { mS with } s c w).mono fun e w' ⟨he,hw⟩=>⟨?_,hw⟩
  rw[he]
  show _=Ending.returned (Value.int .i64 ((Lib.count s.data.toList [c]:Nat):Int))
  rw[Lib.count_one]
  rfl
 have hcon:=Go.Proofs.Any.strings_genSplit_core mS am s ⟨#[c]⟩ 0 (-1) (Lib.countB s ⟨#[c]⟩+1) w hs h1 (aZ _)
  (fun x cs hx=>by
   refine (Go.Proofs.Any.strings_Index_one (P:=au) (ρ:=jf) { mS with } x c _).mono fun e w' ⟨he,hw⟩=>⟨?_,hw⟩
   rw[he]
   show _=Ending.returned (Value.int .i64 (Lib.index x.data.toList [c]))
   rw[Lib.index_one]) (hcount w) ak ak (by rw[if_pos ak];omega)
 rw[Nat.add_sub_cancel,hlen] at hcon
 have e2:Lib.cellsOf (Lib.splitB ⟨#[c]⟩ 0 (Lib.countB s ⟨#[c]⟩) s) (Lib.countB s ⟨#[c]⟩+1)=((Lib.splitB ⟨#[c]⟩ 0 (Lib.countB s ⟨#[c]⟩) s).map Value.string).toArray:=by rw[←hlen];exact Lib.cellsOf_full _
 rw[e2,qM] at hcon
 have hl2:Lib.countB s ⟨#[c]⟩+1=(dP c s.data.toList).length:=by rw[←hlen,qM,aP]
 rw[hl2] at hcon
 change Calls au 237 #[.string s,.string ⟨#[c]⟩,ae af 0,ae af (-1)] w _ at hcon
 have hI:∀ w1,w1=w.alloc (.cells (((dP c s.data.toList).map mk).map Value.string).toArray 9)→In w1 (New w w1) 1 (some ⟨w.heap.size,0,none⟩) (dP c s.data.toList).length (((dP c s.data.toList).map mk).map Value.string)∧Grow w w1:=fun w1 hw=>by
  have hg:Grow w w1:=by rw[hw];exact (Below.refl _ _).alloc (aC _) _
  refine⟨⟨by simp,fun hn=>⟨_,rfl,⟨aC _,by rw[hw];simp⟩,by rw[hw];simp,fun j u hu=>?_⟩⟩,hg⟩
  rw[Addr.add_lit,a_,hw]
  exact ((ct.made w 9 _).cell j).trans (by simpa using hu)
 generalize (dP c s.data.toList).length=k at hcon hI ⊢
 generalize ((dP c s.data.toList).map mk).map Value.string=xs at hcon hI ⊢
 clear hlen hle hcount e2 hl2 h1
 go_enter Tryz.func189,Tryz.ntmps189
 go_wp2_with fail
 refine hcon.mono ?_
 rintro e w1 ⟨rfl,hw⟩
 have h2:=Lib.hid (hI w1 hw)
 clear hcon hI hw
 go_wp2_with fail
 go_ret
 exact⟨_,rfl,h2.out.1,h2.out.2⟩
theorem tz (w:World) (s:ByteArray) (c:UInt8) (hs:s.size<4294967281) :
 Calls au 238 #[.string s,.string ⟨#[c]⟩] w fun e w'=>e=.returned (.tuple #[.string (mk (Lib.cut s.data.toList [c]).1),.string (mk (Lib.cut s.data.toList [c]).2.1),.bool (Lib.cut s.data.toList [c]).2.2])∧∃ n,w'=w.drewN n:=by
 have BU:∀ w,Calls au 296 #[.string s,.string ⟨#[c]⟩] w fun e w'=>e=.returned (ae af (Lib.indexB s ⟨#[c]⟩))∧w'=w:=fun w=>by
  refine (Go.Proofs.Any.stringslite_Index_one (P:=au) (ρ:=tw) { EX with } s c w).mono fun e w' ⟨he,hw⟩=>⟨?_,hw⟩
  rw[he]
  show _=Ending.returned (Value.int .i64 (Lib.index s.data.toList [c]))
  rw[Lib.index_one]
 rcases Lib.indexB_cases s ⟨#[c]⟩ with hix|⟨i,hix,hroom⟩
 ·obtain⟨e1,e2,e3⟩:=Lib.cutB_miss s ⟨#[c]⟩ hix
  change mk (Lib.cut s.data.toList [c]).1=_ at e1
  change mk (Lib.cut s.data.toList [c]).2.1=_ at e2
  change (Lib.cut s.data.toList [c]).2.2=_ at e3
  rw[e1,e2,e3]
  rw[hix] at BU
  clear e1 e2 e3
  go_enter Tryz.func238,Tryz.ntmps238
  go_wp2_with fail
  refine (BU _).mono ?_
  rintro e w' ⟨rfl,rfl⟩
  go_wp2_with fail
  go_ret3
  exact⟨rfl,0,rfl⟩
 ·obtain⟨e1,e2,e3⟩:=Lib.cutB_hit s ⟨#[c]⟩ i hix
  change mk (Lib.cut s.data.toList [c]).1=_ at e1
  change mk (Lib.cut s.data.toList [c]).2.1=_ at e2
  change (Lib.cut s.data.toList [c]).2.2=_ at e3
  rw[e1,e2,e3]
  rw[hix] at BU
  have hsz:(⟨#[c]⟩:ByteArray).size=1:=rfl
  rw[hsz] at hroom ⊢
  have c1:(0:Int)≤↑i:=by omega
  have c2:(↑i:Int)≤↑s.size:=by omega
  have c3:(0:Int)≤↑i+1:=by omega
  have c4:(↑i+1:Int)≤↑s.size:=by omega
  clear e1 e2 e3
  go_enter Tryz.func238,Tryz.ntmps238
  go_wp2_with fail
  refine (BU _).mono ?_
  rintro e w' ⟨rfl,rfl⟩
  clear BU
  go_wp2_with fail
  go_region
  all_goals go_wp2
  all_goals go_ret3
  all_goals exact⟨rfl,1,rfl⟩
theorem og (w:World) (s:ByteArray) (c:UInt8) (hs:s.size<4294967281) :
 Calls au 190 #[.string s,.string ⟨#[c]⟩] w fun e w'=>e=.returned (.tuple #[.string (mk (Lib.cut s.data.toList [c]).1),.string (mk (Lib.cut s.data.toList [c]).2.1),.bool (Lib.cut s.data.toList [c]).2.2])∧Grow w w':=by
 have hcon:=tz w s c hs
 generalize mk (Lib.cut s.data.toList [c]).1=x at hcon ⊢
 generalize mk (Lib.cut s.data.toList [c]).2.1=y at hcon ⊢
 generalize (Lib.cut s.data.toList [c]).2.2=z at hcon ⊢
 go_enter Tryz.func190,Tryz.ntmps190
 go_wp2_with fail
 refine hcon.mono ?_
 rintro e w' ⟨rfl,n,rfl⟩
 clear hcon
 have hg:Grow w (w.drewN n):=by
  have:∀ n,Grow w (w.drewN n):=fun n=>by
   induction n with
   | zero=>exact Grow.refl _
   | succ n ih=>exact ih.drew
  exact this n
 generalize w.drewN n=w1 at hg ⊢
 go_wp2_with fail
 go_ret3
 exact⟨rfl,hg⟩
end Go.Proofs.YtmijcbfgfkeodaaGreatDoor.L
end
