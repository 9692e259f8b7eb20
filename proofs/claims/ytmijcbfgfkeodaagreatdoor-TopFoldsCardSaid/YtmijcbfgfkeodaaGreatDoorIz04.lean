/- Cmay, Cadd, Within. -/
import Derived.Test.YtmijcbfgfkeodaaGreatDoorIz03
set_option linter.all false
set_option maxRecDepth 100000
set_option maxHeartbeats 2000000
open Go.Value renaming int → ae,slice → ai
open Go.IntKind renaming i64 → af,u64 → ah
open Go.Proofs.Tryz renaming prog → au
open List renaming setIfInBounds_toArray → aw,drop_succ_cons → ax,set_cons_zero → ay,set_cons_succ → az,drop_zero → aB,not_mem_nil → aE,mem_cons → aF,take_succ_eq_append_getElem → aI,length_take → aK,take_of_length_le → aN,getElem_mem → aO,mem_of_mem_take → bp,length_nil → bu
open Nat renaming le_refl → aC,le_trans → aH
open Bool renaming and_eq_true → aS
section
namespace Go.Proofs.YtmijcbfgfkeodaaGreatDoor.K
open Go.RowKit Go.Hop
theorem Mh {n:Nat} (h:n≤kc):(Lit.int .u64 (n:Int)).wf=true:=by
 unfold kc at h
 simp[Lit.wf,IntKind.min,IntKind.max,IntKind.signed,IntKind.bits]
 omega
theorem tf {w:World} {b:Nat} {q:Sm} (h:td w b q) {x:ByteArray} {v:Nat} (hx:x.size≤maxLen) (hv:v≤kc) (hn:q.length<maxLen) :
 ∃ w',(Instr.mapUpdate 213 (.map (some b)) (.string x) (ae ah (v:Int))).run au w=.ok () w'∧td w' b (Proofs.YtmijcbfgfkeodaaGreatDoor.K.put q x v)∧Just (fun c=>c=b) w w':=by
 obtain⟨w',h1,h2,h3⟩:=SMap.put EH h x v hx (Mh hv) hn
 refine⟨w',h1,?_,h3⟩
 unfold td
 rw[oI,←GY,←rO]
 exact h2
theorem xR {n:Nat} (h:n≤18446744073709551615):IntKind.u64.wrap ((18446744073709551615:Int)-(n:Int))=((18446744073709551615-n:Nat):Int):=by rw[IntKind.wrap_u64];omega
theorem EI {m n:Nat} (h:m+n≤18446744073709551615):IntKind.u64.wrap ((m:Int)+(n:Int))=((m+n:Nat):Int):=by rw[IntKind.wrap_u64];omega
theorem EJ (w:World) (s:Nat) (q:Sm) (V:Nat→Prop) (h:ek s q w V) (A:Option Addr) (n c:Nat) (l:List Dl) (D:Nat→Prop) (hl:In w D 2 A n (eE l)) (hd:∀ d∈l,d.1.size≤maxLen∧d.2≤kc) (hn:n≤1048576) (hq:q.length≤1048576) :
 Calls au 206 #[((s:Nat):Value),.slice A n c] w fun e w'=>e=.returned (ae af (i3 q l))∧Grow w w':=by
 have hln:l.length=n:=by have:=hl.1;rw[lB] at this;omega
 obtain⟨h1,h2,b,h3,h4,hB0,hM0⟩:=h
 obtain⟨E,HE⟩:∃ E:Int,Hid (E=i3 q l):=⟨_,rfl⟩
 rw[←HE.out]
 have hmm:=@run_makeMap au
 have hg1:Grow w (w.alloc (.map #[] 0)):=(Below.refl _ w).alloc (aC _) _
 have hm1:td (w.alloc (.map #[] 0)) w.heap.size []:=(SMap.made (P:=au) (k:=9) (e:=27) (qe := .u64) w).imp fun _ _=>rfl
 go_enter Tryz.func206,Tryz.ntmps206
 go_wp2_with fail
 obtain⟨m,HM⟩:∃ m:Nat,Hid (m=w.heap.size):=⟨_,rfl⟩
 rw[←HM.out] at hm1 ⊢
 go_loopw [16] (fun i wr=>∃ k:Nat,k≤n∧i=ae af (k:Int)∧eF q [] (l.take k)=true∧td wr m (add [] (l.take k))∧Grow w wr) (fun i _=>n-(intOf i).toNat)
 case atStart=>exact⟨0,by omega,rfl,rfl,hm1,hg1⟩
 case round=>
  clear hm1 hg1
  obtain⟨k,hkn,rfl,hok,hm,hgw⟩:=hrel
  have hrt:=vt (fun d hd'=>(hd d (bp hd')).1) hok
  have hB:=hB0.grow hgw
  by_cases hk:k<n
  ·have hkt:decide ((k:Int)<(n:Int))=true:=decide_eq_true al
   obtain⟨ad,hqk,rfl,he0,he1⟩:=BB (hl.grow hgw) hk
   have hdk:=hd _ (aO hqk)
   have hnext:add [] (l.take (k+1))=put (add [] (l.take k)) l[k].1 (gt (add [] (l.take k)) l[k].1+l[k].2):=by rw[aI hqk,add_one]
   have yH:eF q [] (l.take (k+1))=(eF q [] (l.take k) && decide (gt (add [] (l.take k)) l[k].1+l[k].2+gt q l[k].1≤kc)):=by rw[aI hqk,jH]
   have hstop:kc<gt (add [] (l.take k)) l[k].1+l[k].2+gt q l[k].1→E=25:=fun h=>by
    rw[HE.out];unfold i3;rw[vu hqk h];rfl
   have hlen:(add [] (l.take k)).length≤1048576:=by
    have:=oe (l.take k) []
    rw[aK] at this
    simp only[bu] at this
    omega
   have hgm:=hrt.gt l[k].1
   have LL:=h2.gt l[k].1
   generalize l[k]=dk at he0 he1 hdk hnext yH hstop hgm LL
   have f0:=he0 _ (Grow.refl _)
   have f1:=he1 _ (Grow.refl _)
   have hga:Grow wr (wr.alloc (.cells #[.string dk.1,ae ah (dk.2:Int)] 29)):=(Below.refl _ wr).alloc (aC _) _
   have yI:=ct.made wr 29 #[.string dk.1,ae ah (dk.2:Int)]
   have hm2:=hm.grow hga
   have hB2:=hB.grow hga
   obtain⟨gm,OS⟩:∃ gm:Nat,Hid (gm=gt (add [] (l.take k)) dk.1):=⟨_,rfl⟩
   obtain⟨gq,K5⟩:∃ gq:Nat,Hid (gq=gt q dk.1):=⟨_,rfl⟩
   have hlm:=SMap.xQ EH hm2 dk.1 hdk.1
   rw[rN,←OS.out] at hlm
   have k0:=yI.cell 0
   obtain⟨wa,HA⟩:∃ wa:World,Hid (wa=wr.alloc (.cells #[.string dk.1,ae ah (dk.2:Int)] 29)):=⟨_,rfl⟩
   obtain⟨x,HX⟩:∃ x:Nat,Hid (x=wr.heap.size):=⟨_,rfl⟩
   have mR:Below w.heap.size w wa:=HA.out▸cL hgw hga hgw.size
   have hBd:ct wa x 29 #[.string dk.1,ae ah (dk.2:Int)]:=by rw[HA.out,HX.out];exact yI
   have hB:ct wa s 215 #[.map (some b)]:=HA.out▸hB2
   have hma:td wa m (add [] (l.take k)):=HA.out▸hm2
   have hlq:∀ w1,Grow wa w1→(Instr.lookup 213 (.map (some b)) (.string dk.1) false).run au w1=.ok (ae ah (gq:Int)) w1:=fun w1 hg=>by
    have:=SMap.xQ EH (hM0.grow (cL mR hg mR.size)) dk.1 hdk.1
    rwa [rN,←K5.out] at this
   rw[←OS.out] at hnext yH hstop hgm
   rw[←K5.out] at yH hstop LL
   unfold kc at yH hstop hgm LL hdk
   have hs1:=xR hgm
   have hs2:=xR LL
   have hml:m<wr.heap.size:=hm.lt
   clear hB2 yI hm hm2 hga
   by_cases ho1:18446744073709551615-gm<dk.2
   ·have Mi:decide (18446744073709551615-gm<dk.2)=true:=decide_eq_true ho1
    obtain rfl:E=25:=hstop al
    go_wp2_with fail
    rw[←HA.out,←HX.out]
    clear hlm k0
    refine bL 20 78 [] rfl rfl am am am ?_ ?_
    ·intro x hx φ he
     cases hx
    intro ops' A' K' T hops hA' hK hT
    refine bQ 24 (.tmp 7) (((x:Nat):Value)) (.pointer (some ⟨x,1,none⟩)) ?_
    refine bI 25 (.tmp 24) (.pointer (some ⟨x,1,none⟩)) (ae ah (dk.2:Int)) (fun ρ h1 kk w1 (hg:Grow _ w1) hb hf=>by have c:=hBd.grow hg |>.cell 1;go_simp) ?_
    refine bP 26 (ae ah (gm:Int)) ?_
    refine cm 27 (.const (ae ah 18446744073709551615)) (.tmp 26) (ae ah 18446744073709551615) (ae ah (gm:Int)) (ae ah ((18446744073709551615-gm:Nat):Int)) (fun ρ h1 h2 kk w1 (hg:Grow _ w1) hb hf=>by go_simp) ?_
    refine cm 28 (.tmp 25) (.tmp 27) (ae ah (dk.2:Int)) (ae ah ((18446744073709551615-gm:Nat):Int)) (.bool true) (fun ρ h1 h2 kk w1 (hg:Grow _ w1) hb hf=>by go_simp) ?_
    refine bP 29 (.bool true) ?_
    refine bU 30 (cx hops 5 false 29 true) ?_
    refine bU 31 (cx hops 5 false 29 true) ?_
    refine bU 32 (cx hops 5 false 29 true) ?_
    refine bU 33 (cx hops 5 false 29 true) ?_
    refine bU 34 (cx hops 5 false 29 true) ?_
    refine bU 35 (cx hops 5 false 29 true) ?_
    refine bU 36 (cx hops 5 false 29 true) ?_
    refine bU 37 (cx hops 5 false 29 true) ?_
    refine bU 38 (cx hops 5 false 29 true) ?_
    refine bU 39 (cx hops 5 false 29 true) ?_
    refine bU 40 (cx hops 5 false 29 true) ?_
    refine bU 41 (cx hops 5 false 29 true) ?_
    refine bU 42 (cx hops 5 false 29 true) ?_
    refine cG 43 true (.bool true) ?_
    refine ce (fun _ _ w1 (hg:Grow _ w1) _ bR=>hT _ _ ?_)
    clear hops hA' hK hT
    simp only[cj,Act.put,aw,ay,az,ax,aB]
    clear bR hlq
    go_wp2_with fail
    go_ret
    exact⟨rfl,cL mR hg mR.size⟩
   ·have Mi:decide (18446744073709551615-gm<dk.2)=false:=decide_eq_false ho1
    have hs3:=EI (show gm+dk.2≤18446744073709551615 by omega)
    by_cases ho2:18446744073709551615-gq<gm+dk.2
    ·have Mj:decide (18446744073709551615-gq<gm+dk.2)=true:=decide_eq_true ho2
     obtain rfl:E=25:=hstop al
     go_wp2_with fail
     rw[←HA.out,←HX.out]
     clear hlm k0
     refine bL 20 78 [] rfl rfl am am am ?_ ?_
     ·intro x hx φ he
      cases hx
     intro ops' A' K' T hops hA' hK hT
     refine bQ 24 (.tmp 7) (((x:Nat):Value)) (.pointer (some ⟨x,1,none⟩)) ?_
     refine bI 25 (.tmp 24) (.pointer (some ⟨x,1,none⟩)) (ae ah (dk.2:Int)) (fun ρ h1 kk w1 (hg:Grow _ w1) hb hf=>by have c:=hBd.grow hg |>.cell 1;go_simp) ?_
     refine bP 26 (ae ah (gm:Int)) ?_
     refine cm 27 (.const (ae ah 18446744073709551615)) (.tmp 26) (ae ah 18446744073709551615) (ae ah (gm:Int)) (ae ah ((18446744073709551615-gm:Nat):Int)) (fun ρ h1 h2 kk w1 (hg:Grow _ w1) hb hf=>by go_simp) ?_
     refine cm 28 (.tmp 25) (.tmp 27) (ae ah (dk.2:Int)) (ae ah ((18446744073709551615-gm:Nat):Int)) (.bool false) (fun ρ h1 h2 kk w1 (hg:Grow _ w1) hb hf=>by go_simp) ?_
     refine bP 29 (.bool false) ?_
     refine da 30 (cx hops 5 false 29 false) (ae ah (gm:Int)) ?_
     refine bX 31 (cx hops 5 false 29 false) (.tmp 7) (((x:Nat):Value)) (.pointer (some ⟨x,1,none⟩)) (fun ρ h1 kk w1 (hg:Grow _ w1) hb hf=>by go_simp) ?_
     refine bX 32 (cx hops 5 false 29 false) (.tmp 31) (.pointer (some ⟨x,1,none⟩)) (ae ah (dk.2:Int)) (fun ρ h1 kk w1 (hg:Grow _ w1) hb hf=>by have c:=hBd.grow hg |>.cell 1;go_simp) ?_
     refine dc 33 (cx hops 5 false 29 false) (.tmp 30) (.tmp 32) (ae ah (gm:Int)) (ae ah (dk.2:Int)) (ae ah ((gm+dk.2:Nat):Int)) (fun ρ h1 h2 kk w1 (hg:Grow _ w1) hb hf=>by go_simp) ?_
     refine da 34 (cx hops 5 false 29 false) (((s:Nat):Value)) ?_
     refine bX 35 (cx hops 5 false 29 false) (.tmp 34) (((s:Nat):Value)) (((s:Nat):Value)) (fun ρ h1 kk w1 (hg:Grow _ w1) hb hf=>by go_simp) ?_
     refine bX 36 (cx hops 5 false 29 false) (.tmp 35) (((s:Nat):Value)) (((s:Nat):Value)) (fun ρ h1 kk w1 (hg:Grow _ w1) hb hf=>by go_simp) ?_
     refine bX 37 (cx hops 5 false 29 false) (.tmp 36) (((s:Nat):Value)) (.map (some b)) (fun ρ h1 kk w1 (hg:Grow _ w1) hb hf=>by have c:=hB.grow hg |>.cell 0;go_simp) ?_
     refine bX 38 (cx hops 5 false 29 false) (.tmp 7) (((x:Nat):Value)) (((x:Nat):Value)) (fun ρ h1 kk w1 (hg:Grow _ w1) hb hf=>by go_simp) ?_
     refine bX 39 (cx hops 5 false 29 false) (.tmp 38) (((x:Nat):Value)) (.string dk.1) (fun ρ h1 kk w1 (hg:Grow _ w1) hb hf=>by have c:=hBd.grow hg |>.cell 0;go_simp) ?_
     refine dc 40 (cx hops 5 false 29 false) (.tmp 37) (.tmp 39) (.map (some b)) (.string dk.1) (ae ah (gq:Int)) (fun ρ h1 h2 kk w1 (hg:Grow _ w1) hb hf=>by have hl:=hlq w1 hg;go_simp) ?_
     refine dc 41 (cx hops 5 false 29 false) (.const (ae ah 18446744073709551615)) (.tmp 40) (ae ah 18446744073709551615) (ae ah (gq:Int)) (ae ah ((18446744073709551615-gq:Nat):Int)) (fun ρ h1 h2 kk w1 (hg:Grow _ w1) hb hf=>by go_simp) ?_
     refine dc 42 (cx hops 5 false 29 false) (.tmp 33) (.tmp 41) (ae ah ((gm+dk.2:Nat):Int)) (ae ah ((18446744073709551615-gq:Nat):Int)) (.bool true) (fun ρ h1 h2 kk w1 (hg:Grow _ w1) hb hf=>by go_simp;try omega) ?_
     refine cG 43 false (.bool true) ?_
     refine ce (fun _ _ w1 (hg:Grow _ w1) _ bR=>hT _ _ ?_)
     clear hops hA' hK hT
     simp only[cj,Act.put,aw,ay,az,ax,aB]
     clear bR hlq
     go_wp2_with fail
     go_ret
     exact⟨rfl,cL mR hg mR.size⟩
    ·have Mj:decide (18446744073709551615-gq<gm+dk.2)=false:=decide_eq_false ho2
     rw[decide_eq_true (show gm+dk.2+gq≤18446744073709551615 by omega),hok] at yH
     go_wp2_with fail
     rw[←HA.out,←HX.out]
     clear hlm k0
     refine bL 20 78 [] rfl rfl am am am ?_ ?_
     ·intro x hx φ he
      cases hx
     intro ops' A' K' T hops hA' hK hT
     refine bQ 24 (.tmp 7) (((x:Nat):Value)) (.pointer (some ⟨x,1,none⟩)) ?_
     refine bI 25 (.tmp 24) (.pointer (some ⟨x,1,none⟩)) (ae ah (dk.2:Int)) (fun ρ h1 kk w1 (hg:Grow _ w1) hb hf=>by have c:=hBd.grow hg |>.cell 1;go_simp) ?_
     refine bP 26 (ae ah (gm:Int)) ?_
     refine cm 27 (.const (ae ah 18446744073709551615)) (.tmp 26) (ae ah 18446744073709551615) (ae ah (gm:Int)) (ae ah ((18446744073709551615-gm:Nat):Int)) (fun ρ h1 h2 kk w1 (hg:Grow _ w1) hb hf=>by go_simp) ?_
     refine cm 28 (.tmp 25) (.tmp 27) (ae ah (dk.2:Int)) (ae ah ((18446744073709551615-gm:Nat):Int)) (.bool false) (fun ρ h1 h2 kk w1 (hg:Grow _ w1) hb hf=>by go_simp) ?_
     refine bP 29 (.bool false) ?_
     refine da 30 (cx hops 5 false 29 false) (ae ah (gm:Int)) ?_
     refine bX 31 (cx hops 5 false 29 false) (.tmp 7) (((x:Nat):Value)) (.pointer (some ⟨x,1,none⟩)) (fun ρ h1 kk w1 (hg:Grow _ w1) hb hf=>by go_simp) ?_
     refine bX 32 (cx hops 5 false 29 false) (.tmp 31) (.pointer (some ⟨x,1,none⟩)) (ae ah (dk.2:Int)) (fun ρ h1 kk w1 (hg:Grow _ w1) hb hf=>by have c:=hBd.grow hg |>.cell 1;go_simp) ?_
     refine dc 33 (cx hops 5 false 29 false) (.tmp 30) (.tmp 32) (ae ah (gm:Int)) (ae ah (dk.2:Int)) (ae ah ((gm+dk.2:Nat):Int)) (fun ρ h1 h2 kk w1 (hg:Grow _ w1) hb hf=>by go_simp) ?_
     refine da 34 (cx hops 5 false 29 false) (((s:Nat):Value)) ?_
     refine bX 35 (cx hops 5 false 29 false) (.tmp 34) (((s:Nat):Value)) (((s:Nat):Value)) (fun ρ h1 kk w1 (hg:Grow _ w1) hb hf=>by go_simp) ?_
     refine bX 36 (cx hops 5 false 29 false) (.tmp 35) (((s:Nat):Value)) (((s:Nat):Value)) (fun ρ h1 kk w1 (hg:Grow _ w1) hb hf=>by go_simp) ?_
     refine bX 37 (cx hops 5 false 29 false) (.tmp 36) (((s:Nat):Value)) (.map (some b)) (fun ρ h1 kk w1 (hg:Grow _ w1) hb hf=>by have c:=hB.grow hg |>.cell 0;go_simp) ?_
     refine bX 38 (cx hops 5 false 29 false) (.tmp 7) (((x:Nat):Value)) (((x:Nat):Value)) (fun ρ h1 kk w1 (hg:Grow _ w1) hb hf=>by go_simp) ?_
     refine bX 39 (cx hops 5 false 29 false) (.tmp 38) (((x:Nat):Value)) (.string dk.1) (fun ρ h1 kk w1 (hg:Grow _ w1) hb hf=>by have c:=hBd.grow hg |>.cell 0;go_simp) ?_
     refine dc 40 (cx hops 5 false 29 false) (.tmp 37) (.tmp 39) (.map (some b)) (.string dk.1) (ae ah (gq:Int)) (fun ρ h1 h2 kk w1 (hg:Grow _ w1) hb hf=>by have hl:=hlq w1 hg;go_simp) ?_
     refine dc 41 (cx hops 5 false 29 false) (.const (ae ah 18446744073709551615)) (.tmp 40) (ae ah 18446744073709551615) (ae ah (gq:Int)) (ae ah ((18446744073709551615-gq:Nat):Int)) (fun ρ h1 h2 kk w1 (hg:Grow _ w1) hb hf=>by go_simp) ?_
     refine dc 42 (cx hops 5 false 29 false) (.tmp 33) (.tmp 41) (ae ah ((gm+dk.2:Nat):Int)) (ae ah ((18446744073709551615-gq:Nat):Int)) (.bool false) (fun ρ h1 h2 kk w1 (hg:Grow _ w1) hb hf=>by go_simp;try omega) ?_
     refine cG 43 false (.bool false) ?_
     refine ce (fun _ _ w1 (hg:Grow _ w1) _ bR=>hT _ _ ?_)
     clear hops hA' hK hT
     simp only[cj,Act.put,aw,ay,az,ax,aB]
     clear bR hlq
     obtain⟨w5,hput,K6,dY⟩:=tf (hma.grow hg) hdk.1 (show gm+dk.2≤kc by unfold kc;omega) (by unfold maxLen;omega)
     have k0:=(hBd.grow hg).cell 0
     have k1:=(hBd.grow hg).cell 1
     rw[←hnext] at K6
     rw[Int.natCast_add] at hput
     have hg5:Grow w w5:=Below.trans (cL mR hg mR.size) (dY.below (B:=w.heap.size) (fun b hb=>by rw[hb,HM.out];exact aC _) (aH mR.size hg.size))
     clear hma dY hBd hB hg
     go_wp2_with fail
     go_roundw
     case rel=>exact⟨k+1,by omega,by go_num,yH,K6,hg5⟩
     case measure=>simp[intOf];omega
  ·obtain rfl:k=n:=by omega
   have hkt:decide ((k:Int)<(k:Int))=false:=decide_eq_false al
   rw[aN al] at hok hm hrt
   have hlen:=fun ty=>SMap.len (hM0.grow hgw) EH ty
   have c0:=hB.cell 0
   obtain⟨w2,hrun,⟨left,hsr,hleft⟩,hg2,hsz2⟩:=SMap.range EH hm
   have hmo:(add [] l).length≤1048576:=by
    have:=oe l []
    simp only[bu] at this
    omega
   have hE:E=if q.length+news q (add [] l) > 16 then 24 else 0:=by rw[HE.out];unfold i3;rw[if_pos hok]
   obtain⟨mo,Q8⟩:∃ mo,Hid (mo=add [] l):=⟨_,rfl⟩
   rw[←Q8.out] at hsr hleft hrt hE hmo
   have hml:m<wr.heap.size:=hm.lt
   have nZ:=cL hgw hg2 hgw.size
   obtain⟨r,HR⟩:∃ r:Nat,Hid (r=wr.heap.size):=⟨_,rfl⟩
   have hrw:w.heap.size≤r:=by rw[HR.out];exact hgw.size
   clear hm hmm
   go_wp2_with fail
   rw[←HR.out] at hsr ⊢
   have hall:(mo.filter fun d=>(lk q d.1).isNone && !left d.1).length=0:=by
    rw[List.length_eq_zero_iff,List.filter_eq_nil_iff]
    intro d hd'
    have h1:(lk mo d.1).isSome=true:=by rw[vp hrt.nG hd'];rfl
    rw[hleft d.1 (hrt.txt d hd'),rO,h1]
    simp
   go_loopw [9] (fun nv wz=>∃ (left:ByteArray→Bool) (cnt:Nat),nv=ae af ((q.length+(mo.filter fun d=>(lk q d.1).isNone && !left d.1).length:Nat):Int)∧lF au 9 27 .u64 wz m r mo.length (fq mo) left cnt∧Grow w wz) (fun _ wz=>wz.rangeLeft m r)
   case atStart=>exact⟨left,_,by rw[hall];rfl,hsr,nZ⟩
   case round=>
    clear hsr hleft hall hg2 nZ hlen c0
    obtain⟨left,cnt,rfl,hsr,nZ⟩:=hrel
    have c0:=(hB0.grow nZ).cell 0
    rcases hsr.next EH 0 with ⟨h0,hl0,hrun⟩|⟨x,v,w3,cnt3,hxl,hlx,hfx,hwv,hrun,GZ,hlt,hj3,hen⟩
    ·have hnew:(mo.filter fun d=>(lk q d.1).isNone && !left d.1).length=news q mo:=by
      unfold news
      congr 1
      refine List.filter_congr fun d _=>?_
      rw[hl0];simp
     rw[hnew]
     generalize q.length+news q mo=T at hE
     by_cases hT:T > 16
     ·rw[if_pos hT] at hE
      subst hE
      have hT':decide ((16:Int)<(T:Int))=true:=decide_eq_true al
      go_wp2_with fail
      go_ret
      exact⟨rfl,nZ⟩
     ·rw[if_neg hT] at hE
      subst hE
      have hT':decide ((16:Int)<(T:Int))=false:=decide_eq_false al
      go_wp2_with fail
      go_ret
      exact⟨rfl,nZ⟩
    ·have K7:lk mo x=some v.toNat∨True := .inr trivial
     obtain⟨v',hv'⟩:∃ v',lk mo x=some v':=by
      unfold fq at hfx
      cases hl:lk mo x with
      | none=>rw[hl] at hfx;cases hfx
      | some v'=>exact⟨v',rfl⟩
     have hstep:=vv hrt.nG (p:=fun d=>(lk q d.1).isNone) hv' hlx
     dsimp only at hstep
     have hg3:Grow w w3:=Below.trans nZ (hj3.below (B:=w.heap.size) (fun b hb=>by rw[hb];exact hrw) nZ.size)
     have hbr:b≠r:=by have:=hM0.lt;omega
     have c3:=(hB0.grow hg3).cell 0
     have hlk:=SMap.look EH (hM0.grow hg3) x hxl
     rw[rO] at hlk
     have hcn:(mo.filter fun d=>(lk q d.1).isNone && !left d.1).length≤1048576:=aH (List.length_filter_le _ _) hmo
     have Gg:w3.rangeLeft m r<wr.rangeLeft m r:=by rw[GZ.left_eq,hsr.left_eq];exact hlt
     by_cases hin:(lk q x).isSome=true
     ·have hN:(lk q x).isNone=false:=by cases hq':lk q x with
       | none=>rw[hq'] at hin;cases hin
       | some _=>rfl
      rw[hN] at hstep
      rw[hin] at hlk
      simp only[Bool.false_eq_true,if_false,Nat.add_zero] at hstep
      clear hfx K7 hwv hv' hin hN nZ c0
      go_wp2_with fail
      go_roundw
      case rel=>exact⟨_,cnt3,by rw[hstep],GZ,hg3⟩
      case measure=>exact Gg
     ·have EK:(lk q x).isSome=false:=by simpa using hin
      have hN:(lk q x).isNone=true:=by cases hq':lk q x with
       | none=>rfl
       | some _=>rw[hq'] at EK;cases EK
      rw[hN] at hstep
      rw[EK] at hlk
      simp only[if_true] at hstep
      generalize (mo.filter fun d=>(lk q d.1).isNone && !left d.1).length=C at hstep hcn ⊢
      clear hfx K7 hwv hv' hin EK hN nZ c0
      go_wp2_with fail
      go_roundw
      case rel=>exact⟨_,cnt3,by rw[hstep];go_num,GZ,hg3⟩
      case measure=>exact Gg
def fP (q:Sm) (l:List Dl):Sm:=if i3 q l=0 then add q l else q
theorem EL {q:Sm} {l:List Dl} (h:i3 q l=0):eF q [] l=true:=by
 unfold i3 at h
 split at h
 ·assumption
 ·cases h
theorem EM {q:Sm} {l:List Dl} (h:eF q [] l=true) {k:Nat} (hk:k<l.length):gt (add q (l.take k)) l[k].1+l[k].2≤kc:=by
 have h1:=jI h (k+1)
 rw[aI hk,jH,aS,decide_eq_true_eq] at h1
 have h2:=h1.2
 rw[Bw] at h2 ⊢
 have:gt ([]:Sm) l[k].1=0:=rfl
 omega
theorem BD {q:Sm} {l:List Dl} (hq:Right q) (ht:∀ d∈l,d.1.size≤maxLen) (h:eF q [] l=true):Right (add q l):=by
 refine qH hq ht fun k hk x=>?_
 rw[Bw]
 have h1:=(Bz q (l.take k) []).1 (jI h k)
 by_cases he:∃ d∈l.take k,d.1=x
 ·obtain⟨d,hd,rfl⟩:=he
  have:=h1 d hd
  omega
 ·have h0:tot (l.take k) x=0:=by
   unfold tot
   have:(l.take k).filter (fun e=>decide (e.1=x))=[]:=List.filter_eq_nil_iff.2 fun e hel h=>he ⟨e,hel,of_decide_eq_true h⟩
   rw[this];rfl
  rw[h0]
  exact hq.gt x
theorem kV (w:World) (s:Nat) (q:Sm) (V:Nat→Prop) (h:ek s q w V) (hV:∀ b,V b→b<w.heap.size) (A:Option Addr) (n c:Nat) (l:List Dl) (D:Nat→Prop) (hl:In w D 2 A n (eE l)) (j5:∀ b,D b→¬ V b) (hd:∀ d∈l,d.1.size≤maxLen∧d.2≤kc) (hn:n≤1048576) (hq:q.length≤1048576) :
 Calls au 131 #[((s:Nat):Value),.slice A n c] w fun e w'=>e=.returned (ae af (i3 q l))∧ek s (fP q l) w' (Ext V w w')∧Just V w w':=by
 have hln:l.length=n:=by have:=hl.1;rw[lB] at this;omega
 have hm:=EJ w s q V h A n c l D hl hd hn hq
 have hS1:=fun w1 (hg:Grow w w1)=>ek.framed s q w w1 V h fun b hb=>hg.block b (hV b hb)
 obtain⟨h1,h2,b,h3,h4,hB0,hM0⟩:=h
 have Mk:∀ (vs:Array Value) (w:World),(callFunc 158 vs).run au w=.ok (.enter 158 vs) w:=fun vs w=>by go_simp
 obtain⟨E,HE⟩:∃ E:Int,Hid (E=i3 q l):=⟨_,rfl⟩
 have hE0:E=0→fP q l=add q l:=fun h=>by unfold fP;rw[←HE.out,if_pos h]
 have hE1:E≠0→fP q l=q:=fun h=>by unfold fP;rw[←HE.out,if_neg h]
 rw[←HE.out] at hm ⊢
 by_cases he:E=0
 ·have hok:=EL (HE.out.symm.trans he)
  rw[hE0 he]
  subst he
  go_enter Tryz.func131,Tryz.ntmps131
  go_wp2_with fail
  refine hm.mono ?_
  rintro e w1 ⟨rfl,hg1⟩
  clear hm hS1 hE0 hE1
  have hl1:=hl.grow hg1
  have hM1:=hM0.grow hg1
  have hB1:=hB0.grow hg1
  have hbl:=hM0.lt
  have hg1s:=hg1.size
  go_wp2_with fail
  go_loopw [16] (fun i wr=>∃ k:Nat,k≤n∧i=ae af (k:Int)∧td wr b (add q (l.take k))∧Just (fun c=>c=b) w1 wr) (fun i _=>n-(intOf i).toNat)
  case atStart=>exact⟨0,by omega,rfl,hM1,Just.bJ (Grow.refl _)⟩
  case round=>
   clear hM1
   obtain⟨k,hkn,rfl,hM,hj⟩:=hrel
   have hlr:In wr D 2 A n (eE l):=hl1.just hj fun c hc e=>j5 c hc (by rw[e];exact h3)
   have hBr:=hj.blk hB1 (fun e=>h4 e.symm)
   by_cases hk:k<n
   ·have hkt:decide ((k:Int)<(n:Int))=true:=decide_eq_true al
    obtain⟨ad,hqk,rfl,he0,he1⟩:=BB hlr hk
    have hdk:=hd _ (aO hqk)
    have hnext:add q (l.take (k+1))=put (add q (l.take k)) l[k].1 (gt (add q (l.take k)) l[k].1+l[k].2):=by rw[aI hqk,add_one]
    have hfit:=EM hok hqk
    have hlen:(add q (l.take k)).length<maxLen:=by
     have:=oe (l.take k) q
     rw[aK] at this
     unfold maxLen
     omega
    generalize l[k]=dk at he0 he1 hdk hnext hfit
    have f0:=he0 _ (Grow.refl _)
    have f1:=he1 _ (Grow.refl _)
    have hga:Grow wr (wr.alloc (.cells #[.string dk.1,ae ah (dk.2:Int)] 29)):=(Below.refl _ wr).alloc (aC _) _
    have yI:=ct.made wr 29 #[.string dk.1,ae ah (dk.2:Int)]
    obtain⟨wa,HA⟩:∃ wa:World,Hid (wa=wr.alloc (.cells #[.string dk.1,ae ah (dk.2:Int)] 29)):=⟨_,rfl⟩
    obtain⟨x,HX⟩:∃ x:Nat,Hid (x=wr.heap.size):=⟨_,rfl⟩
    have mR:Grow wr wa:=HA.out▸hga
    have hBd:ct wa x 29 #[.string dk.1,ae ah (dk.2:Int)]:=by rw[HA.out,HX.out];exact yI
    have hBw:=hBr.grow mR
    have Jw:=hM.grow mR
    obtain⟨gq,K5⟩:∃ gq:Nat,Hid (gq=gt (add q (l.take k)) dk.1):=⟨_,rfl⟩
    rw[←K5.out] at hnext hfit
    have hlq:∀ w1,Grow wa w1→(Instr.lookup 213 (.map (some b)) (.string dk.1) false).run au w1=.ok (ae ah (gq:Int)) w1:=fun w1 hg=>by
     have:=SMap.xQ EH (Jw.grow hg) dk.1 hdk.1
     rwa [rN,←K5.out] at this
    have hadd:∀ w1:World,Calls au 158 #[ae ah (gq:Int),ae ah (dk.2:Int)] w1 fun e w'=>e=.returned (ae ah ((gq+dk.2:Nat):Int))∧w1=w':=fun w1=>by
     have:=Bv w1 gq dk.2 al al
     rwa [if_pos hfit] at this
    clear hga yI hM
    go_wp2_with fail
    rw[←HA.out,←HX.out]
    refine bL 16 37 [(15,.inl (ae ah ((gq+dk.2:Nat):Int)))] rfl rfl am am am ?_ ?_
    ·intro x hx φ he
     simp only[aF,aE,or_false] at hx
     rcases hx with rfl<;>cases he
    intro ops' A' K' T hops hA' hK hT
    refine bP 20 (((s:Nat):Value)) ?_
    refine bQ 21 (.tmp 20) (((s:Nat):Value)) (((s:Nat):Value)) ?_
    refine bQ 22 (.tmp 21) (((s:Nat):Value)) (((s:Nat):Value)) ?_
    refine bI 23 (.tmp 22) (((s:Nat):Value)) (.map (some b)) (fun ρ h1 kk w1 (hg:Grow _ w1) hb hf=>by have c:=(hBw.grow hg).cell 0;go_simp) ?_
    refine bQ 24 (.tmp 7) (((x:Nat):Value)) (((x:Nat):Value)) ?_
    refine bI 25 (.tmp 24) (((x:Nat):Value)) (.string dk.1) (fun ρ h1 kk w1 (hg:Grow _ w1) hb hf=>by have c:=(hBd.grow hg).cell 0;go_simp) ?_
    refine bP 26 (((s:Nat):Value)) ?_
    refine bQ 27 (.tmp 26) (((s:Nat):Value)) (((s:Nat):Value)) ?_
    refine bQ 28 (.tmp 27) (((s:Nat):Value)) (((s:Nat):Value)) ?_
    refine bI 29 (.tmp 28) (((s:Nat):Value)) (.map (some b)) (fun ρ h1 kk w1 (hg:Grow _ w1) hb hf=>by have c:=(hBw.grow hg).cell 0;go_simp) ?_
    refine bQ 30 (.tmp 7) (((x:Nat):Value)) (((x:Nat):Value)) ?_
    refine bI 31 (.tmp 30) (((x:Nat):Value)) (.string dk.1) (fun ρ h1 kk w1 (hg:Grow _ w1) hb hf=>by have c:=(hBd.grow hg).cell 0;go_simp) ?_
    refine cm 32 (.tmp 29) (.tmp 31) (.map (some b)) (.string dk.1) (ae ah (gq:Int)) (fun ρ h1 h2 kk w1 (hg:Grow _ w1) hb hf=>by have hl:=hlq w1 hg;go_simp) ?_
    refine bQ 33 (.tmp 7) (((x:Nat):Value)) (.pointer (some ⟨x,1,none⟩)) ?_
    refine bI 34 (.tmp 33) (.pointer (some ⟨x,1,none⟩)) (ae ah (dk.2:Int)) (fun ρ h1 kk w1 (hg:Grow _ w1) hb hf=>by have c:=(hBd.grow hg).cell 1;go_simp) ?_
    refine cC 35 aj ak (bO aj) (ae ah ((gq+dk.2:Nat):Int)) (by rw[hK.out];rfl) 158 _ _ aj [ae ah (gq:Int),ae ah (dk.2:Int)] aj Mk (fun kk w1 (hg:Grow _ w1) hb hf=>b_ aj (by exact db (hadd w1))) ?_
    refine ce (fun _ _ w1 (hg:Grow _ w1) _ bR=>hT _ _ ?_)
    clear hops hA' hK hT
    simp only[cj,Act.put,aw,ay,az,ax,aB]
    clear bR hlq hadd
    obtain⟨w5,hput,K6,dY⟩:=tf (Jw.grow hg) hdk.1 hfit hlen
    rw[←hnext] at K6
    rw[Int.natCast_add] at hput
    have hjj:=hj.trans ((Just.bJ (V:=fun c=>c=b) (mR.trans hg)).trans dY)
    go_wp2_with fail
    go_roundw
    case rel=>exact⟨k+1,by omega,by go_num,K6,hjj⟩
    case measure=>simp[intOf];omega
   ·obtain rfl:k=n:=by omega
    have hkt:decide ((k:Int)<(k:Int))=false:=decide_eq_false al
    rw[aN al] at hM
    go_wp2_with fail
    go_ret
    have hs:=hj.size
    exact⟨rfl,⟨.inl h1,BD h2 (fun d hd'=>(hd d hd').1) hok,b,.inl h3,h4,hBr,hM⟩,(Just.bJ hg1).trans (hj.imp fun c hc=>by rw[hc];exact h3)⟩
 ·rw[hE1 he]
  have heb:(E != 0)=true:=by simpa using he
  go_enter Tryz.func131,Tryz.ntmps131
  go_wp2_with fail
  refine hm.mono ?_
  rintro e w1 ⟨rfl,hg1⟩
  have hS:=hS1 w1 hg1
  clear hm hE0 hE1 hS1
  go_wp2_with fail
  go_ret
  exact⟨rfl,hS.wide fun b hb => .inl hb,Just.bJ hg1⟩
end Go.Proofs.YtmijcbfgfkeodaaGreatDoor.K
end
section
namespace Go.Proofs.YtmijcbfgfkeodaaGreatDoor
open Go.RowKit Go.Hop
theorem within_any (w:World) (n lo hi:Int) (hn:-9223372036854775808≤n∧n≤9223372036854775807) (h0:-4000000000≤lo) (h1:lo≤hi) (h2:hi≤4000000000) :
 Calls au 11 #[ae af n,ae af lo,ae af hi] w fun e w'=>∃ m:Int,lo≤m∧m≤hi∧e=.returned (ae af m)∧w=w':=by
 by_cases ha:lo≤n
 ·by_cases hb:n≤hi
  ·go_enter Tryz.func11,Tryz.ntmps11
   go_wp2_with fail
   go_ret
   exact⟨n,ha,hb,rfl,rfl⟩
  ·skip
   have hp:=Int.emod_nonneg n (show hi-lo+1≠0 by omega)
   have hl:=Int.emod_lt_of_pos n (show 0<hi-lo+1 by omega)
   have q1:=Int.tmod_lt_of_pos n (show 0<hi-lo+1 by omega)
   have q2:=Int.lt_tmod_of_pos n (show 0<hi-lo+1 by omega)
   go_enter Tryz.func11,Tryz.ntmps11
   go_wp2_with fail
   all_goals
    go_ret
    refine⟨_,?_,?_,rfl,rfl⟩<;>(try unfold wrap64)<;>omega
 ·skip
  have hp:=Int.emod_nonneg n (show hi-lo+1≠0 by omega)
  have hl:=Int.emod_lt_of_pos n (show 0<hi-lo+1 by omega)
  have q1:=Int.tmod_lt_of_pos n (show 0<hi-lo+1 by omega)
  have q2:=Int.lt_tmod_of_pos n (show 0<hi-lo+1 by omega)
  go_enter Tryz.func11,Tryz.ntmps11
  go_wp2_with fail
  all_goals
   go_ret
   refine⟨_,?_,?_,rfl,rfl⟩<;>(try unfold wrap64)<;>omega
def jJ (n lo hi:Int):Int:=if lo≤n∧n≤hi then n else lo+n % (hi-lo+1)
theorem vw {n lo hi:Int} (h1:lo≤hi):lo≤jJ n lo hi∧jJ n lo hi≤hi:=by
 unfold jJ
 have hp:=Int.emod_nonneg n (show hi-lo+1≠0 by omega)
 have hl:=Int.emod_lt_of_pos n (show 0<hi-lo+1 by omega)
 split<;>omega
theorem yJ (w:World) (n lo hi:Int) (hn:-9223372036854775808≤n∧n≤9223372036854775807) (h0:-4000000000≤lo) (h1:lo≤hi) (h2:hi≤4000000000) :
 Calls au 11 #[ae af n,ae af lo,ae af hi] w fun e w'=>e=.returned (ae af (jJ n lo hi))∧w=w':=by
 unfold jJ
 by_cases hi':lo≤n∧n≤hi
 ·rw[if_pos hi']
  obtain⟨ha,hb⟩:=hi'
  go_enter Tryz.func11,Tryz.ntmps11
  go_wp2_with fail
  go_ret
  exact⟨rfl,rfl⟩
 ·rw[if_neg hi']
  have hp:=Int.emod_nonneg n (show hi-lo+1≠0 by omega)
  have hl:=Int.emod_lt_of_pos n (show 0<hi-lo+1 by omega)
  have q1:=Int.tmod_lt_of_pos n (show 0<hi-lo+1 by omega)
  have q2:=Int.lt_tmod_of_pos n (show 0<hi-lo+1 by omega)
  have hr:n.tmod (hi-lo+1)=n % (hi-lo+1)∨n.tmod (hi-lo+1)=n % (hi-lo+1)-(hi-lo+1):=by
   rw[Int.tmod_eq_emod]
   split<;>omega
  have HR:=Lib.hid hr
  have HP:=Lib.hid hp
  have HL:=Lib.hid hl
  clear hr hp hl
  by_cases ha:lo≤n
  ·have hb:hi<n:=by omega
   clear hi'
   go_enter Tryz.func11,Tryz.ntmps11
   go_wp2_with fail
   all_goals
    go_ret
    refine⟨gu ?_,rfl⟩
    have:=HR.out
    have:=HP.out
    have:=HL.out
    (try unfold wrap64)
    omega
  ·clear hi'
   go_enter Tryz.func11,Tryz.ntmps11
   go_wp2_with fail
   all_goals
    go_ret
    refine⟨gu ?_,rfl⟩
    have:=HR.out
    have:=HP.out
    have:=HL.out
    (try unfold wrap64)
    omega
end Go.Proofs.YtmijcbfgfkeodaaGreatDoor
end
