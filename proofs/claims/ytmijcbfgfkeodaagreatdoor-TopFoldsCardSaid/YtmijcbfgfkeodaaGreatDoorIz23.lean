/- Qadd1. -/
import Derived.Test.YtmijcbfgfkeodaaGreatDoorIz22
set_option linter.all false
set_option maxRecDepth 100000
open Go.Value renaming int → ae,slice → ai
open Go.IntKind renaming i64 → af,u64 → ah
open Go.Proofs.Tryz renaming prog → au
open List renaming setIfInBounds_toArray → aw,drop_succ_cons → ax,set_cons_zero → ay,set_cons_succ → az,drop_zero → aB,length_map → aP
open Nat renaming le_refl → aC
section
namespace Go.Proofs.YtmijcbfgfkeodaaGreatDoor.Q
open Go.RowKit Go.Hop
theorem KG (w:World) (g:Nat) (l:List Ab) (last seq:Int) (A:Option Addr) (m c:Nat) (h1:seq<1) :
 Turns au 222 #[((g:Nat):Value),.agg #[ae af seq,.slice A m c]] (fun e=>e=.returned (ae af 1)) (ck g l last) (ck g l last) w:=by
 intro V hQ hV
 have hQ':=hQ
 obtain⟨h1,v,q,R,D,gS,h3,hB,i6,h6,h7,h8⟩:=hQ
 obtain⟨A0,c0,rfl,hI,hnc,hm0⟩:=i6.fw
 have hga:Grow w (w.alloc (.cells #[ae af seq,.slice A m c] 159)):=(Below.refl w.heap.size w).alloc (aC _) _
 have gl:=ct.made w 159 #[ae af seq,.slice A m c]
 obtain⟨x,HX⟩:∃ x:Nat,Hid (x=w.heap.size):=⟨_,rfl⟩
 obtain⟨wa,HA⟩:∃ wa:World,Hid (wa=w.alloc (.cells #[ae af seq,.slice A m c] 159)):=⟨_,rfl⟩
 have hsa:wa.heap.size=x+1:=by rw[HA.out,HX.out];simp
 have JM:=Lib.hid hsa
 clear hsa
 rw[←HA.out] at hga
 have hBx:ct wa x 159 #[ae af seq,.slice A m c]:=by rw[HA.out,HX.out];exact gl
 clear gl
 have ou:=hB.grow hga
 go_enter Tryz.func222,Tryz.ntmps222
 go_wp2_with fail
 rw[←HA.out,←HX.out]
 refine bL 25 53 [] rfl rfl am am am ?_ ?_
 ·intro x hx φ he
  cases hx
 intro ops' A' K' T hops hA' hK hT
 refine bQ 6 (.tmp 3) (((x:Nat):Value)) (((x:Nat):Value)) ?_
 refine bI 7 (.tmp 6) (((x:Nat):Value)) (ae af seq) (fun ρ h1 kk w1 (hg:Grow _ w1) hb hf=>by have c:=(hBx.grow hg).cell 0;go_simp) ?_
 refine cm 8 (.tmp 7) (.const (ae af 1)) (ae af seq) (ae af 1) (.bool true) (fun ρ h1 h2 kk w1 (hg:Grow _ w1) hb hf=>by first|(go_simp;done)|(go_simp;omega)) ?_
 refine bP 9 (.bool true) ?_
 refine bU 10 (cx hops 3 false 9 true) ?_
 refine bU 11 (cx hops 3 false 9 true) ?_
 refine bU 12 (cx hops 3 false 9 true) ?_
 refine bU 13 (cx hops 3 false 9 true) ?_
 refine bU 14 (cx hops 3 false 9 true) ?_
 refine bU 15 (cx hops 3 false 9 true) ?_
 refine bU 16 (cx hops 3 false 9 true) ?_
 refine cG 17 true (.bool true) ?_
 refine bP 18 (.bool true) ?_
 refine bU 19 (cx hops 12 false 18 true) ?_
 refine bU 20 (cx hops 12 false 18 true) ?_
 refine bU 21 (cx hops 12 false 18 true) ?_
 refine bU 22 (cx hops 12 false 18 true) ?_
 refine cG 23 true (.bool true) ?_
 refine bP 24 (.bool true) ?_
 refine bU 25 (cx hops 18 false 24 true) ?_
 refine bU 26 (cx hops 18 false 24 true) ?_
 refine bU 27 (cx hops 18 false 24 true) ?_
 refine bU 28 (cx hops 18 false 24 true) ?_
 refine cG 29 true (.bool true) ?_
 refine bP 5 (.bool true) ?_
 refine ce (fun _ _ w1 (hg:Grow _ w1) _ bR=>hT _ _ ?_)
 clear hops hA' hK hT
 simp only[cj,Act.put,aw,ay,az,ax,aB]
 go_wp2_with fail
 go_ret
 exact⟨rfl,ck.wide (ck.framed _ _ _ w w1 V hQ' fun b hb=>(hga.trans hg).block b (hV b hb)) (fun _ => .inl),Just.bJ (hga.trans hg)⟩
theorem KH (w:World) (g:Nat) (l:List Ab) (last seq:Int) (A:Option Addr) (m c:Nat) (h1:¬ seq<1) (h2:seq≤last) :
 Turns au 222 #[((g:Nat):Value),.agg #[ae af seq,.slice A m c]] (fun e=>e=.returned (ae af 1)) (ck g l last) (ck g l last) w:=by
 intro V hQ hV
 have hQ':=hQ
 obtain⟨h1,v,q,R,D,gS,h3,hB,i6,h6,h7,h8⟩:=hQ
 obtain⟨A0,c0,rfl,hI,hnc,hm0⟩:=i6.fw
 have hga:Grow w (w.alloc (.cells #[ae af seq,.slice A m c] 159)):=(Below.refl w.heap.size w).alloc (aC _) _
 have gl:=ct.made w 159 #[ae af seq,.slice A m c]
 obtain⟨x,HX⟩:∃ x:Nat,Hid (x=w.heap.size):=⟨_,rfl⟩
 obtain⟨wa,HA⟩:∃ wa:World,Hid (wa=w.alloc (.cells #[ae af seq,.slice A m c] 159)):=⟨_,rfl⟩
 have hsa:wa.heap.size=x+1:=by rw[HA.out,HX.out];simp
 have JM:=Lib.hid hsa
 clear hsa
 rw[←HA.out] at hga
 have hBx:ct wa x 159 #[ae af seq,.slice A m c]:=by rw[HA.out,HX.out];exact gl
 clear gl
 have ou:=hB.grow hga
 go_enter Tryz.func222,Tryz.ntmps222
 go_wp2_with fail
 rw[←HA.out,←HX.out]
 refine bL 25 53 [] rfl rfl am am am ?_ ?_
 ·intro x hx φ he
  cases hx
 intro ops' A' K' T hops hA' hK hT
 refine bQ 6 (.tmp 3) (((x:Nat):Value)) (((x:Nat):Value)) ?_
 refine bI 7 (.tmp 6) (((x:Nat):Value)) (ae af seq) (fun ρ h1 kk w1 (hg:Grow _ w1) hb hf=>by have c:=(hBx.grow hg).cell 0;go_simp) ?_
 refine cm 8 (.tmp 7) (.const (ae af 1)) (ae af seq) (ae af 1) (.bool false) (fun ρ h1 h2 kk w1 (hg:Grow _ w1) hb hf=>by first|(go_simp;done)|(go_simp;omega)) ?_
 refine bP 9 (.bool false) ?_
 refine bX 10 (cx hops 3 false 9 false) (.tmp 3) (((x:Nat):Value)) (((x:Nat):Value)) (fun ρ h1 kk w1 (hg:Grow _ w1) hb hf=>by go_simp) ?_
 refine bX 11 (cx hops 3 false 9 false) (.tmp 10) (((x:Nat):Value)) (ae af seq) (fun ρ h1 kk w1 (hg:Grow _ w1) hb hf=>by have c:=(hBx.grow hg).cell 0;go_simp) ?_
 refine da 12 (cx hops 3 false 9 false) (((g:Nat):Value)) ?_
 refine bX 13 (cx hops 3 false 9 false) (.tmp 12) (((g:Nat):Value)) (((g:Nat):Value)) (fun ρ h1 kk w1 (hg:Grow _ w1) hb hf=>by go_simp) ?_
 refine bX 14 (cx hops 3 false 9 false) (.tmp 13) (((g:Nat):Value)) (.pointer (some ⟨g,1,none⟩)) (fun ρ h1 kk w1 (hg:Grow _ w1) hb hf=>by go_simp) ?_
 refine bX 15 (cx hops 3 false 9 false) (.tmp 14) (.pointer (some ⟨g,1,none⟩)) (ae af last) (fun ρ h1 kk w1 (hg:Grow _ w1) hb hf=>by have c:=(ou.grow hg).cell 1;go_simp) ?_
 refine dc 16 (cx hops 3 false 9 false) (.tmp 11) (.tmp 15) (ae af seq) (ae af last) (.bool true) (fun ρ h1 h2 kk w1 (hg:Grow _ w1) hb hf=>by first|(go_simp;done)|(go_simp;omega)) ?_
 refine cG 17 false (.bool true) ?_
 refine bP 18 (.bool true) ?_
 refine bU 19 (cx hops 12 false 18 true) ?_
 refine bU 20 (cx hops 12 false 18 true) ?_
 refine bU 21 (cx hops 12 false 18 true) ?_
 refine bU 22 (cx hops 12 false 18 true) ?_
 refine cG 23 true (.bool true) ?_
 refine bP 24 (.bool true) ?_
 refine bU 25 (cx hops 18 false 24 true) ?_
 refine bU 26 (cx hops 18 false 24 true) ?_
 refine bU 27 (cx hops 18 false 24 true) ?_
 refine bU 28 (cx hops 18 false 24 true) ?_
 refine cG 29 true (.bool true) ?_
 refine bP 5 (.bool true) ?_
 refine ce (fun _ _ w1 (hg:Grow _ w1) _ bR=>hT _ _ ?_)
 clear hops hA' hK hT
 simp only[cj,Act.put,aw,ay,az,ax,aB]
 go_wp2_with fail
 go_ret
 exact⟨rfl,ck.wide (ck.framed _ _ _ w w1 V hQ' fun b hb=>(hga.trans hg).block b (hV b hb)) (fun _ => .inl),Just.bJ (hga.trans hg)⟩
theorem KI (w:World) (g:Nat) (l:List Ab) (last seq:Int) (A:Option Addr) (m c:Nat) (h1:¬ seq<1) (h2:¬ seq≤last) (h3:m≤0) :
 Turns au 222 #[((g:Nat):Value),.agg #[ae af seq,.slice A m c]] (fun e=>e=.returned (ae af 1)) (ck g l last) (ck g l last) w:=by
 intro V hQ hV
 have hQ':=hQ
 obtain⟨h1,v,q,R,D,gS,h3,hB,i6,h6,h7,h8⟩:=hQ
 obtain⟨A0,c0,rfl,hI,hnc,hm0⟩:=i6.fw
 have hga:Grow w (w.alloc (.cells #[ae af seq,.slice A m c] 159)):=(Below.refl w.heap.size w).alloc (aC _) _
 have gl:=ct.made w 159 #[ae af seq,.slice A m c]
 obtain⟨x,HX⟩:∃ x:Nat,Hid (x=w.heap.size):=⟨_,rfl⟩
 obtain⟨wa,HA⟩:∃ wa:World,Hid (wa=w.alloc (.cells #[ae af seq,.slice A m c] 159)):=⟨_,rfl⟩
 have hsa:wa.heap.size=x+1:=by rw[HA.out,HX.out];simp
 have JM:=Lib.hid hsa
 clear hsa
 rw[←HA.out] at hga
 have hBx:ct wa x 159 #[ae af seq,.slice A m c]:=by rw[HA.out,HX.out];exact gl
 clear gl
 have ou:=hB.grow hga
 go_enter Tryz.func222,Tryz.ntmps222
 go_wp2_with fail
 rw[←HA.out,←HX.out]
 refine bL 25 53 [] rfl rfl am am am ?_ ?_
 ·intro x hx φ he
  cases hx
 intro ops' A' K' T hops hA' hK hT
 refine bQ 6 (.tmp 3) (((x:Nat):Value)) (((x:Nat):Value)) ?_
 refine bI 7 (.tmp 6) (((x:Nat):Value)) (ae af seq) (fun ρ h1 kk w1 (hg:Grow _ w1) hb hf=>by have c:=(hBx.grow hg).cell 0;go_simp) ?_
 refine cm 8 (.tmp 7) (.const (ae af 1)) (ae af seq) (ae af 1) (.bool false) (fun ρ h1 h2 kk w1 (hg:Grow _ w1) hb hf=>by first|(go_simp;done)|(go_simp;omega)) ?_
 refine bP 9 (.bool false) ?_
 refine bX 10 (cx hops 3 false 9 false) (.tmp 3) (((x:Nat):Value)) (((x:Nat):Value)) (fun ρ h1 kk w1 (hg:Grow _ w1) hb hf=>by go_simp) ?_
 refine bX 11 (cx hops 3 false 9 false) (.tmp 10) (((x:Nat):Value)) (ae af seq) (fun ρ h1 kk w1 (hg:Grow _ w1) hb hf=>by have c:=(hBx.grow hg).cell 0;go_simp) ?_
 refine da 12 (cx hops 3 false 9 false) (((g:Nat):Value)) ?_
 refine bX 13 (cx hops 3 false 9 false) (.tmp 12) (((g:Nat):Value)) (((g:Nat):Value)) (fun ρ h1 kk w1 (hg:Grow _ w1) hb hf=>by go_simp) ?_
 refine bX 14 (cx hops 3 false 9 false) (.tmp 13) (((g:Nat):Value)) (.pointer (some ⟨g,1,none⟩)) (fun ρ h1 kk w1 (hg:Grow _ w1) hb hf=>by go_simp) ?_
 refine bX 15 (cx hops 3 false 9 false) (.tmp 14) (.pointer (some ⟨g,1,none⟩)) (ae af last) (fun ρ h1 kk w1 (hg:Grow _ w1) hb hf=>by have c:=(ou.grow hg).cell 1;go_simp) ?_
 refine dc 16 (cx hops 3 false 9 false) (.tmp 11) (.tmp 15) (ae af seq) (ae af last) (.bool false) (fun ρ h1 h2 kk w1 (hg:Grow _ w1) hb hf=>by first|(go_simp;done)|(go_simp;omega)) ?_
 refine cG 17 false (.bool false) ?_
 refine bP 18 (.bool false) ?_
 refine bX 19 (cx hops 12 false 18 false) (.tmp 3) (((x:Nat):Value)) (.pointer (some ⟨x,1,none⟩)) (fun ρ h1 kk w1 (hg:Grow _ w1) hb hf=>by go_simp) ?_
 refine bX 20 (cx hops 12 false 18 false) (.tmp 19) (.pointer (some ⟨x,1,none⟩)) (.slice A m c) (fun ρ h1 kk w1 (hg:Grow _ w1) hb hf=>by have c:=(hBx.grow hg).cell 1;go_simp) ?_
 refine bX 21 (cx hops 12 false 18 false) (.tmp 20) (.slice A m c) (ae af (m:Int)) (fun ρ h1 kk w1 (hg:Grow _ w1) hb hf=>by go_simp) ?_
 refine dc 22 (cx hops 12 false 18 false) (.tmp 21) (.const (ae af 0)) (ae af (m:Int)) (ae af 0) (.bool true) (fun ρ h1 h2 kk w1 (hg:Grow _ w1) hb hf=>by first|(go_simp;done)|(go_simp;omega)) ?_
 refine cG 23 false (.bool true) ?_
 refine bP 24 (.bool true) ?_
 refine bU 25 (cx hops 18 false 24 true) ?_
 refine bU 26 (cx hops 18 false 24 true) ?_
 refine bU 27 (cx hops 18 false 24 true) ?_
 refine bU 28 (cx hops 18 false 24 true) ?_
 refine cG 29 true (.bool true) ?_
 refine bP 5 (.bool true) ?_
 refine ce (fun _ _ w1 (hg:Grow _ w1) _ bR=>hT _ _ ?_)
 clear hops hA' hK hT
 simp only[cj,Act.put,aw,ay,az,ax,aB]
 go_wp2_with fail
 go_ret
 exact⟨rfl,ck.wide (ck.framed _ _ _ w w1 V hQ' fun b hb=>(hga.trans hg).block b (hV b hb)) (fun _ => .inl),Just.bJ (hga.trans hg)⟩
theorem KJ (w:World) (g:Nat) (l:List Ab) (last seq:Int) (A:Option Addr) (m c:Nat) (h1:¬ seq<1) (h2:¬ seq≤last) (h3:8<m) :
 Turns au 222 #[((g:Nat):Value),.agg #[ae af seq,.slice A m c]] (fun e=>e=.returned (ae af 1)) (ck g l last) (ck g l last) w:=by
 intro V hQ hV
 have hQ':=hQ
 obtain⟨h1,v,q,R,D,gS,h3,hB,i6,h6,h7,h8⟩:=hQ
 obtain⟨A0,c0,rfl,hI,hnc,hm0⟩:=i6.fw
 have hga:Grow w (w.alloc (.cells #[ae af seq,.slice A m c] 159)):=(Below.refl w.heap.size w).alloc (aC _) _
 have gl:=ct.made w 159 #[ae af seq,.slice A m c]
 obtain⟨x,HX⟩:∃ x:Nat,Hid (x=w.heap.size):=⟨_,rfl⟩
 obtain⟨wa,HA⟩:∃ wa:World,Hid (wa=w.alloc (.cells #[ae af seq,.slice A m c] 159)):=⟨_,rfl⟩
 have hsa:wa.heap.size=x+1:=by rw[HA.out,HX.out];simp
 have JM:=Lib.hid hsa
 clear hsa
 rw[←HA.out] at hga
 have hBx:ct wa x 159 #[ae af seq,.slice A m c]:=by rw[HA.out,HX.out];exact gl
 clear gl
 have ou:=hB.grow hga
 go_enter Tryz.func222,Tryz.ntmps222
 go_wp2_with fail
 rw[←HA.out,←HX.out]
 refine bL 25 53 [] rfl rfl am am am ?_ ?_
 ·intro x hx φ he
  cases hx
 intro ops' A' K' T hops hA' hK hT
 refine bQ 6 (.tmp 3) (((x:Nat):Value)) (((x:Nat):Value)) ?_
 refine bI 7 (.tmp 6) (((x:Nat):Value)) (ae af seq) (fun ρ h1 kk w1 (hg:Grow _ w1) hb hf=>by have c:=(hBx.grow hg).cell 0;go_simp) ?_
 refine cm 8 (.tmp 7) (.const (ae af 1)) (ae af seq) (ae af 1) (.bool false) (fun ρ h1 h2 kk w1 (hg:Grow _ w1) hb hf=>by first|(go_simp;done)|(go_simp;omega)) ?_
 refine bP 9 (.bool false) ?_
 refine bX 10 (cx hops 3 false 9 false) (.tmp 3) (((x:Nat):Value)) (((x:Nat):Value)) (fun ρ h1 kk w1 (hg:Grow _ w1) hb hf=>by go_simp) ?_
 refine bX 11 (cx hops 3 false 9 false) (.tmp 10) (((x:Nat):Value)) (ae af seq) (fun ρ h1 kk w1 (hg:Grow _ w1) hb hf=>by have c:=(hBx.grow hg).cell 0;go_simp) ?_
 refine da 12 (cx hops 3 false 9 false) (((g:Nat):Value)) ?_
 refine bX 13 (cx hops 3 false 9 false) (.tmp 12) (((g:Nat):Value)) (((g:Nat):Value)) (fun ρ h1 kk w1 (hg:Grow _ w1) hb hf=>by go_simp) ?_
 refine bX 14 (cx hops 3 false 9 false) (.tmp 13) (((g:Nat):Value)) (.pointer (some ⟨g,1,none⟩)) (fun ρ h1 kk w1 (hg:Grow _ w1) hb hf=>by go_simp) ?_
 refine bX 15 (cx hops 3 false 9 false) (.tmp 14) (.pointer (some ⟨g,1,none⟩)) (ae af last) (fun ρ h1 kk w1 (hg:Grow _ w1) hb hf=>by have c:=(ou.grow hg).cell 1;go_simp) ?_
 refine dc 16 (cx hops 3 false 9 false) (.tmp 11) (.tmp 15) (ae af seq) (ae af last) (.bool false) (fun ρ h1 h2 kk w1 (hg:Grow _ w1) hb hf=>by first|(go_simp;done)|(go_simp;omega)) ?_
 refine cG 17 false (.bool false) ?_
 refine bP 18 (.bool false) ?_
 refine bX 19 (cx hops 12 false 18 false) (.tmp 3) (((x:Nat):Value)) (.pointer (some ⟨x,1,none⟩)) (fun ρ h1 kk w1 (hg:Grow _ w1) hb hf=>by go_simp) ?_
 refine bX 20 (cx hops 12 false 18 false) (.tmp 19) (.pointer (some ⟨x,1,none⟩)) (.slice A m c) (fun ρ h1 kk w1 (hg:Grow _ w1) hb hf=>by have c:=(hBx.grow hg).cell 1;go_simp) ?_
 refine bX 21 (cx hops 12 false 18 false) (.tmp 20) (.slice A m c) (ae af (m:Int)) (fun ρ h1 kk w1 (hg:Grow _ w1) hb hf=>by go_simp) ?_
 refine dc 22 (cx hops 12 false 18 false) (.tmp 21) (.const (ae af 0)) (ae af (m:Int)) (ae af 0) (.bool false) (fun ρ h1 h2 kk w1 (hg:Grow _ w1) hb hf=>by first|(go_simp;done)|(go_simp;omega)) ?_
 refine cG 23 false (.bool false) ?_
 refine bP 24 (.bool false) ?_
 refine bX 25 (cx hops 18 false 24 false) (.tmp 3) (((x:Nat):Value)) (.pointer (some ⟨x,1,none⟩)) (fun ρ h1 kk w1 (hg:Grow _ w1) hb hf=>by go_simp) ?_
 refine bX 26 (cx hops 18 false 24 false) (.tmp 25) (.pointer (some ⟨x,1,none⟩)) (.slice A m c) (fun ρ h1 kk w1 (hg:Grow _ w1) hb hf=>by have c:=(hBx.grow hg).cell 1;go_simp) ?_
 refine bX 27 (cx hops 18 false 24 false) (.tmp 26) (.slice A m c) (ae af (m:Int)) (fun ρ h1 kk w1 (hg:Grow _ w1) hb hf=>by go_simp) ?_
 refine dc 28 (cx hops 18 false 24 false) (.tmp 27) (.const (ae af 8)) (ae af (m:Int)) (ae af 8) (.bool true) (fun ρ h1 h2 kk w1 (hg:Grow _ w1) hb hf=>by first|(go_simp;done)|(go_simp;omega)) ?_
 refine cG 29 false (.bool true) ?_
 refine bP 5 (.bool true) ?_
 refine ce (fun _ _ w1 (hg:Grow _ w1) _ bR=>hT _ _ ?_)
 clear hops hA' hK hT
 simp only[cj,Act.put,aw,ay,az,ax,aB]
 go_wp2_with fail
 go_ret
 exact⟨rfl,ck.wide (ck.framed _ _ _ w w1 V hQ' fun b hb=>(hga.trans hg).block b (hV b hb)) (fun _ => .inl),Just.bJ (hga.trans hg)⟩
theorem D4 (w:World) (g:Nat) (l:List Ab) (last seq:Int) (A:Option Addr) (m c:Nat) (ha:¬ seq<1) (hb:¬ seq≤last) (hc:0<m) (hd:m≤8) (hl:l.length=16) :
 Turns au 222 #[((g:Nat):Value),.agg #[ae af seq,.slice A m c]] (fun e=>e=.returned (ae af 24)) (ck g l last) (ck g l last) w:=by
 intro V hQ hV
 have hQ':=hQ
 obtain⟨h1,v,q,R,D,gS,h3,hB,i6,h6,h7,h8⟩:=hQ
 obtain⟨A0,c0,rfl,hI,hnc,hm0⟩:=i6.fw
 have hga:Grow w (w.alloc (.cells #[ae af seq,.slice A m c] 159)):=(Below.refl w.heap.size w).alloc (aC _) _
 have gl:=ct.made w 159 #[ae af seq,.slice A m c]
 obtain⟨x,HX⟩:∃ x:Nat,Hid (x=w.heap.size):=⟨_,rfl⟩
 obtain⟨wa,HA⟩:∃ wa:World,Hid (wa=w.alloc (.cells #[ae af seq,.slice A m c] 159)):=⟨_,rfl⟩
 have hsa:wa.heap.size=x+1:=by rw[HA.out,HX.out];simp
 have JM:=Lib.hid hsa
 clear hsa
 rw[←HA.out] at hga
 have hBx:ct wa x 159 #[ae af seq,.slice A m c]:=by rw[HA.out,HX.out];exact gl
 clear gl
 have ou:=hB.grow hga
 have D5:q.length=16:=by rw[←hl,←gS,aP]
 have hq17:=Nat.le_of_eq D5.symm
 clear D5 gS hl
 go_enter Tryz.func222,Tryz.ntmps222
 go_wp2_with fail
 rw[←HA.out,←HX.out]
 refine bL 25 53 [] rfl rfl am am am ?_ ?_
 ·intro x hx φ he
  cases hx
 intro ops' A' K' T hops hA' hK hT
 refine bQ 6 (.tmp 3) (((x:Nat):Value)) (((x:Nat):Value)) ?_
 refine bI 7 (.tmp 6) (((x:Nat):Value)) (ae af seq) (fun ρ h1 kk w1 (hg:Grow _ w1) hb hf=>by have c:=(hBx.grow hg).cell 0;go_simp) ?_
 refine cm 8 (.tmp 7) (.const (ae af 1)) (ae af seq) (ae af 1) (.bool false) (fun ρ h1 h2 kk w1 (hg:Grow _ w1) hb hf=>by first|(go_simp;done)|(go_simp;omega)) ?_
 refine bP 9 (.bool false) ?_
 refine bX 10 (cx hops 3 false 9 false) (.tmp 3) (((x:Nat):Value)) (((x:Nat):Value)) (fun ρ h1 kk w1 (hg:Grow _ w1) hb hf=>by go_simp) ?_
 refine bX 11 (cx hops 3 false 9 false) (.tmp 10) (((x:Nat):Value)) (ae af seq) (fun ρ h1 kk w1 (hg:Grow _ w1) hb hf=>by have c:=(hBx.grow hg).cell 0;go_simp) ?_
 refine da 12 (cx hops 3 false 9 false) (((g:Nat):Value)) ?_
 refine bX 13 (cx hops 3 false 9 false) (.tmp 12) (((g:Nat):Value)) (((g:Nat):Value)) (fun ρ h1 kk w1 (hg:Grow _ w1) hb hf=>by go_simp) ?_
 refine bX 14 (cx hops 3 false 9 false) (.tmp 13) (((g:Nat):Value)) (.pointer (some ⟨g,1,none⟩)) (fun ρ h1 kk w1 (hg:Grow _ w1) hb hf=>by go_simp) ?_
 refine bX 15 (cx hops 3 false 9 false) (.tmp 14) (.pointer (some ⟨g,1,none⟩)) (ae af last) (fun ρ h1 kk w1 (hg:Grow _ w1) hb hf=>by have c:=(ou.grow hg).cell 1;go_simp) ?_
 refine dc 16 (cx hops 3 false 9 false) (.tmp 11) (.tmp 15) (ae af seq) (ae af last) (.bool false) (fun ρ h1 h2 kk w1 (hg:Grow _ w1) hb hf=>by first|(go_simp;done)|(go_simp;omega)) ?_
 refine cG 17 false (.bool false) ?_
 refine bP 18 (.bool false) ?_
 refine bX 19 (cx hops 12 false 18 false) (.tmp 3) (((x:Nat):Value)) (.pointer (some ⟨x,1,none⟩)) (fun ρ h1 kk w1 (hg:Grow _ w1) hb hf=>by go_simp) ?_
 refine bX 20 (cx hops 12 false 18 false) (.tmp 19) (.pointer (some ⟨x,1,none⟩)) (.slice A m c) (fun ρ h1 kk w1 (hg:Grow _ w1) hb hf=>by have c:=(hBx.grow hg).cell 1;go_simp) ?_
 refine bX 21 (cx hops 12 false 18 false) (.tmp 20) (.slice A m c) (ae af (m:Int)) (fun ρ h1 kk w1 (hg:Grow _ w1) hb hf=>by go_simp) ?_
 refine dc 22 (cx hops 12 false 18 false) (.tmp 21) (.const (ae af 0)) (ae af (m:Int)) (ae af 0) (.bool false) (fun ρ h1 h2 kk w1 (hg:Grow _ w1) hb hf=>by first|(go_simp;done)|(go_simp;omega)) ?_
 refine cG 23 false (.bool false) ?_
 refine bP 24 (.bool false) ?_
 refine bX 25 (cx hops 18 false 24 false) (.tmp 3) (((x:Nat):Value)) (.pointer (some ⟨x,1,none⟩)) (fun ρ h1 kk w1 (hg:Grow _ w1) hb hf=>by go_simp) ?_
 refine bX 26 (cx hops 18 false 24 false) (.tmp 25) (.pointer (some ⟨x,1,none⟩)) (.slice A m c) (fun ρ h1 kk w1 (hg:Grow _ w1) hb hf=>by have c:=(hBx.grow hg).cell 1;go_simp) ?_
 refine bX 27 (cx hops 18 false 24 false) (.tmp 26) (.slice A m c) (ae af (m:Int)) (fun ρ h1 kk w1 (hg:Grow _ w1) hb hf=>by go_simp) ?_
 refine dc 28 (cx hops 18 false 24 false) (.tmp 27) (.const (ae af 8)) (ae af (m:Int)) (ae af 8) (.bool false) (fun ρ h1 h2 kk w1 (hg:Grow _ w1) hb hf=>by first|(go_simp;done)|(go_simp;omega)) ?_
 refine cG 29 false (.bool false) ?_
 refine bP 5 (.bool false) ?_
 refine ce (fun _ _ w1 (hg:Grow _ w1) _ bR=>hT _ _ ?_)
 clear hops hA' hK hT
 simp only[cj,Act.put,aw,ay,az,ax,aB]
 have c00:=(ou.grow hg).cell 0
 go_wp2_with fail
 go_ret
 exact⟨rfl,ck.wide (ck.framed _ _ _ w w1 V hQ' fun b hb=>(hga.trans hg).block b (hV b hb)) (fun _ => .inl),Just.bJ (hga.trans hg)⟩
end Go.Proofs.YtmijcbfgfkeodaaGreatDoor.Q
end
