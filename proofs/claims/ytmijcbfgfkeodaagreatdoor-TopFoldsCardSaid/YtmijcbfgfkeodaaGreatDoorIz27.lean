/- Fd2, Ma2, Ma3, Ma4, Ma5, Ma6, Ma7, Tf0, Csort, Call, Call2, Ga1. -/
import Derived.Test.YtmijcbfgfkeodaaGreatDoorIz26
set_option linter.all false
set_option maxRecDepth 100000
set_option maxHeartbeats 2000000
open Go.Value renaming int → ae,slice → ai
open Go.IntKind renaming i64 → af,u64 → ah
open Go.Proofs.Tryz renaming prog → au
open List renaming setIfInBounds_toArray → aw,drop_succ_cons → ax,set_cons_zero → ay,set_cons_succ → az,drop_zero → aB,not_mem_nil → aE,mem_cons → aF,mem_cons_of_mem → bb
open Nat renaming lt_of_lt_of_le → aA,le_refl → aC,le_trans → aH
section
namespace Go.Proofs.YtmijcbfgfkeodaaGreatDoor
open Go.RowKit Go.Hop
theorem pF {F:Int} {M:Nat} (h:W.fu F M) (n:Int):W.seen F M n=W.mem F M n:=by
 unfold W.seen W.mem W.far
 by_cases hF:n≤F
 ·rw[decide_eq_true hF];rfl
 ·rw[decide_eq_false hF,decide_eq_true (show F<n by omega),Bool.true_and,Bool.false_or,Bool.false_or,Bool.true_and]
  by_cases h64:64≤n-F-1
  ·rw[decide_eq_true h64]
   have:M.testBit (n-F-1).toNat=false:=Nat.testBit_lt_two_pow (aA h.mask (Nat.pow_le_pow_right (n:=2) al (show 64≤(n-F-1).toNat by omega)))
   rw[this];rfl
  ·rw[decide_eq_false h64];rfl
theorem Dt {F:Int} {M:Nat} (n:Int) {x:Int} (h:W.mem F M x=true):W.mem (W.dm F M n).1 (W.dm F M n).2 x=true:=by
 unfold W.dm
 split
 ·rename_i hb
  rw[W.yx (W.jQ hb).1,h];rfl
 ·exact h
theorem mC {F:Int} {M:Nat} {n:Int} (hs:W.seen F M n=false) (hf:W.far F n=false):W.mem (W.dm F M n).1 (W.dm F M n).2 n=true:=by
 have hb:W.u2 F M n=true:=by unfold W.u2;rw[hs,hf];rfl
 unfold W.dm
 rw[if_pos hb,W.yx (W.jQ hb).1,decide_eq_true rfl,Bool.or_true]
def gY (x:fl) (id:Int×Int×Int):Prop:=W.mem (dx x.pl (id.1,id.2.1)).F (dx x.pl (id.1,id.2.1)).M id.2.2=true
structure gC (n:Nat) (x:fl):Prop where
 ok:nq n x
 bad:∀ k,∀ s∈(dx x.pl k).B,gY x (k.1,k.2,s)
theorem gC.new:gC 0 fl.new:=⟨nq.new,fun k s h=>by simp[fl.new,dx] at h⟩
theorem gY.put {x:fl} {k:Key} {y:Pl} {q:K.Sm} {d9:List (Int×Int)} {id:Int×Int×Int} (h:gY x id) (hy:k=(id.1,id.2.1)→W.mem (dx x.pl k).F (dx x.pl k).M id.2.2=true→W.mem y.F y.M id.2.2=true):gY ⟨q,d9,eX x.pl k y⟩ id:=by
 unfold gY at h ⊢
 show W.mem (dx (eX x.pl k y) (id.1,id.2.1)).F (dx (eX x.pl k y) (id.1,id.2.1)).M id.2.2=true
 rw[gg]
 by_cases hk:(id.1,id.2.1)=k
 ·rw[if_pos hk]
  subst hk
  exact hy rfl h
 ·rw[if_neg hk];exact h
theorem jX {n:Nat} {x:fl} (h:gC n x) (e:En):((eh x e).2.2.pl=x.pl∧(eh x e).1≠1)∨∃ B':List Int,(eh x e).2.2.pl=eX x.pl (e.ag,e.sh) ⟨(W.dm (x.at_ e).F (x.at_ e).M e.sq).1,(W.dm (x.at_ e).F (x.at_ e).M e.sq).2,B'⟩∧e.k≠2∧W.seen (x.at_ e).F (x.at_ e).M e.sq=false∧W.far (x.at_ e).F e.sq=false∧(∀ s,s∈B'→s∈(x.at_ e).B∨s=e.sq)∧((eh x e).1=1→B'=(x.at_ e).B):=by
 unfold eh
 by_cases hk:e.k=2
 ·rw[if_pos hk];exact .inl ⟨rfl,by simp⟩
 rw[if_neg hk]
 cases hs:W.seen (x.at_ e).F (x.at_ e).M e.sq with
 | true=>
   rw[if_pos rfl]
   split
   ·exact .inl ⟨rfl,by simp⟩
   ·exact .inl ⟨rfl,by simp⟩
 | false=>
   rw[if_neg ak]
   split
   ·exact .inl ⟨rfl,by simp⟩
   cases hf:W.far (x.at_ e).F e.sq with
   | true=>rw[if_pos rfl];exact .inl ⟨rfl,by simp⟩
   | false=>
     rw[if_neg ak]
     split
     ·exact .inr ⟨_,rfl,hk,rfl,rfl,fun s h => .inl h,fun _=>rfl⟩
     split
     ·refine .inr ⟨_,rfl,hk,rfl,rfl,fun s h=>?_,fun h=>absurd h (by simp)⟩
      have:=(u6 _).mem_iff.1 h
      rcases List.mem_append.1 this with h|h
      ·exact .inl h
      ·exact .inr (List.mem_singleton.1 h)
     ·exact .inl ⟨rfl,by simp⟩
theorem gY.step {n:Nat} {x:fl} (h:gC n x) (e:En) {id:Int×Int×Int} (hs:gY x id):gY (eh x e).2.2 id:=by
 rcases jX h e with ⟨h1,_⟩|⟨B',h1,_⟩
 ·unfold gY;rw[h1];exact hs
 ·have:=hs.put (q:=x.q) (d9:=x.d9) (y:=⟨(W.dm (x.at_ e).F (x.at_ e).M e.sq).1,(W.dm (x.at_ e).F (x.at_ e).M e.sq).2,B'⟩) (k:=(e.ag,e.sh)) fun _ hm=>Dt e.sq hm
  unfold gY at this ⊢
  rw[h1];exact this
theorem gC.step {n:Nat} {x:fl} (h:gC n x) (e:En) (im:e.sq≤9223372036854775807):gC (n+e.ds.length) (eh x e).2.2:=by
 refine⟨h.ok.step e im,fun k s hs=>?_⟩
 rcases jX h e with ⟨h1,_⟩|⟨B',h1,_,h2,h3,h4,_⟩
 ·rw[h1] at hs
  exact (h.bad k s hs).step h e
 ·rw[h1,gg] at hs
  by_cases hk:k=(e.ag,e.sh)
  ·rw[if_pos hk] at hs
   rcases h4 s hs with h5|h5
   ·subst hk
    exact (h.bad _ s h5).step h e
   ·subst h5
    unfold gY
    rw[h1]
    show W.mem (dx (eX x.pl _ _) (k.1,k.2)).F (dx (eX x.pl _ _) (k.1,k.2)).M e.sq=true
    rw[gg,if_pos hk]
    exact mC h2 h3
  ·rw[if_neg hk] at hs
   exact (h.bad k s hs).step h e
theorem lj.of {n:Nat} {x:fl} (h:gC n x) {id:Int×Int×Int} (h0:0<id.2.2) (hs:gY x id) (hb:id.2.2 ∉ (dx x.pl (id.1,id.2.1)).B):lj x id:=⟨h0,(pF (h.ok.win _) _).trans hs,hb⟩
theorem lj.seen {n:Nat} {x:fl} (h:gC n x) {id:Int×Int×Int} (hh:lj x id):gY x id:=(pF (h.ok.win _) _).symm.trans hh.2.1
theorem lj.step {n:Nat} {x:fl} (h:gC n x) (e:En) (im:e.sq≤9223372036854775807) {id:Int×Int×Int} (hh:lj x id):lj (eh x e).2.2 id:=by
 refine lj.of (h.step e im) hh.1 ((hh.seen h).step h e) fun hb=>?_
 rcases jX h e with ⟨h1,_⟩|⟨B',h1,_,h2,_,h4,_⟩
 ·rw[h1] at hb;exact hh.2.2 hb
 ·rw[h1,gg] at hb
  split at hb
  ·rename_i hk
   rcases h4 _ hb with h5|h5
   ·exact hh.2.2 (by rw[hk];exact h5)
   ·have h6:=hh.2.1
    have e1:dx x.pl (id.1,id.2.1)=x.at_ e:=by rw[hk];rfl
    rw[e1,h5,h2] at h6
    cases h6
  ·exact hh.2.2 hb
theorem nR {n:Nat} {x:fl} (h:gC n x) {e:En} (hok:e.Ok) (hc:(eh x e).1=1):¬ gY x (e.ag,e.sh,e.sq)∧lj (eh x e).2.2 (e.ag,e.sh,e.sq):=by
 have im:=(iB hok).2
 rcases jX h e with ⟨_,h1⟩|⟨B',h1,hk,h2,h3,h4,h5⟩
 ·exact absurd hc h1
 ·have hB:=h5 hc
  have hn:¬ gY x (e.ag,e.sh,e.sq):=fun hs=>by
   have:W.seen (x.at_ e).F (x.at_ e).M e.sq=true:=(pF (h.ok.win _) _).trans hs
   rw[h2] at this;cases this
  refine⟨hn,lj.of (h.step e im) ?_ ?_ ?_⟩
  ·rcases hok.2 with hw|hr
   ·obtain⟨_,_,_,_,h5,_⟩:=hw
    show 0<e.sq
    omega
   ·exact absurd hr.1 hk
  ·unfold gY
   rw[h1]
   show W.mem (dx (eX x.pl _ _) (e.ag,e.sh)).F (dx (eX x.pl _ _) (e.ag,e.sh)).M e.sq=true
   rw[gg,if_pos rfl]
   exact mC h2 h3
  ·rw[h1]
   show e.sq ∉ (dx (eX x.pl _ _) (e.ag,e.sh)).B
   rw[gg,if_pos rfl,hB]
   exact fun hb=>hn (h.bad (e.ag,e.sh) e.sq hb)
theorem yy {n:Nat} {x:fl} (h:gC n x):∀ (l:List En),(∀ e∈l,e.Ok)→∀ {id},lj x id→lj (eJ x l) id:=by
 intro l
 induction l generalizing n x with
 | nil=>intro _ id hh;exact hh
 | cons e l ih=>
   intro hl id hh
   have h1:=(iB (hl e (by simp))).2
   exact ih (h.step e h1) (fun e he=>hl e (bb _ he)) (hh.step h e h1)
theorem yz {n:Nat} {x:fl} (h:gC n x):∀ (l:List En),(∀ e∈l,e.Ok)→(∀ id∈dW x l,¬ gY x id∧lj (eJ x l) id∧id.2.2≤9223372036854775807)∧(dW x l).Nodup:=by
 intro l
 induction l generalizing n x with
 | nil=>intro _;exact⟨fun id h=>by simp[dW] at h,by simp[dW]⟩
 | cons e l ih=>
   intro hl
   have hok:=hl e (by simp)
   have h1:=(iB hok).2
   have hl':∀ e∈l,e.Ok:=fun e he=>hl e (bb _ he)
   obtain⟨i1,i2⟩:=ih (h.step e h1) hl'
   have hone:∀ id∈lV x e,id=(e.ag,e.sh,e.sq)∧(eh x e).1=1:=fun id hid=>by
    unfold lV at hid
    split at hid
    ·rename_i hc;exact⟨List.mem_singleton.1 hid,hc⟩
    ·simp at hid
   refine⟨fun id hid=>?_,?_⟩
   ·rw[dW] at hid
    rcases List.mem_append.1 hid with hid|hid
    ·obtain⟨rfl,hc⟩:=hone id hid
     obtain⟨a,b⟩:=nR h hok hc
     exact⟨a,yy (h.step e h1) l hl' b,h1⟩
    ·obtain⟨a,b,c⟩:=i1 id hid
     exact⟨fun hs=>a (hs.step h e),b,c⟩
   ·rw[dW,List.nodup_append]
    refine⟨?_,i2,fun a ha b hb=>?_⟩
    ·unfold lV;split<;>simp
    ·obtain⟨rfl,hc⟩:=hone a ha
     intro hab
     subst hab
     exact (i1 _ hb).1 ((nR h hok hc).2.seen (h.step e h1))
theorem um (w:World) (m s bE bS p g:Nat) (q:K.Sm) (d9:List (Int×Value)) (dL:List ((Int×Int)×Value)) (F:Int) (M:Nat) (e:En) (A:Option Addr) (c:Nat) (D V:Nat→Prop) (hM:Many (j7 m s bE bS p g q d9 dL F M) w V) (hV:∀ b,V b→b<w.heap.size) (hd:fV w D A e.ds.length e.ds) (hDl:∀ b,D b→b<w.heap.size) (j5:∀ b,D b→¬ V b) (hsz:∀ d∈e.ds,d.1.size≤maxLen∧d.2≤K.kc) (hn:e.ds.length≤1048576) (hq:q.length≤1048576) (hmay:K.i3 q e.ds=0) (hI:W.fu F M) (im:-9223372036854775808≤e.sq∧e.sq≤9223372036854775807) (hsh:dQ dL (e.ag,e.sh) (((p:Nat):Value))=[((e.ag,e.sh),((p:Nat):Value))]) :
 Calls au 57 #[((m:Nat):Value),((p:Nat):Value),.agg (e.agg A c)] w fun en w'=>en=.returned (ae af 1)∧Many (j7 m s bE bS p g (K.fP q e.ds) d9 [((e.ag,e.sh),((p:Nat):Value))] (W.dm F M e.sq).1 (W.dm F M e.sq).2) w' (Ext V w w')∧Just V w w':=by
 have I7:∀ (vs:Array Value) (w:World),(callFunc 131 vs).run au w=.ok (.enter 131 vs) w:=fun vs w=>by go_simp
 have I8:∀ (vs:Array Value) (w:World),(callFunc 133 vs).run au w=.ok (.enter 133 vs) w:=fun vs w=>by go_simp
 have hF:=fi m s bE bS p g q d9 dL F M
 have hS:=Solo.begin_ hM hV
 have hg0:=bN w (.cells (e.agg A c) 32)
 have du:=ct.made w 32 (e.agg A c)
 obtain⟨y,HY⟩:∃ y:Nat,Hid (y=w.heap.size):=⟨_,rfl⟩
 obtain⟨wa,dq⟩:∃ wa:World,Hid (wa=w.alloc (.cells (e.agg A c) 32)):=⟨_,rfl⟩
 rw[←dq.out] at hg0 du
 rw[←HY.out] at du
 unfold En.agg at dq ⊢
 have ez:=hS.join hF hg0 (R:=Cell y 32 #[ae af e.k,ae af e.ag,ae af e.sh,ae af e.sq,ae af e.ep,.slice A e.ds.length c,.string e.se,ae af e.fr,ae af e.tg]) (U:=fun b=>b=y) ⟨rfl,du⟩ (fun b hb=>by have:=HY.out;have:=du.lt;omega)
 have eP:=hF.cons (Cell.framed y 32 #[ae af e.k,ae af e.ag,ae af e.sh,ae af e.sq,ae af e.ep,.slice A e.ds.length c,.string e.se,ae af e.fr,ae af e.tg])
 have kf:=ez.blk 0 rfl
 have hm1:=ez.blk 1 rfl
 have hp1:=ez.blk 5 rfl
 clear du
 go_enter Tryz.func57,Tryz.ntmps57
 go_wp2_with fail
 rw[←dq.out,←HY.out]
 refine bL 6 60 [] rfl rfl am am am ?_ ?_
 ·intro x hx φ he
  cases hx
 intro ops' A' K' T hops hA' hK hT
 refine bP 8 (((m:Nat):Value)) ?_
 refine bQ 9 (.tmp 8) (((m:Nat):Value)) (((m:Nat):Value)) ?_
 refine bQ 10 (.tmp 9) (((m:Nat):Value)) (((m:Nat):Value)) ?_
 refine bI 11 (.tmp 10) (((m:Nat):Value)) (((s:Nat):Value)) (fun ρ h1 kk w1 (hg:Grow _ w1) hb hf=>by have c:=(hm1.grow hg).cell 0;go_simp) ?_
 refine bQ 12 (.tmp 5) (((y:Nat):Value)) (.pointer (some ⟨y,5,none⟩)) ?_
 refine bI 13 (.tmp 12) (.pointer (some ⟨y,5,none⟩)) (.slice A e.ds.length c) (fun ρ h1 kk w1 (hg:Grow _ w1) hb hf=>by have c:=(kf.grow hg).cell 5;go_simp) ?_
 refine ce (fun _ _ w1 (hg:Grow _ w1) _ bR=>hT _ _ ?_)
 clear hops hA' hK hT
 simp only[cj,Act.put,aw,ay,az,ax,aB]
 have hS1:=ez.grows eP hg
 have J1:=Just.bJ (V:=cB V w) (hg0.trans hg)
 have hd1:=hd.grow (hg0.trans hg)
 have hcall:=hS1.zw 2 rfl eP (fun U hU ey wO=>K.kV w1 s q U hU ey A e.ds.length c e.ds D hd1 (fun b hb hu=>(wO b hu).elim (j5 b hb) (fun h=>by have:=hDl b hb;omega)) hsz hn hq)
 rw[hmay] at hcall
 go_wp2_with fail
 refine hcall.mono ?_
 rintro en w2 ⟨rfl,hj2,hS2⟩
 obtain⟨q',HQ⟩:∃ q':K.Sm,Hid (q'=K.fP q e.ds):=⟨_,rfl⟩
 rw[←HQ.out] at hS2
 have hS2:Solo (cB V w) (Many (Cell y 32 #[ae af e.k,ae af e.ag,ae af e.sh,ae af e.sq,ae af e.ep,.slice A e.ds.length c,.string e.se,ae af e.fr,ae af e.tg] :: j7 m s bE bS p g q' d9 dL F M)) w2:=hS2
 have iU:=(fi m s bE bS p g q' d9 dL F M).cons (Cell.framed y 32 #[ae af e.k,ae af e.ag,ae af e.sh,ae af e.sq,ae af e.ep,.slice A e.ds.length c,.string e.se,ae af e.fr,ae af e.tg])
 have hY2:=hS2.blk 0 rfl
 have hp2:=hS2.blk 5 rfl
 have hd2:=hd1
 go_wp2_with fail
 refine bL 7 60 [] rfl rfl am am am ?_ ?_
 ·intro x hx φ he
  cases hx
 intro ops' A' K' T hops hA' hK hT
 refine bP 39 (((p:Nat):Value)) ?_
 refine bI 40 (.tmp 39) (((p:Nat):Value)) (((p:Nat):Value)) (fun ρ h1 kk w3 (hgB:Grow _ w3) hb hf=>by go_simp) ?_
 refine bI 41 (.tmp 40) (((p:Nat):Value)) (((p:Nat):Value)) (fun ρ h1 kk w3 (hgB:Grow _ w3) hb hf=>by go_simp) ?_
 refine bI 42 (.tmp 41) (((p:Nat):Value)) (((g:Nat):Value)) (fun ρ h1 kk w3 (hgB:Grow _ w3) hb hf=>by have c:=(hp2.grow hgB).cell 0;go_simp) ?_
 refine bI 43 (.tmp 5) (((y:Nat):Value)) (.pointer (some ⟨y,1,none⟩)) (fun ρ h1 kk w3 (hgB:Grow _ w3) hb hf=>by go_simp) ?_
 refine bI 44 (.tmp 43) (.pointer (some ⟨y,1,none⟩)) (.pointer (some ⟨y,1+2,none⟩)) (fun ρ h1 kk w3 (hgB:Grow _ w3) hb hf=>by go_simp) ?_
 refine bI 45 (.tmp 44) (.pointer (some ⟨y,1+2,none⟩)) (ae af e.sq) (fun ρ h1 kk w3 (hgB:Grow _ w3) hb hf=>by have c:=(hY2.grow hgB).cell 3;go_simp) ?_
 refine ce (fun _ _ w3 (hgB:Grow _ w3) _ bR=>hT _ _ ?_)
 clear hops hA' hK hT
 simp only[cj,Act.put,aw,ay,az,ax,aB]
 have dO:=hS2.grows iU hgB
 have hc3:=dO.zw (S':=Cell g 223 #[ae af (W.dm F M e.sq).1,ae ah ((W.dm F M e.sq).2:Int)]) 6 rfl iU (fun U hU ey wO=>(W.sk w3 g F M e.sq hU.2 hI im).mono fun en w' ⟨h1,h2,h3⟩=>⟨h1,⟨.inl hU.1,h2⟩,Just.dj h3 hU.1⟩)
 go_wp2_with fail
 refine hc3.mono ?_
 rintro en w4 ⟨rfl,ko,ev⟩
 have ev:Solo (cB V w) (Many (Cell y 32 #[ae af e.k,ae af e.ag,ae af e.sh,ae af e.sq,ae af e.ep,.slice A e.ds.length c,.string e.se,ae af e.fr,ae af e.tg] :: j7 m s bE bS p g q' d9 dL (W.dm F M e.sq).1 (W.dm F M e.sq).2)) w4:=ev
 obtain⟨F',HF⟩:∃ F':Int,Hid (F'=(W.dm F M e.sq).1):=⟨_,rfl⟩
 obtain⟨M',Gr⟩:∃ M':Nat,Hid (M'=(W.dm F M e.sq).2):=⟨_,rfl⟩
 rw[←HF.out,←Gr.out] at ev
 have Bg:=(fi m s bE bS p g q' d9 dL F' M').cons (Cell.framed y 32 #[ae af e.k,ae af e.ag,ae af e.sh,ae af e.sq,ae af e.ep,.slice A e.ds.length c,.string e.se,ae af e.fr,ae af e.tg])
 have qX:=ev.blk 0 rfl
 have JI:=ev.blk 1 rfl
 go_wp2_with fail
 refine bL 12 60 [] rfl rfl am am am ?_ ?_
 ·intro x hx φ he
  cases hx
 intro ops' A' K' T hops hA' hK hT
 refine bP 47 (((m:Nat):Value)) ?_
 refine bI 48 (.tmp 47) (((m:Nat):Value)) (((m:Nat):Value)) (fun ρ h1 kk w5 (iJ:Grow _ w5) hb hf=>by go_simp) ?_
 refine bI 49 (.tmp 48) (((m:Nat):Value)) (.pointer (some ⟨m,2,none⟩)) (fun ρ h1 kk w5 (iJ:Grow _ w5) hb hf=>by go_simp) ?_
 refine bI 50 (.tmp 49) (.pointer (some ⟨m,2,none⟩)) (.map (some bS)) (fun ρ h1 kk w5 (iJ:Grow _ w5) hb hf=>by have c:=(JI.grow iJ).cell 2;go_simp) ?_
 refine bI 51 (.tmp 5) (((y:Nat):Value)) (.pointer (some ⟨y,1,none⟩)) (fun ρ h1 kk w5 (iJ:Grow _ w5) hb hf=>by go_simp) ?_
 refine bI 52 (.tmp 51) (.pointer (some ⟨y,1,none⟩)) (.pointer (some ⟨y,1+0,none⟩)) (fun ρ h1 kk w5 (iJ:Grow _ w5) hb hf=>by go_simp) ?_
 refine bI 53 (.tmp 52) (.pointer (some ⟨y,1+0,none⟩)) (ae af e.ag) (fun ρ h1 kk w5 (iJ:Grow _ w5) hb hf=>by have c:=(qX.grow iJ).cell 1;go_simp) ?_
 refine bI 54 (.tmp 5) (((y:Nat):Value)) (.pointer (some ⟨y,1,none⟩)) (fun ρ h1 kk w5 (iJ:Grow _ w5) hb hf=>by go_simp) ?_
 refine bI 55 (.tmp 54) (.pointer (some ⟨y,1,none⟩)) (.pointer (some ⟨y,1+1,none⟩)) (fun ρ h1 kk w5 (iJ:Grow _ w5) hb hf=>by go_simp) ?_
 refine bI 56 (.tmp 55) (.pointer (some ⟨y,1+1,none⟩)) (ae af e.sh) (fun ρ h1 kk w5 (iJ:Grow _ w5) hb hf=>by have c:=(qX.grow iJ).cell 2;go_simp) ?_
 refine cm 57 (.tmp 53) (.tmp 56) (ae af e.ag) (ae af e.sh) (.agg #[ae af e.ag,ae af e.sh]) (fun ρ h1 h2 kk w5 (iJ:Grow _ w5) hb hf=>by go_simp) ?_
 refine bP 58 (((p:Nat):Value)) ?_
 refine ce (fun _ _ w5 (iJ:Grow _ w5) _ bR=>hT _ _ ?_)
 clear hops hA' hK hT
 simp only[cj,Act.put,aw,ay,az,ax,aB]
 have hS5:=ev.grows Bg iJ
 obtain⟨w6,hrun,eC,fI⟩:=hS5.qb (φ:=fun w'=>(Instr.mapUpdate 115 (.map (some bS)) (.agg #[ae af e.ag,ae af e.sh]) (((p:Nat):Value))).run au w5=.ok () w') 4 rfl Bg (fun U hU ey=>by
  obtain⟨w',h1,h2,h3⟩:=cJ.put CR (t:=115) (et:=120) am hU (e.ag,e.sh) (((p:Nat):Value))
  exact⟨w',h1,h2,h3.imp fun b hb=>hb▸hU.1⟩)
 rw[hsh] at eC
 go_wp2_with fail
 go_ret
 obtain⟨r1,r2⟩:=Solo.done (l:=j7 m s bE bS p g q' d9 [((e.ag,e.sh),((p:Nat):Value))] F' M') eC.drop1 (((J1.trans hj2).trans ((Just.bJ hgB).trans ko)).trans ((Just.bJ iJ).trans fI)) hV
 rw[←HQ.out,←HF.out,←Gr.out]
 exact⟨rfl,r1,r2⟩
theorem A5 (w:World) (m:Nat) (q:K.Sm) (d9:List (Int×Value)) (F:Int) (M:Nat) (e:En) (A:Option Addr) (c:Nat) (D V:Nat→Prop) (hV:∀ b,V b→b<w.heap.size) (hok:e.Ok) (hk:e.k=1) (hd:fV w D A e.ds.length e.ds) (hDl:∀ b,D b→b<w.heap.size) (j5:∀ b,D b→¬ V b) (hsz:∀ d∈e.ds,d.1.size≤maxLen∧d.2≤K.kc) (hn:e.ds.length≤1048576) (hq:q.length≤1048576) (hI:W.fu F M) (im:-9223372036854775808≤e.sq∧e.sq≤9223372036854775807) (SH:Nat→List ((Int×Int)×Value)) (hse:W.seen F M e.sq=false) (hfa:W.far F e.sq=false) (oj:∃ x:Int,(pX d9 e.ag).getD (ae af 0)=ae af x∧x≤e.ep) (hmay:K.i3 q e.ds=0) (Fq:∀ p,SH p=[]∨∃ pp,SH p=[((e.ag,e.sh),pp)])
 (hof:∀ wa,Grow w wa→Calls au 53 #[((m:Nat):Value),ae af e.ag,ae af e.sh] wa (fun en w'=>(∃ s bE bS p g,en=.returned (((p:Nat):Value))∧Grow wa w'∧∃ U,Many (j7 m s bE bS p g q d9 (SH p) F M) w' U∧∀ b,U b→V b∨New wa w' b))) :
 Calls au 13 #[((m:Nat):Value),.agg (e.agg A c)] w fun en w'=>en=.returned (.tuple #[ae af 1,ae ah 0])∧(∃ s bE bS p g,Many (j7 m s bE bS p g (K.fP q e.ds) (dQ d9 e.ag (ae af e.ep)) [((e.ag,e.sh),((p:Nat):Value))] (W.dm F M e.sq).1 (W.dm F M e.sq).2) w' (Ext V w w'))∧Just V w w':=by
 have sR:∀ (vs:Array Value) (w:World),(callFunc 54 vs).run au w=.ok (.enter 54 vs) w:=fun vs w=>by go_simp
 have Bf:∀ (vs:Array Value) (w:World),(callFunc 56 vs).run au w=.ok (.enter 56 vs) w:=fun vs w=>by go_simp
 have Fg:∀ (vs:Array Value) (w:World),(callFunc 55 vs).run au w=.ok (.enter 55 vs) w:=fun vs w=>by go_simp
 have hg0:=bN w (.cells (e.agg A c) 32)
 have du:=ct.made w 32 (e.agg A c)
 obtain⟨y,HY⟩:∃ y:Nat,Hid (y=w.heap.size):=⟨_,rfl⟩
 obtain⟨wa,dq⟩:∃ wa:World,Hid (wa=w.alloc (.cells (e.agg A c) 32)):=⟨_,rfl⟩
 rw[←dq.out] at hg0 du
 rw[←HY.out] at du
 have gN:=f8 wa e D A c hok (In.grow hd hg0)
 unfold En.agg at dq gN du ⊢
 have hk2:(e.k == 2)=false:=by rw[hk];rfl
 have hk3:decide (e.k=2)=false:=by rw[hk];rfl
 clear hk
 go_enter Tryz.func13,Tryz.ntmps13
 go_wp2_with fail
 rw[←dq.out,←HY.out]
 refine gN.mono ?_
 rintro en wb ⟨rfl,hgb⟩
 have hBb:=du.grow hgb
 have y0:=hBb.cell 0
 have y1:=hBb.cell 1
 have y2:=hBb.cell 2
 have rf:=hof wb (hg0.trans hgb)
 go_wp2_with fail
 clear y0 y1 y2
 refine rf.mono ?_
 rintro en w0 ⟨s,bE,bS,p,g,rfl,hgc,U,hM0,hU⟩
 have Fq:=Fq p
 obtain⟨dL,Q_⟩:∃ dL:List ((Int×Int)×Value),Hid (dL=SH p):=⟨_,rfl⟩
 rw[←Q_.out] at hM0 Fq
 have hgd:Grow w w0:=(hg0.trans hgb).trans hgc
 have hyl:w.heap.size≤y∧y<wb.heap.size:=by have:=HY.out;have:=hBb.lt;omega
 have hsz0:=hgd.size
 have CY:=hgc.size
 have hSz:∀ b,New wb w0 b→w.heap.size≤b:=fun b hb=>by have:=hb.1;have:=(hg0.trans hgb).size;omega
 have hF:=fi m s bE bS p g q d9 dL F M
 have eP:=hF.cons (Cell.framed y 32 #[ae af e.k,ae af e.ag,ae af e.sh,ae af e.sq,ae af e.ep,.slice A e.ds.length c,.string e.se,ae af e.fr,ae af e.tg])
 have hS0:Solo (cB V w) (Many (Cell y 32 #[ae af e.k,ae af e.ag,ae af e.sh,ae af e.sq,ae af e.ep,.slice A e.ds.length c,.string e.se,ae af e.fr,ae af e.tg] :: j7 m s bE bS p g q d9 dL F M)) w0:=
  Solo.my (U:=fun b=>b=y) (fun b hb => .inr al) hM0 (fun b hb=>(hU b hb).elim (fun h=>⟨.inl h,by have:=hV b h;omega⟩) (fun h=>⟨.inr (hSz b h),h.2⟩)) ⟨rfl,hBb.grow hgc⟩
   (fun b hb=>by rw[hb];exact⟨.inr hyl.1,by omega,fun h=>(hU y h).elim (fun h=>by have:=hV y h;omega) (fun h=>by have:=h.1;omega)⟩)
 have J0:=Just.bJ (V:=cB V w) hgd
 have hY0:=hS0.blk 0 rfl
 have hm0:=hS0.blk 1 rfl
 have hp0:=hS0.blk 5 rfl
 have jR:=hS0.blk 6 rfl
 have sS:∀ w1,Grow w0 w1→Calls au 54 #[((g:Nat):Value),ae af e.sq] w1 fun en w'=>en=.returned (.bool false)∧Grow w1 w':=fun w1 hg=>by
  have h:=W.gX w1 g F M e.sq (jR.grow hg) hI im
  rw[hse] at h
  exact h
 go_wp2_with fail
 refine bL 19 91 [(7,.inl (.bool false))] rfl rfl am am am ?_ ?_
 ·intro x hx φ he
  simp only[aF,aE,or_false] at hx
  rcases hx with rfl<;>cases he
 intro ops' A' K' T hops hA' hK hT
 refine bP 31 (((p:Nat):Value)) ?_
 refine bQ 32 (.tmp 31) (((p:Nat):Value)) (((p:Nat):Value)) ?_
 refine bQ 33 (.tmp 32) (((p:Nat):Value)) (((p:Nat):Value)) ?_
 refine bI 34 (.tmp 33) (((p:Nat):Value)) (((g:Nat):Value)) (fun ρ h1 kk w1 (hg:Grow _ w1) hb hf=>by have c:=(hp0.grow hg).cell 0;go_simp) ?_
 refine bQ 35 (.tmp 3) (((y:Nat):Value)) (.pointer (some ⟨y,1,none⟩)) ?_
 refine bQ 36 (.tmp 35) (.pointer (some ⟨y,1,none⟩)) (.pointer (some ⟨y,1+2,none⟩)) ?_
 refine bI 37 (.tmp 36) (.pointer (some ⟨y,1+2,none⟩)) (ae af e.sq) (fun ρ h1 kk w1 (hg:Grow _ w1) hb hf=>by have c:=(hY0.grow hg).cell 3;go_simp) ?_
 refine cC 38 aj ak (bO aj) (.bool false) (by rw[hK.out];rfl) 54 _ _ aj [((g:Nat):Value),ae af e.sq] aj sR (fun kk w1 (hg:Grow _ w1) hb hf=>b_ aj (by exact (sS w1 hg))) ?_
 refine bP 39 (.bool false) ?_
 refine bU 40 (cx hops 8 true 39 false) ?_
 refine bU 41 (cx hops 8 true 39 false) ?_
 refine bU 42 (cx hops 8 true 39 false) ?_
 refine bU 43 (cx hops 8 true 39 false) ?_
 refine bU 44 (cx hops 8 true 39 false) ?_
 refine bU 45 (cx hops 8 true 39 false) ?_
 refine bU 46 (cx hops 8 true 39 false) ?_
 refine bU 47 (cx hops 8 true 39 false) ?_
 refine cG 48 false (.bool false) ?_
 refine bP 30 (.bool false) ?_
 refine ce (fun _ _ w1 (hg:Grow _ w1) _ bR=>hT _ _ ?_)
 clear hops hA' hK hT
 simp only[cj,Act.put,aw,ay,az,ax,aB]
 have kj:=hg
 have hS1:=hS0.grows eP kj
 have hp1:=hp0.grow kj
 have kf:=hY0.grow kj
 have lS:=jR.grow kj
 go_wp2_with fail
 refine bL 9 91 [(7,.inl (.bool false))] rfl rfl am am am ?_ ?_
 ·intro x hx φ he
  simp only[aF,aE,or_false] at hx
  rcases hx with rfl<;>cases he
 intro ops' A' K' T hops hA' hK hT
 refine bP 50 (((p:Nat):Value)) ?_
 refine bI 51 (.tmp 50) (((p:Nat):Value)) (((p:Nat):Value)) (fun ρ h1 kk w2 (hg:Grow _ w2) hb hf=>by go_simp) ?_
 refine bI 52 (.tmp 51) (((p:Nat):Value)) (((p:Nat):Value)) (fun ρ h1 kk w2 (hg:Grow _ w2) hb hf=>by go_simp) ?_
 refine bI 53 (.tmp 52) (((p:Nat):Value)) (((g:Nat):Value)) (fun ρ h1 kk w2 (hg:Grow _ w2) hb hf=>by have c:=(hp1.grow hg).cell 0;go_simp) ?_
 refine bI 54 (.tmp 3) (((y:Nat):Value)) (.pointer (some ⟨y,1,none⟩)) (fun ρ h1 kk w2 (hg:Grow _ w2) hb hf=>by go_simp) ?_
 refine bI 55 (.tmp 54) (.pointer (some ⟨y,1,none⟩)) (.pointer (some ⟨y,1+2,none⟩)) (fun ρ h1 kk w2 (hg:Grow _ w2) hb hf=>by go_simp) ?_
 refine bI 56 (.tmp 55) (.pointer (some ⟨y,1+2,none⟩)) (ae af e.sq) (fun ρ h1 kk w2 (hg:Grow _ w2) hb hf=>by have c:=(kf.grow hg).cell 3;go_simp) ?_
 refine cC 57 aj ak (bO aj) (.bool false) (by rw[hK.out];rfl) 54 _ _ aj [((g:Nat):Value),ae af e.sq] aj sR (fun kk w2 (hg:Grow _ w2) hb hf=>b_ aj (by exact (sS w2 (kj.trans hg)))) ?_
 refine bP 49 (.bool false) ?_
 refine ce (fun _ _ w2 (hg:Grow _ w2) _ bR=>hT _ _ ?_)
 clear hops hA' hK hT
 simp only[cj,Act.put,aw,ay,az,ax,aB]
 have yp:=hg
 have hS2:=hS1.grows eP yp
 obtain⟨x,hx,hxe⟩:=oj
 have hlt1:decide (e.ep<x)=false:=decide_eq_false al
 have hlk:∀ w1,Grow w2 w1→(Instr.lookup 114 (.map (some bE)) (ae af e.ag) false).run au w1=.ok (ae af x) w1:=fun w1 hg=>by
  obtain⟨U3,hG3,_⟩:=(hS2.grows eP hg).see 3 rfl
  have h:=cJ.look wJ (t:=114) (et:=2) am (zI w1) hG3 e.ag false
  rw[if_neg ak,hx] at h
  exact h
 have hm2:=hS2.blk 1 rfl
 have hY2:=hS2.blk 0 rfl
 go_wp2_with fail
 refine bL 12 91 [] rfl rfl am am am ?_ ?_
 ·intro x hx φ he
  cases hx
 intro ops' A' K' T hops hA' hK hT
 refine bI 59 (.tmp 3) (((y:Nat):Value)) (.pointer (some ⟨y,4,none⟩)) (fun ρ h1 kk w3 (hg:Grow _ w3) hb hf=>by go_simp) ?_
 refine bI 60 (.tmp 59) (.pointer (some ⟨y,4,none⟩)) (ae af e.ep) (fun ρ h1 kk w3 (hg:Grow _ w3) hb hf=>by have c:=(hY2.grow hg).cell 4;go_simp) ?_
 refine bP 61 (((m:Nat):Value)) ?_
 refine bI 62 (.tmp 61) (((m:Nat):Value)) (((m:Nat):Value)) (fun ρ h1 kk w3 (hg:Grow _ w3) hb hf=>by go_simp) ?_
 refine bI 63 (.tmp 62) (((m:Nat):Value)) (.pointer (some ⟨m,1,none⟩)) (fun ρ h1 kk w3 (hg:Grow _ w3) hb hf=>by go_simp) ?_
 refine bI 64 (.tmp 63) (.pointer (some ⟨m,1,none⟩)) (.map (some bE)) (fun ρ h1 kk w3 (hg:Grow _ w3) hb hf=>by have c:=(hm2.grow hg).cell 1;go_simp) ?_
 refine bI 65 (.tmp 3) (((y:Nat):Value)) (.pointer (some ⟨y,1,none⟩)) (fun ρ h1 kk w3 (hg:Grow _ w3) hb hf=>by go_simp) ?_
 refine bI 66 (.tmp 65) (.pointer (some ⟨y,1,none⟩)) (.pointer (some ⟨y,1+0,none⟩)) (fun ρ h1 kk w3 (hg:Grow _ w3) hb hf=>by go_simp) ?_
 refine bI 67 (.tmp 66) (.pointer (some ⟨y,1+0,none⟩)) (ae af e.ag) (fun ρ h1 kk w3 (hg:Grow _ w3) hb hf=>by have c:=(hY2.grow hg).cell 1;go_simp) ?_
 refine cm 68 (.tmp 64) (.tmp 67) (.map (some bE)) (ae af e.ag) (ae af x) (fun ρ h1 h2 kk w3 (hg:Grow _ w3) hb hf=>by have hl:=hlk w3 hg;go_simp) ?_
 refine cm 69 (.tmp 60) (.tmp 68) (ae af e.ep) (ae af x) (.bool false) (fun ρ h1 h2 kk w3 (hg:Grow _ w3) hb hf=>by go_simp;try exact hlt1) ?_
 refine bP 58 (.bool false) ?_
 refine ce (fun _ _ w3 (hg:Grow _ w3) _ bR=>hT _ _ ?_)
 clear hops hA' hK hT
 simp only[cj,Act.put,aw,ay,az,ax,aB]
 have CZ:=hg
 have dO:=hS2.grows eP CZ
 have B_:=dO.blk 1 rfl
 have kg:=dO.blk 0 rfl
 clear hlk
 go_wp2_with fail
 refine bL 9 91 [] rfl rfl am am am ?_ ?_
 ·intro x hx φ he
  cases hx
 intro ops' A' K' T hops hA' hK hT
 refine bP 70 (((m:Nat):Value)) ?_
 refine bI 71 (.tmp 70) (((m:Nat):Value)) (((m:Nat):Value)) (fun ρ h1 kk w4 (hg:Grow _ w4) hb hf=>by go_simp) ?_
 refine bI 72 (.tmp 71) (((m:Nat):Value)) (.pointer (some ⟨m,1,none⟩)) (fun ρ h1 kk w4 (hg:Grow _ w4) hb hf=>by go_simp) ?_
 refine bI 73 (.tmp 72) (.pointer (some ⟨m,1,none⟩)) (.map (some bE)) (fun ρ h1 kk w4 (hg:Grow _ w4) hb hf=>by have c:=(B_.grow hg).cell 1;go_simp) ?_
 refine bI 74 (.tmp 3) (((y:Nat):Value)) (.pointer (some ⟨y,1,none⟩)) (fun ρ h1 kk w4 (hg:Grow _ w4) hb hf=>by go_simp) ?_
 refine bI 75 (.tmp 74) (.pointer (some ⟨y,1,none⟩)) (.pointer (some ⟨y,1+0,none⟩)) (fun ρ h1 kk w4 (hg:Grow _ w4) hb hf=>by go_simp) ?_
 refine bI 76 (.tmp 75) (.pointer (some ⟨y,1+0,none⟩)) (ae af e.ag) (fun ρ h1 kk w4 (hg:Grow _ w4) hb hf=>by have c:=(kg.grow hg).cell 1;go_simp) ?_
 refine bI 77 (.tmp 3) (((y:Nat):Value)) (.pointer (some ⟨y,4,none⟩)) (fun ρ h1 kk w4 (hg:Grow _ w4) hb hf=>by go_simp) ?_
 refine bI 78 (.tmp 77) (.pointer (some ⟨y,4,none⟩)) (ae af e.ep) (fun ρ h1 kk w4 (hg:Grow _ w4) hb hf=>by have c:=(kg.grow hg).cell 4;go_simp) ?_
 refine ce (fun _ _ w4 (hg:Grow _ w4) _ bR=>hT _ _ ?_)
 clear hops hA' hK hT
 simp only[cj,Act.put,aw,ay,az,ax,aB]
 have Gt:=hg
 have ev:=dO.grows eP Gt
 obtain⟨w5,hrun,hS5,dY⟩:=ev.qb (φ:=fun w'=>(Instr.mapUpdate 114 (.map (some bE)) (ae af e.ag) (ae af e.ep)).run au w4=.ok () w') 3 rfl eP (fun U hU ey=>by
  obtain⟨w',h1,h2,h3⟩:=cJ.put wJ (t:=114) (et:=2) am hU e.ag (ae af e.ep)
  exact⟨w',h1,h2,h3.imp fun b hb=>hb▸hU.1⟩)
 obtain⟨iV,HE⟩:∃ iV:List (Int×Value),Hid (iV=dQ d9 e.ag (ae af e.ep)):=⟨_,rfl⟩
 rw[←HE.out] at hS5
 have hS5:Solo (cB V w) (Many (Cell y 32 #[ae af e.k,ae af e.ag,ae af e.sh,ae af e.sq,ae af e.ep,.slice A e.ds.length c,.string e.se,ae af e.fr,ae af e.tg] :: j7 m s bE bS p g q iV dL F M)) w5:=hS5
 have iU:=(fi m s bE bS p g q iV dL F M).cons (Cell.framed y 32 #[ae af e.k,ae af e.ag,ae af e.sh,ae af e.sq,ae af e.ep,.slice A e.ds.length c,.string e.se,ae af e.fr,ae af e.tg])
 have J5:Just (cB V w) w w5:=((((J0.trans (Just.bJ kj)).trans (Just.bJ yp)).trans (Just.bJ CZ)).trans (Just.bJ Gt)).trans dY
 clear B_ hm2 hY2 kg hp0 hY0 jR hm0 lS hp1 kf
 have KC:=hS5.blk 5 rfl
 have kX:=hS5.blk 0 rfl
 have hg5:=hS5.blk 6 rfl
 have mw:∀ w1,Grow w5 w1→Calls au 56 #[((g:Nat):Value),ae af e.sq] w1 fun en w'=>en=.returned (.bool false)∧Grow w1 w':=fun w1 hg=>by
  have h:=W.kK w1 g F M e.sq _ (hg5.grow hg) ⟨by have:=hI.lo;omega,hI.hi⟩ im hfa
  exact h.mono fun _ _ ⟨h1,h2⟩=>⟨h1,h2▸Grow.refl _⟩
 go_wp2_with fail
 clear hrun
 refine bL 8 91 [(7,.inl (.bool false))] rfl rfl am am am ?_ ?_
 ·intro x hx φ he
  simp only[aF,aE,or_false] at hx
  rcases hx with rfl<;>cases he
 intro ops' A' K' T hops hA' hK hT
 refine bP 79 (((p:Nat):Value)) ?_
 refine bI 80 (.tmp 79) (((p:Nat):Value)) (((p:Nat):Value)) (fun ρ h1 kk w6 (hg:Grow _ w6) hb hf=>by go_simp) ?_
 refine bI 81 (.tmp 80) (((p:Nat):Value)) (((p:Nat):Value)) (fun ρ h1 kk w6 (hg:Grow _ w6) hb hf=>by go_simp) ?_
 refine bI 82 (.tmp 81) (((p:Nat):Value)) (((g:Nat):Value)) (fun ρ h1 kk w6 (hg:Grow _ w6) hb hf=>by have c:=(KC.grow hg).cell 0;go_simp) ?_
 refine bI 83 (.tmp 3) (((y:Nat):Value)) (.pointer (some ⟨y,1,none⟩)) (fun ρ h1 kk w6 (hg:Grow _ w6) hb hf=>by go_simp) ?_
 refine bI 84 (.tmp 83) (.pointer (some ⟨y,1,none⟩)) (.pointer (some ⟨y,1+2,none⟩)) (fun ρ h1 kk w6 (hg:Grow _ w6) hb hf=>by go_simp) ?_
 refine bI 85 (.tmp 84) (.pointer (some ⟨y,1+2,none⟩)) (ae af e.sq) (fun ρ h1 kk w6 (hg:Grow _ w6) hb hf=>by have c:=(kX.grow hg).cell 3;go_simp) ?_
 refine cC 86 aj ak (bO aj) (.bool false) (by rw[hK.out];rfl) 56 _ _ aj [((g:Nat):Value),ae af e.sq] aj Bf (fun kk w6 (hg:Grow _ w6) hb hf=>b_ aj (by exact (mw w6 hg))) ?_
 refine ce (fun _ _ w6 (hg:Grow _ w6) _ bR=>hT _ _ ?_)
 clear hops hA' hK hT
 simp only[cj,Act.put,aw,ay,az,ax,aB]
 have Gu:=hg
 have eC:=hS5.grows iU Gu
 have pT:=eC.blk 0 rfl
 have J6:=J5.trans (Just.bJ Gu)
 have hd6:fV w6 D A e.ds.length e.ds:=In.just hd J6 fun b hb hl=>hl.elim (j5 b hb) (fun h=>by have:=hDl b hb;omega)
 have Ny:dQ dL (e.ag,e.sh) (((p:Nat):Value))=[((e.ag,e.sh),((p:Nat):Value))]:=by
  rcases Fq with rfl|⟨pp,rfl⟩
  ·simp[dQ]
  ·exact C5 _ _ _
 have gB:Solo (cB V w) (Many (Many (j7 m s bE bS p g q iV dL F M) :: [Cell y 32 #[ae af e.k,ae af e.ag,ae af e.sh,ae af e.sq,ae af e.ep,.slice A e.ds.length c,.string e.se,ae af e.fr,ae af e.tg]])) w6:=Solo.eG (eC.perm (List.perm_append_singleton _ _).symm)
 have wW:bM (Many (j7 m s bE bS p g q iV dL F M) :: [Cell y 32 #[ae af e.k,ae af e.ag,ae af e.sh,ae af e.sq,ae af e.ep,.slice A e.ds.length c,.string e.se,ae af e.fr,ae af e.tg]]):=(bM.nil.cons (Cell.framed _ _ _)).cons (Many.framed _ (fi _ _ _ _ _ _ _ _ _ _ _))
 have Ph:=J6.size
 have hcall:=gB.zw 0 rfl wW fun U hU ey wO=>um w6 m s bE bS p g q iV dL F M e A c D U hU ey hd6 (fun b hb=>by have:=hDl b hb;omega) (fun b hb hu=>(wO b hu).elim (j5 b hb) (fun h=>by have:=hDl b hb;omega)) hsz hn hq hmay hI im Ny
 unfold En.agg at hcall
 have y0:=pT.cell 0
 have y1:=pT.cell 1
 have y2:=pT.cell 2
 have y3:=pT.cell 3
 have y4:=pT.cell 4
 have y5:=pT.cell 5
 have y6:=pT.cell 6
 have y7:=pT.cell 7
 have y8:=pT.cell 8
 go_wp2_with fail
 clear y0 y1 y2 y3 y4 y5 y6 y7 y8
 refine hcall.mono ?_
 rintro en w7 ⟨rfl,nn,u9⟩
 go_wp2_with fail
 go_ret2
 have iq:=(Solo.flat u9).perm (List.perm_append_singleton _ _)
 obtain⟨r1,r2⟩:=Solo.done iq.drop1 (J6.trans nn) hV
 rw[←HE.out]
 exact⟨rfl,⟨s,bE,bS,p,g,r1⟩,r2⟩
theorem Du {e:En} (hok:e.Ok) (hk:e.k=1):(∀ d∈e.ds,d.1.size≤maxLen∧d.2≤K.kc)∧e.ds.length≤1048576 ∧ -9223372036854775808≤e.sq∧e.sq≤9223372036854775807:=by
 rcases hok.2 with h|h
 ·obtain⟨_,_,_,_,h5,_,h7,h8⟩:=h
  exact⟨fun d hd=>by obtain⟨_,b,_,s⟩:=h8 d hd;exact⟨by unfold maxLen;omega,by unfold K.kc;omega⟩,by omega,by omega,by omega⟩
 ·exact absurd (h.1.symm.trans hk) ak
theorem xg (w:World) (m:Nat) (q:K.Sm) (d9:List (Int×Value)) (F:Int) (M:Nat) (e:En) (A:Option Addr) (c:Nat) (D V:Nat→Prop) (hV:∀ b,V b→b<w.heap.size) (hok:e.Ok) (hk:e.k=1) (hd:fV w D A e.ds.length e.ds) (hDl:∀ b,D b→b<w.heap.size) (j5:∀ b,D b→¬ V b) (hq:q.length≤1048576) (hse:W.seen 0 0 e.sq=false) (hfa:W.far 0 e.sq=false) (oj:∃ x:Int,(pX d9 e.ag).getD (ae af 0)=ae af x∧x≤e.ep) (hmay:K.i3 q e.ds=0) (h:cX m q d9 none w V) :
 Calls au 13 #[((m:Nat):Value),.agg (e.agg A c)] w fun en w'=>en=.returned (.tuple #[ae af 1,ae ah 0])∧cX m (K.fP q e.ds) (dQ d9 e.ag (ae af e.ep)) (some ((e.ag,e.sh),(W.dm 0 0 e.sq).1,(W.dm 0 0 e.sq).2)) w' (Ext V w w')∧Just V w w':=by
 obtain⟨hsz,hn,im⟩:=Du hok hk
 refine (A5 w m q d9 0 0 e A c D V hV hok hk hd hDl j5 hsz hn hq W.fu.none im (fun _=>[]) hse hfa oj hmay (fun _ => .inl rfl) fun wa hg=>Ff wa m q d9 V (fun b hb=>aA (hV b hb) hg.size) e.ag e.sh (cX.framed _ _ _ _ w wa V h fun b hb=>hg.block b (hV b hb))).mono fun en w' ⟨h1,⟨s,bE,bS,p,g,h2⟩,h3⟩=>⟨h1,⟨s,bE,bS,p,g,h2⟩,h3⟩
theorem Dv (i:Int):W.far i (i+1)=false:=by
 unfold W.far
 have:decide (64≤i+1-i-1)=false:=decide_eq_false al
 rw[this,Bool.and_false]
theorem Aa (i:Int):W.seen i 0 (i+1)=false:=by
 unfold W.seen
 have:decide (i+1≤i)=false:=decide_eq_false al
 rw[this,Nat.zero_testBit,Bool.and_false,Bool.false_or]
def ei:ByteArray:=⟨#[97,61,49]⟩
def smA (n:Nat):K.Sm:=if n=0 then [] else [(ei,n)]
theorem Iq (n:Nat):K.lk (smA n) ei=if n=0 then none else some n:=by
 unfold smA
 by_cases h:n=0
 ·rw[if_pos h,if_pos h];rfl
 ·rw[if_neg h,if_neg h,K.jG,if_pos rfl]
theorem Ir (n:Nat):K.gt (smA n) ei=n:=by
 unfold K.gt
 rw[Iq]
 by_cases h:n=0
 ·rw[if_pos h,h];rfl
 ·rw[if_neg h];rfl
theorem Fs (n:Nat):(smA n).length≤1:=by
 unfold smA
 split<;>simp
theorem Dw (n v:Nat) (hn:n+v≤18446744073709551615):K.i3 (smA n) [(ei,v)]=0:=by
 have hok:K.eF (smA n) [] [(ei,v)]=true:=by
  rw[K.eF,K.eF,Bool.and_true,decide_eq_true_eq,Ir]
  have:K.gt [] ei=0:=rfl
  rw[this]
  show 0+v+n≤18446744073709551615
  omega
 have hnw:K.news (smA n) (K.add [] [(ei,v)])≤1:=by
  unfold K.news
  refine aH (List.length_filter_le _ _) ?_
  show (K.put [] ei (K.gt [] ei+v)).length≤1
  simp[K.put,K.GX,K.yF,K.lE]
 have:=Fs n
 unfold K.i3
 rw[if_pos hok,if_neg al]
def Pn (ag sq ep:Int) (v:Nat) (fr tg:Int):En:=⟨1,ag,0,sq,ep,[(ei,v)],⟨#[]⟩,fr,tg⟩
theorem un:L.fH ei=0:=by decide +kernel
theorem Is {ag sq ep:Int} {v:Nat} {fr tg:Int} (ha:0≤ag∧ag<8) (hs:1≤sq∧sq≤9223372036854775807) (he:1≤ep∧ep≤9223372036854775807) (hv:1≤v∧v≤18446744073709551615) (hf:0≤fr∧fr<8) (ht:0≤tg∧tg≤9223372036854775807):(Pn ag sq ep v fr tg).Ok:=
 ⟨⟨hf,ht⟩,.inl ⟨rfl,rfl,ha,⟨Int.le_refl 0,show (0:Int)<4 by decide⟩,hs,he,⟨aC 1,show 1≤8 by decide⟩,fun d hd=>by
  have hd:d=(ei,v):=by simpa [Pn] using hd
  subst hd
  exact⟨hv.1,hv.2,un,show 3≤1000 by decide⟩⟩⟩
end Go.Proofs.YtmijcbfgfkeodaaGreatDoor
end
section
namespace Go.Proofs.YtmijcbfgfkeodaaGreatDoor.K
open Go.RowKit Go.Hop Go.Shelf
end Go.Proofs.YtmijcbfgfkeodaaGreatDoor.K
namespace Go.Proofs.YtmijcbfgfkeodaaGreatDoor.K
open Go.RowKit Go.Hop Go.Shelf
def n_ (a b:ByteArray):Int:=if slt a b then -1 else if slt b a then 1 else 0
theorem vE (a b:ByteArray):(!(Op.bytesLess a.toList b.toList || a.toList == b.toList))=slt b a:=by
 cases h1:slt a b with
 | true=>
   have h2:=rI h1
   unfold slt at h1
   rw[h1,h2];rfl
 | false=>
   have h1':=h1
   unfold slt at h1'
   rw[h1',Bool.false_or]
   cases h2:slt b a with
   | false=>
     have:=jF h1 h2
     subst this
     simp
   | true=>
     have hne:a.toList≠b.toList:=fun e=>by
      have:=rJ.1 e
      rw[this,gT] at h2;cases h2
     simp[hne]
theorem gK (w:World) (a:ByteArray):Calls au 210 #[.string a] w fun e w'=>e=.returned (.bool false)∧w=w':=by
 go_enter Tryz.func210,Tryz.ntmps210
 go_wp2_with fail
 go_ret
 exact⟨by simp,rfl⟩
theorem nI (w:World) (a b:ByteArray):Calls au 136 #[.string a,.string b] w fun e w'=>e=.returned (ae af (n_ a b))∧w=w':=by
 have hg:=vE a b
 unfold n_
 cases h1:slt a b with
 | true=>
   rw[if_pos rfl]
   unfold slt at h1
   go_enter Tryz.func136,Tryz.ntmps136
   go_wp2_with (go_at_call 210;refine (gK _ _).mono ?_;rintro e w' ⟨rfl,rfl⟩)
   go_ret
   exact⟨rfl,rfl⟩
 | false=>
   rw[if_neg (by simp)]
   unfold slt at h1
   cases h2:slt b a with
   | true=>
     rw[if_pos rfl]
     rw[h2] at hg
     go_enter Tryz.func136,Tryz.ntmps136
     go_wp2_with (go_at_call 210;refine (gK _ _).mono ?_;rintro e w' ⟨rfl,rfl⟩)
     all_goals first|(go_ret;exact⟨rfl,rfl⟩)|simp_all
   | false=>
     rw[if_neg (by simp)]
     rw[h2] at hg
     go_enter Tryz.func136,Tryz.ntmps136
     go_wp2_with (go_at_call 210;refine (gK _ _).mono ?_;rintro e w' ⟨rfl,rfl⟩)
     all_goals first|(go_ret;exact⟨rfl,rfl⟩)|simp_all
end Go.Proofs.YtmijcbfgfkeodaaGreatDoor.K
end
section
namespace Go.Proofs.YtmijcbfgfkeodaaGreatDoor.K
open Go.RowKit Go.Hop
theorem iC (w:World) (A:Option Addr) (n c:Nat) (hn:n≤c) :
 Calls au 137 #[.slice A n c] w fun e w'=>e=.returned (.slice A n n)∧w=w':=by
 go_enter Tryz.func137,Tryz.ntmps137
 go_wp2_with fail
 go_ret
 exact⟨rfl,rfl⟩
end Go.Proofs.YtmijcbfgfkeodaaGreatDoor.K
end
