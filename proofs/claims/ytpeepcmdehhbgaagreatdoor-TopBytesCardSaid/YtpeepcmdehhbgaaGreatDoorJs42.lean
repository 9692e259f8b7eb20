/- Wll, Wlm, Pl1, Pl2, Pl3, Pl4, Pl5, Pl6, Pl7, Pl8, Pl9. -/
import Derived.Test.YtpeepcmdehhbgaaGreatDoorJs41
set_option linter.all false
set_option maxRecDepth 100000
open Go.Value renaming int->ae,slice->Z,string->aX,bool->aY,agg->aZ,tuple->a_
open Go.Ending renaming returned->b5
open Go.IntKind renaming i64->af,u64->ah
open Go (J az aE aA aB aC aD ay aj am ap aw aL aK aJ aI aH aV aU aT aR aQ aP aO aN)
open Go.Proofs.Tryz renaming prog->W
open List renaming length_append->bd,perm_append_comm->bg,length_map->bj,length_take->bn,length_singleton->bv,length_cons->bD,map_append->bI,flatMap_cons->bJ,mem_cons_of_mem->bR,range->bV,mem_of_mem_take->bW,mem_cons_self->cj,map_congr_left->cO,mem_of_mem_drop->cX,length_filter_le->c_,length_range->da
open Nat renaming le_of_ble_eq_true->bf,le_refl->bh,zero_le->bo,le_trans->bB,zero_add->cJ,mul_one->cM
open Bool renaming and_eq_true->bU
open Go renaming Value->K,World->X,Calls->dz,TypeId->dC,maxLen->dG
open Go.Proofs.YtpeepcmdehhbgaaGreatDoor (Ag)
variable{x:Ag}{k nr i d n t m:Nat}{rl al dl l:aQ}{f:Int}
namespace Go.Proofs.YtpeepcmdehhbgaaGreatDoor
open RowKit Hop V
theorem Ps:(Tryz.prog.info? 24).map (λi=>(i.zero,i.size,i.bytes))=some (some (.pointer none),1,8):=by kernel_rfl
theorem Pt:(Tryz.prog.info? 105).map (λi=>(i.zero,i.size,i.bytes))=some (some (.pointer none),1,8):=by kernel_rfl
theorem Pu:(Tryz.prog.info? 26).map (λi=>(i.zero,i.size,i.bytes))=some (some (.pointer none),1,8):=by kernel_rfl
theorem prN:Elem W 155 24 1 8 (.pointer none):=⟨Tryz.underlying155,info_parts Ps,rfl,by decide,by decide⟩
theorem paN:Elem W 156 105 1 8 (.pointer none):=⟨Tryz.underlying156,info_parts Pt,rfl,by decide,by decide⟩
theorem pdN:Elem W 157 26 1 8 (.pointer none):=⟨Tryz.underlying157,info_parts Pu,rfl,by decide,by decide⟩
theorem a0T(w:X):dz W 16 #[] w λe O=>e=b5 (.pointer (some ⟨(w:Nat),0,none⟩))∧jK (w:Nat) [] 0 O (New w O)∧Grow w O:=V.oS w
def Te(p:Nat):List K:=[ptr p]
def YJ(_:X)(_:aV)(_:Nat):Prop:=True
theorem qU:lE YJ:=λ_ _ _ _ _ _=>trivial
theorem Ch:iz YJ:=λ_ _ _ _ _ _=>trivial
theorem I1:∀p,(Te p).length=1:=λ_=>rfl
theorem I2:∀p,∀u∈Te p,u.oneCell'=true:=λp u hu=>by rw[List.mem_singleton.1 hu];rfl
abbrev tK(e:dC)(u:K)(q:aQ):dW:=h_ e 1 Te YJ u q
def qw(nr:Nat)(rl al dl:aQ)(i:Nat):Bl:=if i<nr then .o (tX (rl.getD i 0) (dl.getD i 0) (Rp.open_ i nr [])) else .o (CN (al.getD (i-nr) 0) (dl.getD i 0) (Ag.new i nr [] 1))
def ie(nr:Nat)(rl al dl:aQ)(k:Nat):List Bl:=(bV k).map (qw nr rl al dl)
def I4(abq g nn nr:Nat)(ur ua ud:K)(rl al dl:aQ)(k:Nat):List Bl := .c abq 159 #[ur,ua,ud,ptr g]::.o (tK 24 ur rl)::.o (tK 105 ua al)::.o (tK 26 ud dl)::.o (Ne.fc g (nn:Int) [] (λ_=>false))::ie nr rl al dl k
theorem a0U{α:Type _}(a b c d e f:α)(abn:List α):([a,b,c,d,e,f]++abn).Perm ([d,a,e,c,f]++(abn++[b])):=by have h:[a,b,c,d,e,f].Perm [d,a,e,c,f,b]:=List.Perm.map (λk=>[a,b,c,d,e,f].getD k a) (by decide:[0,1,2,3,4,5].Perm [3,0,4,2,5,1]);refine (h.append_right abn).trans ?_;show ([d,a,e,c,f]++([b]++abn)).Perm _;exact List.Perm.append_left _ bg
theorem Xw{α:Type _}(a b c d e f:α)(abn:List α):([a,b,c,d,e,f]++abn).Perm ([d,e,a,c,f]++(abn++[b])):=by have h:[a,b,c,d,e,f].Perm [d,e,a,c,f,b]:=List.Perm.map (λk=>[a,b,c,d,e,f].getD k a) (by decide:[0,1,2,3,4,5].Perm [3,4,0,2,5,1]);refine (h.append_right abn).trans ?_;show ([d,e,a,c,f]++([b]++abn)).Perm _;exact List.Perm.append_left _ bg
theorem qx{x:Nat}(h:i<l.length):(l++[x]).getD i 0=l.getD i 0:=by simp[List.getD,List.getElem?_append_left h]
theorem qV{x:Nat}(h:i=l.length):(l++[x]).getD i 0=x:=by subst h;simp[List.getD]
theorem LV{r:Nat}(Fz:k<nr)(QH:rl.length=k)(pK:dl.length=k):ie nr (rl++[r]) al (dl++[d]) (k+1)=ie nr rl al dl k++[.o (tX r d (Rp.open_ k nr []))]:=by
 unfold ie;rw[List.range_succ,bI,List.map_singleton];congr 1
 ·refine cO λi hi=>?_
  have hi:=List.mem_range.1 hi;unfold qw;rw[aA ap,aA ap,qx ap,qx ap]
 ·unfold qw
  rw[aA Fz,qV QH.symm,qV pK.symm]
theorem LW{a:Nat}(Fz:¬ k<nr)(Y6:al.length=k-nr)(pK:dl.length=k):ie nr rl (al++[a]) (dl++[d]) (k+1)=ie nr rl al dl k++[.o (CN a d (Ag.new k nr [] 1))]:=by
 unfold ie;rw[List.range_succ,bI,List.map_singleton];congr 1
 ·refine cO λi hi=>?_
  have hi:=List.mem_range.1 hi;unfold qw;by_cases kT:i<nr;·rw[aA kT,aA kT,qx ap]
  ·rw[aB kT,aB kT,qx ap,qx ap]
 ·unfold qw
  rw[aB Fz,qV Y6.symm,qV pK.symm]
theorem B7:l8 [] (([]:List Wo).map Wo.B) 0:=⟨rfl,rfl,λx Y=>(by simp at Y),λx _ h=>by have:=h.length_le;rw[jB] at this;simp at this⟩
set_option maxRecDepth 100000
set_option maxHeartbeats 1000000
theorem Xx(w:X)(nr na:Nat)(I:1<=nr)(G:1<=na)(h8:nr+na<=8):Lw W (λ_=>False) 81 #[J nr,J na] [] (λ(j:Nat×Nat×(K×K×K)×List Nat×List Nat×List Nat)e=>e=b5 (ptr j.1)∧j.2.2.2.1.length=nr∧j.2.2.2.2.1.length=na∧j.2.2.2.2.2.length=nr+na) (λj=>I4 j.1 j.2.1 (nr+na) nr j.2.2.1.1 j.2.2.1.2.1 j.2.2.1.2.2 j.2.2.2.1 j.2.2.2.2.1 j.2.2.2.2.2 (nr+na)) w:=by
 intro V rr hV;have fN:=St.begin_ rr (λb hb=>(hV b hb).1) trivial;have d1:decide ((nr:Int)<1)=false:=aD ap;have d2:decide ((na:Int)<0)=false:=aD ap;have d3:decide ((8:Int)<(nr:Int))=false:=aD ap;have s1:IntKind.i64.wrap (8-(nr:Int))=((8-nr:Nat):Int):=by rw[IntKind.wrap_i64];omega
 have d4:decide (8-nr<na)=false:=aD ap;obtain⟨nn,LP⟩:=az (nr+na);have s2:IntKind.i64.wrap ((nr:Int)+(na:Int))=(nn:Int):=by rw[LP.out,IntKind.wrap_i64];omega
 have hNe:=Ne.oS w (nn:Int) (by rw[LP.out];omega) (by rw[LP.out];omega);rw[<-LP.out];go_in;go_wp2_with fail;refine hNe.mono ?_;rintro e w1 ⟨rfl,hN,H⟩;clear hNe d1 d2 d3 s1 d4;have ej:=fN.join (Ne.fc.framed _ _ _ _) H (U:=New w w1) hN (λb hb=>hb);obtain⟨g,Hg⟩:=az ((w:Nat));rw[<-Hg.out] at ej ⊢;clear hN H;replace ej:=((ej.join (h_.framed qU _ _) (Grow.refl _) (U:=λ_=>False) (h_.nil (e:=26) (size:=1) (cells:=Te) (good:=YJ) w1 _) (λ_ h=>h.elim)).join (h_.framed qU _ _) (Grow.refl _) (U:=λ_=>False) (h_.nil (e:=105) (size:=1) (cells:=Te) (good:=YJ) w1 _) (λ_ h=>h.elim)).join (h_.framed qU _ _) (Grow.refl _) (U:=λ_=>False) (h_.nil (e:=24) (size:=1) (cells:=Te) (good:=YJ) w1 _) (λ_ h=>h.elim);obtain⟨abq,wa,HW,HA,dV⟩:=ej.new' #[ay,ay,ay,g] 159;replace dV:St V w (I4 abq g nn nr (Z none 0 0) (Z none 0 0) (Z none 0 0) [] [] [] 0) wa:=dV;go_wp2_with fail;rw[<-HA.out,<-HW.out];clear HA HW ej fN Hg;go_loopw [33] (λu wr=>∃(k:Nat)(ur ua ud:K)(rl al dl:aQ),u=J k∧k<=nn∧(rl.length=min k nr∧al.length=k-nr∧dl.length=k)∧St V w (I4 abq g nn nr ur ua ud rl al dl k) wr) (λu _=>nn-(intOf u).toNat);case atStart=>exact⟨0,_,_,_,[],[],[],rfl,bo _,⟨by simp,by simp,rfl⟩,dV⟩
 case round=>
  obtain⟨k,ur,ua,ud,rl,al,dl,rfl,oL,⟨QH,Y6,pK⟩,hS⟩:=hrel;clear dV;by_cases N:k<nn
  ·have dk:decide (k<nn)=true:=aC N
   have hDn:=a0T wr;go_wp2_with fail;refine hDn.mono ?_;rintro e w2 ⟨rfl,hD,H⟩;clear hDn;have ej:=hS.join (jK.framed _ _ _) H (U:=New wr w2) hD (λb hb=>hb);obtain⟨d,Hd⟩:=az ((wr:Nat));rw[<-Hd.out] at ej ⊢;clear hD H Hd hS;have cu:w2.cell? ⟨abq,2,none⟩=some ud:=(ej.front 1 rfl).facts.1.1 2;go_wp2_with (at_builtin;refine stay ?_);refine dI ?_;refine lb pdN qU Ch I1 I2 rfl (.tmp 41) (.tmp 43) rfl rfl (ej.front 4 rfl) (Grow.refl _) (b:=d) trivial (by have:=LP.out;omega) 1 rfl ?_;intro ud' w3 dX;clear ej cu;obtain⟨Ad,Ld,cd,hud⟩:∃A abn c,ud'=Z A abn c:=by obtain⟨U,hU,_⟩:=dX.own.see 0 rfl;obtain⟨A',c',h,_⟩:=h_.sl hU;exact⟨A',_,c',h⟩
   subst hud;go_wp2_with (refine fv dX 2 rfl 157 (.tmp 46) (.tmp 44) rfl 2 rfl (Z Ad Ld cd) rfl (bf rfl) rfl aw rfl ?_;intro w4 eO;refine stay ?_);refine dI ?_;replace eO:St V w (.o (tK 26 (Z Ad Ld cd) (dl++[d]))::.o (jK d [] 0)::.c abq 159 #[ur,ua,Z Ad Ld cd,ptr g]::.o (tK 24 ur rl)::.o (tK 105 ua al)::.o (Ne.fc g (nn:Int) [] (λ_=>false))::ie nr rl al dl k) w4:=eO;by_cases Fz:k<nr
   ·have dkr:decide (k<nr)=true:=aC Fz
    go_wp2_with fail;have eW:=eO.grow (Grow.refl _).drew;have eA:w4.drew.cell? ⟨abq,0,none⟩=some ur:=(eW.front 2 rfl).facts.1.1 0;refine dJ rfl ?_;refine fC (λO=>O.cell? ⟨abq,0,none⟩=some ur) [13] 14 rfl [0,1,2,3,4,5,6,7] ?_;iterate 8 (refine eV rfl eA (λw1 I=>aM) ?_)
    refine eZ 8 [] rfl ?_;have hf:=eW.front 1 rfl;have hC:=St.call (a:=[.o (jK d [] 0)]) (b:=[.o (tK 26 (Z Ad Ld cd) (dl++[d])),.c abq 159 #[ur,ua,Z Ad Ld cd,ptr g],.o (tK 24 ur rl),.o (tK 105 ua al),.o (Ne.fc g (nn:Int) [] (λ_=>false))]++ie nr rl al dl k) (a':=λp:pj=>dP p 0 (Rp.open_ k nr [])) hf (λp=>eL p _ _) hf.no (SS w4.drew (λ_=>False) d 0 k nr [] [] 0 B7 (by simp) ⟨Fz,by omega⟩);go_wp2_with fail;refine hC.mono ?_;rintro e w5 ⟨p,⟨L6,rfl⟩,eF⟩;replace eF:=eF.cls (tX.framed p.r d (Rp.open_ k nr [])) λU hM=>⟨p,0,rfl,L6,hM⟩;replace eF:St V w (.o (tX p.r d (Rp.open_ k nr []))::.o (tK 26 (Z Ad Ld cd) (dl++[d]))::.c abq 159 #[ur,ua,Z Ad Ld cd,ptr g]::.o (tK 24 ur rl)::.o (tK 105 ua al)::.o (Ne.fc g (nn:Int) [] (λ_=>false))::ie nr rl al dl k) w5:=eF;have C9:w5.cell? ⟨abq,0,none⟩=some ur:=(eF.front 2 rfl).facts.1.1 0;obtain⟨r,Hr⟩:=az (p.r);rw[<-Hr.out] at eF ⊢;clear hC hf eW eA eO dX Hr L6;go_wp2_with fail;refine⟨λ_=>C9,?_⟩;refine eZ 9 [] rfl ?_;go_wp2_with fail;have eN:=eF.new' #[r] 24;obtain⟨y9,w9,_,HW9,eN⟩:=eN;have kU:w9.cell? ⟨abq,0,none⟩=some ur:=(eN.front 3 rfl).facts.1.1 0;rw[HW9.out] at kU;refine⟨λ_=>kU,?_⟩;clear eN HW9;refine eZ 10 [] rfl ?_;refine lb prN qU Ch I1 I2 rfl (.tmp 54) (.tmp 59) rfl rfl (eF.front 3 rfl) (Grow.refl _) (b:=r) trivial (by have:=LP.out;omega) 1 rfl ?_;intro ur' w6 eN;clear eF kU C9;obtain⟨Ar,Lr,cr,hur⟩:∃A abn c,ur'=Z A abn c:=by obtain⟨U,hU,_⟩:=eN.own.see 0 rfl;obtain⟨A',c',h,_⟩:=h_.sl hU;exact⟨A',_,c',h⟩
    subst hur;have kU:w6.cell? ⟨abq,0,none⟩=some ur:=(eN.front 3 rfl).facts.1.1 0;go_wp2_with fail;refine⟨λ_=>kU,?_⟩;refine eZ 11 [12] rfl ?_;go_wp2_with fail;refine⟨λ_=>kU,?_⟩;refine eV rfl kU (λw1 I=>aM) ?_;refine eZ 13 [] rfl ?_;go_wp2_with (refine fv eN 3 rfl 155 (.tmp 62) (.tmp 60) rfl 0 rfl (Z Ar Lr cr) rfl (bf rfl) rfl aw rfl ?_;intro w7 fH;refine stay ?_);refine dI ?_;replace fH:St V w (.o (tK 24 (Z Ar Lr cr) (rl++[r]))::.o (tX r d (Rp.open_ k nr []))::.o (tK 26 (Z Ad Ld cd) (dl++[d]))::.c abq 159 #[Z Ar Lr cr,ua,Z Ad Ld cd,ptr g]::.o (tK 105 ua al)::.o (Ne.fc g (nn:Int) [] (λ_=>false))::ie nr rl al dl k) w7:=fH;clear eN kU;go_wp2_with fail;refine⟨λh=>absurd h am,?_⟩;refine gj ?_;have fD:=fH.perm (a0U _ _ _ _ _ _ (ie nr rl al dl k));rw[<-LV Fz ap pK] at fD;clear fH;have hnk:IntKind.i64.wrap ((k:Int)+1)=((k+1:Nat):Int):=by rw[IntKind.wrap_i64];have:=LP.out;omega
    go_wp2_with fail;refine⟨⟨k+1,_,_,_,_,_,_,rfl,by omega,⟨by rw[bd,QH,bv];omega,by omega,by rw[bd,pK];rfl⟩,fD⟩,?_⟩;show nn-((k:Int)+1).toNat<nn-(k:Int).toNat
    omega
   ·have dkr:decide (k<nr)=false:=aD Fz
    go_wp2_with fail;have eW:=eO.grow (Grow.refl _).drew;have eA:w4.drew.cell? ⟨abq,1,none⟩=some ua:=(eW.front 2 rfl).facts.1.1 1;refine dJ rfl ?_;refine fC (λO=>O.cell? ⟨abq,1,none⟩=some ua) [13] 14 rfl [0,1,2,3,4,5,6,7] ?_;iterate 8 (refine eV rfl eA (λw1 I=>aM) ?_)
    refine eZ 8 [] rfl ?_;have hf:=eW.front 1 rfl;have hC:=St.call (a:=[.o (jK d [] 0)]) (b:=[.o (tK 26 (Z Ad Ld cd) (dl++[d])),.c abq 159 #[ur,ua,Z Ad Ld cd,ptr g],.o (tK 24 ur rl),.o (tK 105 ua al),.o (Ne.fc g (nn:Int) [] (λ_=>false))]++ie nr rl al dl k) (a':=λp:vE=>dR p (Ag.new k nr [] 1)) hf (λp=>fB p _) hf.no (WU w4.drew (λ_=>False) d 0 k nr 1 [] [] 0 B7 (by simp) (by have:=LP.out;omega) ⟨I,by omega⟩ rfl am aw);go_wp2_with fail;refine hC.mono ?_;rintro e w5 ⟨p,⟨L6,rfl⟩,eF⟩;replace eF:=eF.cls (CN.framed p.a d (Ag.new k nr [] 1)) λU hM=>⟨p,rfl,L6,hM⟩;replace eF:St V w (.o (CN p.a d (Ag.new k nr [] 1))::.o (tK 26 (Z Ad Ld cd) (dl++[d]))::.c abq 159 #[ur,ua,Z Ad Ld cd,ptr g]::.o (tK 24 ur rl)::.o (tK 105 ua al)::.o (Ne.fc g (nn:Int) [] (λ_=>false))::ie nr rl al dl k) w5:=eF;have C9:w5.cell? ⟨abq,1,none⟩=some ua:=(eF.front 2 rfl).facts.1.1 1;obtain⟨r,Hr⟩:=az (p.a);rw[<-Hr.out] at eF ⊢;clear hC hf eW eA eO dX Hr L6;go_wp2_with fail;refine⟨λ_=>C9,?_⟩;refine eZ 9 [] rfl ?_;go_wp2_with fail;have eN:=eF.new' #[r] 105;obtain⟨y9,w9,_,HW9,eN⟩:=eN;have kU:w9.cell? ⟨abq,1,none⟩=some ua:=(eN.front 3 rfl).facts.1.1 1;rw[HW9.out] at kU;refine⟨λ_=>kU,?_⟩;clear eN HW9;refine eZ 10 [] rfl ?_;refine lb paN qU Ch I1 I2 rfl (.tmp 67) (.tmp 72) rfl rfl (eF.front 4 rfl) (Grow.refl _) (b:=r) trivial (by have:=LP.out;omega) 1 rfl ?_;intro ua' w6 eN;clear eF kU C9;obtain⟨Ar,Lr,cr,hur⟩:∃A abn c,ua'=Z A abn c:=by obtain⟨U,hU,_⟩:=eN.own.see 0 rfl;obtain⟨A',c',h,_⟩:=h_.sl hU;exact⟨A',_,c',h⟩
    subst hur;have kU:w6.cell? ⟨abq,1,none⟩=some ua:=(eN.front 3 rfl).facts.1.1 1;go_wp2_with fail;refine⟨λ_=>kU,?_⟩;refine eZ 11 [12] rfl ?_;go_wp2_with fail;refine⟨λ_=>kU,?_⟩;refine eV rfl kU (λw1 I=>aM) ?_;refine eZ 13 [] rfl ?_;go_wp2_with (refine fv eN 3 rfl 156 (.tmp 75) (.tmp 73) rfl 1 rfl (Z Ar Lr cr) rfl (bf rfl) rfl aw rfl ?_;intro w7 fH;refine stay ?_);refine dI ?_;replace fH:St V w (.o (tK 105 (Z Ar Lr cr) (al++[r]))::.o (CN r d (Ag.new k nr [] 1))::.o (tK 26 (Z Ad Ld cd) (dl++[d]))::.c abq 159 #[ur,Z Ar Lr cr,Z Ad Ld cd,ptr g]::.o (tK 24 ur rl)::.o (Ne.fc g (nn:Int) [] (λ_=>false))::ie nr rl al dl k) w7:=fH;clear eN kU;go_wp2_with fail;refine⟨λh=>absurd h am,?_⟩;refine gj ?_;have fD:=fH.perm (Xw _ _ _ _ _ _ (ie nr rl al dl k));rw[<-LW Fz Y6 pK] at fD;clear fH;have hnk:IntKind.i64.wrap ((k:Int)+1)=((k+1:Nat):Int):=by rw[IntKind.wrap_i64];have:=LP.out;omega
    go_wp2_with fail;refine⟨⟨k+1,_,_,_,_,_,_,rfl,by omega,⟨by omega,by rw[bd,Y6,bv];omega,by rw[bd,pK];rfl⟩,fD⟩,?_⟩;show nn-((k:Int)+1).toNat<nn-(k:Int).toNat
    omega
  ·obtain rfl:k=nn:=by omega
   go_wp2;go_ret;obtain⟨r1,r2⟩:=hS.fin;have:=LP.out;exact⟨(abq,g,(ur,ua,ud),rl,al,dl),⟨rfl,show rl.length=nr by omega,show al.length=na by omega,pK⟩,r1,r2⟩
def Wl.new(nr na:Nat):Wl:=⟨nr,na,λi=>Rp.open_ i nr [],λi=>Ag.new (nr+i) nr [] 1,[],λ_=>false⟩
theorem tL{w:X}{S S':dW}(hS:∀U,S w U->S' w U):∀(l:List dW)(i:Nat),l[i]?=some S->∀{V:aV},dN l w V->dN (l.set i S') w V
 | x::l,0,h,V,⟨V1,V2,a,b,c,d,e⟩=>by
   cases h;exact⟨V1,V2,hS _ a,b,c,d,e⟩
 | x::l,i+1,h,V,⟨V1,V2,a,b,c,d,e⟩=>⟨V1,V2,a,tL hS l i (by simpa using h) b,c,d,e⟩
theorem JC:∀q:aQ,q.flatMap Te=q.map ptr
 | []=>rfl
 | a::l=>by rw[bJ,JC l];rfl
theorem Ci{e:dC}{u:K}{q:aQ}{w:X}{U:aV}(h:tK e u q w U)(hq:q≠[]):∃(g cap:Nat)(cur:aP),u=Z (some ⟨g,0,none⟩) q.length cap∧q.length<=cap∧cap<=dG∧(∀i,i<q.length->cur[i]?=some (ptr (q.getD i 0)))∧∀U',tK e u q w U'->Cell g e cur w U':=by
 have zD:0<q.length:=List.length_pos_iff.2 hq;obtain⟨R,D,⟨hl,hr⟩,_,L,_⟩:=h;rcases hr with ⟨_,h0⟩|⟨g,cap,cur,rfl,H,hh,iS,hm,iZ,j9⟩
 ·omega
 ·refine⟨g,cap,cur,rfl,iS,hm,λi hi=>?_,?_⟩
  ·rw[cM] at j9
   have e1:(cur.toList.take q.length)[i]?=(q.flatMap Te)[i]?:=by rw[j9]
   rw[List.getElem?_take,aA hi] at e1;rw[<-Array.getElem?_toList,e1];have e2:q.flatMap Te=q.map ptr:=JC q;rw[e2,List.getElem?_map];simp[List.getD,List.getElem?_eq_getElem hi]
  ·rintro U' ⟨R',D',⟨_,Mg⟩,_,h3',_⟩
   rcases Mg with ⟨h0,_⟩|⟨g',cap',cur',he,yO,hh',_⟩
   ·cases h0
   ·cases he
    rw[hh] at hh';cases hh';exact⟨(h3' _ yO).1,hh⟩
theorem LX{na:Nat}(P:my)(hr:P.r=λi=>rl.getD i 0)(ha:P.a=λi=>al.getD i 0)(hd:P.d=λi=>dl.getD i 0):ie nr rl al dl (nr+na)=oF P (Wl.new nr na)++rq P (Wl.new nr na):=by
 unfold ie oF rq;rw[List.range_add,bI,List.map_map];congr 1
 ·refine cO λi hi=>?_
  have hi:=List.mem_range.1 hi;unfold qw;rw[aA hi,hr,hd];rfl
 ·refine cO λi hi=>?_
  show qw nr rl al dl (nr+i)=_;unfold qw;rw[aB ap,ha,hd,Nat.add_sub_cancel_left];rfl
theorem Xy(w:X)(nr na:Nat)(I:1<=nr)(G:1<=na)(h8:nr+na<=8):Lw W (λ_=>False) 81 #[J nr,J na] [] (λ(abq:Nat)e=>e=b5 (ptr abq)) (λabq=>[.o (iw abq (Wl.new nr na))]) w:=by intro V hM hV;refine (Xx w nr na I G h8 V hM hV).mono ?_;rintro e O ⟨⟨abq,g,⟨ur,ua,ud⟩,rl,al,dl⟩,⟨rfl,l1,l2,l3⟩,hM,hj⟩;dsimp only at l1 l2 l3 hM;refine⟨abq,rfl,⟨iY V w O,λ_=>False,?_,trivial,λ_ h=>h,λ_ h=>h.elim,λ_ _ h=>h⟩,hj⟩;obtain⟨U1,YF,_⟩:=dN.mem (S:=tK 24 ur rl) hM (bR _ (cj ..));obtain⟨U2,Vx,_⟩:=dN.mem (S:=tK 105 ua al) hM (bR _ (bR _ (cj ..)));obtain⟨U3,hU3,_⟩:=dN.mem (S:=tK 26 ud dl) hM (bR _ (bR _ (bR _ (cj ..))));obtain⟨rb,rc,ru,rfl,r1,r2,r3,r4⟩:=Ci YF (λh=>by rw[h] at l1;simp at l1;omega);obtain⟨ab,ac,au,rfl,a1,a2,a3,a4⟩:=Ci Vx (λh=>by rw[h] at l2;simp at l2;omega);obtain⟨db,dc,du,rfl,d1,d2,d3,d4⟩:=Ci hU3 (λh=>by rw[h] at l3;simp at l3;omega);have hM1:=tL r4 _ 1 rfl hM;have hM2:=tL a4 _ 2 rfl hM1;have hM3:=tL d4 _ 3 rfl hM2;rw[l1] at r1 r3;rw[l2] at a1 a3;rw[l3] at d1 d3;refine⟨⟨abq,rb,ab,db,g,rc,ac,dc,ru,au,du,λi=>rl.getD i 0,λi=>al.getD i 0,λi=>dl.getD i 0⟩,rfl,⟨⟨I,h8⟩,r3,a3,d3,⟨r1,a1,d1⟩,⟨r2,a2,d2⟩⟩,?_⟩;have hp:=LX (nr:=nr) (na:=na) (rl:=rl) (al:=al) (dl:=dl) ⟨abq,rb,ab,db,g,rc,ac,dc,ru,au,du,λi=>rl.getD i 0,λi=>al.getD i 0,λi=>dl.getD i 0⟩ rfl rfl rfl;unfold dL;rw[<-hp];unfold wlC;show dN (px (.c abq 159 #[Z (some ⟨rb,0,none⟩) nr rc,Z (some ⟨ab,0,none⟩) na ac,Z (some ⟨db,0,none⟩) (nr+na) dc,ptr g]::_)) _ _;rw[l1,l2,l3] at hM3;exact hM3
def zr(q:abk.Sm):Prop:=∀s,abk.gt q s<=abk.o6
theorem JD:∀(l:List Dl)(q mo:abk.Sm),abk.i7 q mo l=true->(∀s,abk.gt mo s+abk.gt q s<=abk.o6)->∀s,abk.gt (abk.add mo l) s+abk.gt q s<=abk.o6
 | [],_,_,_,h,s=>h s
 | d::l,q,mo,hr,h,s=>by
   rw[abk.i7,bU,decide_eq_true_eq] at hr;rw[abk.lJ];refine JD l q _ hr.2 (λy=>?_) s;rw[abk.xy];split;·next e=>rw[e];exact hr.1
   ·exact h y
theorem zr.add{q:abk.Sm}{l:List Dl}(h:zr q):zr (abk.nj q l):=by
 unfold abk.nj;split
 ·next e=>
  have I:=JD l q [] (abk.IY e) (λs=>by rw[show abk.gt ([]:abk.Sm) s=0 from rfl,cJ];exact h s);intro s;have G:=I s;rw[abk.G9] at G ⊢;rw[show abk.gt ([]:abk.Sm) s=0 from rfl] at G;omega
 ·exact h
theorem zr.step{x:j4}(h:zr x.q)(e:En):zr (ei x e).2.2.q:=by
 unfold ei;repeat' split
 all_goals first|exact h|exact h.add
theorem LY{x:j4}(h:zr x.q)(e:En):∃c:Nat,(ei x e).1=(c:Int)∧c<=255∧(ei x e).2.1<18446744073709551616:=by
 unfold ei;repeat' split
 ·exact⟨8,rfl,by decide,Nat.lt_succ_of_le (h e.se)⟩
 all_goals first|exact⟨1,rfl,by decide,(show (0:Nat)<18446744073709551616 by decide)⟩|exact⟨2,rfl,by decide,(show (0:Nat)<18446744073709551616 by decide)⟩|exact⟨3,rfl,by decide,(show (0:Nat)<18446744073709551616 by decide)⟩|exact⟨4,rfl,by decide,(show (0:Nat)<18446744073709551616 by decide)⟩|exact⟨5,rfl,by decide,(show (0:Nat)<18446744073709551616 by decide)⟩
def jz(l:Sends):Prop:=∀q∈l,q.2.Gd
theorem jz.nil:jz []:=λ_ h=>by simp at h
theorem jz.app{a b:Sends}(ha:jz a)(hb:jz b):jz (a++b):=λq hq=>(List.mem_append.1 hq).elim (ha q) (hb q)
theorem jz.one{m:Ms}(h:m.Gd):jz [(f,m)]:=λq hq=>by rw[List.mem_singleton.1 hq];exact h
theorem jz.all{node:Nat}{m:Ms}(h:m.Gd):jz (tD node n m):=λq hq=>by obtain⟨j,_,rfl⟩:=List.mem_map.1 hq;exact h
theorem JE{e:En}(h:e.Ok):∃t:Nat,e.tg=(t:Int)∧t<=9223372036854775807:=⟨e.tg.toNat,by have:=h.1.2.1;omega,by have:=h.1.2;omega⟩
theorem Pv(leads:Bool)(own:Nat):∀(l:List En)(k:Nat)(x:j4)(out:List Sd),(∀e∈l,e.Ok)->zr x.q->jz (out.map Sd.fn)->zr (CJ leads own l k x out).1.q∧jz ((CJ leads own l k x out).2.map Sd.fn)
 | [],_,_,_,_,h,ho=>⟨h,ho⟩
 | e::l,k,x,out,he,h,ho=>by
   refine Pv leads own l (k+1) (ei x e).2.2 _ (λe' h'=>he e' (by simp[h'])) (h.step e) ?_;split
   ·rw[bI]
    refine ho.app ?_;obtain⟨c,E,lV,hn⟩:=LY h e;obtain⟨t,ht,Ka⟩:=JE (he e (by simp));rw[E,ht];exact jz.one (.ans t c _ Ka lV hn)
   ·exact ho
structure Rp.Wf(x:Rp):Prop where
 ok:x.Ok
 sm:zr x.m.q
namespace Rp
variable{x:Rp}
theorem Wf.apply(h:x.Wf)(abp:Nat):(x.apply abp).1.Wf∧jz (x.apply abp).2:=by have I:=Pv x.leads x.own ((x.s.c.es.take abp).drop x.commit) x.commit x.m [] (λe he=>h.ok.s.c.es e (bW (cX he))) h.sm jz.nil;exact⟨⟨h.ok.apply abp,I.1⟩,I.2⟩
theorem Wf.accepts(h:x.Wf):jz x.accepts:=jz.all (.acc _ _ _ h.ok.s.c.t h.ok.commit h.ok.s.c.es h.ok.s.c.len)
theorem Wf.vote(h:x.Wf){v:Vt}(hv:v.Ok)(hn:v.nodes=x.nodes):Rp.Wf { x with v:=some v }:=⟨h.ok.vote hv hn,h.sm⟩
theorem Wf.counted(h:x.Wf){v:Vt}(hv:x.v=some v)(i n:Nat):(x.counted v i n).1.Wf∧jz (x.counted v i n).2:=by obtain⟨I,G⟩:=h.ok.v v hv;exact (h.vote (I.told i n) G).apply _
theorem Wf.told(h:x.Wf){v:Vt}(hv:x.v=some v):(x.told v).1.Wf∧jz (x.told v).2:=by obtain⟨I,G⟩:=h.counted hv x.node x.s.c.es.length;exact⟨I,G.app I.accepts⟩
theorem Wf.word(h:x.Wf){s:Vs}(hs:s.Ok)(l:Bool)(o:Nat)(hl:l=true->∃v,x.v=some v):Rp.Wf { x with s:=s,leads:=l,own:=o }:=⟨h.ok.word hs l o hl,h.sm⟩
theorem Wf.down(h:x.Wf):x.down.Wf:=⟨h.ok.down,h.sm⟩
theorem Wf.won(h:x.Wf){v:Vt}(hv:x.v=some v):(x.won v).1.Wf∧jz (x.won v).2:=by
 obtain⟨I,G⟩:=h.ok.v v hv;unfold Rp.won;split;·exact⟨h.down,jz.nil⟩
 ·next s e=>exact (h.word (Vs.kp h.ok.s I.t I.best e) true s.c.es.length (λ_=>⟨v,hv⟩)).told (v:=v) hv
theorem lq{s s':Vs}(h:s.Ok)(ht:t<=9223372036854775807)(he:s.promise t=some s'):s'.Ok∧s'.c.t=t:=by
 unfold Vs.promise at he;split at he
 ·have:=Vs.Ok.keep (y:=⟨t,s.c.h,s.c.es⟩) h ⟨ht,h.c.h,h.c.es,h.c.len⟩ he
  exact⟨this.1,by rw[this.2]⟩
 ·cases he
theorem yw(t node nodes:Nat)(hn:1<=nodes):lM t node nodes<=t+nodes:=by unfold lM;have:=Nat.mod_lt (node+nodes-(t+1) % nodes) (show 0<nodes by omega);omega
theorem Wf.lead(h:x.Wf):(x.lead).1.Wf∧jz (x.lead).2:=by
 have pJ:=h.ok.node;unfold Rp.lead;split;·exact⟨h,jz.nil⟩
 ·next ht=>
  split;·exact⟨h,jz.nil⟩
  ·next s e=>
   have htl:=yw x.s.c.t x.node x.nodes ap;obtain⟨hs,kY⟩:=lq h.ok.s (t:=lM x.s.c.t x.node x.nodes) ap e;have hv:=(Vt.Ok.new hs.c.t (nodes:=x.nodes) ⟨by omega,by omega⟩).promise (i:=x.node) (had:=s.c.h) (l:=s.c.es) ap hs.c.h hs.c.es hs.c.len;have zf:((Vt.new s.c.t x.nodes).promise x.node s.c.h s.c.es).2.nodes=x.nodes:=by
    unfold Vt.promise;repeat' split
    all_goals rfl
   have lw:Rp.Wf { x with s:=s,leads:=false,v:=some ((Vt.new s.c.t x.nodes).promise x.node s.c.h s.c.es).2 }:=⟨⟨hs,h.ok.m,λv' h'=>by cases h';exact⟨hv,zf⟩,h.ok.node,h.ok.commit,λh'=>by cases h'⟩,h.sm⟩;dsimp only;split;·exact lw.won rfl
   ·exact⟨lw,jz.all (.vD _ hs.c.t)⟩
theorem UW{e:En}(h:e.Ok)(hf:0<=f∧f<8):En.Ok { e with fr:=f }:=⟨⟨hf,h.1.2⟩,h.2⟩
theorem Wf.ask(h:x.Wf)(f:Int){e:En}(he:e.Ok):(x.ask f e).1.Wf∧jz (x.ask f e).2:=by
 obtain⟨t,ht,Ka⟩:=JE he;have h7:jz [(f,fx e.tg 7 0)]:=by rw[ht];exact jz.one (.ans t 7 0 Ka am am)
 have h6:jz [(f,fx e.tg 6 0)]:=by rw[ht];exact jz.one (.ans t 6 0 Ka am am)
 unfold Rp.ask;split
 ·next v hl hv=>
  split;·exact⟨h,h7⟩
  ·next hf=>
   split;·exact⟨h,h7⟩
   ·next s e1=>
    have hs:s.Ok:=Vs.kp h.ok.s (h.ok.v v hv).1.t (λz hz=>by
     rcases List.mem_append.1 hz with hz|hz
     ·exact h.ok.s.c.es z hz
     ·rw[List.mem_singleton.1 hz];exact UW he ap) e1
    have G:Rp.Wf { x with s:=s }:=h.word hs x.leads x.own h.ok.lv;exact G.told hv
 ·exact⟨h,h6⟩
theorem Wf.prepare(h:x.Wf)(f:Int){t:Nat}(ht:t<=9223372036854775807):(x.prepare f t).1.Wf∧jz (x.prepare f t).2:=by
 unfold Rp.prepare;split;·exact⟨h,jz.nil⟩
 ·next s e=>
  obtain⟨hs,_⟩:=lq h.ok.s ht e;have G:Rp.Wf { x with s:=s }:=h.word hs x.leads x.own h.ok.lv;exact⟨G.down,jz.one (.prom _ _ _ ht hs.c.h hs.c.es hs.c.len)⟩
theorem Wf.accept(h:x.Wf)(f:Int){t cm:Nat}{l:List En}(ht:t<=9223372036854775807)(hl:∀e∈l,e.Ok):(x.accept f t l cm).1.Wf∧jz (x.accept f t l cm).2:=by
 unfold Rp.accept;split;·exact⟨h,jz.nil⟩
 ·next s e=>
  have hs:=Vs.kp h.ok.s ht hl e;have G:Rp.Wf { x with s:=s }:=h.word hs x.leads x.own h.ok.lv;dsimp only;refine⟨?_,jz.one (.Mq _ _ ht hs.c.len)⟩;split;·exact (G.down.apply _).1
  ·exact (G.apply _).1
theorem Wf.ji(h:x.Wf){F t had:Nat}{l:List En}(hF:F<8)(hh:had<=9223372036854775807)(hl:∀e∈l,e.Ok)(hn:l.length<=128):(ji x F t had l).1.Wf∧jz (ji x F t had l).2:=by
 unfold Go.Proofs.YtpeepcmdehhbgaaGreatDoor.ji;split;·exact⟨h,jz.nil⟩
 ·next v hv=>
  split
  ·obtain⟨I,G⟩:=h.ok.v v hv
   have zf:(v.promise F had l).2.nodes=x.nodes:=by
    rw[<-G];unfold Vt.promise;repeat' split
    all_goals rfl
   have L:=h.vote (I.promise (i:=F) (had:=had) (l:=l) hF hh hl hn) zf;split;·exact L.won rfl
   ·exact⟨L,jz.nil⟩
  ·exact⟨h,jz.nil⟩
theorem Wf.mV(h:x.Wf)(F t n:Nat):(mV x F t n).1.Wf∧jz (mV x F t n).2:=by
 unfold Go.Proofs.YtpeepcmdehhbgaaGreatDoor.mV;split
 ·split
  ·next v hv=>
   split;·exact h.counted hv F n
   ·exact⟨h,jz.nil⟩
  ·exact⟨h,jz.nil⟩
 ·exact⟨h,jz.nil⟩
theorem Wf.recv(h:x.Wf)(f:Int){m:Ms}(hm:m.Gd):(x.recv f m).1.Wf∧jz (x.recv f m).2:=by
 have pJ:=h.ok.node;unfold Rp.recv;cases hm with
 | ask e he=>exact h.ask f he
 | ans tg c n _ _ _=>
   by_cases hf:x.hears f
   ·rw[aB (by show ¬ (2:Int)=1;decide),aB (λh=>h hf),aB (by show ¬ (2:Int)=3;decide),aB (by show ¬ (2:Int)=4;decide),aB (by show ¬ (2:Int)=5;decide),aB (by show ¬ (2:Int)=6;decide)]
    exact⟨h,jz.nil⟩
   ·rw[aB (by show ¬ (2:Int)=1;decide),aA hf]
    exact⟨h,jz.nil⟩
 | vD t ht=>
   by_cases hf:x.hears f
   ·rw[aB (by show ¬ (3:Int)=1;decide),aB (λh=>h hf),aA (show (jX t).k=3 from rfl)]
    exact h.prepare f (t:=((t:Int)).toNat) ht
   ·rw[aB (by show ¬ (3:Int)=1;decide),aA hf]
    exact⟨h,jz.nil⟩
 | prom t hd l ht hh hl hn=>
   by_cases hf:x.hears f
   ·rw[aB (by show ¬ (4:Int)=1;decide),aB (λh=>h hf),aB (by show ¬ (4:Int)=3;decide),aA (show (i9 t hd l).k=4 from rfl)]
    obtain⟨hf1,Ud,_⟩:=hf;exact h.ji ap hh hl hn
   ·rw[aB (by show ¬ (4:Int)=1;decide),aA hf]
    exact⟨h,jz.nil⟩
 | acc t l c ht E hl hn=>
   by_cases hf:x.hears f
   ·rw[aB (by show ¬ (5:Int)=1;decide),aB (λh=>h hf),aB (by show ¬ (5:Int)=3;decide),aB (by show ¬ (5:Int)=4;decide),aA (show (kR t l c).k=5 from rfl)]
    exact h.accept f (t:=((t:Int)).toNat) ht hl
   ·rw[aB (by show ¬ (5:Int)=1;decide),aA hf]
    exact⟨h,jz.nil⟩
 | Mq t n ht hn=>
   by_cases hf:x.hears f
   ·rw[aB (by show ¬ (6:Int)=1;decide),aB (λh=>h hf),aB (by show ¬ (6:Int)=3;decide),aB (by show ¬ (6:Int)=4;decide),aB (by show ¬ (6:Int)=5;decide),aA (show (m8 t n).k=6 from rfl)]
    exact h.mV _ _ _
   ·rw[aB (by show ¬ (6:Int)=1;decide),aA hf]
    exact⟨h,jz.nil⟩
theorem Wf.ticks(h:x.Wf):jz x.ticks:=by
 unfold Rp.ticks;split;·exact h.accepts
 ·exact jz.nil
theorem Wf.open_{node nodes:Nat}{ws:List Wo}(hn:node<nodes∧nodes<=8)(hs:(Vs.mk ws).Ok):(Rp.open_ node nodes ws).Wf:=⟨⟨hs,AL.new,λ_ h=>(by cases h),hn,bo _,λh=>by cases h⟩,λ_=>bo _⟩
end Rp
end Go.Proofs.YtpeepcmdehhbgaaGreatDoor
section
namespace Go.Proofs.YtpeepcmdehhbgaaGreatDoor
open Go.RowKit Go.Hop V
namespace Rp
variable{x:Rp}
theorem Wf.EJ(h:x.Wf){v:Vt}(hv:x.v=some v):(x.told v).2.length<=136:=by unfold Rp.told;rw[bd];have I:=nF x h.ok v x.node x.s.c.es.length;have G:=nG _ (h.counted hv x.node x.s.c.es.length).1.ok;omega
theorem Tf(node:Nat)(m:Ms):∀n,(tD node n m).length<=n:=λn=>by unfold tD;rw[bj];refine bB (c_ _ _) ?_;rw[da];exact bh _
theorem Wf.JF(h:x.Wf){v:Vt}(hv:x.v=some v):(x.won v).2.length<=136:=by
 obtain⟨I,G⟩:=h.ok.v v hv;unfold Rp.won;split;·exact bo _
 ·next s e=>exact (h.word (Vs.kp h.ok.s I.t I.best e) true s.c.es.length (λ_=>⟨v,hv⟩)).EJ (v:=v) hv
theorem Wf.Pw(h:x.Wf):(x.lead).2.length<=136:=by
 have pJ:=h.ok.node;unfold Rp.lead;split;·exact bo _
 ·next ht=>
  split;·exact bo _
  ·next s e=>
   have htl:=yw x.s.c.t x.node x.nodes ap;obtain⟨hs,kY⟩:=lq h.ok.s (t:=lM x.s.c.t x.node x.nodes) ap e;have hv:=(Vt.Ok.new hs.c.t (nodes:=x.nodes) ⟨by omega,by omega⟩).promise (i:=x.node) (had:=s.c.h) (l:=s.c.es) ap hs.c.h hs.c.es hs.c.len;have zf:((Vt.new s.c.t x.nodes).promise x.node s.c.h s.c.es).2.nodes=x.nodes:=by
    unfold Vt.promise;repeat' split
    all_goals rfl
   have lw:Rp.Wf { x with s:=s,leads:=false,v:=some ((Vt.new s.c.t x.nodes).promise x.node s.c.h s.c.es).2 }:=⟨⟨hs,h.ok.m,λv' h'=>by cases h';exact⟨hv,zf⟩,h.ok.node,h.ok.commit,λh'=>by cases h'⟩,h.sm⟩;dsimp only;split;·exact lw.JF rfl
   ·have:=Tf x.node (jX s.c.t) x.nodes
    dsimp only;omega
theorem Wf.Tg(h:x.Wf)(f:Int){e:En}(he:e.Ok):(x.ask f e).2.length<=136:=by
 unfold Rp.ask;split
 ·next v hl hv=>
  split;·exact bf rfl
  ·next hf=>
   split;·exact bf rfl
   ·next s e1=>
    have hs:s.Ok:=Vs.kp h.ok.s (h.ok.v v hv).1.t (λz hz=>by
     rcases List.mem_append.1 hz with hz|hz
     ·exact h.ok.s.c.es z hz
     ·rw[List.mem_singleton.1 hz];exact UW he ap) e1
    have G:Rp.Wf { x with s:=s }:=h.word hs x.leads x.own h.ok.lv;exact G.EJ hv
 ·exact bf rfl
theorem EK(f:Int)(t:Nat):(x.prepare f t).2.length<=136:=by
 unfold Rp.prepare;split;·exact bo _
 ·exact bf rfl
theorem I5(f:Int)(t cm:Nat)(l:List En):(x.accept f t l cm).2.length<=136:=by
 unfold Rp.accept;split;·exact bo _
 ·exact bf rfl
theorem Wf.LZ(h:x.Wf){F had:Nat}{l:List En}(hF:F<8)(hh:had<=9223372036854775807)(hl:∀e∈l,e.Ok)(hn:l.length<=128):(Go.Proofs.YtpeepcmdehhbgaaGreatDoor.ji x F t had l).2.length<=136:=by
 unfold Go.Proofs.YtpeepcmdehhbgaaGreatDoor.ji;split;·exact bo _
 ·next v hv=>
  split
  ·obtain⟨I,G⟩:=h.ok.v v hv
   have zf:(v.promise F had l).2.nodes=x.nodes:=by
    rw[<-G];unfold Vt.promise;repeat' split
    all_goals rfl
   have L:=h.vote (I.promise (i:=F) (had:=had) (l:=l) hF hh hl hn) zf;split;·exact L.JF rfl
   ·exact bo _
  ·exact bo _
theorem Wf.Px(h:x.Wf)(F t n:Nat):(Go.Proofs.YtpeepcmdehhbgaaGreatDoor.mV x F t n).2.length<=136:=by
 unfold Go.Proofs.YtpeepcmdehhbgaaGreatDoor.mV;split
 ·split
  ·next v hv=>
   split;·exact bB (nF x h.ok v F n) am
   ·exact bo _
  ·exact bo _
 ·exact bo _
theorem Wf.Py(h:x.Wf)(f:Int){m:Ms}(hm:m.Gd):(x.recv f m).2.length<=136:=by
 have pJ:=h.ok.node;unfold Rp.recv;cases hm with
 | ask e he=>exact h.Tg f he
 | ans tg c n _ _ _=>
   by_cases hf:x.hears f
   ·rw[aB (by show ¬ (2:Int)=1;decide),aB (λh=>h hf),aB (by show ¬ (2:Int)=3;decide),aB (by show ¬ (2:Int)=4;decide),aB (by show ¬ (2:Int)=5;decide),aB (by show ¬ (2:Int)=6;decide)]
    exact bo _
   ·rw[aB (by show ¬ (2:Int)=1;decide),aA hf]
    exact bo _
 | vD t ht=>
   by_cases hf:x.hears f
   ·rw[aB (by show ¬ (3:Int)=1;decide),aB (λh=>h hf),aA (show (jX t).k=3 from rfl)]
    exact EK _ _
   ·rw[aB (by show ¬ (3:Int)=1;decide),aA hf]
    exact bo _
 | prom t hd l ht hh hl hn=>
   by_cases hf:x.hears f
   ·rw[aB (by show ¬ (4:Int)=1;decide),aB (λh=>h hf),aB (by show ¬ (4:Int)=3;decide),aA (show (i9 t hd l).k=4 from rfl)]
    obtain⟨hf1,Ud,_⟩:=hf;exact h.LZ (F:=f.toNat) ap hh hl hn
   ·rw[aB (by show ¬ (4:Int)=1;decide),aA hf]
    exact bo _
 | acc t l c ht E hl hn=>
   by_cases hf:x.hears f
   ·rw[aB (by show ¬ (5:Int)=1;decide),aB (λh=>h hf),aB (by show ¬ (5:Int)=3;decide),aB (by show ¬ (5:Int)=4;decide),aA (show (kR t l c).k=5 from rfl)]
    exact I5 _ _ _ _
   ·rw[aB (by show ¬ (5:Int)=1;decide),aA hf]
    exact bo _
 | Mq t n ht hn=>
   by_cases hf:x.hears f
   ·rw[aB (by show ¬ (6:Int)=1;decide),aB (λh=>h hf),aB (by show ¬ (6:Int)=3;decide),aB (by show ¬ (6:Int)=4;decide),aB (by show ¬ (6:Int)=5;decide),aA (show (m8 t n).k=6 from rfl)]
    exact h.Px _ _ _
   ·rw[aB (by show ¬ (6:Int)=1;decide),aA hf]
    exact bo _
theorem Wf.L_(h:x.Wf):x.ticks.length<=8:=by
 unfold Rp.ticks;split;·exact nG x h.ok
 ·exact bo _
end Rp
end Go.Proofs.YtpeepcmdehhbgaaGreatDoor
end
namespace Go.Proofs.YtpeepcmdehhbgaaGreatDoor
open RowKit Hop V
def EL(b:abo.Ab):Prop:=(1<=b.1∧b.1<=9223372036854775807)∧(1<=b.2.length∧b.2.length<=8)∧∀d∈b.2,DN d
structure Bk.Wf(b:Bk):Prop where
 bt:∀k,∀x∈(b.qu k).l,EL x
 ep:1<=b.ep∧b.ep<=9223372036854775807
namespace Ag
theorem Xz(hn:x.node<8)(he:x.b.Wf)(N:k<4){b:abo.Ab}(hb:EL b)(ht:x.tag<9223372036854775807):(gp (x.tI (x.iX k b.1) b.2)).Gd:=by
 obtain⟨I,G,L⟩:=hb;refine .ask _ ⟨⟨⟨?_,?_⟩,?_,?_⟩,.inl ⟨rfl,rfl,⟨?_,?_⟩,⟨?_,?_⟩,I,he.ep,G,L⟩⟩;·show (0:Int)<=(x.node:Int);omega
 ·show (x.node:Int)<8;omega
 ·show (0:Int)<=((x.tag+1:Nat):Int);omega
 ·show ((x.tag+1:Nat):Int)<=9223372036854775807;omega
 ·show (0:Int)<=(x.node:Int);omega
 ·show (x.node:Int)<8;omega
 ·show (0:Int)<=(k:Int);omega
 ·show (k:Int)<4;omega
structure Kept(x y:Ag)(n:Nat):Prop where
 b:y.b=x.b
 node:y.node=x.node
 tag:y.tag<=x.tag+n
theorem Kept.refl(x:Ag):Kept x x 0:=⟨rfl,rfl,bh _⟩
theorem Kept.trans{x y z:Ag}{n m:Nat}(h:Kept x y n)(h':Kept y z m):Kept x z (n+m):=⟨h'.b.trans h.b,h'.node.trans h.node,by have:=h.tag;have:=h'.tag;omega⟩
theorem Kept.more{y:Ag}(h:Kept x y n)(hm:n<=m):Kept x y m:=⟨h.b,h.node,by have:=h.tag;omega⟩
theorem tM{k:Nat}(N:k<4):∀(l:List abo.Ab)(x:Ag)(out:Sends),(∀b∈l,EL b)->x.node<8->x.b.Wf->x.tag+l.length<=9223372036854775807->jz out->jz (ff k l x out).2∧Kept x (ff k l x out).1 l.length∧(ff k l x out).2.length<=out.length+l.length
 | [],x,out,_,_,_,_,h=>⟨h,Kept.refl x,bh _⟩
 | b::l,x,out,hb,hn,he,ht,h=>by
   rw[bD] at ht;unfold ff;split
   ·have iP:Kept x (x.send (x.iX k b.1) (x.tries (x.iX k b.1))) 1:=⟨rfl,rfl,bh _⟩
    obtain⟨I,G,L⟩:=tM N l (x.send (x.iX k b.1) (x.tries (x.iX k b.1))) _ (λc E=>hb c (by simp[E])) hn he (by show x.tag+1+l.length<=_;omega) (h.app (jz.one (f:=((x.to (x.tries (x.iX k b.1)).1:Nat):Int)) (Xz hn he N (hb b (by simp)) ap)));refine⟨I,(iP.trans G).more (by simp;omega),?_⟩;rw[bd,bv] at L;rw[bD];omega
   ·obtain⟨I,G,L⟩:=tM N l x out (λc E=>hb c (by simp[E])) hn he ap h
    refine⟨I,G.more (by simp),?_⟩;rw[bD];omega
theorem yx:∀(ks:aQ)(x:Ag)(out:Sends),(∀k∈ks,k<4)->x.node<8->x.b.Wf->x.tag+4*ks.length<=9223372036854775807->jz out->jz (fZ ks x out).2∧Kept x (fZ ks x out).1 (4*ks.length)∧(fZ ks x out).2.length<=out.length+4*ks.length
 | [],x,out,_,_,_,_,h=>⟨h,Kept.refl x,bh _⟩
 | k::ks,x,out,N,hn,he,ht,h=>by
   rw[bD] at ht;have hl4:((x.b.qu k).l.take 4).length<=4:=by rw[bn];omega
   obtain⟨I,G,L⟩:=tM (N k (by simp)) ((x.b.qu k).l.take 4) x out (λb hb=>he.bt k b (bW hb)) hn he ap h;have Ka:=G.tag;obtain⟨g1,g2,g3⟩:=yx ks _ _ (λc E=>N c (by simp[E])) (by rw[G.node];exact hn) (by rw[G.b];exact he) ap I;unfold fZ;refine⟨g1,(G.trans g2).more (by rw[bD];omega),?_⟩;rw[bD];omega
theorem yz:∀(n:Nat)(x:Ag)(out:Sends),x.node<8->x.b.Wf->x.tag+16*n<=9223372036854775807->jz out->jz (f_ n x out).2∧Kept x (f_ n x out).1 (16*n)∧(f_ n x out).2.length<=out.length+16*n
 | 0,x,out,_,_,_,h=>⟨h,Kept.refl x,bh _⟩
 | n+1,x,out,hn,he,ht,h=>by
   obtain⟨I,G,L⟩:=yx (bV 4) { x with now:=x.now+1 } out (λk N=>List.mem_range.1 N) hn he (by show x.tag+4*4<=_;omega) h;have N:Kept x (x.lN out).1 16:=⟨G.b,G.node,G.tag⟩;have fj:(x.lN out).2.length<=out.length+16:=L;have Ka:=N.tag;obtain⟨g1,g2,g3⟩:=yz n (x.lN out).1 (x.lN out).2 (by rw[N.node];exact hn) (by rw[N.b];exact he) ap I;unfold f_;exact⟨g1,(N.trans g2).more ap,by omega⟩
end Ag
theorem Tj{d:Dl}(h:jh d):DN d:=by obtain⟨I,G,L⟩:=h;unfold gZ at I;rw[bU,decide_eq_true_eq,decide_eq_true_eq] at I;exact⟨I.2,by omega,I.1,G⟩
theorem M0{l:List abo.Ab}{last s:Int}(h:abo.uB l last s m=0):1<=s∧1<=m∧m<=8:=by
 unfold abo.uB at h;repeat' split at h
 all_goals first|omega|(exact absurd h am)
def Bk.sH(b:Bk):Prop:=∀k,∀x∈(b.qu k).l,EL x
theorem Bk.sH.set{b b':Bk}(h:b.sH){k:Nat}{q:Qu}(e:b'.q=b.q.set k q)(hq:∀x∈q.l,EL x):b'.sH:=λj=>by unfold Bk.qu;rw[e];exact Cb (P:=λq=>∀x∈q.l,EL x) hq (h j)
theorem Bk.sH.add{b:Bk}(h:b.sH)(k:Nat){sq:Int}{ds:List Dl}(hs:sq<=9223372036854775807)(hd:∀d∈ds,jh d):(b.add k sq ds).sH:=by
 unfold Bk.add;split
 ·next e=>
  obtain⟨I,G,L⟩:=M0 e;refine h.set (k:=k) rfl λx Y=>?_;rcases List.mem_append.1 Y with Y|Y
  ·exact h k x Y
  ·rw[List.mem_singleton.1 Y]
   exact⟨⟨I,hs⟩,⟨G,L⟩,λd Iv=>Tj (hd d Iv)⟩
 ·exact h
theorem Bk.sH.done{b:Bk}(h:b.sH)(k:Nat)(sq:Int):(b.done k sq).sH:=h.set (k:=k) rfl λx Y=>h k x (List.mem_of_mem_eraseP Y)
theorem Bk.sH.take{b:Bk}(h:b.sH){r:Rc}(hr:r.Ok):(b.take r).sH:=by
 cases r with
 | ep n=>exact h
 | eP d=>
   unfold Bk.take;dsimp only;split<;>exact h
 | pH k sq ds=>
   obtain⟨_,G,_,h4⟩:=hr;exact h.add k ap h4
 | sh n=>exact h
 | dn k sq=>exact h.done k _
theorem Bk.sH.new:Bk.new.sH:=λk x Y=>by
 have:(Bk.new.qu k).l=[]:=by
  unfold Bk.qu Bk.new;match k with
  | 0=>rfl
  | 1=>rfl
  | 2=>rfl
  | 3=>rfl
  | k+4=>simp[Qu.new]
 rw[this] at Y;simp at Y
theorem Pz:∀(rs:List Rc)(b:Bk),b.sH->(∀r∈rs,r.Ok)->(rs.foldl Bk.take b).sH
 | [],_,h,_=>h
 | r::rs,b,h,hr=>Pz rs (b.take r) (h.take (hr r (by simp))) λx Y=>hr x (by simp[Y])
theorem Bk.sH.of{rs:List Rc}(hr:∀r∈rs,r.Ok):(tG rs).sH:=Pz rs _ Bk.sH.new hr
structure Ag.Wf(x:Ag):Prop where
 ok:x.Ok
 bt:x.b.sH
 ep:1<=x.b.ep∧x.b.ep<=9223372036854775807
namespace Ag
theorem Wf.bk(h:x.Wf):x.b.Wf:=⟨h.bt,h.ep⟩
structure sH(x y:Ag):Prop where
 bt:x.b.sH->y.b.sH
 ep:y.b.ep=x.b.ep
theorem I6(x:Ag)(d:Dl):sH x (x.fX d).1:=by
 unfold Ag.fX;repeat' split
 all_goals exact⟨id,rfl⟩
theorem PD{y:Ag}{ds:List Dl}(hd:∀d∈ds,jh d)(N:(x.b.qu k).k<=9223372036854775807)(h:x.kx k ds=some y):sH x y:=by
 unfold Ag.kx at h;split at h;·cases h
 ·next hn=>
  cases h;refine⟨λhb=>hb.add k ap hd,?_⟩;show (x.b.add k _ ds).ep=x.b.ep;unfold Bk.add;split<;>rfl
theorem Tk(x:Ag)(a k s:Nat):sH x (x.fin a k s):=⟨λhb=>hb.done k _,rfl⟩
end Ag
theorem I7{d:Dl}(h:gZ d=true)(hu:d.2<=18446744073709551615):jh d:=by refine⟨h,?_,by omega⟩;unfold gZ at h;rw[bU,decide_eq_true_eq] at h;exact jt h.1
namespace Ag
theorem Wf.fX(h:x.Wf)(d:Dl)(hu:d.2<=18446744073709551615):(x.fX d).1.Wf:=by
 have hb:=I6 x d;refine⟨?_,hb.bt h.bt,by rw[hb.ep];exact h.ep⟩;unfold Ag.fX;split;·exact h.ok
 ·next I=>
  split;·exact h.ok
  ·next G=>
   have I:iV x.b.eP d=0:=by omega
   have G:x.i6 (.eP d)=0:=by omega
   have hf:(Rc.eP d).Ok:=I7 (wi I).2 hu;have hl:=h.ok.b.take hf;rw[show x.b.take (.eP d)={ x.b with eP:=x.b.eP++[d] } from aA I] at hl;refine⟨h.ok.node,h.ok.eX,h.ok.last,?_,h.ok.sh,h.ok.mr G,λr hr=>?_,h.ok.qk⟩
   ·show Bk.Lm (x.rs++[Rc.eP d]).length _
    rw[bd,bv];exact hl
   ·rcases List.mem_append.1 hr with hr|hr
    ·exact h.ok.rs r hr
    ·rw[List.mem_singleton.1 hr];exact hf
theorem Wf.sync(h:x.Wf):x.sync.Wf:=⟨⟨h.ok.node,h.ok.eX,h.ok.last,h.ok.b,h.ok.sh,h.ok.bs,h.ok.rs,h.ok.qk⟩,h.bt,h.ep⟩
theorem Wf.next(h:x.Wf)(i:lp):(x.next i).Wf:=⟨⟨h.ok.node,h.ok.eX,h.ok.last,h.ok.b,h.ok.sh,h.ok.bs,h.ok.rs,h.ok.qk⟩,h.bt,h.ep⟩
theorem Wf.send(h:x.Wf)(i:lp)(t:Nat×Nat):(x.send i t).Wf:=⟨h.ok.send i t,h.bt,h.ep⟩
theorem Wf.kx(h:x.Wf){k:Nat}(N:k<4){ds:List Dl}(hl:ds.length<=8)(hf:∀d∈ds,jh d){y:Ag}(e:x.kx k ds=some y):y.Wf:=by have hb:=PD hf (h.ok.qk k).2 e;exact⟨(h.ok.kx N hl hf e).1,hb.bt h.bt,by rw[hb.ep];exact h.ep⟩
theorem Wf.kb{k:Nat}(N:k<4):∀(f:Nat){x:Ag}(l:List Dl),x.Wf->(∀d∈l,jh d)->(x.kb k f l).1.Wf
 | 0,_,_,h,_=>h
 | f+1,x,l,h,hl=>by
   unfold Ag.kb;split;·exact h
   ·split
    ·exact h
    ·next y e=>exact Wf.kb N f (l.drop 8) (h.kx N (by rw[bn];omega) (λd hd=>hl d (bW hd)) e) (λd hd=>hl d (cX hd))
theorem Wf.kg(h:x.Wf){k:Nat}(N:k<4):(x.kg k).1.Wf:=Wf.kb N _ _ h (h.ok.shard k).2
theorem Wf.ey:∀(ks:aQ){x:Ag},(∀k∈ks,k<4)->x.Wf->(x.ey ks).1.Wf
 | [],_,_,h=>h
 | k::ks,x,N,h=>by
   unfold Ag.ey;split;·exact Wf.ey ks (λc E=>N c (by simp[E])) (h.kg (N k (by simp)))
   ·exact h.kg (N k (by simp))
theorem Wf.cut(h:x.Wf):x.cut.1.Wf:=by
 have I:=Wf.ey (bV x.b.sh) (x:=x) (λk N=>by have:=List.mem_range.1 N;have:=h.ok.sh;omega) h;unfold Ag.cut;split;·exact I
 ·exact I.sync
theorem Wf.fin(h:x.Wf)(a k s:Nat)(N:k<4)(hs:s<=9223372036854775807):(x.fin a k s).Wf:=by
 have hb:=Tk x a k s;refine⟨?_,hb.bt h.bt,by rw[hb.ep];exact h.ep⟩;have hr:(Rc.dn k s).Ok:=⟨N,hs⟩;have hq:∀j,0<=((x.b.done k (s:Int)).qu j).k∧((x.b.done k (s:Int)).qu j).k<=9223372036854775807:=λj=>Cb (P:=λq=>0<=q.k∧q.k<=9223372036854775807) (h.ok.qk k) (h.ok.qk j);by_cases hz:x.i6 (.dn k s)=0
 ·have e:x.put (.dn k s)={ x with rs:=x.rs++[.dn k s] }:=aA hz
  unfold Ag.fin;rw[e];refine⟨h.ok.node,h.ok.eX,h.ok.last,?_,h.ok.sh,h.ok.mr hz,λr Mg=>?_,hq⟩
  ·show Bk.Lm (x.rs++[Rc.dn k s]).length _
   rw[bd,bv];exact h.ok.b.take hr
  ·rcases List.mem_append.1 Mg with Mg|Mg
   ·exact h.ok.rs r Mg
   ·rw[List.mem_singleton.1 Mg];exact hr
 ·have e:x.put (.dn k s)=x:=aB hz
  unfold Ag.fin;rw[e];exact⟨h.ok.node,h.ok.eX,h.ok.last,⟨h.ok.b.eP,h.ok.b.fine,h.ok.b.cuts⟩,h.ok.sh,h.ok.bs,h.ok.rs,hq⟩
theorem Wf.last(h:x.Wf){l:Nat}(hl:l<x.eX):Ag.Wf { x with last:=l }:=⟨⟨h.ok.node,h.ok.eX,hl,h.ok.b,h.ok.sh,h.ok.bs,h.ok.rs,h.ok.qk⟩,h.bt,h.ep⟩
theorem Wf.maps(h:x.Wf)(a:List (Int×lp))(t:List (lp×(Nat×Nat))):Ag.Wf { x with ask:=a,tr:=t }:=⟨⟨h.ok.node,h.ok.eX,h.ok.last,h.ok.b,h.ok.sh,h.ok.bs,h.ok.rs,h.ok.qk⟩,h.bt,h.ep⟩
theorem Wf.took(h:x.Wf){f tg code:Nat}(hf:f<x.eX)(hid:x.jw tg=(0,0,0)∨∃a k s:Nat,x.jw tg=((a:Int),(k:Int),(s:Int))∧1<=a∧k<4∧s<=9223372036854775807):(x.took f tg code).Wf:=by
 have I:Ag.Wf { x with ask:=gV x.ask (tg:Int) }:=h.maps _ _;have G:Ag.Wf (if code=6 then { x with ask:=gV x.ask (tg:Int) } else { x with ask:=gV x.ask (tg:Int),last:=f }):=by
  split;·exact I
  ·exact I.last hf
 have hr:(if code=6 then ({ x with ask:=gV x.ask (tg:Int) }:Ag) else { x with ask:=gV x.ask (tg:Int),last:=f }).eX=x.eX:=by split<;>rfl
 unfold Ag.took;dsimp only;generalize (if code=6 then ({ x with ask:=gV x.ask (tg:Int) }:Ag) else { x with ask:=gV x.ask (tg:Int),last:=f })=y at G hr;split
 ·split
  ·exact G.last (by rw[hr];exact Nat.mod_lt _ (by have:=h.ok.eX;omega))
  ·exact G
 ·next jT=>
  obtain⟨a,k,s,e,_,N,hs⟩:=hid.resolve_left jT;rw[e];split;·exact G.fin _ _ _ (by show (k:Int).toNat<4;omega) (by show (s:Int).toNat<=_;omega)
  ·split
   ·exact G.maps _ _
   ·exact G
end Ag
end Go.Proofs.YtpeepcmdehhbgaaGreatDoor
section
namespace Go.Proofs.YtpeepcmdehhbgaaGreatDoor
open Go.RowKit Go.Hop V
namespace Ag
theorem Wf.ff{k:Nat}:∀(l:List abo.Ab){x:Ag}(out:Sends),x.Wf->(Ag.ff k l x out).1.Wf
 | [],_,_,h=>h
 | b::l,x,out,h=>by
   unfold Ag.ff;split;·exact Wf.ff l _ (h.send _ _)
   ·exact Wf.ff l _ h
theorem Wf.fZ:∀(ks:aQ){x:Ag}(out:Sends),x.Wf->(Ag.fZ ks x out).1.Wf
 | [],_,_,h=>h
 | k::ks,x,out,h=>by
   unfold Ag.fZ;exact Wf.fZ ks _ (Wf.ff _ _ h)
theorem Wf.Hc{x:Ag}(h:x.Wf)(n:Nat):Ag.Wf { x with now:=n }:=⟨h.ok.Hc n,h.bt,h.ep⟩
theorem Wf.f_:∀(n:Nat){x:Ag}(out:Sends),x.Wf->(Ag.f_ n x out).1.Wf
 | 0,_,_,h=>h
 | n+1,x,out,h=>by
   unfold Ag.f_;exact Wf.f_ n _ (Wf.fZ _ _ (h.Hc _))
end Ag
structure Bk.Rg(b:Bk):Prop where
 sh:1<=b.sh∧b.sh<=4
 qk:∀k,0<=(b.qu k).k∧(b.qu k).k<=9223372036854775807
 ep:0<=b.ep
theorem Bk.Rg.new:Bk.new.Rg:=⟨⟨by decide,by decide⟩,λk=>by
 have:(Bk.new.qu k).k=0:=by
  unfold Bk.qu Bk.new;match k with
  | 0=>rfl
  | 1=>rfl
  | 2=>rfl
  | 3=>rfl
  | k+4=>simp[Qu.new]
 rw[this];omega,by decide⟩
theorem Bk.Rg.take{b:Bk}(h:b.Rg){r:Rc}(hr:r.Ok):(b.take r).Rg:=by
 cases r with
 | ep n=>exact⟨h.sh,h.qk,by show (0:Int)<=(n:Int);omega⟩
 | eP d=>
   unfold Bk.take;dsimp only;split<;>exact⟨h.sh,h.qk,h.ep⟩
 | pH k sq ds=>
   obtain⟨_,G,_,_⟩:=hr;refine⟨by show 1<=(b.add k sq ds).sh∧(b.add k sq ds).sh<=4;rw[uM];exact h.sh,λj=>AW _ _ _ _ ap h.qk j,?_⟩;show 0<=(b.add k sq ds).ep;unfold Bk.add;split<;>exact h.ep
 | sh n=>exact⟨hr,h.qk,h.ep⟩
 | dn k sq=>exact⟨h.sh,λj=>Cb (P:=λq=>0<=q.k∧q.k<=9223372036854775807) (h.qk k) (h.qk j),h.ep⟩
theorem rg_of:∀(rs:List Rc)(b:Bk),b.Rg->(∀r∈rs,r.Ok)->(rs.foldl Bk.take b).Rg
 | [],_,h,_=>h
 | r::rs,b,h,hr=>rg_of rs (b.take r) (h.take (hr r (by simp))) λx Y=>hr x (by simp[Y])
theorem Ag.Wf.new{node eX n:Nat}{rs:List Rc}(pJ:node<8)(hrp:1<=eX∧eX<=8)(hr:∀r∈rs,r.Ok)(hn:1<=n∧n<=1073741824)(hl:(rm (rs++[.ep n])).length<=1048576):(Ag.new node eX rs n).Wf:=by
 have I:=rg_of rs _ Bk.Rg.new hr;have G:=Jr rs Bk.new 0 ⟨bo _,λd hd=>(by simp[Bk.new] at hd),bo _⟩ hr;have L:(tG rs).sH:=Bk.sH.of hr;refine⟨⟨pJ,hrp,by show 0<eX;omega,⟨G.eP,G.fine,?_⟩,I.sh,hl,λr Mg=>?_,I.qk⟩,L,⟨by show (1:Int)<=(n:Int);omega,by show (n:Int)<=_;omega⟩⟩
 ·show (tG rs).cuts.length<=(rs++[Rc.ep n]).length
  rw[bd,bv];have:=G.cuts;unfold tG;omega
 ·rcases List.mem_append.1 Mg with Mg|Mg
  ·exact hr r Mg
  ·rw[List.mem_singleton.1 Mg];exact hn
end Go.Proofs.YtpeepcmdehhbgaaGreatDoor
end
namespace Go.Proofs.YtpeepcmdehhbgaaGreatDoor
open RowKit Hop V
def Vs.Sm(s:Vs):Prop:=∀y∈s.ws,y.B.length<=65536
theorem Vs.Sm.keep{s s':Vs}{y:Wo}(h:s.Sm)(e:s.keep y=some s'):s'.Sm:=by
 unfold Vs.keep at e;split at e
 ·next hr=>
  cases e;intro z hz;rcases List.mem_append.1 hz with hz|hz
  ·exact h z hz
  ·rw[List.mem_singleton.1 hz];exact (oB.1 hr).1
 ·cases e
theorem Vs.Sm.promise{s s':Vs}{t:Nat}(h:s.Sm)(e:s.promise t=some s'):s'.Sm:=by
 unfold Vs.promise at e;split at e;·exact h.keep e
 ·cases e
theorem Vs.Sm.accept{s s':Vs}{t:Nat}{l:List En}(h:s.Sm)(e:s.accept t l=some s'):s'.Sm:=by
 unfold Vs.accept at e;split at e;·cases e
 ·split at e
  ·cases e;exact h
  ·exact h.keep e
namespace Rp
variable{x:Rp}
theorem PE(h:x.s.Sm)(v:Vt):(x.won v).1.s.Sm:=by
 unfold Rp.won;split;·exact h
 ·next s e=>exact h.accept e
theorem Tl(h:x.s.Sm):x.lead.1.s.Sm:=by
 unfold Rp.lead;split;·exact h
 ·split
  ·exact h
  ·next s e=>
   dsimp only;split;·exact PE (x:={ x with s:=s,leads:=false,v:=some ((Vt.new s.c.t x.nodes).promise x.node s.c.h s.c.es).2 }) (h.promise e) _
   ·exact h.promise e
theorem XA(h:x.s.Sm)(f:Int)(e:En):(x.ask f e).1.s.Sm:=by
 unfold Rp.ask;split
 ·split
  ·exact h
  ·split
   ·exact h
   ·next s e1=>exact h.accept e1
 ·exact h
theorem I8(h:x.s.Sm)(f:Int)(t:Nat):(x.prepare f t).1.s.Sm:=by
 unfold Rp.prepare;split;·exact h
 ·next s e=>exact h.promise e
theorem M1(h:x.s.Sm)(f:Int)(t cm:Nat)(l:List En):(x.accept f t l cm).1.s.Sm:=by
 unfold Rp.accept;split;·exact h
 ·next s e=>
  dsimp only;show (if _ then _ else _:Rp).s.Sm;split;·exact h.accept e
  ·exact h.accept e
theorem PF(h:x.s.Sm)(F t had:Nat)(l:List En):(ji x F t had l).1.s.Sm:=by
 unfold Go.Proofs.YtpeepcmdehhbgaaGreatDoor.ji;split;·exact h
 ·next v hv=>
  split
  ·split
   ·exact PE (x:={ x with v:=some (v.promise F had l).2 }) h _
   ·exact h
  ·exact h
theorem Tn(h:x.s.Sm)(F t n:Nat):(mV x F t n).1.s.Sm:=by
 unfold Go.Proofs.YtpeepcmdehhbgaaGreatDoor.mV;split
 ·split
  ·split<;>exact h
  ·exact h
 ·exact h
theorem Tp(h:x.s.Sm)(f:Int)(m:Ms):(x.recv f m).1.s.Sm:=by
 unfold Rp.recv;split;·exact XA h _ _
 ·split
  ·exact h
  ·split
   ·exact I8 h _ _
   ·split
    ·exact PF h _ _ _ _
    ·split
     ·exact M1 h _ _ _ _
     ·split
      ·exact Tn h _ _ _
      ·exact h
end Rp
namespace Ag
def Sm(x:Ag):Prop:=∀r∈x.rs,r.B.length<=65536
theorem M3{r:Rc}(hr:x.i6 r=0):r.B.length<=65536:=(oB.1 (mJ hr).2).1
theorem Sm.more(h:x.Sm){r:Rc}(hr:x.i6 r=0):∀z∈x.rs++[r],z.B.length<=65536:=λz hz=>by
 rcases List.mem_append.1 hz with hz|hz
 ·exact h z hz
 ·rw[List.mem_singleton.1 hz];exact M3 hr
theorem Sm.fX(h:x.Sm)(d:Dl):(x.fX d).1.Sm:=by
 unfold Ag.fX;split;·exact h
 ·split
  ·exact h
  ·next G=>exact h.more (r := .eP d) ap
theorem Sm.kx(h:x.Sm){k:Nat}{ds:List Dl}{y:Ag}(e:x.kx k ds=some y):y.Sm:=by
 unfold Ag.kx at e;split at e;·cases e
 ·next hn=>
  cases e;exact h.more (r:=x.pH k ds) ap
theorem Sm.kb{k:Nat}:∀(f:Nat){x:Ag}(l:List Dl),x.Sm->(x.kb k f l).1.Sm
 | 0,_,_,h=>h
 | f+1,x,l,h=>by
   unfold Ag.kb;split;·exact h
   ·split
    ·exact h
    ·next y e=>exact Sm.kb f _ (h.kx e)
theorem Sm.ey:∀(ks:aQ){x:Ag},x.Sm->(x.ey ks).1.Sm
 | [],_,h=>h
 | k::ks,x,h=>by
   unfold Ag.ey;split;·exact Sm.ey ks (Sm.kb _ _ h)
   ·exact Sm.kb _ _ h
theorem Sm.cut(h:x.Sm):x.cut.1.Sm:=by
 unfold Ag.cut;split;·exact Sm.ey _ h
 ·exact Sm.ey _ h
theorem Sm.fin(h:x.Sm)(a k s:Nat):(x.fin a k s).Sm:=by
 by_cases hz:x.i6 (.dn k s)=0
 ·have e:x.put (.dn k s)={ x with rs:=x.rs++[.dn k s] }:=aA hz
  unfold Ag.fin;rw[e];exact h.more (r := .dn k s) hz
 ·have e:x.put (.dn k s)=x:=aB hz
  unfold Ag.fin;rw[e];exact h
theorem Sm.took(h:x.Sm)(f tg code:Nat):(x.took f tg code).Sm:=by
 have G:(if code=6 then ({ x with ask:=gV x.ask (tg:Int) }:Ag) else { x with ask:=gV x.ask (tg:Int),last:=f }).Sm:=by split<;>exact h
 unfold Ag.took;dsimp only;generalize (if code=6 then ({ x with ask:=gV x.ask (tg:Int) }:Ag) else { x with ask:=gV x.ask (tg:Int),last:=f })=y at G;split;·split<;>exact G
 ·split
  ·exact G.fin _ _ _
  ·split<;>exact G
theorem Sm.ff{k:Nat}:∀(l:List abo.Ab){x:Ag}(out:Sends),x.Sm->(Ag.ff k l x out).1.Sm
 | [],_,_,h=>h
 | b::l,x,out,h=>by
   unfold Ag.ff;split;·exact Sm.ff l (x:=x.send _ _) _ h
   ·exact Sm.ff l _ h
theorem Sm.fZ:∀(ks:aQ){x:Ag}(out:Sends),x.Sm->(Ag.fZ ks x out).1.Sm
 | [],_,_,h=>h
 | k::ks,x,out,h=>by
   unfold Ag.fZ;exact Sm.fZ ks _ (Sm.ff _ _ h)
theorem Sm.f_:∀(n:Nat){x:Ag}(out:Sends),x.Sm->(Ag.f_ n x out).1.Sm
 | 0,_,_,h=>h
 | n+1,x,out,h=>by
   unfold Ag.f_;exact Sm.f_ n _ (Sm.fZ (bV 4) (x:={ x with now:=x.now+1 }) _ h)
end Ag
structure Tq(nn:Nat)(l:Lt3):Prop where
 f:l.1<nn
 t:l.2.1<nn
 gd:l.2.2.Gd
 fit:kX l.2.2=true
structure mm(nn:Nat)(b:List Lt3):Prop where
 all:∀l∈b,Tq nn l
 len:b.length<=64
theorem mm.nil(nn:Nat):mm nn []:=⟨λ_ h=>by simp at h,by simp⟩
theorem mm.sends{nn node:Nat}(hn:node<nn):∀(l:Sends){b:List Lt3},mm nn b->jz l->mm nn (il nn node b l)
 | [],_,h,_=>h
 | (to,m)::l,b,h,H=>by
   unfold il;refine mm.sends hn l ?_ λq hq=>H q (by simp[hq]);split
   ·next E=>
    obtain⟨I,G,L⟩:=E;refine⟨λx Y=>?_,by rw[bd,bv];omega⟩;rcases List.mem_append.1 Y with Y|Y
    ·exact h.all x Y
    ·rw[List.mem_singleton.1 Y]
     exact⟨hn,by show to.toNat<nn;omega,H (to,m) (by simp),I⟩
   ·exact h
theorem mm.ml{nn node:Nat}(hn:node<nn){l:Sends}(H:jz l):∀(r:Nat){b:List Lt3},mm nn b->mm nn (T7 nn node l r b)
 | 0,_,h=>h
 | r+1,_,h=>mm.sends hn l (mm.ml hn H r h) H
theorem mm.del{nn:Nat}{b:List Lt3}(h:mm nn b)(i:Nat):mm nn (b.eraseIdx i):=⟨λl hl=>h.all l ((List.eraseIdx_sublist b i).subset hl),bB (List.length_eraseIdx_le b i) h.len⟩
end Go.Proofs.YtpeepcmdehhbgaaGreatDoor
