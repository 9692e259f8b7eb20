/- Nesnd, Fresh, Ld1, Nedel, Nedrp, Nedlv. -/
import Derived.Test.YtpeepcmdehhbgaaGreatDoorJs11
import Derived.ArgAppend
set_option linter.all false
set_option maxRecDepth 100000
set_option maxHeartbeats 2000000
open Go.Value renaming int->ae,slice->Z,string->aX,bool->aY,agg->aZ,tuple->a_
open Go.Ending renaming returned->b5
open Go.IntKind renaming i64->af,u64->ah
open Go (J az aE aA aB aC aD ay aj am ap aw aL aK aJ aI aH aV aU aT aR aQ aP aO aN)
open Go.Proofs.Tryz renaming prog->W
open Go.Lib renaming hid->Q
open List renaming length_append->bd,length_map->bj,length_take->bn,append_assoc->bp,eq_nil_of_length_eq_zero->bu,length_singleton->bv,getElem_mem->bF,map_append->bI,flatMap_append->bL,length_drop->bO,map_cons->bQ,mem_of_mem_take->bW,map_nil->cQ,replicate->cS,mem_of_mem_drop->cX,getElem_map->di
open Nat renaming le_refl->bh,lt_of_lt_of_le->bw,le_trans->bB,eq_zero_or_pos->b_,min_eq_left->cz
open Go.Builtin renaming zeroCells->bM,append_->cn
open Go renaming Value->K,World->X,Calls->dz,Addr->dA,TypeId->dC,Program->dD,Oper->dE,maxLen->dG
variable{i g B:Nat}{w:X}{nodes:Int}{P:aO}
namespace Go.Proofs.YtpeepcmdehhbgaaGreatDoor.Ne
open RowKit Hop
def Us(x g:Nat)(f t:Int)(A:aU)(m c:Nat)(nodes:Int)(A0:aU)(n c0:Nat)(P:aO)(w:X):Prop:=eJ w x 172 #[J f,J t,Z A m c]∧eJ w g 170 (oT nodes (Z A0 n c0) P)
def Aa:jr l7:=λ_ _ _ _ _ h hj hd=>h.just hj hd
def NF{u:K}{ρ:Operand->K}{o:dE}{x:Operand}{b:Lt}(I:ρ x=u)(hu:u=aZ (Lt.cells b).toArray)(ho:o.op=.buildSlice 86 1 #[(0,x)]):(execOp ρ o).run W w=.ok (.value (Z (some ⟨(w:Nat),0,none⟩) 1 1)) (w.alloc (.cells (Lt.cells b).toArray 172)):=by obtain⟨dst,op,ty,pos,after,guard⟩:=o;simp only at ho;subst ho hu;unfold Lt.cells at I ⊢;go_simp
def NG{w:World}{b:Lt}(a:Lb){args:aP}(h:Calls Tryz.prog 95 args w λe O=>∃A' c',e=b5 (aZ #[J b.f,J b.t,Z A' b.m c'])∧l7 O (New w O) ⟨b.f,b.t,A',b.m,c',b.bs⟩∧Grow w O)(hs:B<=(w:Nat))(hB:b.abs=a:=by rfl):Calls Tryz.prog 95 args w λe O=>∃u,e=b5 u∧Grow w O∧Zf Lt.cells l7 B (λb=>b.abs=a) u O:=by refine h.mono λe O ⟨A',c',he,lU,H⟩=>⟨_,he,H,⟨⟨b.f,b.t,A',b.m,c',b.bs⟩,(O:Nat),hB,rfl,lU.mono λx Y=>⟨Nat.le_trans hs Y.1,Y.2⟩,Nat.le_refl _⟩⟩
def VW(w:X)(g:Nat)(nodes:Int)(l:List Lb)(P:aO)(f t:Int)(A:aU)(m c:Nat)(hf:iy nodes f=false):ii W 213 #[g,aZ #[J f,J t,Z A m c]] (λe=>e=b5 (J 23)) (fc g nodes l P) (fc g nodes l P) w:=by
 intro V hQ hV;have Mz:=hQ;obtain⟨I,v,q,R,D,ig,M9,hN,qD,hB,kN,h6,h7,h8⟩:=hQ;obtain⟨A0,c0,rfl,hI,iS,su⟩:=kN.jL;have fu:Grow w (w.alloc (.cells #[J f,J t,Z A m c] 172)):=(Below.refl (w:Nat) w).alloc (bh _) _;have mw:=eJ.made w 172 #[J f,J t,Z A m c];obtain⟨x,HX⟩:=az ((w:Nat):Nat);obtain⟨wa,HA⟩:=az (w.alloc (.cells #[J f,J t,Z A m c] 172):X);have HSA:Hid ((wa:Nat)=x+1):=Q (by rw[HA.out,HX.out];simp);rw[<-HA.out] at fu;have rz:eJ wa x 172 #[J f,J t,Z A m c]:=by rw[HA.out,HX.out];exact mw
 clear mw;have tV:=hB.grow fu;have x1:=rz.cell 1;have cq1:wa.cell? (g,1)=some (Z A0 q.length c0):=tV.cell 1;go_in;go_wp2_with fail;rw[<-HA.out,<-HX.out];go_wp2_with (go_at_call 274;refine (sM wa g nodes _ _ _ tV).mono ?_;rintro e w2 ⟨rfl,sC⟩;subst sC);go_ret;exact⟨rfl,fc.wide (fc.framed _ _ _ _ w _ V Mz λb hb=>fu.block b (hV b hb)) (λ_ => .inl),dM.dK fu⟩
def VX(w:X)(g:Nat)(nodes:Int)(l:List Lb)(P:aO)(f t:Int)(A:aU)(m c:Nat)(hf:iy nodes f=true)(ht:iy nodes t=false):ii W 213 #[g,aZ #[J f,J t,Z A m c]] (λe=>e=b5 (J 23)) (fc g nodes l P) (fc g nodes l P) w:=by
 intro V hQ hV;have Mz:=hQ;obtain⟨I,v,q,R,D,ig,M9,hN,qD,hB,kN,h6,h7,h8⟩:=hQ;obtain⟨A0,c0,rfl,hI,iS,su⟩:=kN.jL;have fu:Grow w (w.alloc (.cells #[J f,J t,Z A m c] 172)):=(Below.refl (w:Nat) w).alloc (bh _) _;have mw:=eJ.made w 172 #[J f,J t,Z A m c];obtain⟨x,HX⟩:=az ((w:Nat):Nat);obtain⟨wa,HA⟩:=az (w.alloc (.cells #[J f,J t,Z A m c] 172):X);have HSA:Hid ((wa:Nat)=x+1):=Q (by rw[HA.out,HX.out];simp);rw[<-HA.out] at fu;have rz:eJ wa x 172 #[J f,J t,Z A m c]:=by rw[HA.out,HX.out];exact mw
 clear mw;have tV:=hB.grow fu;have x1:=rz.cell 1;have cq1:wa.cell? (g,1)=some (Z A0 q.length c0):=tV.cell 1;go_in;go_wp2_with fail;rw[<-HA.out,<-HX.out];go_wp2_with (go_at_call 274;refine (sM wa g nodes _ _ _ tV).mono ?_;rintro e w2 ⟨rfl,sC⟩;subst sC);go_ret;exact⟨rfl,fc.wide (fc.framed _ _ _ _ w _ V Mz λb hb=>fu.block b (hV b hb)) (λ_ => .inl),dM.dK fu⟩
def KE(w:X)(g:Nat)(nodes:Int)(l:List Lb)(P:aO)(f t:Int)(A:aU)(m c:Nat)(hf:iy nodes f=true)(ht:iy nodes t=true)(hl:64<=l.length):ii W 213 #[g,aZ #[J f,J t,Z A m c]] (λe=>e=b5 (J 24)) (fc g nodes l P) (fc g nodes l P) w:=by
 intro V hQ hV;have Mz:=hQ;obtain⟨I,v,q,R,D,ig,M9,hN,qD,hB,kN,h6,h7,h8⟩:=hQ;obtain⟨A0,c0,rfl,hI,iS,su⟩:=kN.jL;have fu:Grow w (w.alloc (.cells #[J f,J t,Z A m c] 172)):=(Below.refl (w:Nat) w).alloc (bh _) _;have mw:=eJ.made w 172 #[J f,J t,Z A m c];obtain⟨x,HX⟩:=az ((w:Nat):Nat);obtain⟨wa,HA⟩:=az (w.alloc (.cells #[J f,J t,Z A m c] 172):X);have HSA:Hid ((wa:Nat)=x+1):=Q (by rw[HA.out,HX.out];simp);rw[<-HA.out] at fu;have rz:eJ wa x 172 #[J f,J t,Z A m c]:=by rw[HA.out,HX.out];exact mw
 clear mw;have tV:=hB.grow fu;have x1:=rz.cell 1;have cq1:wa.cell? (g,1)=some (Z A0 q.length c0):=tV.cell 1;have RH:64<=q.length:=by rw[<-ig,bj] at hl;exact hl
 clear ig hl;go_in;go_wp2_with fail;rw[<-HA.out,<-HX.out];go_wp2_with (go_at_call 274;refine (sM wa g nodes _ _ _ tV).mono ?_;rintro e w2 ⟨rfl,sC⟩;subst sC);go_ret;exact⟨rfl,fc.wide (fc.framed _ _ _ _ w _ V Mz λb hb=>fu.block b (hV b hb)) (λ_ => .inl),dM.dK fu⟩
def RI(w:X)(abe:aV)(g:Nat)(nodes:Int)(l:List Lb)(P:aO)(f t:Int)(A:aU)(m c:Nat)(bs:aT)(Vf:Mj w abe A m bs)(vt:m<=c)(iO:c<=dG)(sB:m<=1048576)(hf:iy nodes f=true)(ht:iy nodes t=true)(hl:l.length<64):ii W 213 #[g,aZ #[J f,J t,Z A m c]] (λe=>e=b5 (J 0)) (fc g nodes l P) (fc g nodes (l++[(f,t,bs)]) P) w:=by
 intro V hQ hV;have Mz:=hQ;obtain⟨I,v,q,R,D,ig,M9,hN,qD,hB,kN,h6,h7,h8⟩:=hQ;obtain⟨A0,c0,rfl,hI,iS,su⟩:=kN.jL;have fu:Grow w (w.alloc (.cells #[J f,J t,Z A m c] 172)):=(Below.refl (w:Nat) w).alloc (bh _) _;have mw:=eJ.made w 172 #[J f,J t,Z A m c];obtain⟨x,HX⟩:=az ((w:Nat):Nat);obtain⟨wa,HA⟩:=az (w.alloc (.cells #[J f,J t,Z A m c] 172):X);have HSA:Hid ((wa:Nat)=x+1):=Q (by rw[HA.out,HX.out];simp);rw[<-HA.out] at fu;have rz:eJ wa x 172 #[J f,J t,Z A m c]:=by rw[HA.out,HX.out];exact mw
 clear mw;have tV:=hB.grow fu;have x1:=rz.cell 1;have cq1:wa.cell? (g,1)=some (Z A0 q.length c0):=tV.cell 1;have Zz:q.length<64:=by rw[<-ig,bj] at hl;exact hl
 have J2:=Q ig;clear ig;go_in;go_wp2_with fail;rw[<-HA.out,<-HX.out];go_wp2_with (go_at_call 274;refine (sM wa g nodes _ _ _ tV).mono ?_;rintro e w2 ⟨rfl,sC⟩;subst sC);have NH:=kN.grow fu;have Y9:∀b∈q,l7 wa D b:=λb hb=>(h6 b hb).grow fu;have F6:=In.grow Vf fu;have pG:g<(wa:Nat):=tV.lt;have vu:¬ R g:=λh=>(h7 g h).2.1 rfl;have Z0:(w:Nat)<=x:=by have:=HX.out;omega
 have ZA:∀x,R x->x<(w:Nat):=λb hb=>hV b (h7 b hb).1;obtain⟨B,Yv⟩:=az ((wa:Nat):Nat);have Mi:∀x,R x->x<B:=λb hb=>by have:=ZA b hb;have:=Yv.out;have:=fu.size;omega
 have hxn:¬ R x:=λh=>by have:=ZA x h;omega
 have HB:∀w2,dM R wa w2->B<=(w2:Nat):=λw2 h=>Yv.out▸h.size;have gd:Grow wa wa.drew:=(Grow.refl wa).drew;have ja:Us x g f t A m c nodes A0 q.length c0 P wa.drew:=⟨rz.grow gd,tV.grow gd⟩;refine dJ rfl ?_;refine fC (Us x g f t A m c nodes A0 q.length c0 P) [9,10,11] 12 rfl [0,1,2,3,4,5] ?_;iterate 6 refine eV rfl ja (λw1 h R T=>by have k0:=h.1.cell 0;have k1:=h.1.cell 1;have k2:=h.1.cell 2;have k3:w1.cell? (g,1)=some (Z A0 q.length c0):=h.2.cell 1;go_simp;exact T) ?_
 have wo:dM R wa wa.drew:=dM.dK gd;refine eZ 6 [] rfl ?_;go_wp2_with fail;refine (NG (f,t,bs) (qH wa.drew abe ⟨f,t,A,m,c,bs⟩ ⟨In.grow F6 gd,vt,iO,sB⟩) (HB _ wo)).mono ?_;rintro en w2 ⟨v31,rfl,fk,hNG⟩;have k7:dM R wa w2:=wo.trans (dM.dK fk);go_wp2_with fail;refine⟨λ_=>⟨ja.1.grow fk,ja.2.grow fk⟩,?_⟩;refine eZ 7 [] rfl ?_;refine fV rfl (Ki (e:=172) Aa rS hNG (HB w2 k7) (λb hb=>NF (x := .tmp 31) rfl hb rfl)) ?_;intro v32 w3 hr;have mz:dM R wa w3:=k7.trans (dM.dK hr.1);go_wp2_with fail;refine⟨λ_=>⟨mz.blk rz hxn,mz.blk tV vu⟩,?_⟩;refine eZ 8 [] rfl ?_;refine fV rfl (CZ (abh:=λb:Lt=>b.abs=(f,t,bs)) (x := .tmp 29) (y := .tmp 32) sL Aa FY Mi (NH.grow (gd.trans (fk.trans hr.1))) hr.2 (HB w3 mz) ap rfl rfl rfl) ?_;rintro v33 w4 ⟨CG,hE⟩;have H:=mz.trans CG;go_wp2_with fail;refine⟨λ_=>⟨H.blk rz hxn,H.blk tV vu⟩,?_⟩;refine fY 9 rfl aw ?_;clear mz CG wo k7;obtain⟨b,R',D',e1,wI,vn,hRx,hDx⟩:=hE;obtain⟨A3,c3,hv3,_⟩:=wI.jL;subst hv3;have ky:=H.blk tV vu;have f1:=ky.frozen 1;have c11:w4.cell? (g,1)=some (Z A0 q.length c0):=ky.cell 1;go_wp2;go_ret;have Mw:B=(wa:Nat):=Yv.out;have hgas:=fu.size;have K3:=kD w4 g 1 (Z A3 (q.length+1) c3);have hBg:g<B:=by omega
 refine⟨rfl,⟨.inl I,Z A3 (q.length+1) c3,q++[b],R',λx=>D x∨D' x,?_,?_,hN,?_,?_,?_,λb' hb=>?_,λx Y=>?_,λx Y=>?_⟩,?_⟩;·rw[bI,J2.out,bQ,cQ,e1]
 ·rw[bd,bv];omega
 ·intro a ha
  rcases List.mem_append.1 ha with h|h
  ·exact qD a h
  ·rw[List.mem_singleton.1 h];exact⟨Db hf,Db ht⟩
 ·have:=ky.put 1 (Z A3 (q.length+1) c3)
  rwa [zM] at this
 ·rw[bd,bv]
  exact wI.just K3 λb hb h=>by
   have G:=hRx b hb;rw[show b=g from h] at G;rcases G.1 with L|L
   ·exact vu L
   ·omega
 ·rcases List.mem_append.1 hb with h|h
  ·exact (((Y9 b' h).just H λx Y hr=>(h7 x hr).2.2 Y).just K3 λx Y h=>(h8 x Y).2 h).mono λ_ => .inl
  ·rw[List.mem_singleton.1 h];exact (vn.just K3 λx Y h=>by have:=(hDx x Y).1;rw[show x=g from h] at this;omega).mono λ_ => .inr
 ·have G:=hRx x Y
  refine⟨?_,?_,λh=>?_⟩
  ·rcases G.1 with h|h
   ·exact .inl (h7 x h).1
   ·exact .inr ⟨by omega,by rw[gg];exact G.2.1⟩
  ·rcases G.1 with h|h
   ·exact (h7 x h).2.1
   ·omega
  ·rcases h with h|h
   ·rcases G.1 with L|L
    ·exact (h7 x L).2.2 h
    ·have:=hV x (h8 x h).1;omega
   ·exact G.2.2 h
 ·rcases Y with h|h
  ·exact⟨.inl (h8 x h).1,(h8 x h).2⟩
  ·have G:=hDx x h
   exact⟨.inr ⟨by omega,by rw[gg];exact G.2⟩,by have:=G.1;omega⟩
 ·exact ((dM.dK fu).trans (H.imp λx Y=>(h7 x Y).1)).trans (K3.imp λx Y=>by rw[show x=g from Y];exact I)
end Go.Proofs.YtpeepcmdehhbgaaGreatDoor.Ne
namespace Go.Hop
open RowKit
section
variable{P:dD}{t e:dC}{size bytes:Nat}{z:K}
theorem uA(abl:Elem P t e size bytes z)(w:X)(ty:Nat){A:aU}{k:Nat}{xs:List K}(Z1:Reads w B size A k xs)
 {B2:Nat} {A2:aU} {m c:Nat} {news:List K} (su:0<m) (hr:Reads w B2 size A2 m news) (I:∀u∈news,u.oneCell'=true) (fw:(k+m)*bytes<=140737488355328):∃v' O,(cn #[t,t] ty #[Z A k k,Z A2 m c]).run P w=.ok v' O∧Grow w O∧Own O (New w O) e size v' (k+m) (xs++news):=by
 obtain⟨i,hi,hz,hs,hb⟩:=abl.info;have Mu:k+m<=dG:=by have:=Nat.le_mul_of_pos_right (k+m) abl.bpos;simp only[dG];omega
 have fin:∀v' O,O.ownsRow (w:Nat) e size v' (k+m) (xs++news)->w.grownBy O none->Grow w O∧Own O (New w O) e size v' (k+m) (xs++news):=λv' O r1 r2=>
  ⟨⟨r2.os,r2.tape,r2.output,r2.size,λk N=>r2.block k N (by simp)⟩,Own.wO r1 λg H=>by
   rcases r1.2 with ⟨rfl,_⟩|⟨g',cap,cur,rfl,h5,h6,_⟩
   ·cases H
   ·cases H
    exact⟨h5,(Array.getElem?_eq_some_iff.1 h6).1⟩⟩
 obtain⟨ad,rfl,_,E⟩:=hr.2 su;cases A with
 | none=>
   have ja:k=0:=by
    rcases b_ k with h0|h0
    ·exact h0
    ·obtain⟨_,e,_⟩:=Z1.2 h0;cases e
   subst ja;obtain rfl:xs=[]:=bu (by simpa using Z1.1);obtain⟨v',O,eR,r1,r2,_⟩:=run_append_own_at (P:=P) w (w:Nat) t ty e i z size bytes abl.und hi hz hs hb abl.zs abl.pos (Z none 0 0) 0 [] (World.ownsRow_nil w _ e size) ad m c news hr.1 E I Mu fw (bh _);exact⟨v',O,eR,fin v' O r1 r2⟩
 | some a0=>
   have holds:∀j u,xs[j]?=some u->w.cell? (a0.add j)=some u:=by
    intro j u hu;have fS:0<k:=by
     rcases b_ k with h0|h0
     ·have:xs.length=0:=by rw[Z1.1,h0];simp
      rw[bu this] at hu;simp at hu
     ·exact h0
    obtain⟨Ze,e',_,XX⟩:=Z1.2 fS;injection e' with e';rw[e'];exact XX j u hu
   obtain⟨v',O,eR,r1,r2⟩:=run_append_arg_grows (P:=P) w t ty e i z size bytes abl.und hi hz hs hb abl.zs abl.pos a0 k k xs Z1.1 holds ad m c news hr.1 E ap Mu fw;exact⟨v',O,eR,fin v' O r1 r2⟩
end
end Go.Hop
namespace Go.Proofs.YtpeepcmdehhbgaaGreatDoor
open RowKit Hop
def nX(t nodes:Nat)(pr:List Bool)(ac:aN)(had:Nat)(best:K)(n:Nat):Array K:=(J t::J nodes::(pr.map Value.bool++(ac.map (Value.int .i64)++[J had,best,J n]))).toArray
section
variable{t nodes:Nat}{pr:List Bool}{ac:aN}{had:Nat}{best:K}{n:Nat}
def sY(hp:pr.length=8)(ha:ac.length=8):(nX t nodes pr ac had best n).size=21:=by simp[nX,hp,ha]
def ZB:(nX t nodes pr ac had best n)[0]?=some (J t):=by simp[nX]
def ZC:(nX t nodes pr ac had best n)[1]?=some (J nodes):=by simp[nX]
def ZD(hp:pr.length=8)(hi:i<8):(nX t nodes pr ac had best n)[2+i]?=some (aY (pr.getD i false)):=by
 have e:2+i=i+1+1:=by omega
 simp[nX,e,List.getElem?_append_left,hp,hi]
def ZE(hp:pr.length=8)(ha:ac.length=8)(hi:i<8):(nX t nodes pr ac had best n)[10+i]?=some (J (ac.getD i 0)):=by
 have e:10+i=(8+i)+1+1:=by omega
 simp[nX,e,List.getElem?_append_right,List.getElem?_append_left,hp,ha,hi]
def VY(hp:pr.length=8)(ha:ac.length=8):(nX t nodes pr ac had best n)[18]?=some (J had):=by simp[nX,hp,ha]
def VZ(hp:pr.length=8)(ha:ac.length=8):(nX t nodes pr ac had best n)[19]?=some best:=by simp[nX,hp,ha]
def V_(hp:pr.length=8)(ha:ac.length=8):(nX t nodes pr ac had best n)[20]?=some (J n):=by simp[nX,hp,ha]
def W0(hp:pr.length=8)(hi:i<8)(b:Bool):(nX t nodes pr ac had best n).setIfInBounds (2+i) (aY b)=nX t nodes (pr.set i b) ac had best n:=by
 have e:2+i=i+1+1:=by omega
 simp[nX,e,List.map_set,List.set_append_left,hp,hi]
def W3(hp:pr.length=8)(ha:ac.length=8)(hi:i<8)(b:Int):(nX t nodes pr ac had best n).setIfInBounds (10+i) (J b)=nX t nodes pr (ac.set i b) had best n:=by
 have e:10+i=(8+i)+1+1:=by omega
 simp[nX,e,List.map_set,List.set_append_left,List.set_append_right,hp,ha,hi]
def RJ(hp:pr.length=8)(ha:ac.length=8)(x:Nat):(nX t nodes pr ac had best n).setIfInBounds 18 (J x)=nX t nodes pr ac x best n:=by simp[nX,List.set_append_right,hp,ha]
def RL(hp:pr.length=8)(ha:ac.length=8)(x:K):(nX t nodes pr ac had best n).setIfInBounds 19 x=nX t nodes pr ac had x n:=by simp[nX,List.set_append_right,hp,ha]
def RN(hp:pr.length=8)(ha:ac.length=8)(x:Nat):(nX t nodes pr ac had best n).setIfInBounds 20 (J x)=nX t nodes pr ac had best x:=by simp[nX,List.set_append_right,hp,ha]
structure vb(w:X)(g t nodes:Nat)(pr:List Bool)(ac:List Int)(had:Nat)(best:K)(n:Nat):Prop where
 b:eJ w g 213 (nX t nodes pr ac had best n)
 p:pr.length=8
 a:ac.length=8
def vb.c0(h:vb w g t nodes pr ac had best n):w.cell? (g,0)=some (J t):=(h.b.cell 0).trans ZB
def vb.c1(h:vb w g t nodes pr ac had best n):w.cell? (g,1)=some (J nodes):=(h.b.cell 1).trans ZC
def vb.cp(h:vb w g t nodes pr ac had best n)(hi:i<8):w.cell? ⟨g,2+i,none⟩=some (aY (pr.getD i false)):=(h.b.cell _).trans (ZD h.p hi)
def vb.ca(h:vb w g t nodes pr ac had best n)(hi:i<8):w.cell? ⟨g,10+i,none⟩=some (J (ac.getD i 0)):=(h.b.cell _).trans (ZE h.p h.a hi)
def vb.c18(h:vb w g t nodes pr ac had best n):w.cell? (g,18)=some (J had):=(h.b.cell 18).trans (VY h.p h.a)
def vb.c19(h:vb w g t nodes pr ac had best n):w.cell? (g,19)=some best:=(h.b.cell 19).trans (VZ h.p h.a)
def vb.c20(h:vb w g t nodes pr ac had best n):w.cell? (g,20)=some (J n):=(h.b.cell 20).trans (V_ h.p h.a)
def Af(h:vb w g t nodes pr ac had best n)(i:Nat)(hi:i<nodes):dz W 118 #[g,J i] w λe O=>e=b5 (aY true)∧w=O:=by have I:=h.c1;go_in;go_wp2;go_ret;trivial
def RO(h:vb w g t nodes pr ac had best n):dz W 68 #[g] w λe O=>e=b5 (J t)∧w=O:=by have I:=h.c0;go_in;go_wp2;go_ret;trivial
def BQ(h:vb w g t nodes pr ac had best n)(hn:n<=8):dz W 69 #[g] w λe O=>e=b5 (aY (decide (nodes<2*n)))∧Grow w O:=by
 have I:=h.c1;have G:=h.c20;have hd:decide ((nodes:Int)<2*(n:Int))=decide (nodes<2*n):=decide_eq_decide.2 ap;replace hd:=Q hd;have wr:IntKind.i64.wrap (2*(n:Int))=2*(n:Int):=by rw[IntKind.wrap_i64];omega
 go_in;go_wp2_with fail;have k1:=λw1(H:Grow w w1)=>vb.c1 (w:=w1) ⟨h.b.grow H,h.p,h.a⟩;have k2:=λw1(H:Grow w w1)=>vb.c20 (w:=w1) ⟨h.b.grow H,h.p,h.a⟩;refine fh ?_;intro w1 H;clear k1 k2;go_wp2;go_ret;exact⟨by rw[<-hd.out];rfl,H⟩
def W4(w:X)(t nodes:Nat)(I:1<=nodes)(h8:nodes<=8):dz W 59 #[J t,J nodes] w λe O=>∃g,e=b5 (((g:Nat):K))∧Cell g 213 (nX t nodes (cS 8 false) (cS 8 0) 0 (Z none 0 0) 0) O (New w O)∧Grow w O:=by
 have d1:decide ((nodes:Int) >= 1)=true:=aC ap;have d2:decide ((nodes:Int)<=8)=true:=aC ap;have hr:dz W 116 #[J nodes] w λe O=>e=b5 (aY true)∧w=O:=by go_in;go_wp2;go_ret;trivial
 go_in;go_wp2_with fail;refine hr.mono ?_;rintro e w1 ⟨rfl,rfl⟩;go_wp2;go_ret;exact⟨_,rfl,⟨⟨bh _,by simp⟩,eJ.made w 213 (nX t nodes (cS 8 false) (cS 8 0) 0 (Z none 0 0) 0)⟩,fb w _⟩
end
end Go.Proofs.YtpeepcmdehhbgaaGreatDoor
namespace Go.Proofs.YtpeepcmdehhbgaaGreatDoor.Ne
open RowKit Hop
theorem pd(w:X)(R:aV)(A:aU)(n c i:Nat)(xs:List K)(h:Row w R 172 3 (Z A n c) n xs)(hi:i<n)(hn:n<=1048576)(rI:∀u∈xs,u.oneCell'=true):dz W 212 #[Z A n c,J i,J ((i:Int)+1)] w λe O=>e=b5 (Z A (n-1) c)∧Row O R 172 3 (Z A (n-1) c) (n-1) (xs.take (i*3)++xs.drop ((i+1)*3))∧dM R w O:=by
 obtain⟨fj,h|⟨g,cap,cur,e1,hV,H,iS,hm,iZ,j9⟩⟩:=h;·omega
 injection e1 with e1 _ e3;subst e1 e3;obtain⟨A2,HA2⟩:=az (if c=i+1 then some (g,0) else some ⟨g,(i+1)*3,none⟩:Option dA);have pK:(xs.drop ((i+1)*3)).length=(n-(i+1))*3:=by rw[bO,fj];omega
 have ia:∀j,w.cell? ⟨g,j,none⟩=cur[j]?:=λj=>cell_of_row w g j cur 172 (0,0) H;have hcx:∀j u,xs[j]?=some u->cur[j]?=some u:=λj u hu=>by
  rw[<-j9,List.getElem?_take] at hu;split at hu;·simpa using hu
  ·cases hu
 have rx:∀w1,Grow w w1->Reads w1 (w1:Nat) 3 A2 (n-(i+1)) (xs.drop ((i+1)*3)):=λw1 gP=>by refine⟨pK,λzD=>⟨⟨g,(i+1)*3,none⟩,by rw[HA2.out,aB ap],bw (Array.getElem?_eq_some_iff.1 H).1 gP.size,λj u hu=>?_⟩⟩;rw[List.getElem?_drop] at hu;rw[Addr.add_lit,gP.cell (show g<(w:Nat) from (Array.getElem?_eq_some_iff.1 H).1),ia];exact hcx _ u hu
 have hci:i<=c:=by omega
 have hni:¬ (n:Int)<(i:Int)+1:=by omega
 have a41:¬ (i:Int)+1<0:=by omega
 have jU:=H;go_in;go_wp2_with fail;have c0:=HA2.out.symm;go_still_tail 6,(by kernel_rfl);change wpList _ _ _ _ _ w.drew;generalize wv:w.drew=w1;have H:Grow w w1:=wv▸(Grow.refl w).drew;clear c0 wv;have eD:w1.heap[g]?=some (.cells cur 172 (0,0)):=(H.block g (Array.getElem?_eq_some_iff.1 jU).1).trans jU;have Iw:i+(n-(i+1))=n-1:=by omega
 refine pS rfl (.tmp 22) (.tmp 25) rfl rfl rfl (pw sL w1 _ eD (rx w1 H) (λu hu=>rI u (cX hu)) ap (by rw[Iw,iZ];omega)) ?_;rw[Iw];obtain⟨BR,k1,k2,k3⟩:=iC g 172 (0,0) (xs.drop ((i+1)*3)) (i*3) w1 cur eD (by rw[pK,<-Nat.add_mul,Iw,iZ];omega);have kv:=gM g (xs.drop ((i+1)*3)) (i*3) w1;have Ql:=setCells_size g (xs.drop ((i+1)*3)) (i*3) w1;generalize w1.setCells g (i*3) (xs.drop ((i+1)*3))=w2 at k1 kv Ql ⊢;have HK:=Q (And.intro k2 k3);have HD:=Q pK;have HZ:=Q iZ;have HKM:=Q Iw;have HL:=Q fj;have HT:=Q j9;clear k2 k3 pK iZ Iw fj j9 Ql hcx ia rx;have hcn:¬ c=n-1:=by omega
 have a43:¬ n<n-1:=by omega
 have oK:n-(n-1)=1:=by omega
 have za:∀ty,(Builtin.clear_ #[86] ty #[Z (some ⟨g,(n-1)*3,none⟩) (n-(n-1)) (c-(n-1))]).run W w2=.ok (a_ #[]) (w2.setCells g ((n-1)*3) (bM (aZ aL:K).cells 1).toList):=λty=>by rw[oK];refine j_ sL (sG sL) (by simp[Value.cells,Value.oneCell']) w2 ty g ((n-1)*3) 1 _ ap (λj hj=>?_) (λj hj=>eJ.frozen (show eJ w2 g 172 BR from k1) _);have:=HK.out.1;have:=HZ.out;rw[cell_of_row w2 g _ BR 172 (0,0) k1,Array.getElem?_eq_getElem ap];rfl
 have YS:(bM (aZ aL:K).cells 1).toList.length=3:=by kernel_rfl
 obtain⟨W5,m1,m2,m3⟩:=iC g 172 (0,0) (bM (aZ aL:K).cells 1).toList ((n-1)*3) w2 BR k1 (by rw[YS];have:=HK.out.1;have:=HZ.out;omega);have sw:=gM g (bM (aZ aL:K).cells 1).toList ((n-1)*3) w2;generalize w2.setCells g ((n-1)*3) (bM (aZ aL:K).cells 1).toList=w3 at za m1 sw;have HM:=Q (And.intro m2 m3);clear m2 m3 YS oK;go_wp2;go_ret;have hj:dM R w w3:=(dM.dK H).trans (dM.jA (kv.trans sw) hV);obtain⟨k2,k3⟩:=HK.out;obtain⟨m2,m3⟩:=HM.out;have fj:=HL.out;have pK:=HD.out;have iZ:=HZ.out;have Iw:=HKM.out;have j9:=HT.out;have hti:cur.toList.take (i*3)=xs.take (i*3):=by rw[<-j9,List.take_take,cz ap]
 have W6:(xs.take (i*3)).length=i*3:=by rw[bn];omega
 have Be:(xs.take (i*3)++xs.drop ((i+1)*3)).length=(n-1)*3:=by rw[bd,W6,pK];omega
 refine⟨rfl,⟨Be,.inr ⟨g,c,W5,rfl,hV,m1,by omega,hm,by rw[m2,k2,iZ],?_⟩⟩,hj⟩;have I:BR.toList.take ((n-1)*3)=xs.take (i*3)++xs.drop ((i+1)*3):=by rw[k3,hti,<-Be];exact List.take_left
 rw[m3,I,bp,<-Be];exact List.take_left
def minus(l:List Lb)(i:Nat):List Lb:=l.take i++l.drop (i+1)
def Ah{w1 w2:X}{V R D:aV}{q:List Lt}{l:List Lb}{A0:aU}{c0:Nat}(I:V g)(ig:q.map Lt.abs=l)(M9:q.length<=64)(hN:1<=nodes∧nodes<=8)(qD:∀a∈l,Zm nodes a)
 (ky:eJ w1 g 170 (oT nodes (Z A0 q.length c0) P)) (h6:∀b∈q,l7 w1 D b) (h7:∀b,R b->V b∧b≠g∧¬ D b) (h8:∀b,D b->V b∧b≠g) (hi:i<q.length) (H:Grow w w1)
 (gS:Row w2 R 172 3 (Z A0 (q.length-1) c0) (q.length-1) ((q.flatMap Lt.cells).take (i*3)++(q.flatMap Lt.cells).drop ((i+1)*3))) (k7:dM R w1 w2):fc g nodes (minus l i) P (w2.setCell (g,1) (Z A0 (q.length-1) c0)) V∧dM V w (w2.setCell (g,1) (Z A0 (q.length-1) c0)):=by
 have vu:¬ R g:=λh=>(h7 g h).2.1 rfl;have lS:=k7.blk ky vu;have W7:(q.take i++q.drop (i+1)).length=q.length-1:=by rw[bd,bn,bO];omega
 have jQ:(q.take i++q.drop (i+1)).flatMap Lt.cells=(q.flatMap Lt.cells).take (i*3)++(q.flatMap Lt.cells).drop ((i+1)*3):=by rw[bL,ki Lt.cells 3 rS,ob Lt.cells 3 rS]
 have m9:∀b∈q.take i++q.drop (i+1),b∈q:=λb hb=>by
  rcases List.mem_append.1 hb with h|h
  ·exact bW h
  ·exact cX h
 have K3:=kD w2 g 1 (Z A0 (q.length-1) c0);refine⟨⟨I,Z A0 (q.length-1) c0,q.take i++q.drop (i+1),R,D,?_,by omega,hN,λa ha=>qD a ?_,?_,?_,λb hb=>?_,h7,h8⟩,?_⟩;·rw[bI,List.map_take,List.map_drop,ig];rfl
 ·unfold minus at ha
  rcases List.mem_append.1 ha with h|h
  ·exact bW h
  ·exact cX h
 ·have:=lS.put 1 (Z A0 (q.length-1) c0)
  rwa [zM] at this
 ·rw[W7,jQ]
  exact gS.just K3 λb hb e=>vu (by rw[<-show b=g from e];exact hb)
 ·exact ((h6 b (m9 b hb)).just k7 λx Y hr=>(h7 x hr).2.2 Y).just K3 λx Y e=>(h8 x Y).2 e
 ·exact ((dM.dK H).trans (k7.imp λx Y=>(h7 x Y).1)).trans (K3.imp λx Y=>by rw[show x=g from Y];exact I)
def NI(w:X)(g:Nat)(nodes:Int)(l:List Lb)(P:aO)(i:Nat)(h:i<l.length):ii W 153 #[g,J i] (λe=>e=b5 (J 0)) (fc g nodes l P) (fc g nodes (minus l i) P) w:=by
 intro V ⟨I,v,q,R,D,ig,M9,hN,qD,hB,kN,h6,h7,h8⟩ hV;obtain⟨A0,c0,rfl,hI,iS,su⟩:=kN.jL;have hi:i<q.length:=by rw[<-ig,bj] at h;exact h
 have hq:iy (q.length:Int) (i:Int)=true:=oh ap;have J2:=Q ig;have vu:¬ R g:=λh=>(h7 g h).2.1 rfl;clear ig h;have c1:w.cell? (g,1)=some (Z A0 q.length c0):=hB.cell 1;go_in;go_wp2_with (go_at_call 211;refine (qI w g nodes _ _ _ _ _ hB).mono ?_;rintro e w2 ⟨rfl,sC⟩;subst sC);go_at_call 212;refine (pd w R A0 q.length c0 i _ kN hi ap (IK q)).mono ?_;rintro e w2 ⟨rfl,gS,k7⟩;have lS:=k7.blk hB vu;have f1:=lS.frozen 1;have c2:w2.cell? (g,1)=some (Z A0 q.length c0):=lS.cell 1;go_wp2;go_ret;obtain⟨a,b⟩:=Ah I J2.out M9 hN qD hB h6 h7 h8 hi (Grow.refl w) gS k7;exact⟨rfl,a.wide (λ_ => .inl),b⟩
def J7(nodes:Int)(l:List Lb)(f t:Int):Int:=if iy nodes f=false then 23 else if iy nodes t=false then 23 else if 64<=l.length then 24 else 0
def J8(nodes:Int)(l:List Lb)(a:Lb):List Lb:=if J7 nodes l a.1 a.2.1=0 then l++[a] else l
theorem NJ(w:X)(abe:aV)(g:Nat)(nodes:Int)(l:List Lb)(P:aO)(f t:Int)(A:aU)(m c:Nat)(bs:aT)(Vf:Mj w abe A m bs)(vt:m<=c)(iO:c<=dG)(sB:m<=1048576):ii W 213 #[g,aZ #[J f,J t,Z A m c]] (λe=>e=b5 (J (J7 nodes l f t))) (fc g nodes l P) (fc g nodes (J8 nodes l (f,t,bs)) P) w:=by
 unfold J8 J7;cases hf:iy nodes f with
 | false=>simp only[if_true];exact VW w g nodes l P f t A m c hf
 | true=>
   cases ht:iy nodes t with
   | false=>simp only[Bool.true_eq_false,if_true,if_false];exact VX w g nodes l P f t A m c hf ht
   | true=>
     by_cases h:64<=l.length;·simp only[Bool.true_eq_false,if_false,aA h];exact KE w g nodes l P f t A m c hf ht h
     ·simp only[Bool.true_eq_false,if_false,aB h,if_true];exact RI w abe g nodes l P f t A m c bs Vf vt iO sB hf ht ap
def Deliver_no(w:X)(g:Nat)(nodes:Int)(l:List Lb)(P:aO)(i:Int)(h:iy (l.length:Int) i=false):ii W 209 #[g,J i] (λe=>e=b5 (a_ #[aZ aL,J 23])) (fc g nodes l P) (fc g nodes l P) w:=by
 intro V hQ hV;obtain⟨A,c,q,HQ,HL,M9,hN,qD,hB,hI,iS,iO⟩:=hQ.lts;have hq:iy (q.length:Int) i=false:=by rw[<-HL.out];exact h
 have fu:Grow w (w.alloc (.cells aL 172)):=(Below.refl (w:Nat) w).alloc (bh _) _;have mw:=eJ.made w 172 aL;obtain⟨x,HX⟩:=az ((w:Nat):Nat);obtain⟨wa,HA⟩:=az (w.alloc (.cells aL 172):X);rw[<-HA.out] at fu;have rz:eJ wa x 172 aL:=by rw[HA.out,HX.out];exact mw
 have f0:=rz.frozen 0;have f1:=rz.frozen 1;have f2:=rz.frozen 2;have x0:=rz.cell 0;have x1:=rz.cell 1;have x2:=rz.cell 2;have Z0:(w:Nat)<=x:=by have:=HX.out;omega
 go_in;go_wp2_with fail;rw[<-HA.out,<-HX.out];go_wp2_with (go_at_call 211;refine (qI wa g nodes _ _ _ _ _ (hB.grow fu)).mono ?_;rintro e w2 ⟨rfl,sC⟩;subst sC);have hE:=((rz.put 0 (J 0)).put 1 (J 0)).put 2 (Z none 0 0);have e0:=hE.cell 0;have e1:=hE.cell 1;have e2:=hE.cell 2;have hj:dM (λb=>b=x) wa (((wa.setCell (x,0) (J 0)).setCell (x,1) (J 0)).setCell (x,2) (Z none 0 0)):=(((dM.dK (Grow.refl wa)).put (V:=λb=>b=x) rfl 0 _).put rfl 1 _).put rfl 2 _
 have jU:Grow w (((wa.setCell (x,0) (J 0)).setCell (x,1) (J 0)).setCell (x,2) (Z none 0 0)):=Below.trans fu (hj.below (B:=(w:Nat)) (λb hb=>by rw[hb];exact Z0) fu.size);refine bodyPost_ret (v := a_ #[aZ aL,J 23]) (by simp[results,Tryz.results209,go_sem,e0,e1,e2]) rfl ⟨rfl,fc.wide (fc.framed _ _ _ _ w _ V hQ λb hb=>jU.block b (hV b hb)) (λ_ => .inl),dM.dK jU⟩
def Taken(g:Nat)(nodes:Int)(l:List Lb)(P:aO)(bs:aT)(i:Option dA×Nat×Nat):dW:=λw V=>fc g nodes l P w V∧Mj w V i.1 i.2.1 bs∧i.2.1<=i.2.2∧i.2.2<=dG
theorem Taken.framed(g:Nat)(nodes:Int)(l:List Lb)(P:aO)(bs:aT)(i:Option dA×Nat×Nat):eu (Taken g nodes l P bs i):=λw O V h N=>
 ⟨fc.framed g nodes l P w O V h.1 N,In.keep h.2.1 λb hb _=>N b hb,h.2.2⟩
def NK{g:Nat}{l:List Lb}{P:aO}{q:List Lt}(ig:q.map Lt.abs=l)(hN:1<=nodes∧nodes<=8)(qD:∀a∈l,Zm nodes a)(hi:i<q.length):∃(fa ta:Nat)(hl:i<l.length),q[i].f=(fa:Int)∧q[i].t=(ta:Int)∧fa<8∧ta<8∧l[i]=((fa:Int),(ta:Int),q[i].bs):=by
 subst ig;have hl:i<(q.map Lt.abs).length:=by rw[bj];exact hi
 have h0:=qD _ (bF hl);rw[di] at h0;obtain⟨⟨a1,a2⟩,⟨a3,a4⟩⟩:=h0;have a1:0<=q[i].f:=a1;have a2:q[i].f<nodes:=a2;have a3:0<=q[i].t:=a3;have a4:q[i].t<nodes:=a4;refine⟨q[i].f.toNat,q[i].t.toNat,hl,by omega,by omega,by omega,by omega,?_⟩;rw[di];unfold Lt.abs;rw[show ((q[i].f.toNat:Nat):Int)=q[i].f by omega,show ((q[i].t.toNat:Nat):Int)=q[i].t by omega]
def Dy(w:X)(g:Nat)(nodes:Int)(l:List Lb)(P:aO)(i:Nat)(h:i<l.length)(sx:P (l[i].1.toNat*8+l[i].2.1.toNat)=true):ii W 209 #[g,J i] (λe=>e=b5 (a_ #[aZ aL,J 26])) (fc g nodes l P) (fc g nodes l P) w:=by
 intro V hQ hV;have Mz:=hQ;obtain⟨I,v,q,R,D,ig,M9,hN,qD,hB,kN,h6,h7,h8⟩:=hQ;obtain⟨A,c,rfl,hI,iS,iO⟩:=kN.jL;have hi:i<q.length:=by rw[<-ig,bj] at h;exact h
 have hq:iy (q.length:Int) (i:Int)=true:=oh ap;obtain⟨fa,ta,_,ef,et,QM,hta,YV⟩:=NK (g:=g) (P:=P) ig hN qD hi;rw[YV] at sx;have hp:P (fa*8+ta)=true:=by simpa using sx
 obtain⟨ad,hiq,rfl,_,_,e0,e12⟩:=hI.mr ap rS hi;have kT:=h6 _ (bF hiq);have e0:=e0 _ rfl;have e1:=e12 0 _ rfl;have e2:=e12 1 _ rfl;clear e12 YV sx ig;rw[ef] at e0;rw[et] at e1;have uV:Mj w D q[i].A q[i].m q[i].bs:=kT.bs;have KF:=kT.le;have RP:=kT.max;clear ef et kT;generalize q[i].bs=bs at uV;generalize q[i].A=Ab at uV e2;generalize q[i].m=mb at uV e2 KF;generalize q[i].c=cb at e2 KF RP;have fu:Grow w (w.alloc (.cells aL 172)):=(Below.refl (w:Nat) w).alloc (bh _) _;have mw:=eJ.made w 172 aL;obtain⟨x,HX⟩:=az ((w:Nat):Nat);obtain⟨wa,HA⟩:=az (w.alloc (.cells aL 172):X);have TQ:(wa:Nat)=x+1:=by rw[HA.out,HX.out];simp
 have fa8:¬ (8:Int)<=(fa:Int):=by omega
 have ta8:¬ (8:Int)<=(ta:Int):=by omega
 rw[<-HA.out] at fu;have rz:eJ wa x 172 aL:=by rw[HA.out,HX.out];exact mw
 have Z0:(w:Nat)<=x:=by have:=HX.out;omega
 have mK:Grow wa (wa.alloc (.cells #[J fa,J ta,Z Ab mb cb] 172)):=(Below.refl _ _).alloc (bh _) _;have NL:=eJ.made wa 172 #[J fa,J ta,Z Ab mb cb];obtain⟨y,HY⟩:=az ((wa:Nat):Nat);obtain⟨wb,W8⟩:=az (wa.alloc (.cells #[J fa,J ta,Z Ab mb cb] 172):X);rw[<-W8.out] at mK;have gU:eJ wb y 172 #[J fa,J ta,Z Ab mb cb]:=by rw[W8.out,HY.out];exact NL
 have W9:=rz.grow mK;have KG:=fu.trans mK;have tV:=hB.grow KG;have Mk:=(fu.cell (p:=ad.add (i*3)) (by rw[block_add];assumption)).trans e0;have Ut:=(fu.cell (p:=⟨(ad.add (i*3)).block,(ad.add (i*3)).off+1,none⟩) (show (ad.add (i*3)).block<_ by rw[block_add];assumption)).trans e1;have ce2:=(fu.cell (p:=⟨(ad.add (i*3)).block,(ad.add (i*3)).off+2,none⟩) (show (ad.add (i*3)).block<_ by rw[block_add];assumption)).trans e2;have c1:wa.cell? (g,1)=some (Z (some ad) q.length c):=(hB.grow fu).cell 1;clear mw NL e0 e1 e2;go_in;go_wp2_with fail;rw[<-HA.out,<-HX.out];go_wp2_with (go_at_call 211;refine (qI wa g nodes _ _ _ _ _ (hB.grow fu)).mono ?_;rintro e w2 ⟨rfl,sC⟩;subst sC);have JV:x+1=y:=by rw[HY.out,TQ]
 rw[JV,<-W8.out];clear Mk Ut ce2 c1 JV TQ;have c0:=λw1(H:Grow _ w1)=>(gU.grow H).cell 0;have c1:=λw1(H:Grow _ w1)=>(gU.grow H).cell 1;have c2:=λw1(H:Grow _ w1)=>(show w1.cell? ⟨g,2+fa*8+ta,none⟩=some (aY true) by have c:=(tV.grow H).cell (2+fa*8+ta);rw[Nat.add_assoc,N0 _ _ _ ap,hp] at c;rw[<-Nat.add_assoc] at c;exact c);refine fh ?_;intro w1 H;clear c0 c1 c2;have Cy:=W9.grow H;have f0:=Cy.frozen 0;have f1:=Cy.frozen 1;have f2:=Cy.frozen 2;have x0:=Cy.cell 0;have x1:=Cy.cell 1;have x2:=Cy.cell 2;go_wp2_with fail;have hE:=((Cy.put 0 (J 0)).put 1 (J 0)).put 2 (Z none 0 0);have e0:=hE.cell 0;have e1:=hE.cell 1;have e2:=hE.cell 2;have hj:dM (λb=>b=x) w1 (((w1.setCell (x,0) (J 0)).setCell (x,1) (J 0)).setCell (x,2) (Z none 0 0)):=(((dM.dK (Grow.refl w1)).put (V:=λb=>b=x) rfl 0 _).put rfl 1 _).put rfl 2 _
 have jU:Grow w (((w1.setCell (x,0) (J 0)).setCell (x,1) (J 0)).setCell (x,2) (Z none 0 0)):=Below.trans (KG.trans H) (hj.below (B:=(w:Nat)) (λb hb=>by rw[hb];exact Z0) (KG.trans H).size);refine bodyPost_ret (v := a_ #[aZ aL,J 26]) (by simp[results,Tryz.results209,go_sem,e0,e1,e2]) rfl ⟨rfl,fc.wide (fc.framed _ _ _ _ w _ V Mz λb hb=>jU.block b (hV b hb)) (λ_ => .inl),dM.dK jU⟩
def Dz(w:X)(g:Nat)(nodes:Int)(l:List Lb)(P:aO)(i:Nat)(h:i<l.length)(sx:P (l[i].1.toNat*8+l[i].2.1.toNat)=false):∀V:aV,fc g nodes l P w V->(∀b,V b->b<(w:Nat))->dz W 209 #[g,J i] w λe O=>∃j:Option dA×Nat×Nat,e=b5 (a_ #[aZ #[J l[i].1,J l[i].2.1,Z j.1 j.2.1 j.2.2],()])∧Taken g nodes (minus l i) P l[i].2.2 j O (iY V w O)∧dM V w O:=by
 intro V hQ hV;obtain⟨I,v,q,R,D,ig,M9,hN,qD,hB,kN,h6,h7,h8⟩:=hQ;obtain⟨A,c,rfl,hI,iS,iO⟩:=kN.jL;have hi:i<q.length:=by rw[<-ig,bj] at h;exact h
 have hq:iy (q.length:Int) (i:Int)=true:=oh ap;obtain⟨fa,ta,_,ef,et,QM,hta,YV⟩:=NK (g:=g) (P:=P) ig hN qD hi;rw[YV] at sx ⊢;have hp:P (fa*8+ta)=false:=by simpa using sx
 have vu:¬ R g:=λh=>(h7 g h).2.1 rfl;obtain⟨ad,hiq,rfl,_,_,e0,e12⟩:=hI.mr ap rS hi;have kT:=h6 _ (bF hiq);have e0:=e0 _ rfl;have e1:=e12 0 _ rfl;have e2:=e12 1 _ rfl;have J2:=Q ig;clear e12 YV sx ig;rw[ef] at e0;rw[et] at e1;have uV:Mj w D q[i].A q[i].m q[i].bs:=kT.bs;have KF:=kT.le;have RP:=kT.max;clear ef et kT;generalize q[i].bs=bs at uV ⊢;generalize q[i].A=Ab at uV e2;generalize q[i].m=mb at uV e2 KF;generalize q[i].c=cb at e2 KF RP;have fu:Grow w (w.alloc (.cells aL 172)):=(Below.refl (w:Nat) w).alloc (bh _) _;have mw:=eJ.made w 172 aL;obtain⟨x,HX⟩:=az ((w:Nat):Nat);obtain⟨wa,HA⟩:=az (w.alloc (.cells aL 172):X);have TQ:(wa:Nat)=x+1:=by rw[HA.out,HX.out];simp
 have fa8:¬ (8:Int)<=(fa:Int):=by omega
 have ta8:¬ (8:Int)<=(ta:Int):=by omega
 rw[<-HA.out] at fu;have rz:eJ wa x 172 aL:=by rw[HA.out,HX.out];exact mw
 have Z0:(w:Nat)<=x:=by have:=HX.out;omega
 have mK:Grow wa (wa.alloc (.cells #[J fa,J ta,Z Ab mb cb] 172)):=(Below.refl _ _).alloc (bh _) _;have NL:=eJ.made wa 172 #[J fa,J ta,Z Ab mb cb];obtain⟨y,HY⟩:=az ((wa:Nat):Nat);obtain⟨wb,W8⟩:=az (wa.alloc (.cells #[J fa,J ta,Z Ab mb cb] 172):X);rw[<-W8.out] at mK;have gU:eJ wb y 172 #[J fa,J ta,Z Ab mb cb]:=by rw[W8.out,HY.out];exact NL
 have W9:=rz.grow mK;have KG:=fu.trans mK;have tV:=hB.grow KG;have Mk:=(fu.cell (p:=ad.add (i*3)) (by rw[block_add];assumption)).trans e0;have Ut:=(fu.cell (p:=⟨(ad.add (i*3)).block,(ad.add (i*3)).off+1,none⟩) (show (ad.add (i*3)).block<_ by rw[block_add];assumption)).trans e1;have ce2:=(fu.cell (p:=⟨(ad.add (i*3)).block,(ad.add (i*3)).off+2,none⟩) (show (ad.add (i*3)).block<_ by rw[block_add];assumption)).trans e2;have c1:wa.cell? (g,1)=some (Z (some ad) q.length c):=(hB.grow fu).cell 1;clear mw NL e0 e1 e2;go_in;go_wp2_with fail;rw[<-HA.out,<-HX.out];go_wp2_with (go_at_call 211;refine (qI wa g nodes _ _ _ _ _ (hB.grow fu)).mono ?_;rintro e w2 ⟨rfl,sC⟩;subst sC);have JV:x+1=y:=by rw[HY.out,TQ]
 rw[JV,<-W8.out];have hyw:(w:Nat)<=y:=by omega
 clear Mk Ut ce2 c1 JV TQ;have c0:=λw1(H:Grow _ w1)=>(gU.grow H).cell 0;have c1:=λw1(H:Grow _ w1)=>(gU.grow H).cell 1;have c2:=λw1(H:Grow _ w1)=>(show w1.cell? ⟨g,2+fa*8+ta,none⟩=some (aY false) by have c:=(tV.grow H).cell (2+fa*8+ta);rw[Nat.add_assoc,N0 _ _ _ ap,hp] at c;rw[<-Nat.add_assoc] at c;exact c);refine fh ?_;intro w1 H;clear c0 c1 c2;have eD:=KG.trans H;have ky:=hB.grow eD;have c1:w1.cell? (g,1)=some (Z (some ad) q.length c):=ky.cell 1;go_wp2_with fail;refine (pd w1 R (some ad) q.length c i _ (kN.grow eD) hi ap (IK q)).mono ?_;rintro e w2 ⟨rfl,gS,k7⟩;have lS:=k7.blk ky vu;have f1:=lS.frozen 1;have c2:w2.cell? (g,1)=some (Z (some ad) q.length c):=lS.cell 1;obtain⟨hN3,Vg⟩:=Ah I J2.out M9 hN qD ky (λb hb=>(h6 b hb).grow eD) h7 h8 hi eD gS k7;have K3:=kD w2 g 1 (Z (some ad) (q.length-1) c);have ZF:Mj (w2.setCell (g,1) (Z (some ad) (q.length-1) c)) D Ab mb bs:=In.just (In.just (In.grow uV eD) k7 λb hb hr=>(h7 b hr).2.2 hb) K3 λb hb e=>(h8 b hb).2 e;have vR:g≠x:=by have:=hB.lt;omega
 have ZG:g≠y:=by have:=hB.lt;omega
 have hxR:¬ R x:=λh=>by have:=hV x (h7 x h).1;omega
 have hyR:¬ R y:=λh=>by have:=hV y (h7 y h).1;omega
 have Fc:=(k7.blk (W9.grow H) hxR).far (p:=⟨g,1,none⟩) vR.symm (Z (some ad) (q.length-1) c);have Wa:=(k7.blk (gU.grow H) hyR).far (p:=⟨g,1,none⟩) ZG.symm (Z (some ad) (q.length-1) c);have Mb:=gg w2 (g,1) (Z (some ad) (q.length-1) c);obtain⟨w3,HW3⟩:=az (w2.setCell (g,1) (Z (some ad) (q.length-1) c):X);have y0:=Wa.cell 0;have y1:=Wa.cell 1;have y2:=Wa.cell 2;have x0:=Fc.cell 0;have x1:=Fc.cell 1;have x2:=Fc.cell 2;have f30:=Fc.frozen 0;have f31:=Fc.frozen 1;have f32:=Fc.frozen 2;go_wp2_with fail;rw[<-HW3.out] at hN3 Vg ZF Fc Mb ⊢;have hE:=((Fc.put 0 (J fa)).put 1 (J ta)).put 2 (Z Ab mb cb);have e0:=hE.cell 0;have e1:=hE.cell 1;have e2:=hE.cell 2;have hj:dM (λb=>b=x) w3 (((w3.setCell (x,0) (J fa)).setCell (x,1) (J ta)).setCell (x,2) (Z Ab mb cb)):=(((dM.dK (Grow.refl w3)).put (V:=λb=>b=x) rfl 0 _).put rfl 1 _).put rfl 2 _
 have iZ:((((w3.setCell (x,0) (J fa)).setCell (x,1) (J ta)).setCell (x,2) (Z Ab mb cb))).heap.size=(w3:Nat):=by rw[gg,gg,gg]
 refine bodyPost_ret (v := a_ #[aZ #[J fa,J ta,Z Ab mb cb],()]) (by simp[results,Tryz.results209,go_sem,e0,e1,e2]) rfl ⟨(Ab,mb,cb),rfl,⟨?_,?_,KF,RP⟩,?_⟩
 ·refine fc.wide (fc.framed _ _ _ _ w3 _ V hN3 λb hb=>hj.block b ?_ λh=>?_) λ_ => .inl
  ·have:=hV b hb;have:=Vg.size;omega
  ·have:=hV b hb;rw[show b=x from h] at this;omega
 ·refine In.mono (V:=D) (In.just ZF hj λb hb h=>?_) λb hb => .inl (h8 b hb).1
  have:=hV b (h8 b hb).1;rw[show b=x from h] at this;omega
 ·exact⟨hj.os.trans Vg.os,hj.tape.trans Vg.tape,hj.output.trans Vg.output,bB Vg.size hj.size,λk N hv=>(hj.block k (bw N Vg.size) (λh=>by rw[show k=x from h] at N;omega)).trans (Vg.block k N hv)⟩
end Go.Proofs.YtpeepcmdehhbgaaGreatDoor.Ne
