/- Rgd, Rge, Rgf, Rgg, Rgh, Ao8. -/
import Derived.Test.YtpeepcmdehhbgaaGreatDoorJs33
import Derived.WalkMore
set_option linter.all false
set_option maxRecDepth 100000
set_option maxHeartbeats 2000000
open Go.Value renaming int->ae,slice->Z,string->aX,bool->aY,agg->aZ,tuple->a_
open Go.Ending renaming returned->b5
open Go.IntKind renaming i64->af,u64->ah
open Go (J az aE aA aB aC aD ay aj am ap aw aL aK aJ aI aH aV aU aT aR aQ aP aO aN)
open Go.Proofs.Tryz renaming prog->W,underlying45->bG
open Go.Lib renaming hid->Q
open Nat renaming le_of_ble_eq_true->bf,le_refl->bh,zero_le->bo,lt_of_lt_of_le->bw
open List renaming perm_append_comm->bg,length_map->bj,append_nil->bm,set_cons_succ->bz,set_cons_zero->bA,setIfInBounds_toArray->bY,replicate->cS
open Bool renaming eq_false_or_eq_true->bC,false_ne_true->cB
open Go renaming Value->K,World->X,Calls->dz,Addr->dA
open Go.Proofs.YtpeepcmdehhbgaaGreatDoor (pj)
variable{w w0 O:X}{g t y:Nat}{V:aV}{p:pj}{sl:K}{cs:aP}
namespace Go.Proofs.YtpeepcmdehhbgaaGreatDoor
open RowKit Hop V
def SC(from_:Int)(t n:Nat):Sd:=⟨from_,m8 t n,none,0,none,[],0⟩
theorem SD(w:X)(U:aV)(from_:Int)(t n:Nat):Sd.In w U (SC from_ t n):=⟨(nD w U 0 0 0 0).e,jO.nil,rfl,bh _,bo _⟩
def AcS(p:pj)(node y t:Nat)(sl:K)(cm:Nat)(vp:K)(w:X):Prop:=QE p node w∧w.cell? ⟨y,13,none⟩=some (J t)∧w.cell? ⟨y,15,none⟩=some sl∧w.cell? ⟨y,16,none⟩=some (J cm)∧w.cell? ⟨p.r,5,none⟩=some vp
theorem WZ{z:Rp}{l:List Bl}{cm:Nat}(h:St V w0 (.c y 45 cs::dP p g z++l) w)(I:cs[13]?=some (J t))(G:cs[15]?=some sl)(L:cs[16]?=some (J cm)):AcS p z.node y t sl cm (jH g z.v) w:=⟨⟨h.facts.2.1.1 0,h.facts.2.1.1 2⟩,(h.facts.1.1 13).trans I,(h.facts.1.1 15).trans G,(h.facts.1.1 16).trans L,h.facts.2.1.1 5⟩
def a52(x:Rp)(from_:Int)(t cm:Nat):Option Vs->Rp×Sends
 | none=>(x,[])
 | some s=>((Rp.apply (if (x.v.any λv=>decide (v.t≠t))=true then ({ x with s:=s }:Rp).down else { x with s:=s }) cm).1,[(from_,m8 t s.c.es.length)])
instance(A B:Option dA)(c t n d m:Nat):CoeDep (Option dA×Nat×Nat×Option dA×Nat×Nat×Nat) (A,c,t,B,n,d,m) (Array K):=⟨#[J 5,(),(),(),(),(),Z A 0 c,"",(),(),(),(),ae ah 0,J t,(),Z B n d,J m,()]⟩
theorem H4(w:X)(D:aV)(p:pj)(g:Nat)(x:Rp)(Y:x.Ok)(from_:Int)(t cm:Nat)(A:aU)(c:Nat)(A2:aU)(c2:Nat)(q:List El)(ht:t<=9223372036854775807)(hq:jO w D A2 q)(gC:∀z∈q,z.e.Ok)(hl:q.length<=128)(j6:∀b,D b->b<(w:Nat)):Lw W D 70 #[.pointer (some ⟨p.r,0,none⟩),J from_,aZ (A,c,t,A2,q.length,c2,cm)] (dP p g x) (λ(j:K×List Sd)en=>en=b5 j.1∧eS j.2=(x.accept from_ t (q.map El.e) cm).2) (λj => .o (dS j.1 j.2)::dP p g (x.accept from_ t (q.map El.e) cm).1) w:=by
 obtain⟨R,HR⟩:=aE (x.accept from_ t (q.map El.e) cm);rw[<-HR];intro V hM hV;have kV:∀x,D x->x<(w:Nat)∧¬ V x:=λx Y=>⟨j6 x Y,λh=>(hV x h).2 Y⟩;have Fi:=Y.s;have hS:=St.begin_ hM (λb hb=>(hV b hb).1) (eL _ _ _);obtain⟨abg,HY⟩:=az (x.s.accept t (q.map El.e));replace HR:Hid (R=a52 x from_ t cm abg):=Q (by rw[HR,HY.out];unfold Rp.accept;cases x.s.accept t (q.map El.e)<;>rfl);obtain⟨y,wa,HYa,HA,hS⟩:=hS.new' (A,c,t,A2,q.length,c2,cm) 45;go_in;go_wp2_with fail;rw[<-HA.out,<-HYa.out];have hS:=hS.grow (Grow.refl _).drew;have ja:=WZ (l:=[]) (t:=t) (cm:=cm) (by rw[bm];exact hS) rfl rfl rfl;have hP:=hS.at_ 3 rfl (λ_=>gG.framed _ _ _ _ _ _ _ _) (D:=D) (St.far kV) (uK wa.drew D p.s p.x p.d x.s Fi t ht A2 c2 q (fT.framed A2 q w _ D hq λb hb=>hS.keep kV b hb) (λb hb=>bw (j6 b hb) hS.size) gC hl);rw[<-HY.out] at hP;refine dJ rfl ?_;refine gi (AcS p x.node y t (Z A2 q.length c2) cm (jH g x.v)) 10 rfl ?_;refine fz 0 ja ?_;refine fz 1 ja ?_;refine fz 2 ja ?_;refine fz 3 ja ?_;refine fz 4 ja ?_;refine fz 5 ja ?_;refine fz 6 ja ?_;refine fz 7 ja ?_;refine dY 8 rfl ?_;go_wp2_with fail;refine hP.mono ?_;rintro en w1 ⟨_,rfl,ej⟩;clear hP;have ej:St V w (.c y 45 (A,c,t,A2,q.length,c2,cm)::dP p g { x with s:=abg.getD x.s }) w1:=ej;go_wp2_with fail;have iP:=WZ (l:=[]) (t:=t) (cm:=cm) (by rw[bm];exact ej) rfl rfl rfl;refine⟨iP,?_⟩;clear hS ja;rcases abg with _|s
 ·simp only[Option.isSome_none]
  refine fL 9 iP ?_;refine eU ?_;go_wp2;go_ret;have gy:=St.join (ej.dO 0 rfl) (dS.framed (Z none 0 0) []) (Grow.refl _) (U:=λ_=>False) (h_.nil _ _) (λ_ h=>h.elim);obtain⟨r1,r2⟩:=gy.fin;rw[HR.out];first|exact⟨(Z none 0 0,[]),⟨rfl,rfl⟩,r1,r2⟩|exact⟨Z none 0 0,[],⟨rfl,rfl⟩,r1,r2⟩
 ·simp only[Option.isSome_some]
  refine fL 9 iP ?_;refine eU ?_;have Qm:=Vs.kp Fi ht (λe he=>by obtain⟨z,hz,rfl⟩:=List.mem_map.1 he;exact gC z hz) HY.out.symm;obtain⟨X2,jS⟩:=aE ({ x with s:=s }:Rp);have lw:X2.Ok:=by rw[jS];exact Y.word Qm _ _ Y.lv
  have ej:St V w (.c y 45 (A,c,t,A2,q.length,c2,cm)::dP p g X2) w1:=by rw[jS];exact ej
  replace jS:=Q jS;clear iP;obtain⟨b,Hb⟩:=az (x.v.any λv=>decide (v.t≠t));obtain⟨X3,qn⟩:=aE (if b=true then X2.down else X2:Rp);have yS:X3.Ok:=by rw[qn];split;exact lw.down;exact lw
  have HR2:Hid (R=((X3.apply cm).1,[(from_,m8 t s.c.es.length)])):=Q (by rw[HR.out,qn,jS.out,Hb.out];rfl);have Mb:Hid (X3.s=s):=Q (by rw[qn,jS.out];split<;>rfl);clear HR;have dV:=ej.grow (Grow.refl _).drew;have ip:=WZ (l:=[]) (t:=t) (cm:=cm) (by rw[bm];exact dV) rfl rfl rfl;go_wp2_with fail;refine dJ rfl ?_;refine gi (AcS p X2.node y t (Z A2 q.length c2) cm (jH g X2.v)) 15 rfl ?_;refine fz 0 ip ?_;refine fz 1 ip ?_;refine fz 2 ip ?_;refine fz 3 ip ?_;have sj:X2.v=x.v:=by rw[jS.out]
  have hgo:∀O,St V w (.c y 45 (A,c,t,A2,q.length,c2,cm)::dP p g X3) O->St V w (dP p g X3++[.c y 45 (A,c,t,A2,q.length,c2,cm)]) O:=λO h=>h.perm (bg (l₁:=[Bl.c y 45 (A,c,t,A2,q.length,c2,cm)]) (l₂:=dP p g X3));have hX:(x.v=none∧b=false)∨(∃v,x.v=some v∧v.t=t∧b=false)∨(∃v,x.v=some v∧v.t≠t∧b=true):=by
   rw[Hb.out];cases x.v with
   | none=>exact .inl ⟨rfl,rfl⟩
   | some v=>
     by_cases h:v.t=t;·exact .inr (.inl ⟨v,rfl,h,by simp[h]⟩)
     ·exact .inr (.inr ⟨v,rfl,h,by simp[h]⟩)
  have hfc:∀O g'(abe:Rp),St V w (.c y 45 (A,c,t,A2,q.length,c2,cm)::dP p g' abe) O->O.cell? ⟨y,16,none⟩=some (J cm):=λO g' abe h=>(h.facts.1.1 16).trans rfl;clear Hb;rcases hX with ⟨qE,hb⟩|⟨v,qE,zp,hb⟩|⟨v,qE,zp,hb⟩
  case' inl=>
   rw[hb,aB cB] at qn;rw[sj,qE] at ip ⊢;simp only[jH] at ip ⊢;refine fz 4 ip ?_;refine fz 5 ip ?_;refine dQ 6 rfl ip ?_;refine dQ 7 rfl ip ?_;refine dQ 8 rfl ip ?_;refine dQ 9 rfl ip ?_;refine dQ 10 rfl ip ?_;refine dQ 11 rfl ip ?_;refine dQ 12 rfl ip ?_;refine dQ 13 rfl ip ?_;refine fz 14 ip ?_;refine eU ?_;have eF:=hgo _ (by rw[qn];exact dV);replace qn:=Q qn;replace qE:=Q qE;replace sj:=Q sj;replace hb:=Q hb;obtain⟨⟨kM,lV⟩,_,_,kU,_⟩:=ip;go_wp2_with fail
  case' inr.inl=>
   rw[hb,aB cB] at qn;rw[sj,qE] at ip ⊢;simp only[jH] at ip ⊢;have OT:((v.t:Int) != (t:Int))=false:=by rw[zp];simp
   replace zp:=Q zp;refine fz 4 ip ?_;refine fz 5 ip ?_;refine fz 6 ip ?_;refine fz 7 ip ?_;refine fz 8 ip ?_;refine fz 9 ip ?_;refine fz 11 ip ?_;refine fz 12 ip ?_;have OU:St V w [.c y 45 (A,c,t,A2,q.length,c2,cm),.c p.r 118 (iu p X2.node X2.nodes X2.commit ((g:K)) X2.leads X2.own),.o (gR p.m X2.m),.o (qP p.s p.x p.d X2.s),.o (fJ g v)] w1.drew:=by have h:=dV;unfold dP at h;rw[sj,qE] at h;exact h
   refine dY 10 rfl ?_;go_wp2_with fail;refine (OU.at_ 4 rfl (λ_=>fJ.framed _ _) (D:=λ_=>False) (λ_ h=>h.elim) (qQ w1.drew _ g v (Y.v v qE).1)).mono ?_;rintro en w3 ⟨_,rfl,dX⟩;have dX:St V w (.c y 45 (A,c,t,A2,q.length,c2,cm)::dP p g X2) w3:=by unfold dP;rw[sj,qE];exact dX
   have zd:=WZ (l:=[]) (t:=t) (cm:=cm) (by rw[bm];exact dX) rfl rfl rfl;rw[sj,qE] at zd;simp only[jH] at zd;clear ip OU;go_wp2_with fail;refine⟨zd,?_⟩;refine fz 13 zd ?_;refine fz 14 zd ?_;refine eU ?_;have eF:=hgo _ (by rw[qn];exact dX);replace qn:=Q qn;replace qE:=Q qE;replace sj:=Q sj;replace hb:=Q hb;obtain⟨⟨kM,lV⟩,_,_,kU,_⟩:=zd;go_wp2_with fail
  case' inr.inr=>
   rw[hb,aA rfl] at qn;rw[sj,qE] at ip ⊢;simp only[jH] at ip ⊢;have OT:((v.t:Int) != (t:Int))=true:=by simp;omega
   replace zp:=Q zp;refine fz 4 ip ?_;refine fz 5 ip ?_;refine fz 6 ip ?_;refine fz 7 ip ?_;refine fz 8 ip ?_;refine fz 9 ip ?_;refine fz 11 ip ?_;refine fz 12 ip ?_;have OU:St V w [.c y 45 (A,c,t,A2,q.length,c2,cm),.c p.r 118 (iu p X2.node X2.nodes X2.commit ((g:K)) X2.leads X2.own),.o (gR p.m X2.m),.o (qP p.s p.x p.d X2.s),.o (fJ g v)] w1.drew:=by have h:=dV;unfold dP at h;rw[sj,qE] at h;exact h
   refine dY 10 rfl ?_;go_wp2_with fail;refine (OU.at_ 4 rfl (λ_=>fJ.framed _ _) (D:=λ_=>False) (λ_ h=>h.elim) (qQ w1.drew _ g v (Y.v v qE).1)).mono ?_;rintro en w3 ⟨_,rfl,dX⟩;have dX:St V w (.c y 45 (A,c,t,A2,q.length,c2,cm)::dP p g X2) w3:=by unfold dP;rw[sj,qE];exact dX
   have zd:=WZ (l:=[]) (t:=t) (cm:=cm) (by rw[bm];exact dX) rfl rfl rfl;rw[sj,qE] at zd;simp only[jH] at zd;clear ip OU;go_wp2_with fail;refine⟨zd,?_⟩;refine fz 13 zd ?_;refine fz 14 zd ?_;refine eU ?_;replace qE:=Q qE;replace sj:=Q sj;replace hb:=Q hb;replace qn:=Q qn;clear zd;go_wp2_with fail;refine (St.call (a:=dP p g X2) (b:=[.c y 45 (A,c,t,A2,q.length,c2,cm)]) (a':=λ_:Unit=>dP p g X2.down) (dX.perm (bg (l₁:=[Bl.c y 45 (A,c,t,A2,q.length,c2,cm)]) (l₂:=dP p g X2))) (λ_=>eL _ _ _) (λ_ h=>h.elim) (tH w3 p g X2)).mono ?_;rintro en w4 ⟨_,rfl,eO⟩;have eF:St V w (dP p g X3++[.c y 45 (A,c,t,A2,q.length,c2,cm)]) w4:=by rw[qn.out];exact eO
   have kU:=hfc w4 g X3 (eF.perm (bg (l₁:=dP p g X3) (l₂:=[Bl.c y 45 (A,c,t,A2,q.length,c2,cm)])));go_wp2_with fail
  all_goals
   refine (St.call (a:=dP p g X3) (b:=[.c y 45 (A,c,t,A2,q.length,c2,cm)]) (a':=λj:K×List Sd => .o (dS j.1 j.2)::dP p g (X3.apply cm).1) eF (λ_=>⟨dS.framed _ _,eL _ _ _⟩) (λ_ h=>h.elim) (AU _ p g X3 yS cm)).mono ?_
   rintro en w7 ⟨⟨u1,o1⟩,⟨rfl,yQ⟩,eN⟩
   have hx4:=yS.apply cm
   have TV:Hid ((X3.apply cm).1.s=s):=Q Mb.out
   obtain⟨X4,Mr⟩:=az ((X3.apply cm).1)
   rw[<-Mr.out] at eN hx4 TV HR2
   have fH:St V w (.c y 45 (A,c,t,A2,q.length,c2,cm)::dP p g X4) w7:=(eN.dO 0 rfl).perm (bg (l₁:=dP p g X4) (l₂:=[Bl.c y 45 (A,c,t,A2,q.length,c2,cm)]))
   clear eN eF hgo hfc
   go_wp2_with fail
   have fD:=fH.grow (Grow.refl _).drew
   have j5:=WZ (l:=[]) (t:=t) (cm:=cm) (by rw[bm];exact fD) rfl rfl rfl
   refine dJ rfl ?_
   refine gi (AcS p X4.node y t (Z A2 q.length c2) cm (jH g X4.v)) 12 rfl ?_
   refine fz 0 j5 ?_
   refine fz 1 j5 ?_
   refine fz 2 j5 ?_
   refine fz 3 j5 ?_
   refine fz 4 j5 ?_
   refine fz 5 j5 ?_
   refine fz 6 j5 ?_
   refine dY 7 rfl ?_
   obtain⟨U,hE,_⟩:=fD.own.see 3 rfl
   go_wp2_with fail
   refine (tp w7.drew p.s p.x p.d _ _ _ _ _ U hE).mono ?_
   rintro en w8 ⟨rfl,rfl⟩
   go_wp2_with fail
   refine⟨j5,?_⟩
   refine fz 8 j5 ?_
   refine fz 9 j5 ?_
   refine dY 10 rfl ?_
   go_wp2_with fail
   have gy:=mU fD (SC from_ t X4.s.c.es.length) (λO U=>SD O U _ _ _)
   have nS:AcS p X4.node y t (Z A2 q.length c2) cm (jH g X4.v) (w7.drew.alloc (.cells (SC from_ t X4.s.c.es.length).cells.toArray 218)):=WZ (l:=[]) (t:=t) (cm:=cm) (by rw[bm];exact gy.dO 0 rfl) rfl rfl rfl
   refine⟨nS,?_⟩
   refine fL 11 nS ?_
   refine eU ?_
   go_wp2
   go_ret
   obtain⟨r1,r2⟩:=(gy.dO 1 rfl).fin
   rw[HR2.out]
   exact⟨(_,[SC from_ t X4.s.c.es.length]),⟨rfl,by rw[TV.out];rfl⟩,r1,r2⟩
theorem OV{nodes:Nat}(h:Cell g 213 (nX t nodes (cS 8 false) (cS 8 0) 0 (Z none 0 0) 0) O (New w O)):fJ g (Vt.new t nodes) O (New w O):=⟨none,0,[],⟨rfl,bh _,bo _⟩,New w O,λ_=>False,h,⟨λ_=>False,λ_=>False,jO.nil,trivial,λ_ h=>h,λ_ h=>h,λ_ h _=>h⟩,λ_ h=>h,λ_ h=>h.elim,λ_ _ h=>h⟩
def LdS(p:pj)(node nodes:Nat)(vp:K)(w:X):Prop:=QE p node w∧w.cell? ⟨p.r,1,none⟩=some (J nodes)∧w.cell? ⟨p.r,5,none⟩=some vp
theorem ldS{z:Rp}{l:List Bl}(h:St V w0 (dP p g z++l) w):LdS p z.node z.nodes (jH g z.v) w:=⟨Ly h,h.facts.1.1 1,h.facts.1.1 5⟩
def a0p(x:Rp):Option Vs->Rp×Sends
 | none=>(x,[])
 | some s=>if ((Vt.new s.c.t x.nodes).promise x.node s.c.h s.c.es).1=true then Rp.won { x with s:=s,leads:=false,v:=some ((Vt.new s.c.t x.nodes).promise x.node s.c.h s.c.es).2 } ((Vt.new s.c.t x.nodes).promise x.node s.c.h s.c.es).2
   else ({ x with s:=s,leads:=false,v:=some ((Vt.new s.c.t x.nodes).promise x.node s.c.h s.c.es).2 },tD x.node x.nodes (jX s.c.t))
theorem OW(w:X)(p:pj)(g:Nat)(x:Rp)(Y:x.Ok)(ht:x.s.c.t<=1099511627776):Lw W (λ_=>False) 18 #[.pointer (some ⟨p.r,0,none⟩)] (dP p g x) (λ(j:(K×List Sd)×Nat)en=>en=b5 j.1.1∧eS j.1.2=x.lead.2) (λj => .o (dS j.1.1 j.1.2)::dP p j.2 x.lead.1) w:=by
 obtain⟨R,HR⟩:=aE (x.lead);rw[<-HR];intro V hM hV;have Fi:=Y.s;obtain⟨oK,Ux⟩:=Y.node;obtain⟨f1,f2,f3,f4⟩:=Ee x.s.c.t oK Ux;obtain⟨abm,HT⟩:=az (lM x.s.c.t x.node x.nodes);rw[<-HT.out] at f2 f3;have ZJ:abm<=9223372036854775807:=by omega
 obtain⟨abg,HY⟩:=az (x.s.promise abm);replace HR:Hid (R=a0p x abg):=Q (by rw[HR,HY.out,HT.out];unfold Rp.lead;rw[aB ap];cases x.s.promise (lM x.s.c.t x.node x.nodes)<;>rfl)
 clear f1 f4;have hS:=(St.begin_ hM (λb hb=>(hV b hb).1) (eL _ _ _)).grow (Grow.refl _).drew;have ja:=ldS (l:=[]) (by rw[bm];exact hS);obtain⟨U,hE,_⟩:=hS.own.see 2 rfl;go_in;go_wp2_with fail;refine dJ rfl ?_;refine gi (LdS p x.node x.nodes (jH g x.v)) 15 rfl ?_;refine gL 0 ja ?_;refine gL 1 ja ?_;refine gL 2 ja ?_;refine gL 3 ja ?_;refine gL 5 ja ?_;refine gL 6 ja ?_;refine gL 7 ja ?_;refine gL 8 ja ?_;refine gL 9 ja ?_;refine gL 10 ja ?_;refine gL 11 ja ?_;refine gL 12 ja ?_;refine dY 4 rfl ?_;go_wp2_with fail;refine (AE w.drew p.s p.x p.d _ _ _ _ _ U hE).mono ?_;rintro en w1 ⟨rfl,rfl⟩;go_wp2_with fail;refine⟨ja,?_⟩;refine dY 13 rfl ?_;have hLT:=Sw w.drew x.s.c.t x.node x.nodes oK Ux ht;rw[<-HT.out] at hLT;go_wp2_with fail;refine hLT.mono ?_;rintro en w1 ⟨rfl,rfl⟩;clear hLT;go_wp2_with fail;refine⟨ja,?_⟩;refine fL 14 ja ?_;refine eU ?_;have hP:=hS.at_ 2 rfl (λ_=>gG.framed _ _ _ _ _ _ _ _) (D:=λ_=>False) (λ_ h=>h.elim) (yg w.drew _ p.s p.x p.d x.s Fi abm ZJ);rw[<-HY.out] at hP;obtain⟨⟨kM,lV⟩,sy,q_⟩:=ja;go_wp2_with fail;refine hP.mono ?_;rintro en w2 ⟨_,rfl,dV⟩;clear hP kM lV sy q_ hS hE;have dV:St V w (dP p g { x with s:=abg.getD x.s }) w2:=dV;rcases abg with _|s
 ·simp only[Option.isSome_none]
  go_wp2;go_ret;have gy:=St.join dV (dS.framed (Z none 0 0) []) (Grow.refl _) (U:=λ_=>False) (h_.nil _ _) (λ_ h=>h.elim);obtain⟨r1,r2⟩:=gy.fin;rw[HR.out];first|exact⟨((Z none 0 0,[]),g),⟨rfl,rfl⟩,r1,r2⟩|exact⟨Z none 0 0,[],g,⟨rfl,rfl⟩,r1,r2⟩|exact⟨(Z none 0 0,[]),g,⟨rfl,rfl⟩,r1,r2⟩
 ·simp only[Option.isSome_some]
  obtain⟨Qm,Y5⟩:=Vs.lq Fi ZJ HY.out.symm;have kY:Hid (s.c.t=abm):=Q (by rw[Y5]);clear Y5;obtain⟨X2,jS⟩:=aE ({ x with s:=s }:Rp);have lw:X2.Ok:=by rw[jS];exact Y.word Qm _ _ Y.lv
  have dV:St V w (dP p g X2) w2:=by rw[jS];exact dV
  replace jS:=Q jS;go_wp2_with fail;refine (St.call (a:=dP p g X2) (b:=[]) (a':=λ_:Unit=>dP p g X2.down) (by rw[bm];exact dV) (λ_=>eL _ _ _) (λ_ h=>h.elim) (tH w2 p g X2)).mono ?_;rintro en w3 ⟨_,rfl,dX⟩;rw[bm] at dX;have dX:St V w [.c p.r 118 (iu p X2.node X2.nodes X2.commit (.pointer none) false X2.own),.o (gR p.m X2.m),.o (qP p.s p.x p.d X2.s)] w3:=dX;have hN:=W4 w3 abm X2.nodes (by have:=lw.node;omega) lw.node.2;have E:=dX.facts;simp only[ec,iu] at E;go_wp2_with fail;refine hN.mono ?_;rintro en w4 ⟨g',rfl,hCg,Bi⟩;have eO:=dX.join (fJ.framed _ _) Bi (U:=New w3 w4) (OV hCg) (λb hb=>hb);clear hN E hCg;go_wp2_with (refine fv eO 1 rfl 116 _ _ rfl 5 rfl ((g':K)) rfl (bf rfl) rfl aw rfl ?_;clear eO;intro w5 eF;refine stay ?_);refine dI ?_;simp only[iu,bY,bz,bA] at eF;obtain⟨X3,qn⟩:=aE ({ X2 with leads:=false,v:=some (Vt.new abm X2.nodes) }:Rp);have zf:(Vt.new abm X2.nodes).Ok:=Vt.Ok.new ZJ ⟨by have:=lw.node;omega,lw.node.2⟩;have yS:X3.Ok:=by rw[qn];exact lw.down.vote zf rfl
  have eN:St V w (dP p g' X3) w5:=by rw[qn];exact eF.perm ((List.Perm.swap _ _ _).trans (List.Perm.cons _ ((List.Perm.swap _ _ _).trans (List.Perm.cons _ (List.Perm.swap _ _ _)))))
  have SE:X3.v=some (Vt.new abm X2.nodes):=by rw[qn]
  have SF:X3.node=X2.node∧X3.nodes=X2.nodes∧X3.s=X2.s:=by rw[qn];exact⟨rfl,rfl,rfl⟩
  clear eF;replace qn:=Q qn;go_wp2_with fail;have fH:=eN.grow (Grow.refl _).drew;have iP:=ldS (l:=[]) (by rw[bm];exact fH);rw[SE] at iP;simp only[jH] at iP;replace SE:=Q SE;replace SF:=Q SF;obtain⟨U3,Jd,_⟩:=fH.own.see 2 rfl;refine dJ rfl ?_;refine gi (LdS p X3.node X3.nodes ((g':K))) 19 rfl ?_;refine gL 0 iP ?_;refine gL 1 iP ?_;refine gL 2 iP ?_;refine gL 3 iP ?_;refine gL 4 iP ?_;refine gL 5 iP ?_;refine gL 6 iP ?_;refine gL 7 iP ?_;refine gL 8 iP ?_;refine gL 9 iP ?_;refine gL 10 iP ?_;refine gL 11 iP ?_;refine gL 13 iP ?_;refine gL 14 iP ?_;refine gL 15 iP ?_;refine gL 16 iP ?_;refine dY 12 rfl ?_;go_wp2_with fail;refine (E3 w5.drew p.s p.x p.d _ _ _ _ _ U3 Jd).mono ?_;rintro en w6 ⟨rfl,rfl⟩;go_wp2_with fail;refine⟨iP,?_⟩;refine dY 17 rfl ?_;go_wp2_with fail;refine (qd w5.drew p.s p.x p.d _ _ _ _ _ U3 Jd (by have:=yS.s.c.len;show X3.s.c.es.length<=1048576;omega)).mono ?_;rintro en w6 ⟨u,rfl,⟨A1,c1,q1,rfl,Fg,o3,zn,zG⟩,-,tW⟩;have U8:q1.length<=128:=by rw[<-bj (f:=El.e),o3];exact yS.s.c.len
  have fD:St V w [.o (fT A1 q1),.c p.r 118 (iu p X3.node X3.nodes X3.commit ((g':K)) X3.leads X3.own),.o (gR p.m X3.m),.o (qP p.s p.x p.d X3.s),.o (fJ g' (Vt.new abm X2.nodes))] w6:=by have h:=fH.join (fT.framed A1 q1) tW (U:=New w5.drew w6) Fg (λb hb=>hb);unfold dP at h;rw[SE.out] at h;exact h
  have ip:LdS p X3.node X3.nodes ((g':K)) w6:=⟨⟨fD.facts.1.1 0,fD.facts.1.1 2⟩,fD.facts.1.1 1,fD.facts.1.1 5⟩;clear iP;go_wp2_with fail;refine⟨ip,?_⟩;obtain⟨r,Hr⟩:=az ((Vt.new abm X2.nodes).promise X3.node X3.s.c.h X3.s.c.es);have SG:=fD.atR 4 0 rfl rfl (λ_=>fJ.framed _ _) (λU hU jR=>yi w6 U g' (Vt.new abm X2.nodes) zf X3.node X3.s.c.h (by have I:=yS.node.1;rw[SF.out.2.1] at I;exact I) A1 c1 q1 hU U8 yS.s.c.h jR (λz hz=>yS.s.c.es _ (by have h:z.e∈q1.map El.e:=List.mem_map.2 ⟨z,hz,rfl⟩;rw[o3] at h;exact h)))
  rw[o3] at SG;change dz _ _ _ _ (λe O=>∃_:Unit,e=b5 (aY ((Vt.new abm X2.nodes).promise X3.node X3.s.c.h X3.s.c.es).1)∧St V w _ O) at SG;rw[<-Hr.out] at SG;refine dY 18 rfl ?_;go_wp2_with fail;refine SG.mono ?_;rintro en w7 ⟨_,rfl,gy⟩;clear SG;have hro:r.2.Ok:=by rw[Hr.out];exact zf.promise (by have:=yS.node;omega) yS.s.c.h yS.s.c.es yS.s.c.len
  have Z5:r.2.nodes=X3.nodes:=by
   rw[Hr.out,SF.out.2.1];unfold Vt.promise;split;·rfl
   ·split
    ·rfl
    ·split<;>rfl
  obtain⟨X4,Mr⟩:=aE ({ X3 with v:=some r.2 }:Rp);have hx4:X4.Ok:=by rw[Mr];exact yS.vote hro Z5
  have hv4:X4.v=some r.2:=by rw[Mr]
  have iA:St V w (dP p g' X4) w7:=by rw[Mr];exact gy.dO 0 rfl
  have zd:LdS p X3.node X3.nodes ((g':K)) w7:=by have h:=ldS (l:=[]) (by rw[bm];exact iA);rw[hv4] at h;rw[Mr] at h;exact h
  clear ip;go_wp2_with fail;refine⟨zd,?_⟩;refine eU ?_;have gS:Hid (R=if r.1=true then X4.won r.2 else (X4,tD X4.node X4.nodes (jX abm))):=Q (by
   rw[HR.out,Mr,qn.out,jS.out];have hr2:r=(Vt.new s.c.t x.nodes).promise x.node s.c.h s.c.es:=by rw[Hr.out,qn.out,jS.out,kY.out]
   rw[hr2,<-kY.out];rfl)
  clear HR gy;replace Mr:=Q Mr;replace hv4:=Q hv4;clear zd;rcases bC r.1 with hr|hr
  ·rw[hr] at gS ⊢
   go_wp2_with fail;refine (St.call (a:=dP p g' X4) (b:=[]) (a':=λj:K×List Sd => .o (dS j.1 j.2)::dP p g' (X4.won r.2).1) (by rw[bm];exact iA) (λ_=>⟨dS.framed _ _,eL _ _ _⟩) (λ_ h=>h.elim) (Jt w7 p g' X4 hx4 r.2 hv4.out)).mono ?_;rintro en w8 ⟨j,⟨rfl,hj⟩,kQ⟩;rw[bm] at kQ;go_wp2;go_ret;obtain⟨r1,r2⟩:=kQ.fin;have jN:=gS.out;first|rw[aA rfl] at jN|rw[aA trivial] at jN
   rw[jN];first|exact⟨(j,g'),⟨rfl,hj⟩,r1,r2⟩|exact⟨j,g',⟨rfl,hj⟩,r1,r2⟩|exact⟨j.1,j.2,g',⟨rfl,hj⟩,r1,r2⟩
  ·rw[hr] at gS ⊢
   have hCA:=St.call (a:=[.c p.r 118 (iu p X4.node X4.nodes X4.commit (jH g' X4.v) X4.leads X4.own)]) (b := .o (gR p.m X4.m)::.o (qP p.s p.x p.d X4.s)::WM g' X4.v) iA
    (a':=λi:K×List Sd=>[.o (dS i.1 i.2),.c p.r 118 (iu p X4.node X4.nodes X4.commit (jH g' X4.v) X4.leads X4.own)]) (λi=>⟨dS.framed _ _,trivial,trivial⟩) (D:=λ_=>False) (λ_ h=>h.elim)
    (AP w7 (λ_=>False) p X4.node X4.nodes hx4.node.2 X4.commit (jH g' X4.v) X4.leads X4.own (jX abm) none 0 none 0 [] (nD w7 _ 0 0 0 0).e jO.nil rfl am (λ_ h=>h.elim))
   have jQ:(jX abm).cells none 0 none 0=[J 3,(),(),(),(),(),ay,"",(),(),(),(),ae ah 0,J abm,(),ay,(),()]:=rfl;rw[jQ] at hCA;go_wp2_with fail;refine hCA.mono ?_;rintro en w8 ⟨j,⟨rfl,hj⟩,kQ⟩;go_wp2;go_ret;obtain⟨r1,r2⟩:=St.fin kQ;have jN:=gS.out;first|rw[aB cB] at jN|rw[aB not_false] at jN
   rw[jN];first|exact⟨(j,g'),⟨rfl,hj⟩,r1,r2⟩|exact⟨j,g',⟨rfl,hj⟩,r1,r2⟩|exact⟨j.1,j.2,g',⟨rfl,hj⟩,r1,r2⟩
def Rp.hears(x:Rp)(f:Int):Prop:=0<=f∧f<x.nodes∧f≠x.node
instance(x:Rp)(f:Int):Decidable (x.hears f):=by unfold Rp.hears;infer_instance
def vF(x:Rp):Rp×Sends:=(x,[])
theorem nI{x:Rp}(h:St V w (dP p g x) O):dN (px (.o (dS (Z none 0 0) [])::dP p g x)) O (iY V w O)∧dM V w O:=(St.join h (dS.framed (Z none 0 0) []) (Grow.refl _) (U:=λ_=>False) (h_.nil _ _) (λ_ h=>h.elim)).fin
theorem Ep(w:X)(D:aV)(p:pj)(g:Nat)(x:Rp)(Y:x.Ok)(f:Int)(e:En)(A:aU)(c:Nat)(he:kP w D ⟨e,A,c⟩)(gC:e.Ok)(j6:∀b,D b->b<(w:Nat)):Lw W D 19 #[.pointer (some ⟨p.r,0,none⟩),J f,aZ (S5 e A c)] (dP p g x) (λ(j:K×List Sd)en=>en=b5 j.1∧eS j.2=(x.ask f e).2) (λj => .o (dS j.1 j.2)::dP p g (x.ask f e).1) w:=by
 obtain⟨R,HR⟩:=az (x.ask f e);rw[<-HR.out];intro V hM hV;have kV:∀x,D x->x<(w:Nat)∧¬ V x:=λx Y=>⟨j6 x Y,λh=>(hV x h).2 Y⟩;have hS:=St.begin_ hM (λb hb=>(hV b hb).1) (eL _ _ _);obtain⟨y,wa,HY,HA,hS⟩:=hS.new' (S5 e A c) 45;have gl:Grow w wa:=by rw[HA.out];exact fb w _
 have T:=GZ wa e D A c gC (In.grow he.1 gl);have hC:=λO(H:Grow w O)(h:St V w (dP p g x) O)=>SB O D p g x Y f e A c (Js he λb hb=>H.block b (j6 b hb)) gC (λb hb=>bw (j6 b hb) H.size);unfold S5 at T HA hS ⊢;unfold En.agg at hC;obtain⟨ek,ag,sh,sq,ep,ds,se,fr,tg⟩:=e;dsimp only at T HA hS hC ⊢;go_in;go_wp2_with (refine dU rfl 45 _ rfl _ rfl (HA.out▸HY.out▸hS.blk 0 rfl) bG aw ?_);rw[<-HA.out];refine T.mono ?_;rintro en w1 ⟨rfl,eD⟩;rw[<-HY.out];have jV:=(hS.grow eD).blk 0 rfl;have c0:=jV.cell 0;have c1:=jV.cell 1;have c2:=jV.cell 2;have c3:=jV.cell 3;have c4:=jV.cell 4;have c5:=jV.cell 5;have c6:=jV.cell 6;have c7:=jV.cell 7;have c8:=jV.cell 8;have c9:=jV.cell 9;have ej:=(hS.grow eD).dO 0 rfl;clear T jV;have hC:=hC w1 (gl.trans eD) ej;go_wp2_with fail;refine (St.call (a:=dP p g x) (b:=[]) (a':=λj:K×List Sd => .o (dS j.1 j.2)::dP p g (x.ask f ⟨ek,ag,sh,sq,ep,ds,se,fr,tg⟩).1) (by rw[bm];exact ej) (λ_=>⟨dS.framed _ _,eL _ _ _⟩) (St.far kV) hC).mono ?_;rintro en w2 ⟨j,⟨rfl,hj⟩,dV⟩;rw[bm] at dV;go_wp2;go_ret;obtain⟨r1,r2⟩:=dV.fin;rw[HR.out];first|exact⟨j,⟨rfl,hj⟩,r1,r2⟩|exact⟨j.1,j.2,⟨rfl,hj⟩,r1,r2⟩
theorem OX(w:X)(D:aV)(p:pj)(g:Nat)(x:Rp)(f:Int)(hf:¬ x.hears f)(m:Ms)(A:aU)(c:Nat)(A2:aU)(c2:Nat)(q:List El)(h:m.Gd)(N:m.k≠1)(hA:A=none∧c=0)(qZ:m.k≠4->m.k≠5->A2=none∧c2=0)(he:jM w D A m.e.ds.length m.e.ds)(hq:jO w D A2 q)(kZ:q.map El.e=m.log)(j6:∀b,D b->b<(w:Nat)):Lw W D 19 #[.pointer (some ⟨p.r,0,none⟩),J f,aZ (mH m A c A2 c2)] (dP p g x) (λ(j:K×List Sd)en=>en=b5 j.1∧eS j.2=(vF x).2) (λj => .o (dS j.1 j.2)::dP p g (vF x).1) w:=by
 have I:(m.k == 1)=false:=beq_eq_false_iff_ne.2 N;intro V hM hV;have hS:=St.begin_ hM (λb hb=>(hV b hb).1) (eL _ _ _);obtain⟨y,wa,HY,HA,hS⟩:=hS.new' (mH m A c A2 c2) 45;have gl:Grow w wa:=by rw[HA.out];exact fb w _
 have yX:jO wa D A2 q:=fT.framed A2 q w wa D hq λb hb=>gl.block b (j6 b hb);have T:=ln wa D m A c A2 c2 q h (λ_=>hA) qZ (In.grow he gl) yX kZ;clear h N hA qZ he hq kZ yX;obtain⟨k,⟨ek,ag,sh,sq,ep,ds,se,fr,tg⟩,tag,code,n,term,had,log,commit,len⟩:=m;unfold mH Ms.cells at hS T HA ⊢;dsimp only at hS T HA I ⊢;go_in;go_wp2_with (refine dU rfl 45 _ rfl _ rfl (HA.out▸HY.out▸hS.blk 0 rfl) bG aw ?_);rw[<-HA.out];refine T.mono ?_;rintro en w1 ⟨rfl,eD⟩;rw[<-HY.out];have AY:=hS.grow eD;have jV:=AY.blk 0 rfl;have c0:=jV.cell 0;have ej:=AY.dO 0 rfl;clear T;have y_:w1.cell? ⟨p.r,0,none⟩=some (J x.node):=ej.facts.1.1 0;have oK:w1.cell? ⟨p.r,1,none⟩=some (J x.nodes):=ej.facts.1.1 1;have hX:decide (f<0)=true∨(decide (f<0)=false∧decide ((x.nodes:Int)<=f)=true)∨(decide (f<0)=false∧decide ((x.nodes:Int)<=f)=false∧(f == (x.node:Int))=true):=by unfold Rp.hears at hf;simp only[decide_eq_true_eq,decide_eq_false_iff_not,beq_iff_eq];omega
 clear hf jV;rcases hX with e1|⟨e1,e2⟩|⟨e1,e2,e3⟩
 all_goals
  go_wp2
  go_ret
  obtain⟨r1,r2⟩:=nI ej
  first|exact⟨(Z none 0 0,[]),⟨rfl,rfl⟩,r1,r2⟩|exact⟨Z none 0 0,[],⟨rfl,rfl⟩,r1,r2⟩
theorem LA(w:X)(D:aV)(p:pj)(g:Nat)(x:Rp)(Y:x.Ok)(f:Int)(hf:x.hears f)(t:Nat)(ht:t<=9223372036854775807)(A2:aU)(c2:Nat)(q:List El)(qZ:A2=none∧c2=0)(hq:jO w D A2 q)(RV:q=[])(j6:∀b,D b->b<(w:Nat)):Lw W D 19 #[.pointer (some ⟨p.r,0,none⟩),J f,aZ #[J 3,(),(),(),(),(),ay,"",(),(),(),(),ae ah 0,J t,(),ay,(),()]] (dP p g x) (λ(j:K×List Sd)en=>en=b5 j.1∧eS j.2=(x.prepare f t).2) (λj => .o (dS j.1 j.2)::dP p g (x.prepare f t).1) w:=by
 have jQ:mH (jX t) none 0 A2 c2=#[J 3,(),(),(),(),(),ay,"",(),(),(),(),ae ah 0,J t,(),ay,(),()]:=by obtain⟨rfl,rfl⟩:=qZ;unfold mH Ms.cells;first|rfl|(dsimp only[i9,kR];rw[bj];rfl)
 obtain⟨R,HR⟩:=az (x.prepare f t);rw[<-HR.out];intro V hM hV;have hS:=St.begin_ hM (λb hb=>(hV b hb).1) (eL _ _ _);obtain⟨y,wa,HY,HA,hS⟩:=hS.new' #[J 3,(),(),(),(),(),ay,"",(),(),(),(),ae ah 0,J t,(),ay,(),()] 45;have gl:Grow w wa:=by rw[HA.out];exact fb w _
 have yX:jO wa D A2 q:=fT.framed A2 q w wa D hq λb hb=>gl.block b (j6 b hb);have T:=ln wa D (jX t) none 0 A2 c2 q (.vD t ht) (λ_=>⟨rfl,rfl⟩) (λ_ _=>qZ) In.nil yX (by rw[RV];rfl);rw[jQ] at T;clear jQ;go_in;go_wp2_with (refine dU rfl 45 _ rfl _ rfl (HA.out▸HY.out▸hS.blk 0 rfl) bG aw ?_);rw[<-HA.out];refine T.mono ?_;rintro en w1 ⟨rfl,eD⟩;rw[<-HY.out];have AY:=hS.grow eD;have jV:=AY.blk 0 rfl;have c0:=jV.cell 0;have c13:=jV.cell 13;have ej:=AY.dO 0 rfl;clear T;have y_:w1.cell? ⟨p.r,0,none⟩=some (J x.node):=ej.facts.1.1 0;have oK:w1.cell? ⟨p.r,1,none⟩=some (J x.nodes):=ej.facts.1.1 1;obtain⟨F,rfl,ME,hF2⟩:∃F:Nat,f=(F:Int)∧F<x.nodes∧F≠x.node:=by obtain⟨I,G,L⟩:=hf;exact⟨f.toNat,by omega,by omega,by omega⟩
 clear hf;have e1:decide ((F:Int)<0)=false:=aD ap;have e2:decide (x.nodes<=F)=false:=aD ap;have e3:((F:Int) == (x.node:Int))=false:=beq_eq_false_iff_ne.2 ap;clear jV;go_wp2_with fail;refine (St.call (a:=dP p g x) (b:=[]) (a':=λj:K×List Sd => .o (dS j.1 j.2)::dP p g (x.prepare (F:Int) t).1) (by rw[bm];exact ej) (λ_=>⟨dS.framed _ _,eL _ _ _⟩) (D:=λ_=>False) (λ_ h=>h.elim) (Eo w1 p g x Y (F:Int) t ht)).mono ?_;rintro en w2 ⟨j,⟨rfl,hj⟩,dV⟩;rw[bm] at dV;go_wp2;go_ret;obtain⟨r1,r2⟩:=dV.fin;rw[HR.out];first|exact⟨j,⟨rfl,hj⟩,r1,r2⟩|exact⟨j.1,j.2,⟨rfl,hj⟩,r1,r2⟩
theorem OY(w:X)(D:aV)(p:pj)(g:Nat)(x:Rp)(Y:x.Ok)(f:Int)(hf:x.hears f)(tag code n:Nat)(I:tag<=9223372036854775807)(G:code<=255)(L:n<18446744073709551616)(A2:aU)(c2:Nat)(q:List El)(qZ:A2=none∧c2=0)(hq:jO w D A2 q)(RV:q=[])(j6:∀b,D b->b<(w:Nat)):Lw W D 19 #[.pointer (some ⟨p.r,0,none⟩),J f,aZ #[J 2,(),(),(),(),(),ay,"",(),(),J tag,J code,ae ah n,(),(),ay,(),()]] (dP p g x) (λ(j:K×List Sd)en=>en=b5 j.1∧eS j.2=(vF x).2) (λj => .o (dS j.1 j.2)::dP p g (vF x).1) w:=by
 have jQ:mH (fx (tag:Int) (code:Int) n) none 0 A2 c2=#[J 2,(),(),(),(),(),ay,"",(),(),J tag,J code,ae ah n,(),(),ay,(),()]:=by obtain⟨rfl,rfl⟩:=qZ;unfold mH Ms.cells;first|rfl|(dsimp only[i9,kR];rw[bj];rfl)
 obtain⟨R,HR⟩:=az (vF x);rw[<-HR.out];intro V hM hV;have hS:=St.begin_ hM (λb hb=>(hV b hb).1) (eL _ _ _);obtain⟨y,wa,HY,HA,hS⟩:=hS.new' #[J 2,(),(),(),(),(),ay,"",(),(),J tag,J code,ae ah n,(),(),ay,(),()] 45;have gl:Grow w wa:=by rw[HA.out];exact fb w _
 have yX:jO wa D A2 q:=fT.framed A2 q w wa D hq λb hb=>gl.block b (j6 b hb);have T:=ln wa D (fx (tag:Int) (code:Int) n) none 0 A2 c2 q (.ans tag code n I G L) (λ_=>⟨rfl,rfl⟩) (λ_ _=>qZ) In.nil yX (by rw[RV];rfl);rw[jQ] at T;clear jQ;go_in;go_wp2_with (refine dU rfl 45 _ rfl _ rfl (HA.out▸HY.out▸hS.blk 0 rfl) bG aw ?_);rw[<-HA.out];refine T.mono ?_;rintro en w1 ⟨rfl,eD⟩;rw[<-HY.out];have AY:=hS.grow eD;have jV:=AY.blk 0 rfl;have c0:=jV.cell 0;have ej:=AY.dO 0 rfl;clear T;have y_:w1.cell? ⟨p.r,0,none⟩=some (J x.node):=ej.facts.1.1 0;have oK:w1.cell? ⟨p.r,1,none⟩=some (J x.nodes):=ej.facts.1.1 1;obtain⟨F,rfl,ME,hF2⟩:∃F:Nat,f=(F:Int)∧F<x.nodes∧F≠x.node:=by obtain⟨I,G,L⟩:=hf;exact⟨f.toNat,by omega,by omega,by omega⟩
 clear hf;have e1:decide ((F:Int)<0)=false:=aD ap;have e2:decide (x.nodes<=F)=false:=aD ap;have e3:((F:Int) == (x.node:Int))=false:=beq_eq_false_iff_ne.2 ap;clear jV;go_wp2;go_ret;obtain⟨r1,r2⟩:=nI ej;rw[HR.out];first|exact⟨(Z none 0 0,[]),⟨rfl,rfl⟩,r1,r2⟩|exact⟨Z none 0 0,[],⟨rfl,rfl⟩,r1,r2⟩
def W_(p:pj)(y t had:Nat)(sl vp:K)(leads:Bool)(w:X):Prop:=w.cell? ⟨y,13,none⟩=some (J t)∧w.cell? ⟨y,14,none⟩=some (J had)∧w.cell? ⟨y,15,none⟩=some sl∧w.cell? ⟨p.r,5,none⟩=some vp∧w.cell? ⟨p.r,6,none⟩=some (aY leads)
theorem rcS{z:Rp}{l:List Bl}{had:Nat}(h:St V w0 (.c y 45 cs::dP p g z++l) w)(I:cs[13]?=some (J t))(G:cs[14]?=some (J had))(L:cs[15]?=some sl):W_ p y t had sl (jH g z.v) z.leads w:=⟨(h.facts.1.1 13).trans I,(h.facts.1.1 14).trans G,(h.facts.1.1 15).trans L,h.facts.2.1.1 5,h.facts.2.1.1 6⟩
def mV(x:Rp)(F t n:Nat):Rp×Sends:=if x.leads=true then (match x.v with|some v=>if v.t=t then x.counted v F n else (x,[])|none=>(x,[])) else (x,[])
def ji(x:Rp)(F t had:Nat)(l:List En):Rp×Sends:=match x.v with
 | none=>(x,[])
 | some v=>if v.t=t∧v.won=false then (if (v.promise F had l).1=true then Rp.won { x with v:=some (v.promise F had l).2 } (v.promise F had l).2 else ({ x with v:=some (v.promise F had l).2 },[])) else (x,[])
theorem OZ(w:X)(D:aV)(p:pj)(g:Nat)(x:Rp)(Y:x.Ok)(f:Int)(hf:x.hears f)(t cm:Nat)(ht:t<=9223372036854775807)(iO:cm<=128)(A2:aU)(c2:Nat)(q:List El)(hq:jO w D A2 q)(gC:∀z∈q,z.e.Ok)(hl:q.length<=128)(j6:∀b,D b->b<(w:Nat)):Lw W D 19 #[.pointer (some ⟨p.r,0,none⟩),J f,aZ #[J 5,(),(),(),(),(),ay,"",(),(),(),(),ae ah 0,J t,(),Z A2 q.length c2,J cm,()]] (dP p g x) (λ(j:K×List Sd)en=>en=b5 j.1∧eS j.2=(x.accept f t (q.map El.e) cm).2) (λj => .o (dS j.1 j.2)::dP p g (x.accept f t (q.map El.e) cm).1) w:=by
 have jQ:mH (kR t (q.map El.e) cm) none 0 A2 c2=#[J 5,(),(),(),(),(),ay,"",(),(),(),(),ae ah 0,J t,(),Z A2 q.length c2,J cm,()]:=by unfold mH Ms.cells;first|rfl|(dsimp only[i9,kR];rw[bj];rfl)
 obtain⟨R,HR⟩:=az (x.accept f t (q.map El.e) cm);rw[<-HR.out];intro V hM hV;have kV:∀x,D x->x<(w:Nat)∧¬ V x:=λx Y=>⟨j6 x Y,λh=>(hV x h).2 Y⟩;have hS:=St.begin_ hM (λb hb=>(hV b hb).1) (eL _ _ _);obtain⟨y,wa,HY,HA,hS⟩:=hS.new' #[J 5,(),(),(),(),(),ay,"",(),(),(),(),ae ah 0,J t,(),Z A2 q.length c2,J cm,()] 45;have gl:Grow w wa:=by rw[HA.out];exact fb w _
 have yX:jO wa D A2 q:=fT.framed A2 q w wa D hq λb hb=>gl.block b (j6 b hb);have T:=ln wa D (kR t (q.map El.e) cm) none 0 A2 c2 q (.acc t (q.map El.e) cm ht iO (λe he=>by obtain⟨z,hz,rfl⟩:=List.mem_map.1 he;exact gC z hz) (by rw[bj];exact hl)) (λ_=>⟨rfl,rfl⟩) (λ_ h=>absurd rfl h) In.nil yX rfl;rw[jQ] at T;clear jQ;go_in;go_wp2_with (refine dU rfl 45 _ rfl _ rfl (HA.out▸HY.out▸hS.blk 0 rfl) bG aw ?_);rw[<-HA.out];refine T.mono ?_;rintro en w1 ⟨rfl,eD⟩;rw[<-HY.out];have AY:=hS.grow eD;have jV:=AY.blk 0 rfl;have c0:=jV.cell 0;have ej:=AY.dO 0 rfl;clear T;have y_:w1.cell? ⟨p.r,0,none⟩=some (J x.node):=ej.facts.1.1 0;have oK:w1.cell? ⟨p.r,1,none⟩=some (J x.nodes):=ej.facts.1.1 1;obtain⟨F,rfl,ME,hF2⟩:∃F:Nat,f=(F:Int)∧F<x.nodes∧F≠x.node:=by obtain⟨I,G,L⟩:=hf;exact⟨f.toNat,by omega,by omega,by omega⟩
 clear hf;have e1:decide ((F:Int)<0)=false:=aD ap;have e2:decide (x.nodes<=F)=false:=aD ap;have e3:((F:Int) == (x.node:Int))=false:=beq_eq_false_iff_ne.2 ap;clear jV;have hC:=H4 w1 D p g x Y (F:Int) t cm none 0 A2 c2 q ht (fT.framed A2 q w w1 D hq λb hb=>(gl.trans eD).block b (j6 b hb)) gC hl (λb hb=>bw (j6 b hb) (gl.trans eD).size);have hX2:=AY.blk 0 rfl;go_wp2_with (refine dU rfl 45 _ rfl _ rfl hX2 bG aw ?_);refine (St.call (a:=dP p g x) (b:=[]) (a':=λj:K×List Sd => .o (dS j.1 j.2)::dP p g (x.accept (F:Int) t (q.map El.e) cm).1) (by rw[bm];exact ej) (λ_=>⟨dS.framed _ _,eL _ _ _⟩) (D:=D) (St.far kV) (hC)).mono ?_;rintro en w2 ⟨j,⟨rfl,hj⟩,dV⟩;rw[bm] at dV;go_wp2;go_ret;obtain⟨r1,r2⟩:=dV.fin;rw[HR.out];first|exact⟨j,⟨rfl,hj⟩,r1,r2⟩|exact⟨j.1,j.2,⟨rfl,hj⟩,r1,r2⟩
theorem O_(w:X)(D:aV)(p:pj)(g:Nat)(x:Rp)(Y:x.Ok)(f:Int)(hf:x.hears f)(t n:Nat)(I:t<=9223372036854775807)(G:n<=128)(A2:aU)(c2:Nat)(q:List El)(qZ:A2=none∧c2=0)(hq:jO w D A2 q)(RV:q=[])(j6:∀b,D b->b<(w:Nat)):Lw W D 19 #[.pointer (some ⟨p.r,0,none⟩),J f,aZ #[J 6,(),(),(),(),(),ay,"",(),(),(),(),ae ah 0,J t,(),ay,(),J n]] (dP p g x) (λ(j:K×List Sd)en=>en=b5 j.1∧eS j.2=(mV x f.toNat t n).2) (λj => .o (dS j.1 j.2)::dP p g (mV x f.toNat t n).1) w:=by
 have jQ:mH (m8 t n) none 0 A2 c2=#[J 6,(),(),(),(),(),ay,"",(),(),(),(),ae ah 0,J t,(),ay,(),J n]:=by obtain⟨rfl,rfl⟩:=qZ;rfl
 obtain⟨R,HR⟩:=az (mV x f.toNat t n);rw[<-HR.out];intro V hM hV;have hS:=St.begin_ hM (λb hb=>(hV b hb).1) (eL _ _ _);obtain⟨y,wa,HY,HA,hS⟩:=hS.new' #[J 6,(),(),(),(),(),ay,"",(),(),(),(),ae ah 0,J t,(),ay,(),J n] 45;have gl:Grow w wa:=by rw[HA.out];exact fb w _
 have yX:jO wa D A2 q:=fT.framed A2 q w wa D hq λb hb=>gl.block b (j6 b hb);have T:=ln wa D (m8 t n) none 0 A2 c2 q (.Mq t n I G) (λ_=>⟨rfl,rfl⟩) (λ_ _=>qZ) In.nil yX (by rw[RV];rfl);rw[jQ] at T;clear jQ;go_in;go_wp2_with (refine dU rfl 45 _ rfl _ rfl (HA.out▸HY.out▸hS.blk 0 rfl) bG aw ?_);rw[<-HA.out];refine T.mono ?_;rintro en w1 ⟨rfl,eD⟩;rw[<-HY.out];have AY:=hS.grow eD;have jV:=AY.blk 0 rfl;have c0:=jV.cell 0;have ej:=AY.dO 0 rfl;clear T;have y_:w1.cell? ⟨p.r,0,none⟩=some (J x.node):=ej.facts.1.1 0;have oK:w1.cell? ⟨p.r,1,none⟩=some (J x.nodes):=ej.facts.1.1 1;obtain⟨F,rfl,ME,hF2⟩:∃F:Nat,f=(F:Int)∧F<x.nodes∧F≠x.node:=by obtain⟨I,G,L⟩:=hf;exact⟨f.toNat,by omega,by omega,by omega⟩
 clear hf;have e1:decide ((F:Int)<0)=false:=aD ap;have e2:decide (x.nodes<=F)=false:=aD ap;have e3:((F:Int) == (x.node:Int))=false:=beq_eq_false_iff_ne.2 ap;clear jV;have dX:=AY.grow (Grow.refl _).drew;have N:=rcS (l:=[]) (t:=t) (had:=0) (sl := Z none 0 0) (by rw[bm];exact dX) rfl rfl rfl;go_wp2_with fail;refine dJ rfl ?_;clear y_ oK;rcases bC x.leads with hl|hl
 case' inr=>
  rw[hl] at N;refine gi (W_ p y t 0 (Z none 0 0) (jH g x.v) false) 14 rfl ?_;refine f9 0 N ?_;refine f9 1 N ?_;refine f9 2 N ?_;refine f9 3 N ?_;refine f9 4 N ?_;refine dQ 5 rfl N ?_;refine dQ 6 rfl N ?_;refine dQ 7 rfl N ?_;refine dQ 8 rfl N ?_;refine dQ 9 rfl N ?_;refine dQ 10 rfl N ?_;refine dQ 11 rfl N ?_;refine dQ 12 rfl N ?_;refine fL 13 N ?_;refine eU ?_;have hN:R=vF x:=by rw[HR.out];unfold mV;rw[aB (by rw[hl];exact cB)];rfl
  clear HR;have HR:=Q hN;clear hN N;replace hl:=Q hl
 case' inl=>
  obtain⟨v,hv⟩:=Y.lv hl;obtain⟨yW,zf⟩:=Y.v v hv;rw[hl,hv] at N;simp only[jH] at N;refine gi (W_ p y t 0 (Z none 0 0) ((g:K)) true) 14 rfl ?_;refine f9 0 N ?_;refine f9 1 N ?_;refine f9 2 N ?_;refine f9 3 N ?_;refine f9 4 N ?_;refine f9 5 N ?_;refine f9 6 N ?_;refine f9 7 N ?_;refine f9 8 N ?_;refine f9 10 N ?_;refine f9 11 N ?_;have P0:St V w [.c y 45 #[J 6,(),(),(),(),(),ay,"",(),(),(),(),ae ah 0,J t,(),ay,(),J n],.c p.r 118 (iu p x.node x.nodes x.commit ((g:K)) true x.own),.o (gR p.m x.m),.o (qP p.s p.x p.d x.s),.o (fJ g v)] w1.drew:=by have h:=dX;unfold dP at h;rw[hl,hv] at h;exact h
  refine dY 9 rfl ?_;go_wp2_with fail;refine (P0.at_ 4 rfl (λ_=>fJ.framed _ _) (D:=λ_=>False) (λ_ h=>h.elim) (qQ w1.drew _ g v yW)).mono ?_;rintro en w3 ⟨_,rfl,eO⟩;have eO:St V w (.c y 45 #[J 6,(),(),(),(),(),ay,"",(),(),(),(),ae ah 0,J t,(),ay,(),J n]::dP p g x) w3:=by unfold dP;rw[hl,hv];exact eO
  have j5:=rcS (l:=[]) (t:=t) (had:=0) (sl := Z none 0 0) (by rw[bm];exact eO) rfl rfl rfl;rw[hl,hv] at j5;simp only[jH] at j5;clear N P0;go_wp2_with fail;refine⟨j5,?_⟩;have hcn:w3.cell? ⟨y,17,none⟩=some (J n):=(eO.facts.1.1 17).trans rfl;by_cases zp:v.t=t
 case' neg=>
  have OT:((v.t:Int) == (t:Int))=false:=by simp;omega
  have hN:R=vF x:=by rw[HR.out];unfold mV;rw[aA hl,hv];simp only[];rw[aB zp];rfl
  clear HR;have HR:=Q hN;clear hN;replace zp:=Q zp;refine f9 12 j5 ?_;refine fL 13 j5 ?_;refine eU ?_;replace hl:=Q hl;replace hv:=Q hv;clear j5 hcn dX;have dX:=eO
 case' pos=>
  have OT:((v.t:Int) == (t:Int))=true:=by rw[zp];simp
  have hN:R=x.counted v F n:=by rw[HR.out];unfold mV;rw[aA hl,hv];simp only[];rw[aA zp];rfl
  clear HR;have HR:=Q hN;clear hN;replace zp:=Q zp;refine f9 12 j5 ?_;refine fL 13 j5 ?_;refine eU ?_;replace hl:=Q hl;clear j5 dX;go_wp2_with fail;refine (St.call (a:=dP p g x) (b:=[]) (a':=λj:K×List Sd => .o (dS j.1 j.2)::dP p g (x.counted v F n).1) (by rw[bm];exact eO.dO 0 rfl) (λ_=>⟨dS.framed _ _,eL _ _ _⟩) (D:=λ_=>False) (λ_ h=>h.elim) (qj w3 p g x Y v hv F ME n)).mono ?_;rintro en w5 ⟨j,⟨rfl,hj⟩,eF⟩;rw[bm] at eF;go_wp2;go_ret;obtain⟨r1,r2⟩:=eF.fin;rw[HR.out];first|exact⟨j,⟨rfl,hj⟩,r1,r2⟩|exact⟨j.1,j.2,⟨rfl,hj⟩,r1,r2⟩
 all_goals
  go_wp2
  go_ret
  obtain⟨r1,r2⟩:=nI (dX.dO 0 rfl)
  rw[HR.out]
  first|exact⟨(Z none 0 0,[]),⟨rfl,rfl⟩,r1,r2⟩|exact⟨Z none 0 0,[],⟨rfl,rfl⟩,r1,r2⟩
def Sd.val(s:Sd):K := aZ s.cells.toArray
def tU:Array K:=aK
def nJ:Sd:=⟨0,⟨0,En.zero,0,0,0,0,0,[],0,0⟩,none,0,none,[],0⟩
def o4(to:Nat)(e:En)(A:aU)(c:Nat):Sd:=⟨(to:Int),⟨1,e,0,0,0,0,0,[],0,0⟩,A,c,none,[],0⟩
def kq(s:aR)(node tag:Nat):En:=⟨2,0,0,0,0,[],s,(node:Int),(tag:Int)⟩
def Ag.look(x:Ag)(s:aR):Ag×Sd×Int:=if abn.fW s≠0 then (x,nJ,1) else (x.next (0,0,0),o4 x.last (kq s x.node (x.tag+1)) none 0,0)
theorem SI(w:X)(D:aV)(p:vE)(x:Ag)(s:aR)(hs:s.size<=1000000)(ht:x.tag<=4611686018427387904):Lw W D 222 #[.pointer (some ⟨p.a,0,none⟩),aX s] (dR p x) (λ(_:Unit)e=>e=b5 (a_ #[(x.look s).2.1.val,J (x.look s).2.2])) (λ_=>dR p (x.look s).1) w:=by
 obtain⟨R,HR⟩:=az (x.look s);rw[<-HR.out];intro V hM hV;have fN:=St.begin_ hM (λb hb=>(hV b hb).1) (fB _ _);obtain⟨y,wa,HY,HA,hS⟩:=fN.new' aI 218;have hP:=abn.qL wa s hs;obtain⟨abl,HE⟩:=az (abn.fW s);rw[<-HE.out] at hP;have jJ:R=if abl≠0 then (x,nJ,1) else (x.next (0,0,0),o4 x.last (kq s x.node (x.tag+1)) none 0,0):=by rw[HR.out,HE.out];rfl
 go_in;go_wp2_with fail;rw[<-HA.out,<-HY.out];refine hP.mono ?_;rintro e w1 ⟨A,c,rfl,_,_,H⟩;have ej:=hS.grow H;clear HA HY hS fN hP;by_cases h0:abl=0;case neg=>
  rw[aA h0] at jJ;have Mc:(abl != 0)=true:=by simp[h0]
  replace h0:=Q h0;replace jJ:=Q jJ;go_wp2_with (refine d_ ej 0 rfl 218 _ _ rfl 0 rfl nJ.cells rfl (bf rfl) rfl aw nJ.cells.toArray rfl rfl ?_;intro w2 dV;refine stay ?_);refine dI ?_;go_wp2;refine bodyPost_ret (dZ rfl _ y rfl (dV.blk 0 rfl) Tryz.underlying218 aw) rfl ?_;obtain⟨r1,r2⟩:=(dV.dO 0 rfl).fin;rw[jJ.out];exact⟨(),rfl,r1,r2⟩
 case pos=>
 subst h0;rw[aB (by simp)] at jJ;replace jJ:=Q jJ;clear HE;obtain⟨tg,X0⟩:=az (x.tag+1);rw[<-X0.out] at jJ;have hN:∀(O:X)(U:aV),Lw W (λy=>U y∨False) 285 #[.pointer (some ⟨p.a,0,none⟩),aZ #[(),(),()]] (dR p x) (λ(_:Unit)e=>e=b5 (J tg)) (λ_=>dR p (x.next (0,0,0))) O:=λO U=>by rw[X0.out];exact Jq O _ p x ht (0,0,0)
 go_wp2_with fail;have eW:=ej.grow (Grow.refl _).drew;have gD:∀(l:List Bl)O,St V w (.c y 218 nJ.cells.toArray::.c p.a 192 (qm p x)::l) O->O.cell? ⟨p.a,0,none⟩=some (J x.node):=λl O h=>h.facts.2.1.1 0;have hcN:∀(l:List Bl)O,St V w (.c p.a 192 (qm p (x.next (0,0,0)))::l) O->O.cell? ⟨p.a,0,none⟩=some (J x.node):=λl O h=>h.facts.1.1 0;have eA:=gD _ _ eW;refine dJ rfl ?_;refine fC (λO=>O.cell? ⟨p.a,0,none⟩=some (J x.node)) [10] 11 rfl [0,1,2,3,4,5,6] ?_;iterate 7 (refine eV rfl eA (λw1 I=>aM) ?_)
 refine Rv 7 9 [8] [] rfl rfl ?_ ?_;case' refine_1=>
  go_wp2_with fail;refine (St.py (a:=dR p x) (b:=[.c y 218 nJ.cells.toArray]) (D:=λ_=>False) (eW.back 5) (a':=λ_=>dR p (x.next (0,0,0))) (λ_=>fB _ _) eW.no (λU _ _=>hN _ U)).mono ?_;rintro e w2 ⟨_,rfl,dV⟩;have lV:=hcN _ _ dV;go_wp2_with fail;refine⟨λ_=>lV,?_⟩;refine eV rfl lV (λw1 I=>aM) ?_;refine eZ 9 [] rfl ?_;obtain⟨y5,w3,Lz,H3,dX⟩:=dV.new' tU 40;unfold tU at H3;go_wp2_with fail;rw[<-H3.out,<-Lz.out];have eO:St V w (.c y5 40 tU::(dR p (x.next (0,0,0))++[.c y 218 nJ.cells.toArray])) w3:=dX;refine⟨λ_=>hcN _ _ (dX.dO 0 rfl),?_⟩;clear H3 Lz dX dV eW ej lV eA
 case' refine_2=>
  obtain⟨y5,w2,Lz,H3,dX⟩:=ej.new' tU 40;unfold tU at H3;go_wp2_with fail;rw[<-H3.out,<-Lz.out];replace dX:=dX.grow (Grow.refl _).drew;refine⟨λ_=>gD _ _ (dX.dO 0 rfl),?_⟩;refine eZ 7 [8] rfl ?_;go_wp2_with fail;refine (St.py (a:=dR p x) (b:=[.c y 218 nJ.cells.toArray,.c y5 40 tU]) (D:=λ_=>False) ((dX.back 6).back 5) (a':=λ_=>dR p (x.next (0,0,0))) (λ_=>fB _ _) dX.no (λU _ _=>hN _ U)).mono ?_;rintro e w3 ⟨_,rfl,dV⟩;have lV:=hcN _ _ dV;go_wp2_with fail;refine⟨λ_=>lV,?_⟩;refine eV rfl lV (λw1 I=>aM) ?_;have eO:St V w (.c y5 40 tU::(dR p (x.next (0,0,0))++[.c y 218 nJ.cells.toArray])) w3:=dV.front 6 rfl;clear H3 Lz dX dV eW ej lV eA
 all_goals
  clear hcN gD hN
  refine eZ 10 [] rfl ?_
  go_wp2_with (refine d_ eO 0 rfl 40 _ _ rfl 0 rfl [J 2,(),(),(),(),ay,aX s,J x.node,J tg] rfl (bf rfl) rfl aw #[J 2,(),(),(),(),ay,aX s,J x.node,J tg] rfl rfl ?_;intro w5 eF;refine stay ?_)
  refine dI ?_
  go_wp2_with fail
  refine⟨λh=>absurd h am,?_⟩
  refine gj ?_
  go_wp2_with fail
  have eN:=eF.grow (Grow.refl _).drew
  clear eO eF
  have hB:=eN.blk 0 rfl
  have hl:w5.drew.cell? ⟨p.a,6,none⟩=some (J x.last):=eN.facts.2.1.1 6
  refine dJ rfl ?_
  refine fC (λO=>eJ O y5 40 #[J 2,(),(),(),(),ay,aX s,J x.node,J tg]∧O.cell? ⟨p.a,6,none⟩=some (J x.last)) [7,8] 9 rfl [0,1,2,3,4,5,6] ?_
  have eA:=And.intro hB hl
  iterate 4 (refine eV rfl eA (λw1 ⟨I,G⟩=>aM) ?_)
  refine eV rfl eA (λw1 ⟨I,G⟩ R T=>by have c0:=I.cell 0;have c1:=I.cell 1;have c2:=I.cell 2;have c3:=I.cell 3;have c4:=I.cell 4;have c5:=I.cell 5;have c6:=I.cell 6;have c7:=I.cell 7;have c8:=I.cell 8;go_simp;exact T) ?_
  iterate 2 (refine eV rfl eA (λw1 ⟨I,G⟩=>aM) ?_)
  refine fY 7 rfl aw ?_
  clear hB hl eA
  refine d_ eN 6 rfl 218 (.tmp 4) (.tmp 32) rfl 0 rfl (o4 x.last (kq s x.node tg) none 0).cells rfl (bf rfl) rfl aw (o4 x.last (kq s x.node tg) none 0).cells.toArray rfl rfl ?_
  intro w7 fH
  go_wp2
  refine bodyPost_ret (dZ rfl _ y rfl (fH.blk 6 rfl) Tryz.underlying218 aw) rfl ?_
  obtain⟨r1,r2⟩:=((fH.dO 6 rfl).dO 0 rfl).fin
  rw[jJ.out]
  exact⟨(),rfl,r1,r2⟩
end Go.Proofs.YtpeepcmdehhbgaaGreatDoor
