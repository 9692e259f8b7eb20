/- Mg1, Mg2, Mg3, Mg4, Mg6. -/
import Derived.Test.YtpeepcmdehhbgaaGreatDoorJs26
set_option linter.all false
set_option maxRecDepth 100000
set_option maxHeartbeats 2000000
open Go.Value renaming int->ae,slice->Z,string->aX,bool->aY,agg->aZ,tuple->a_
open Go.Ending renaming returned->b5
open Go.IntKind renaming i64->af,u64->ah
open Go (J az aE aA aB aC aD ay aj am ap aw aL aK aJ aI aH aV aU aT aR aQ aP aO aN)
open Go.Proofs.Tryz renaming prog->W
open Go.Lib renaming hid->Q
open List renaming length_append->bd,perm_append_comm->bg,append_nil->bm,append_assoc->bp,length_singleton->bv,map_append->bI,map_cons->bQ,cons_append->cD,map_congr_left->cO,map_nil->cQ,mem_map_of_mem->cT,map_toArray->cV,mem_of_mem_eraseIdx->cY
open Nat renaming le_refl->bh,lt_of_lt_of_le->bw,le_trans->bB
open Go renaming Value->K,World->X,Calls->dz,TypeId->dC,Program->dD,Oper->dE,maxLen->dG
open Go.Hop (dW)
variable{w:X}{V:aV}{m s bE bS p g M:Nat}{l:List dW}{v:K}{fQ:List (Int×K)}{F:Int}{B:aN}{o:dE}{ρ:Go.Operand->K}{x:Go.Operand}
section
namespace Go.Hop
open Go.RowKit
theorem dN.one{abh:dW}(h:abh w V):dN [abh] w V:=⟨V,λ_=>False,h,trivial,λ_ h=>h,λ_ h=>h.elim,λ_ _ h=>h⟩
theorem dN.one'{abh:dW}(hX:C_ abh)(h:dN [abh] w V):abh w V:=by obtain⟨V1,V2,a,_,c,_⟩:=h;exact hX w V1 V c a
theorem Solo.opx{P:aV}{S:dW}(i:Nat)(hi:l[i]?=some S)(hF:eG l)(h:Solo P (dN l) w):∃U:aV,S w U∧(∀b,U b->P b∧b<(w:Nat))∧∀(S':dW)(O:X),S' O (iY U w O)->dM U w O->Solo P (dN (l.set i S')) O∧dM P w O:=by
 obtain⟨h0,V,I,h4⟩:=h;obtain⟨V1,V2,a,b,c,d,e⟩:=dN.pick l i S hi I;refine⟨V1,a,λx Y=>h4 x (c x Y),λS' O hs hj=>⟨⟨λx Y=>h0 x (bB hj.size Y),iY V w O,dN.rP l i S S' hi ⟨iY V1 w O,V2,hs,dN.framed _ (λR T=>hF R (cY T)) w O V2 b λx Y=>hj.block x (h4 x (d x Y)).2 (λI=>e x I Y),λx Y=>?_,λx Y => .inl (d x Y),λx Y G=>?_⟩,Bo h4 h0 hj.size⟩,hj.imp λx Y=>(h4 x (c x Y)).1⟩⟩
 ·rcases Y with Y|Y
  ·exact .inl (c x Y)
  ·exact .inr Y
 ·rcases Y with Y|Y
  ·exact e x Y G
  ·have:=(h4 x (d x G)).2;have:=Y.1;omega
end Go.Hop
namespace Go.Proofs.YtpeepcmdehhbgaaGreatDoor
open Go.RowKit Go.Hop
structure Pl where
 F:Int
 M:Nat
 B:List Int
abbrev Key:=Int×Int
abbrev QB:=List (Key×Nat×Pl)
def tv(v:K)(B:aN):dW:=λw V=>Own w V 2 1 v B.length (lI B)
theorem tv.framed(v:K)(B:aN):eu (tv v B):=λw O V h N=>Own.keep h N
theorem tv.wide(v:K)(B:aN):C_ (tv v B):=λw U U' hu h=>Own.mono h hu
def UJ(p g:Nat)(v:K)(x:Pl):List dW:=[Cell p 272 #[g,v],Cell g 328 #[J x.F,ae ah x.M],tv v x.B]
theorem GF(p g:Nat)(v:K)(x:Pl):eG (UJ p g v x):=((eG.nil.cons (tv.framed _ _)).cons (Cell.framed _ _ _)).cons (Cell.framed _ _ _)
def ShT(p:Nat)(x:Pl):dW:=λw V=>∃(g:Nat)(v:K),dN (UJ p g v x) w V
theorem ShT.framed(p:Nat)(x:Pl):eu (ShT p x):=λw O V ⟨g,v,h⟩ N=>⟨g,v,dN.framed _ (GF _ _ _ _) w O V h N⟩
theorem ShT.wide(p:Nat)(x:Pl):C_ (ShT p x):=λw U U' hu ⟨g,v,h⟩=>⟨g,v,dN.wide _ w U U' hu h⟩
def iL(abn:QB):List (Key×K):=abn.map λx=>(x.1,.pointer (some ⟨x.2.1,0,none⟩))
def ri(abn:QB):List dW:=abn.map λx=>ShT x.2.1 x.2.2
def oA(abn:QB):List (Key×Pl):=abn.map λx=>(x.1,x.2.2)
theorem vh(abn:QB):eG (ri abn):=λS h=>by obtain⟨x,_,rfl⟩:=List.mem_map.1 h;exact ShT.framed _ _
theorem mS(abn:QB):(iL abn).map Prod.fst=abn.map Prod.fst:=by simp[iL]
theorem qO(abn:QB):(oA abn).map Prod.fst=abn.map Prod.fst:=by simp[oA]
def gW(l:List (Key×Pl))(k:Key):Pl:=((l.find? λa=>decide (a.1=k)).map (·.2)).getD ⟨0,0,[]⟩
def i_:List (Key×Pl)->Key->Pl->List (Key×Pl)
 | [],k,x=>[(k,x)]
 | a::l,k,x=>if a.1=k then (k,x)::l else a::i_ l k x
theorem Om{L1 L2:List (Key×Pl)}{k:Key}{x:Pl}(h:k ∉ L1.map Prod.fst):gW (L1++(k,x)::L2) k=x:=by
 unfold gW;induction L1 with
 | nil=>simp
 | cons a l ih=>
   have I:¬ a.1=k:=λe=>h (by simp[e]);have G:k ∉ l.map Prod.fst:=λe=>h (by simp at e ⊢;exact .inr e);rw[cD,List.find?_cons];simp only[I,decide_false];exact ih G
theorem GG{l:List (Key×Pl)}{k:Key}(h:k ∉ l.map Prod.fst):gW l k=⟨0,0,[]⟩:=by
 unfold gW;rw[List.find?_eq_none.2 λa ha=>by have:¬ a.1=k:=λe=>h (e▸cT ha);simpa using this]
 rfl
theorem On{L1 L2:List (Key×Pl)}{k:Key}{x y:Pl}(h:k ∉ L1.map Prod.fst):i_ (L1++(k,x)::L2) k y=L1++(k,y)::L2:=by
 induction L1 with
 | nil=>simp[i_]
 | cons a l ih=>
   have I:¬ a.1=k:=λe=>h (by simp[e]);have G:k ∉ l.map Prod.fst:=λe=>h (by simp at e ⊢;exact .inr e);rw[cD,i_,aB I,ih G,cD]
theorem GH{l:List (Key×Pl)}{k:Key}{y:Pl}(h:k ∉ l.map Prod.fst):i_ l k y=l++[(k,y)]:=by
 induction l with
 | nil=>rfl
 | cons a l ih=>
   have I:¬ a.1=k:=λe=>h (by simp[e]);have G:k ∉ l.map Prod.fst:=λe=>h (by simp at e ⊢;exact .inr e);rw[i_,aB I,ih G,cD]
theorem AJ(l:List (Key×Pl))(k:Key)(y:Pl)(k':Key):gW (i_ l k y) k'=if k'=k then y else gW l k':=by
 unfold gW;induction l with
 | nil=>
   by_cases h:k'=k;·subst h;simp[i_]
   ·rw[aB h]
    have h':¬ k=k':=λe=>h e.symm;simp[i_,h']
 | cons a l ih=>
   by_cases I:a.1=k
   ·rw[i_,aA I]
    by_cases h:k'=k;·subst h;simp
    ·have h':¬ k=k':=λe=>h e.symm
     rw[aB h,List.find?_cons,List.find?_cons];simp[h',I]
   ·rw[i_,aB I,List.find?_cons]
    by_cases G:a.1=k'
    ·have h:¬ k'=k:=λe=>I (G.trans e)
     rw[aB h,List.find?_cons];simp[G]
    ·simp only[G,decide_false]
     rw[ih,List.find?_cons];simp[G]
def qf(m s bE bS:Nat)(q:abk.Sm)(fQ:List (Int×K))(gO:List (Key×K)):List dW:=[Cell m 138 #[s,.map (some bE),.map (some bS)],abk.gT s q,eI o0 bE fQ,eI GD bS gO]
theorem C4(m s bE bS:Nat)(q:abk.Sm)(fQ:List (Int×K))(gO:List (Key×K)):eG (qf m s bE bS q fQ gO):=(((eG.nil.cons (eI.framed _ _)).cons (eI.framed _ _)).cons (abk.gT.framed _ _)).cons (Cell.framed _ _ _)
def i8(m:Nat)(q:abk.Sm)(fQ:List (Int×K))(kA:List (Key×Pl)):dW:=λw V=>∃s bE bS abn,oA abn=kA∧dN (qf m s bE bS q fQ (iL abn)++[dN (ri abn)]) w V
theorem AK(m s bE bS:Nat)(q:abk.Sm)(fQ:List (Int×K))(abn:QB):eG (qf m s bE bS q fQ (iL abn)++[dN (ri abn)]):=λS h=>by
 rcases List.mem_append.1 h with h|h
 ·exact C4 _ _ _ _ _ _ _ S h
 ·rw[List.mem_singleton.1 h];exact dN.framed _ (vh abn)
theorem i8.framed(m:Nat)(q:abk.Sm)(fQ:List (Int×K))(kA:List (Key×Pl)):eu (i8 m q fQ kA):=λw O V ⟨s,bE,bS,abn,e,h⟩ N=>⟨s,bE,bS,abn,e,dN.framed _ (AK _ _ _ _ _ _ _) w O V h N⟩
theorem i8.wide(m:Nat)(q:abk.Sm)(fQ:List (Int×K))(kA:List (Key×Pl)):C_ (i8 m q fQ kA):=λw U U' hu ⟨s,bE,bS,abn,e,h⟩=>⟨s,bE,bS,abn,e,dN.wide _ w U U' hu h⟩
def gJ(m s bE bS p g:Nat)(v:K)(q:abk.Sm)(fQ:List (Int×K))(gO:List (Key×K))(F:Int)(M:Nat)(B:aN)(R:dW):List dW:=[Cell m 138 #[s,.map (some bE),.map (some bS)],abk.gT s q,eI o0 bE fQ,eI GD bS gO,Cell p 272 #[g,v],Cell g 328 #[J F,ae ah M],tv v B,R]
theorem fE(m s bE bS p g:Nat)(v:K)(q:abk.Sm)(fQ:List (Int×K))(gO:List (Key×K))(F:Int)(M:Nat)(B:aN){R:dW}(T:eu R):eG (gJ m s bE bS p g v q fQ gO F M B R):=(((((((eG.nil.cons T).cons (tv.framed _ _)).cons (Cell.framed _ _ _)).cons (Cell.framed _ _ _)).cons (eI.framed _ _)).cons (eI.framed _ _)).cons (abk.gT.framed _ _)).cons (Cell.framed _ _ _)
def sb(k:Key)(kA:List (Key×Pl))(x:Pl)(p:Nat)(gO:List (Key×K))(R:dW):Prop:=∃abn,oA abn=kA∧gO=iL abn∧((∃L1 L2,abn=L1++(k,p,x)::L2∧k ∉ L1.map Prod.fst∧R=dN (ri (L1++L2)))∨(k ∉ abn.map Prod.fst∧R=dN (ri abn)))
theorem sb.framed{k:Key}{kA:List (Key×Pl)}{x:Pl}{p:Nat}{gO:List (Key×K)}{R:dW}(h:sb k kA x p gO R):eu R:=by obtain⟨abn,_,_,⟨L1,L2,_,_,e⟩|⟨_,e⟩⟩:=h<;>rw[e]<;>exact dN.framed _ (vh _)
theorem tw{q:abk.Sm}{gO:List (Key×K)}(h:dN (gJ m s bE bS p g v q fQ gO F M B (dN l)) w V):dN (qf m s bE bS q fQ gO++[dN (ShT p ⟨F,M,B⟩::l)]) w V:=by refine dN.flat _ ((dN.app (qf m s bE bS q fQ gO) (l':=UJ p g v ⟨F,M,B⟩++[dN l]) h).imp (λ_ h=>h) λU h=>dN.one ?_);exact (dN.app (UJ p g v ⟨F,M,B⟩) (l':=[dN l]) h).imp (λU h=>⟨g,v,h⟩) λU h=>dN.one' (dN.wide l) h
theorem Lg{q:abk.Sm}{gO:List (Key×K)}(h:dN (qf m s bE bS q fQ gO++[dN (ShT p ⟨F,M,B⟩::l)]) w V):∃g v,dN (gJ m s bE bS p g v q fQ gO F M B (dN l)) w V:=by obtain⟨V1,V2,I,G,a,b,c⟩:=dN.app (qf m s bE bS q fQ gO) h;obtain⟨U1,U2,⟨g,v,L⟩,h4,d,e,f⟩:=dN.one' (dN.wide _) G;exact⟨g,v,dN.flat (qf m s bE bS q fQ gO) (l':=UJ p g v ⟨F,M,B⟩++[dN l]) ⟨V1,V2,I,dN.flat _ ⟨U1,U2,L,dN.one h4,d,e,f⟩,a,b,c⟩⟩
theorem tz(L1 L2:QB)(k:Key)(p:Nat)(x:Pl):(ShT p x::ri (L1++L2)).Perm (ri (L1++(k,p,x)::L2)):=by unfold ri;rw[bI,bI,bQ];exact List.perm_middle.symm
theorem wj{abj l':List dW}(hp:l.Perm l')(h:dN (abj++[dN l]) w V):dN (abj++[dN l']) w V:=dN.flat abj ((dN.app abj h).imp (λ_ h=>h) λU h=>dN.one (dN.perm hp (dN.one' (dN.wide l) h)))
theorem Lh{κ:Type}{ke:κ->K}[DecidableEq κ]{b:Nat}{q:List (κ×K)}(h:eI ke b q w V):(q.map Prod.fst).Nodup:=h.2.1
theorem Li{k:Key}{kA:List (Key×Pl)}{x:Pl}{q:abk.Sm}{gO:List (Key×K)}{R:dW}(hO:sb k kA x p gO R)(hn:(gO.map Prod.fst).Nodup)(h:dN (gJ m s bE bS p g v q fQ (l9 gO k ((p:K))) F M B R) w V):i8 m q fQ (i_ kA k ⟨F,M,B⟩) w V:=by
 obtain⟨abn,rfl,rfl,⟨L1,L2,rfl,N,rfl⟩|⟨N,rfl⟩⟩:=hO
 ·refine⟨s,bE,bS,L1++(k,p,⟨F,M,B⟩)::L2,?_,?_⟩
  ·have e:oA (L1++(k,p,x)::L2)=oA L1++(k,x)::oA L2:=by simp[oA]
   rw[e,On (by rw[qO];exact N)];simp[oA]
  ·have I:=wj (tz L1 L2 k p ⟨F,M,B⟩) (tw h)
   have e:l9 (iL (L1++(k,p,x)::L2)) k ((p:K))=iL (L1++(k,p,⟨F,M,B⟩)::L2):=by
    unfold l9;rw[aA (by rw[mS];simp)];rw[mS,bI,bQ] at hn;have Ya:k ∉ L2.map Prod.fst:=λe=>by have:=(List.nodup_append.1 hn).2.1;exact (List.nodup_cons.1 this).1 e
    have hid:∀abn:QB,k ∉ abn.map Prod.fst->((iL abn).map λa=>if a.1=k then (k,Value.pointer (some ⟨p,0,none⟩)) else a)=iL abn:=λabn hL=>by
     conv=>rhs;rw[<-List.map_id (iL abn)]
     refine cO λa ha=>?_;have:¬ a.1=k:=λe=>hL (by rw[<-mS];exact e▸cT ha);rw[aB this];rfl
    have es:∀y:Pl,iL (L1++(k,p,y)::L2)=iL L1++(k,(p:K))::iL L2:=λy=>by simp[iL]
    rw[es,es,bI,bQ,hid L1 N,hid L2 Ya,aA rfl]
   rw[e] at I;exact I
 ·refine⟨s,bE,bS,abn++[(k,p,⟨F,M,B⟩)],?_,?_⟩
  ·rw[GH (by rw[qO];exact N)]
   simp[oA]
  ·have I:=wj (l':=ri (abn++[(k,p,⟨F,M,B⟩)])) (by
    have:=tz abn [] k p ⟨F,M,B⟩;rwa [bm] at this) (tw h)
   rw[Nk _ (by rw[mS];exact N)] at I
   have e:iL abn++[(k,(p:K))]=iL (abn++[(k,p,⟨F,M,B⟩)]):=by simp[iL]
   rw[e] at I
   exact I
theorem mT{k:Key}{kA:List (Key×Pl)}{x:Pl}{q:abk.Sm}{gO:List (Key×K)}{R:dW}(hO:sb k kA x p gO R)(h:dN (gJ m s bE bS p g v q fQ gO x.F x.M x.B R) w V):i8 m q fQ kA w V:=by
 obtain⟨abn,rfl,rfl,⟨L1,L2,rfl,N,rfl⟩|⟨N,rfl⟩⟩:=hO;·exact⟨s,bE,bS,_,rfl,wj (tz L1 L2 k p x) (tw h)⟩
 ·refine⟨s,bE,bS,abn,rfl,?_⟩
  have I:=tw h;exact dN.flat _ ((dN.app (qf m s bE bS q fQ (iL abn)) I).imp (λ_ h=>h) λU h=>dN.one (by obtain⟨U1,hU,hs⟩:=(dN.one' (dN.wide _) h:dN (ShT p ⟨x.F,x.M,x.B⟩::ri abn) w U).snd;exact dN.wide _ w U1 U hs hU))
theorem GI(w:X):dz W 54 #[] w λe O=>∃m,e=b5 (((m:Nat):K))∧i8 m [] [] [] O (New w O)∧Grow w O:=(L8 w).mono λe O ⟨m,I,⟨s,bE,bS,G⟩,L⟩=>⟨m,I,⟨s,bE,bS,[],rfl,dN.flat _ ⟨New w O,λ_=>False,G,dN.one trivial,λ_ h=>h,λ_ h=>h.elim,λ_ _ h=>h⟩⟩,L⟩
theorem Lj{abn:QB}{k:Key}(h:k∈abn.map Prod.fst):∃L1 L2 p x,abn=L1++(k,p,x)::L2∧k ∉ L1.map Prod.fst:=by
 induction abn with
 | nil=>simp at h
 | cons a l ih=>
   obtain⟨k',p,x⟩:=a;by_cases e:k'=k;·subst e;exact⟨[],l,p,x,rfl,by simp⟩
   ·have:k∈l.map Prod.fst:=by
     rw[bQ] at h;rcases List.mem_cons.1 h with h|h
     ·exact absurd h.symm e
     ·exact h
    obtain⟨L1,L2,p',x',e1,e2⟩:=ih this
    exact⟨(k',p,x)::L1,L2,p',x',by rw[e1];rfl,λh=>by
     rw[bQ] at h;rcases List.mem_cons.1 h with h|h
     ·exact e h.symm
     ·exact e2 h⟩
theorem tA(w:X)(m:Nat)(q:abk.Sm)(fQ:List (Int×K))(kA:List (Key×Pl))(V:aV)(hV:∀b,V b->b<(w:Nat))(ag sh:Int)(h:i8 m q fQ kA w V):dz W 174 #[m,J ag,J sh] w λe O=>∃s bE bS p g v gO R,e=b5 (((p:Nat):K))∧sb (ag,sh) kA (gW kA (ag,sh)) p gO R∧Grow w O∧∃U,dN (gJ m s bE bS p g v q fQ gO (gW kA (ag,sh)).F (gW kA (ag,sh)).M (gW kA (ag,sh)).B R) O U∧∀b,U b->V b∨New w O b:=by
 obtain⟨s,bE,bS,abn,rfl,h⟩:=h;have su:=(dN.pick _ 0 _ rfl h).fst;obtain⟨_,su,_⟩:=su;have Wy:=su.2;obtain⟨_,hG0,_⟩:=(dN.pick _ 3 _ rfl h).fst;have Cv:=eI.look Ww (t:=136) (et:=268) aw (zS w) hG0 (ag,sh) true;have c2:=Wy.cell 2;by_cases N:(ag,sh)∈abn.map Prod.fst
 ·obtain⟨L1,L2,p,x,rfl,iP⟩:=Lj N
  have z8:uk (iL (L1++((ag,sh),p,x)::L2)) (ag,sh)=some ((p:K)):=by refine G3 (j:=L1.length) hG0.2.1 ?_;simp[iL]
  have kY:gW (oA (L1++((ag,sh),p,x)::L2)) (ag,sh)=x:=by
   have e:oA (L1++((ag,sh),p,x)::L2)=oA L1++((ag,sh),x)::oA L2:=by simp[oA]
   rw[e,Om (by rw[qO];exact iP)]
  have hO:sb (ag,sh) (oA (L1++((ag,sh),p,x)::L2)) x p (iL (L1++((ag,sh),p,x)::L2)) (dN (ri (L1++L2))):=⟨_,rfl,rfl,.inl ⟨L1,L2,rfl,iP,rfl⟩⟩;obtain⟨g,v,hM⟩:=Lg (wj (tz L1 L2 (ag,sh) p x).symm h);rw[kY];rw[z8] at Cv;simp only[GD,if_true,Option.getD_some,Option.isSome_some] at Cv;clear z8 kY N iP hG0 Wy su h;generalize iL (L1++((ag,sh),p,x)::L2)=gO at hO hM;generalize oA (L1++((ag,sh),p,x)::L2)=kA at hO;generalize dN (ri (L1++L2))=R at hO hM;go_in;go_wp2;go_ret;exact⟨s,bE,bS,p,g,v,gO,R,rfl,hO,Grow.refl _,V,hM,λ_ h => .inl h⟩
 ·have z8:uk (iL abn) (ag,sh)=none:=xn (by rw[mS];exact N)
  have kY:gW (oA abn) (ag,sh)=⟨0,0,[]⟩:=GG (by rw[qO];exact N);rw[kY];rw[z8] at Cv;simp only[GD,if_true] at Cv;have hO:∀p,sb (ag,sh) (oA abn) ⟨0,0,[]⟩ p (iL abn) (dN (ri abn)):=λp=>⟨abn,rfl,rfl,.inr ⟨N,rfl⟩⟩;have hFh:=AK m s bE bS q fQ abn;clear z8 kY N hG0 su;have hN:=abq.Rm w;go_in;go_wp2_with fail;refine hN.mono ?_;rintro e w1 ⟨rfl,hW,eD⟩;go_wp2;go_ret;have hgp:=dT w1 (.cells #[.pointer (some ⟨(w:Nat),0,none⟩),ay] 272);have hP:=eJ.made w1 272 #[.pointer (some ⟨(w:Nat),0,none⟩),ay];generalize sC:w1.alloc (.cells #[.pointer (some ⟨(w:Nat),0,none⟩),ay] 272)=w2 at hgp hP ⊢;have z2:(w2:Nat)=(w1:Nat)+1:=by rw[<-sC];simp
  have QQ:=eD.trans hgp;have hM:=dN.framed _ hFh w w2 V h λb hb=>QQ.block b (hV b hb);have hW2:=hW.grow hgp;have hwl:=hW.lt;have G:dN (UJ (w1:Nat) (w:Nat) (Z none 0 0) ⟨0,0,[]⟩) w2 (λb=>b=(w1:Nat)∨b=(w:Nat)):=⟨λb=>b=(w1:Nat),λb=>b=(w:Nat),⟨rfl,hP⟩,⟨λb=>b=(w:Nat),λ_=>False,⟨rfl,hW2⟩,dN.one Own.nil,λ_ h=>h,λ_ h=>h.elim,λ_ _ h=>h⟩,λ_ h => .inl h,λ_ h => .inr h,λb I G=>by omega⟩
  refine⟨s,bE,bS,(w1:Nat),(w:Nat),Z none 0 0,iL abn,dN (ri abn),rfl,hO _,QQ,λb=>V b∨b=(w1:Nat)∨b=(w:Nat),?_,λb hb=>?_⟩
  ·have L:dN ((qf m s bE bS q fQ (iL abn)++[dN (ri abn)])++UJ (w1:Nat) (w:Nat) (Z none 0 0) ⟨0,0,[]⟩) w2 (λb=>V b∨b=(w1:Nat)∨b=(w:Nat)):=
    dN.flat _ ⟨V,λb=>b=(w1:Nat)∨b=(w:Nat),hM,G,λ_ h => .inl h,λ_ h => .inr h,λb I G=>by have:=hV b I;have:=eD.size;omega⟩
   rw[bp] at L
   exact dN.perm (List.Perm.append_left (qf m s bE bS q fQ (iL abn)) (bg (l₁:=[dN (ri abn)]) (l₂:=UJ (w1:Nat) (w:Nat) (Z none 0 0) ⟨0,0,[]⟩))) L
  ·rcases hb with hb|rfl|rfl
   ·exact .inl hb
   ·exact .inr ⟨eD.size,by omega⟩
   ·exact .inr ⟨bh _,by omega⟩
end Go.Proofs.YtpeepcmdehhbgaaGreatDoor
end
namespace Go.Proofs.YtpeepcmdehhbgaaGreatDoor
open RowKit Hop
theorem GJ(w:X)(m s bE bS p g:Nat)(Ab:aU)(nb cb:Nat)(q:abk.Sm)(fQ:List (Int×K))(gO:List (Key×K))(F:Int)(M:Nat)(B:aN)(R:dW)(T:eu R)(e:En)(A:aU)(c:Nat)(D V:aV)(hM:dN (gJ m s bE bS p g (Z Ab nb cb) q fQ gO F M B R) w V)(hV:∀b,V b->b<(w:Nat))(hd:jM w D A e.ds.length e.ds)(j6:∀b,D b->b<(w:Nat))(kV:∀b,D b->¬ V b)(iZ:∀d∈e.ds,d.1.size<=dG∧d.2<=abk.o6)(hn:e.ds.length<=1048576)(hq:q.length<=1048576)(hI:abq.jW F M)(pi:-9223372036854775808<=e.sq∧e.sq<=9223372036854775807)(yR:abk.iV q e.ds=0):dz W 178 #[m,p,aZ (e.agg A c)] w λen O=>en=b5 (J 1)∧dN (gJ m s bE bS p g (Z Ab nb cb) (abk.nj q e.ds) fQ (l9 gO (e.ag,e.sh) ((p:K))) (abq.ij F M e.sq).1 (abq.ij F M e.sq).2 B R) O (iY V w O)∧dM V w O:=by
 have ZX:∀(vs:aP)(w:X),(callFunc 235 vs).run W w=.ok (.enter 235 vs) w:=λvs w=>by go_simp
 have a4w:∀(vs:aP)(w:X),(callFunc 237 vs).run W w=.ok (.enter 237 vs) w:=λvs w=>by go_simp
 have hF:=fE m s bE bS p g (Z Ab nb cb) q fQ gO F M B T;have hS:=Solo.begin_ hM hV;have gl:=dT w (.cells (e.agg A c) 40);have gU:=eJ.made w 40 (e.agg A c);obtain⟨y,HY⟩:=az ((w:Nat):Nat);obtain⟨wa,lZ⟩:=az (w.alloc (.cells (e.agg A c) 40):X);rw[<-lZ.out] at gl gU;rw[<-HY.out] at gU;unfold En.agg at lZ ⊢;have mh:=hS.join hF gl (R:=Cell y 40 (e,A,c)) (U:=λb=>b=y) ⟨rfl,gU⟩ (λb hb=>by have:=HY.out;have:=gU.lt;omega);have rj:=hF.cons (Cell.framed y 40 (e,A,c));have Fq:=mh.blk 0 rfl;have ry:=mh.blk 1 rfl;clear gU;go_in;go_wp2_with fail;rw[<-lZ.out,<-HY.out];have c0:=λw1(H:Grow _ w1)=>(ry.grow H).cell 0;have c1:=λw1(H:Grow _ w1)=>(Fq.grow H).cell 5;refine jo 6 λw1 H=>?_;clear c0 c1;have ej:=mh.grows rj H;have J1:=dM.dK (V:=nU V w) (gl.trans H);have F6:=hd.grow (gl.trans H);have oJ:=ej.Ys 2 rfl rj (λU hU jR UK=>abk.sX w1 s q U hU jR A e.ds.length c e.ds D F6 (λb hb hu=>(UK b hu).elim (kV b hb) (λh=>by have:=j6 b hb;omega)) iZ hn hq);rw[yR] at oJ;go_wp2_with fail;refine oJ.mono ?_;rintro en w2 ⟨rfl,k7,dV⟩;obtain⟨q',HQ⟩:=az (abk.nj q e.ds:abk.Sm);rw[<-HQ.out] at dV;have dV:Solo (nU V w) (dN (Cell y 40 (e,A,c)::gJ m s bE bS p g (Z Ab nb cb) q' fQ gO F M B R)) w2:=dV;have Oo:=(fE m s bE bS p g (Z Ab nb cb) q' fQ gO F M B T).cons (Cell.framed y 40 (e,A,c));have Cz:=dV.blk 5 rfl;have K6:=dV.blk 0 rfl;go_wp2_with fail;have c0:=λw3(pG:Grow _ w3)=>(Cz.grow pG).cell 0;have c1:=λw3(pG:Grow _ w3)=>(K6.grow pG).cell 3;refine jo 7 λw3 pG=>?_;clear c0 c1;have dX:=dV.grows Oo pG;have sy:=dX.Ys (S':=Cell g 328 #[J (abq.ij F M e.sq).1,ae ah ((abq.ij F M e.sq).2:Int)]) 6 rfl Oo (λU hU jR UK=>(abq.IP w3 g F M e.sq hU.2 hI pi).mono λen O ⟨I,G,L⟩=>⟨I,⟨.inl hU.1,G⟩,dM.jA L hU.1⟩);go_wp2_with fail;refine sy.mono ?_;rintro en w4 ⟨rfl,CG,eO⟩;have eO:Solo (nU V w) (dN (Cell y 40 (e,A,c)::gJ m s bE bS p g (Z Ab nb cb) q' fQ gO (abq.ij F M e.sq).1 (abq.ij F M e.sq).2 B R)) w4:=eO;obtain⟨F',HF⟩:=az ((abq.ij F M e.sq).1:Int);obtain⟨M',ZY⟩:=az ((abq.ij F M e.sq).2:Nat);rw[<-HF.out,<-ZY.out] at eO;have ZZ:=(fE m s bE bS p g (Z Ab nb cb) q' fQ gO F' M' B T).cons (Cell.framed y 40 (e,A,c));have Z_:=eO.blk 0 rfl;have VP:=eO.blk 1 rfl;go_wp2_with fail;have c0:=λw5(E8:Grow _ w5)=>(VP.grow E8).cell 2;have c1:=λw5(E8:Grow _ w5)=>(Z_.grow E8).cell 1;have c2:=λw5(E8:Grow _ w5)=>(Z_.grow E8).cell 2;refine jo 12 λw5 E8=>?_;clear c0 c1 c2;have eF:=eO.grows ZZ E8;obtain⟨w6,eR,eN,Uw⟩:=eF.R3 (φ:=λO=>(Instr.mapUpdate 136 (.map (some bS)) (aZ #[J e.ag,J e.sh]) ((p:K))).run W w5=.ok () O) 4 rfl ZZ (λU hU jR=>by obtain⟨O,I,G,L⟩:=eI.put Ww (t:=136) (et:=268) aw hU (e.ag,e.sh) ((p:K));exact⟨O,I,G,L.imp λb hb=>hb▸hU.1⟩)
 go_wp2;go_ret;obtain⟨r1,r2⟩:=Solo.done (l:=gJ m s bE bS p g (Z Ab nb cb) q' fQ (l9 gO (e.ag,e.sh) ((p:K))) F' M' B R) eN.drop1 (((J1.trans k7).trans ((dM.dK pG).trans CG)).trans ((dM.dK E8).trans Uw)) hV;rw[<-HQ.out,<-HF.out,<-ZY.out];exact⟨rfl,r1,r2⟩
theorem E9(w:X)(m s bE bS p g:Nat)(Ab:aU)(nb cb:Nat)(q:abk.Sm)(fQ:List (Int×K))(gO:List (Key×K))(F:Int)(M:Nat)(B:aN)(R:dW)(T:eu R)(e:En)(A:aU)(c:Nat)(D V:aV)(hM:dN (gJ m s bE bS p g (Z Ab nb cb) q fQ gO F M B R) w V)(hV:∀b,V b->b<(w:Nat))(hd:jM w D A e.ds.length e.ds)(j6:∀b,D b->b<(w:Nat))(kV:∀b,D b->¬ V b)(iZ:∀d∈e.ds,d.1.size<=dG∧d.2<=abk.o6)(hn:e.ds.length<=1048576)(hq:q.length<=1048576)(hI:abq.jW F M)(pi:-9223372036854775808<=e.sq∧e.sq<=9223372036854775807)(yR:abk.iV q e.ds≠0)(K4:8<=nb):dz W 178 #[m,p,aZ (e.agg A c)] w λen O=>en=b5 (J 5)∧dN (gJ m s bE bS p g (Z Ab nb cb) q fQ gO F M B R) O (iY V w O)∧dM V w O:=by
 have ZX:∀(vs:aP)(w:X),(callFunc 235 vs).run W w=.ok (.enter 235 vs) w:=λvs w=>by go_simp
 have hF:=fE m s bE bS p g (Z Ab nb cb) q fQ gO F M B T;have hS:=Solo.begin_ hM hV;have gl:=dT w (.cells (e.agg A c) 40);have gU:=eJ.made w 40 (e.agg A c);obtain⟨y,HY⟩:=az ((w:Nat):Nat);obtain⟨wa,lZ⟩:=az (w.alloc (.cells (e.agg A c) 40):X);rw[<-lZ.out] at gl gU;rw[<-HY.out] at gU;unfold En.agg at lZ ⊢;have mh:=hS.join hF gl (R:=Cell y 40 (e,A,c)) (U:=λb=>b=y) ⟨rfl,gU⟩ (λb hb=>by have:=HY.out;have:=gU.lt;omega);have rj:=hF.cons (Cell.framed y 40 (e,A,c));have Fq:=mh.blk 0 rfl;have ry:=mh.blk 1 rfl;clear gU;go_in;go_wp2_with fail;rw[<-lZ.out,<-HY.out];have c0:=λw1(H:Grow _ w1)=>(ry.grow H).cell 0;have c1:=λw1(H:Grow _ w1)=>(Fq.grow H).cell 5;refine jo 6 λw1 H=>?_;clear c0 c1;have ej:=mh.grows rj H;have J1:=dM.dK (V:=nU V w) (gl.trans H);have F6:=hd.grow (gl.trans H);have oJ:=ej.Ys 2 rfl rj (λU hU jR UK=>abk.sX w1 s q U hU jR A e.ds.length c e.ds D F6 (λb hb hu=>(UK b hu).elim (kV b hb) (λh=>by have:=j6 b hb;omega)) iZ hn hq);have qC:abk.nj q e.ds=q:=by unfold abk.nj;rw[aB yR]
 rw[qC] at oJ;obtain⟨x,HX⟩:=az (abk.iV q e.ds:Int);rw[<-HX.out] at oJ yR;have yS:(x != 0)=true:=bne_iff_ne.2 yR;have lU:decide ((8:Int)<=(nb:Int))=true:=aC ap;go_wp2_with fail;refine oJ.mono ?_;rintro en w2 ⟨rfl,k7,dV⟩;have dV:Solo (nU V w) (dN (Cell y 40 (e,A,c)::gJ m s bE bS p g (Z Ab nb cb) q fQ gO F M B R)) w2:=dV;have Cz:=dV.blk 5 rfl;have c1:=Cz.cell 1;clear yR K4;go_wp2;go_ret;obtain⟨r1,r2⟩:=Solo.done (l:=gJ m s bE bS p g (Z Ab nb cb) q fQ gO F M B R) dV.drop1 (J1.trans k7) hV;exact⟨rfl,r1,r2⟩
end Go.Proofs.YtpeepcmdehhbgaaGreatDoor
section
namespace Go.Hop
open Go.RowKit
def a00(U:aV)(w0:X)(e:dC)(size n:Nat)(xs:List K)(u:K)(w:X):Prop:=Own w (iY U w0 w) e size u n xs
theorem Own.drew{w:X}{V:aV}{e:dC}{size n:Nat}{v:K}{xs:List K}(h:Own w V e size v n xs):Own w.drew V e size v n xs:=h
theorem GK{P:dD}{t e:dC}{size bytes:Nat}{z:K}(abl:Elem P t e size bytes z){w0:X}{y:Operand}{n:Nat}{xs:List K}(hI:Own w V e size v n xs)(Y:ρ x=v){A:aU}{c Bd:Nat}{news:List K}(hy:ρ y=Z A m c)(hr:Reads w Bd size A m news)
 (I:∀u∈news,u.oneCell'=true) (fw:(n+m)*bytes<=140737488355328) (h0:(w0:Nat)<=(w:Nat)) (ho:o.op=.call { callee := .builtin .append,args:=#[x,y],argTypes:=#[t,t] }) (k:Nat):gE P (λu O=>dM V w O∧Own O V e size v n xs∧Once (a00 V w0 e size (n+m) (xs++news)) (k+1) u O) ((execOp ρ o).run P w):=by
 obtain⟨v',O,eR,G,L,h4⟩:=vy abl w o.type v n xs hI Bd A m c news hr I fw;refine gv (u:=v') (w:=O) ?_ ⟨L,h4,show Own O (iY V w0 O) e size v' (n+m) (xs++news) from G.mono λb hb=>?_⟩
 ·unfold execOp
  simp only[ho,resolve,invoke,builtin,Sem.run_bind,Sem.run_pure,Result.andThen_ok,cV,bQ,cQ,Y,hy,eR]
 ·rcases hb with hb|hb
  ·exact .inl hb
  ·exact .inr ⟨bB h0 hb.1,hb.2⟩
end Go.Hop
namespace Go.Proofs.YtpeepcmdehhbgaaGreatDoor
open Go.RowKit Go.Hop
theorem Oq{n:Int}(Y:ρ x=J n)(ho:o.op=.buildSlice 72 1 #[(0,x)]):gE W (λu O=>Grow w O∧Zh 1 1 [J n] u O) ((execOp ρ o).run W w):=by obtain⟨dst,op,ty,pos,after,guard⟩:=o;simp only at ho;subst ho;have H:Grow w (w.alloc (.cells #[J n] 2)):=(Below.refl _ w).alloc (bh _) _;refine gv (u := Z (some ⟨(w:Nat),0,none⟩) 1 1) (w:=w.alloc (.cells #[J n] 2)) (by go_simp) ⟨H,some ⟨(w:Nat),0,none⟩,1,rfl,?_⟩;exact Reads.more (fF w #[J n] 2 (0,0) (n:=1) (size:=1) rfl _ rfl) (by simp)
theorem GL(w:X)(m s bE bS p g:Nat)(Ab:aU)(nb cb:Nat)(q:abk.Sm)(fQ:List (Int×K))(gO:List (Key×K))(F:Int)(M:Nat)(B:aN)(R:dW)(T:eu R)(e:En)(A:aU)(c:Nat)(D V:aV)(hM:dN (gJ m s bE bS p g (Z Ab nb cb) q fQ gO F M B R) w V)(hV:∀b,V b->b<(w:Nat))(hd:jM w D A e.ds.length e.ds)(j6:∀b,D b->b<(w:Nat))(kV:∀b,D b->¬ V b)(iZ:∀d∈e.ds,d.1.size<=dG∧d.2<=abk.o6)(hn:e.ds.length<=1048576)(hq:q.length<=1048576)(hI:abq.jW F M)(pi:-9223372036854775808<=e.sq∧e.sq<=9223372036854775807)(yR:abk.iV q e.ds≠0)(K4:nb<8)(hB:B.length=nb):dz W 178 #[m,p,aZ (e.agg A c)] w λen O=>en=b5 (J 3)∧(∃v,dN (gJ m s bE bS p g v q fQ (l9 gO (e.ag,e.sh) ((p:K))) (abq.ij F M e.sq).1 (abq.ij F M e.sq).2 (pB (B++[e.sq])) R) O (iY V w O))∧dM V w O:=by
 have ZX:∀(vs:aP)(w:X),(callFunc 235 vs).run W w=.ok (.enter 235 vs) w:=λvs w=>by go_simp
 have a4w:∀(vs:aP)(w:X),(callFunc 237 vs).run W w=.ok (.enter 237 vs) w:=λvs w=>by go_simp
 have k236:∀(vs:aP)(w:X),(callFunc 236 vs).run W w=.ok (.enter 236 vs) w:=λvs w=>by go_simp
 have hF:=fE m s bE bS p g (Z Ab nb cb) q fQ gO F M B T;have hS:=Solo.begin_ hM hV;have gl:=dT w (.cells (e.agg A c) 40);have gU:=eJ.made w 40 (e.agg A c);obtain⟨y,HY⟩:=az ((w:Nat):Nat);obtain⟨wa,lZ⟩:=az (w.alloc (.cells (e.agg A c) 40):X);rw[<-lZ.out] at gl gU;rw[<-HY.out] at gU;unfold En.agg at lZ ⊢;have mh:=hS.join hF gl (R:=Cell y 40 (e,A,c)) (U:=λb=>b=y) ⟨rfl,gU⟩ (λb hb=>by have:=HY.out;have:=gU.lt;omega);have rj:=hF.cons (Cell.framed y 40 (e,A,c));have Fq:=mh.blk 0 rfl;have ry:=mh.blk 1 rfl;clear gU;go_in;go_wp2_with fail;rw[<-lZ.out,<-HY.out];have c0:=λw1(H:Grow _ w1)=>(ry.grow H).cell 0;have c1:=λw1(H:Grow _ w1)=>(Fq.grow H).cell 5;refine jo 6 λw1 H=>?_;clear c0 c1;have ej:=mh.grows rj H;have J1:=dM.dK (V:=nU V w) (gl.trans H);have F6:=hd.grow (gl.trans H);have oJ:=ej.Ys 2 rfl rj (λU hU jR UK=>abk.sX w1 s q U hU jR A e.ds.length c e.ds D F6 (λb hb hu=>(UK b hu).elim (kV b hb) (λh=>by have:=j6 b hb;omega)) iZ hn hq);have qC:abk.nj q e.ds=q:=by unfold abk.nj;rw[aB yR]
 rw[qC] at oJ;obtain⟨x,HX⟩:=az (abk.iV q e.ds:Int);rw[<-HX.out] at oJ yR;have yS:(x != 0)=true:=bne_iff_ne.2 yR;have lU:decide ((8:Int)<=(nb:Int))=false:=aD ap;go_wp2_with fail;refine oJ.mono ?_;rintro en w2 ⟨rfl,k7,dV⟩;have dV:Solo (nU V w) (dN (Cell y 40 (e,A,c)::gJ m s bE bS p g (Z Ab nb cb) q fQ gO F M B R)) w2:=dV;have Cz:=dV.blk 5 rfl;have c1:=Cz.cell 1;clear yR;have HB:=Q hB;go_wp2_with fail;obtain⟨U,hU,jR,hUo⟩:=Solo.opx (S:=tv (Z Ab nb cb) B) 7 rfl rj dV;have hU:Own w2 U 2 1 (Z Ab nb cb) B.length (lI B):=hU;rw[hB] at hU;clear hB;have Up:∀w3,dM U w2 w3->eJ w3 p 272 #[g,Z Ab nb cb]:=λw3 hj=>(hUo Yr w3 trivial hj).1.blk 5 rfl;have hYj:∀w3,dM U w2 w3->eJ w3 y 40 (e,A,c):=λw3 hj=>(hUo Yr w3 trivial hj).1.blk 0 rfl;have gd:Grow w2 w2.drew:=(Grow.refl _).drew;have jd:dM U w2 w2.drew:=dM.dK gd;refine dJ rfl ?_;refine fC (dM U w2) [10,11,12] 13 rfl [0,1,2,3,4,5,6,7] ?_;iterate 8 refine eV rfl jd (λw3 hj R T=>by have c:=(Up w3 hj).cell 1;have c':=(hYj w3 hj).cell 3;go_simp;exact T) ?_
 refine eZ 8 [] rfl ?_;refine fV rfl (Oq (n:=e.sq) (x := .tmp 29) rfl rfl) ?_;rintro v30 u3 ⟨ib,A9,c9,rfl,QC⟩;replace ib:=gd.trans ib;go_wp2_with fail;refine⟨λ_=>dM.dK ib,?_⟩;refine eZ 9 [] rfl ?_;refine fV rfl (GK (w0:=w2) (x := .tmp 26) (y := .tmp 30) a3S (Own.grows hU ib) rfl rfl QC (Nr [e.sq]) ap ib.size rfl 0) ?_;rintro v31 w3 ⟨QQ,_,nt⟩;replace QQ:dM U w2 w3:=(dM.dK ib).trans QQ;have nt:a00 U w2 2 1 (nb+1) (lI B++[J e.sq]) v31 w3:=nt;go_wp2_with fail;refine⟨λ_=>QQ,?_⟩;refine fY 10 rfl aw ?_;obtain⟨A3,c3,rfl,_,_,_⟩:=Own.reads nt;have a01:tv (Z A3 (nb+1) c3) (B++[e.sq]) w3 (iY U w2 w3):=by
  have e1:lI B++[J e.sq]=lI (B++[e.sq]):=by simp[lI]
  have e2:nb+1=(B++[e.sq]).length:=by rw[bd,HB.out];rfl
  show Own w3 (iY U w2 w3) 2 1 (Z A3 (nb+1) c3) (B++[e.sq]).length (lI (B++[e.sq]));rw[<-e2,<-e1];exact nt
 obtain⟨dX,J3⟩:=hUo _ w3 a01 QQ;have dX:Solo (nU V w) (dN [Cell y 40 (e,A,c),Cell m 138 #[s,.map (some bE),.map (some bS)],abk.gT s q,eI o0 bE fQ,eI GD bS gO,Cell p 272 #[g,Z Ab nb cb],Cell g 328 #[J F,ae ah M],tv (Z A3 (nb+1) c3) (B++[e.sq]),R]) w3:=dX;have hF3:eG [Cell y 40 (e,A,c),Cell m 138 #[s,.map (some bE),.map (some bS)],abk.gT s q,eI o0 bE fQ,eI GD bS gO,Cell p 272 #[g,Z Ab nb cb],Cell g 328 #[J F,ae ah M],tv (Z A3 (nb+1) c3) (B++[e.sq]),R]:=((((((((eG.nil.cons T).cons (tv.framed _ _)).cons (Cell.framed _ _ _)).cons (Cell.framed _ _ _)).cons (eI.framed _ _)).cons (eI.framed _ _)).cons (abk.gT.framed _ _)).cons (Cell.framed _ _ _)).cons (Cell.framed _ _ _);have Yg:=dX.blk 5 rfl;have c1:=Yg.cell 1;have f1:=Yg.frozen 1;have eO:Solo (nU V w) (dN (Cell y 40 (e,A,c)::gJ m s bE bS p g (Z A3 (nb+1) c3) q fQ gO F M (B++[e.sq]) R)) (w3.setCell ⟨p,1,none⟩ (Z A3 (nb+1) c3)):=Solo.puts (x:=p) (t:=272) (cs:=#[g,Z Ab nb cb]) 5 rfl hF3 dX 1 (Z A3 (nb+1) c3);have J4:dM (nU V w) w (w3.setCell ⟨p,1,none⟩ (Z A3 (nb+1) c3)):=((J1.trans k7).trans J3).put (dX.Vy 5 rfl).1 1 (Z A3 (nb+1) c3);obtain⟨B2,HB2⟩:=az (B++[e.sq]:List Int);obtain⟨w4,HW4⟩:=az (w3.setCell ⟨p,1,none⟩ (Z A3 (nb+1) c3):X);rw[<-HB2.out] at eO;rw[<-HW4.out] at eO J4;have hF4:=(fE m s bE bS p g (Z A3 (nb+1) c3) q fQ gO F M B2 T).cons (Cell.framed y 40 (e,A,c));clear Cz Up hYj hUo nt a01 dX hF3 hU jR Fq ry;have hp4:=eO.blk 5 rfl;have d1:=hp4.cell 1;have a4x:=eO.Ys (S':=tv (Z A3 (nb+1) c3) (pB B2)) 7 rfl hF4 (λU hU jR UK=>(Kv w4 U (Z A3 (nb+1) c3) B2 hU (by rw[HB2.out,bd,HB.out,bv];omega)).mono λen O ⟨I,G,L⟩=>⟨I,G.mono λ_ h => .inl h,L⟩);go_wp2_with fail;rw[<-HW4.out];clear c1 f1 Yg;go_wp2_with fail;refine a4x.mono ?_;rintro en w5 ⟨rfl,ra,eF⟩;have eF:Solo (nU V w) (dN (Cell y 40 (e,A,c)::gJ m s bE bS p g (Z A3 (nb+1) c3) q fQ gO F M (pB B2) R)) w5:=eF;obtain⟨B3,HB3⟩:=az (pB B2:aN);rw[<-HB3.out] at eF;have Oo:=(fE m s bE bS p g (Z A3 (nb+1) c3) q fQ gO F M B3 T).cons (Cell.framed y 40 (e,A,c));clear d1 hp4;have Cz:=eF.blk 5 rfl;have K6:=eF.blk 0 rfl;go_wp2_with fail;have c0:=λw7(pG:Grow _ w7)=>(Cz.grow pG).cell 0;have c1:=λw7(pG:Grow _ w7)=>(K6.grow pG).cell 3;refine jo 7 λw7 pG=>?_;clear c0 c1;have fH:=eF.grows Oo pG;have sy:=fH.Ys (S':=Cell g 328 #[J (abq.ij F M e.sq).1,ae ah ((abq.ij F M e.sq).2:Int)]) 6 rfl Oo (λU hU jR UK=>(abq.IP w7 g F M e.sq hU.2 hI pi).mono λen O ⟨I,G,L⟩=>⟨I,⟨.inl hU.1,G⟩,dM.jA L hU.1⟩);go_wp2_with fail;refine sy.mono ?_;rintro en w8 ⟨rfl,CG,fD⟩;have fD:Solo (nU V w) (dN (Cell y 40 (e,A,c)::gJ m s bE bS p g (Z A3 (nb+1) c3) q fQ gO (abq.ij F M e.sq).1 (abq.ij F M e.sq).2 B3 R)) w8:=fD;obtain⟨F',HF⟩:=az ((abq.ij F M e.sq).1:Int);obtain⟨M',ZY⟩:=az ((abq.ij F M e.sq).2:Nat);rw[<-HF.out,<-ZY.out] at fD;have ZZ:=(fE m s bE bS p g (Z A3 (nb+1) c3) q fQ gO F' M' B3 T).cons (Cell.framed y 40 (e,A,c));have Z_:=fD.blk 0 rfl;have VP:=fD.blk 1 rfl;go_wp2_with fail;have c0:=λw9(E8:Grow _ w9)=>(VP.grow E8).cell 2;have c1:=λw9(E8:Grow _ w9)=>(Z_.grow E8).cell 1;have c2:=λw9(E8:Grow _ w9)=>(Z_.grow E8).cell 2;refine jo 12 λw9 E8=>?_;clear c0 c1 c2;have eF:=fD.grows ZZ E8;obtain⟨wA,eR,eN,Uw⟩:=eF.R3 (φ:=λO=>(Instr.mapUpdate 136 (.map (some bS)) (aZ #[J e.ag,J e.sh]) ((p:K))).run W w9=.ok () O) 4 rfl ZZ (λU hU jR=>by obtain⟨O,I,G,L⟩:=eI.put Ww (t:=136) (et:=268) aw hU (e.ag,e.sh) ((p:K));exact⟨O,I,G,L.imp λb hb=>hb▸hU.1⟩)
 go_wp2;go_ret;obtain⟨r1,r2⟩:=Solo.done (l:=gJ m s bE bS p g (Z A3 (nb+1) c3) q fQ (l9 gO (e.ag,e.sh) ((p:K))) F' M' B3 R) eN.drop1 (((J4.trans ra).trans ((dM.dK pG).trans CG)).trans ((dM.dK E8).trans Uw)) hV;rw[HB2.out] at HB3;rw[<-HB3.out,<-HF.out,<-ZY.out];exact⟨rfl,⟨_,r1⟩,r2⟩
end Go.Proofs.YtpeepcmdehhbgaaGreatDoor
end
namespace Go.Proofs.YtpeepcmdehhbgaaGreatDoor
open RowKit Hop
theorem Ea(w:X)(m:Nat)(q:abk.Sm)(fQ:List (Int×K))(kA:List (Key×Pl))(e:En)(A:aU)(c:Nat)(D V:aV)(hV:∀b,V b->b<(w:Nat))(gC:e.Ok)(N:e.k=1)(hd:jM w D A e.ds.length e.ds)(j6:∀b,D b->b<(w:Nat))(kV:∀b,D b->¬ V b)(F:Int)(M:Nat)(B:aN)(kY:gW kA (e.ag,e.sh)=⟨F,M,B⟩)(K7:B.length<=1048576)(hI:abq.jW F M)(pi:-9223372036854775808<=e.sq∧e.sq<=9223372036854775807)(zb:abq.seen F M e.sq=true)(Yh:e.sq∈B)(h:i8 m q fQ kA w V):dz W 111 #[m,aZ (e.agg A c)] w λen O=>en=b5 (a_ #[J 3,ae ah 0])∧i8 m q fQ kA O (iY V w O)∧dM V w O:=by
 have Sk:∀(vs:aP)(w:X),(callFunc 175 vs).run W w=.ok (.enter 175 vs) w:=λvs w=>by go_simp
 have a4y:∀(vs:aP)(w:X),(callFunc 176 vs).run W w=.ok (.enter 176 vs) w:=λvs w=>by go_simp
 have gl:=dT w (.cells (e.agg A c) 40);have gU:=eJ.made w 40 (e.agg A c);obtain⟨y,HY⟩:=az ((w:Nat):Nat);obtain⟨wa,lZ⟩:=az (w.alloc (.cells (e.agg A c) 40):X);rw[<-lZ.out] at gl gU;rw[<-HY.out] at gU;have m6:=ju wa e D A c gC (In.grow hd gl);unfold En.agg at lZ m6 gU ⊢;have ip:(e.k == 2)=false:=by rw[N];rfl
 clear N;go_in;go_wp2_with fail;rw[<-lZ.out,<-HY.out];refine m6.mono ?_;rintro en wb ⟨rfl,mK⟩;have rL:=gU.grow mK;have y0:=rL.cell 0;have y1:=rL.cell 1;have y2:=rL.cell 2;have Jh:=tA wb m q fQ kA V (λb hb=>bw (hV b hb) (gl.trans mK).size) e.ag e.sh (i8.framed m q fQ kA w wb V h λb hb=>(gl.trans mK).block b (hV b hb));rw[kY] at Jh;clear h;go_wp2_with fail;clear y0 y1 y2;refine Jh.mono ?_;rintro en w0 ⟨s,bE,bS,p,g,v,gO,R,rfl,hO,pO,U,uY,hU⟩;have T:=hO.framed;obtain⟨UB,Ji,_⟩:=(dN.pick _ 6 _ rfl uY).fst;obtain⟨Ab,cb,rfl,zF,_,_⟩:=Own.reads (show Own w0 UB 2 1 v B.length (lI B) from Ji);obtain⟨nb,QD⟩:∃nb:Nat,Hid (B.length=nb):=⟨_,Q rfl⟩;rw[QD.out] at uY zF K7;clear Ji;have tT:Grow w w0:=(gl.trans mK).trans pO;have Qg:(w:Nat)<=y∧y<(wb:Nat):=by have:=HY.out;have:=rL.lt;omega
 have Sl:=pO.size;have k_:∀b,New wb w0 b->(w:Nat)<=b:=λb hb=>by have:=hb.1;have:=(gl.trans mK).size;omega
 have hF:=fE m s bE bS p g (Z Ab nb cb) q fQ gO F M B T;have rj:=hF.cons (Cell.framed y 40 (e,A,c));have fN:Solo (nU V w) (dN (Cell y 40 (e,A,c)::gJ m s bE bS p g (Z Ab nb cb) q fQ gO F M B R)) w0:=
  Solo.D3 (U:=λb=>b=y) (λb hb => .inr ap) uY (λb hb=>(hU b hb).elim (λh=>⟨.inl h,by have:=hV b h;omega⟩) (λh=>⟨.inr (k_ b h),h.2⟩)) ⟨rfl,rL.grow pO⟩
   (λb hb=>by rw[hb];exact⟨.inr Qg.1,by omega,λh=>(hU y h).elim (λh=>by have:=hV y h;omega) (λh=>by have:=h.1;omega)⟩)
 have J0:=dM.dK (V:=nU V w) tT;have Iz:=fN.blk 0 rfl;have sx:=fN.blk 5 rfl;have xW:=fN.blk 6 rfl;have Ot:∀w1,Grow w0 w1->dz W 176 #[Z Ab nb cb,J e.sq] w1 λen O=>en=b5 (aY true)∧Grow w1 O:=λw1 H=>by have h:=zU w1 (λb=>b<(w0:Nat)) Ab nb cb B e.sq (In.grow (Reads.jL (V:=λb=>b<(w0:Nat)) zF (bh _) λ_ h=>h) H) K7;rw[aC Yh] at h;exact h
 have Jj:∀w1,Grow w0 w1->dz W 175 #[g,J e.sq] w1 λen O=>en=b5 (aY true)∧Grow w1 O:=λw1 H=>by have h:=abq.ol w1 g F M e.sq (xW.grow H) hI pi;rw[zb] at h;exact h
 clear zF;go_wp2_with fail;have c0:=λw1(H:Grow _ w1)=>(sx.grow H).cell 0;have c1:=λw1(H:Grow _ w1)=>(Iz.grow H).cell 3;have c2:=λw1(H:Grow _ w1)=>(sx.grow H).cell 1;refine fh ?_;intro w1 H;clear c0 c1 c2;have vi:=H;have ej:=fN.grows rj vi;go_wp2;go_ret2;obtain⟨r1,r2⟩:=Solo.done (l:=gJ m s bE bS p g (Z Ab nb cb) q fQ gO F M B R) (ej.drop1) (J0.trans (dM.dK vi)) hV;exact⟨rfl,mT hO r1,r2⟩
theorem GM(w:X)(m:Nat)(q:abk.Sm)(fQ:List (Int×K))(kA:List (Key×Pl))(e:En)(A:aU)(c:Nat)(D V:aV)(hV:∀b,V b->b<(w:Nat))(gC:e.Ok)(N:e.k=1)(hd:jM w D A e.ds.length e.ds)(j6:∀b,D b->b<(w:Nat))(kV:∀b,D b->¬ V b)(F:Int)(M:Nat)(B:aN)(kY:gW kA (e.ag,e.sh)=⟨F,M,B⟩)(K7:B.length<=1048576)(hI:abq.jW F M)(pi:-9223372036854775808<=e.sq∧e.sq<=9223372036854775807)(zb:abq.seen F M e.sq=true)(Yh:e.sq ∉ B)(h:i8 m q fQ kA w V):dz W 111 #[m,aZ (e.agg A c)] w λen O=>en=b5 (a_ #[J 2,ae ah 0])∧i8 m q fQ kA O (iY V w O)∧dM V w O:=by
 have Sk:∀(vs:aP)(w:X),(callFunc 175 vs).run W w=.ok (.enter 175 vs) w:=λvs w=>by go_simp
 have a4y:∀(vs:aP)(w:X),(callFunc 176 vs).run W w=.ok (.enter 176 vs) w:=λvs w=>by go_simp
 have gl:=dT w (.cells (e.agg A c) 40);have gU:=eJ.made w 40 (e.agg A c);obtain⟨y,HY⟩:=az ((w:Nat):Nat);obtain⟨wa,lZ⟩:=az (w.alloc (.cells (e.agg A c) 40):X);rw[<-lZ.out] at gl gU;rw[<-HY.out] at gU;have m6:=ju wa e D A c gC (In.grow hd gl);unfold En.agg at lZ m6 gU ⊢;have ip:(e.k == 2)=false:=by rw[N];rfl
 clear N;go_in;go_wp2_with fail;rw[<-lZ.out,<-HY.out];refine m6.mono ?_;rintro en wb ⟨rfl,mK⟩;have rL:=gU.grow mK;have y0:=rL.cell 0;have y1:=rL.cell 1;have y2:=rL.cell 2;have Jh:=tA wb m q fQ kA V (λb hb=>bw (hV b hb) (gl.trans mK).size) e.ag e.sh (i8.framed m q fQ kA w wb V h λb hb=>(gl.trans mK).block b (hV b hb));rw[kY] at Jh;clear h;go_wp2_with fail;clear y0 y1 y2;refine Jh.mono ?_;rintro en w0 ⟨s,bE,bS,p,g,v,gO,R,rfl,hO,pO,U,uY,hU⟩;have T:=hO.framed;obtain⟨UB,Ji,_⟩:=(dN.pick _ 6 _ rfl uY).fst;obtain⟨Ab,cb,rfl,zF,_,_⟩:=Own.reads (show Own w0 UB 2 1 v B.length (lI B) from Ji);obtain⟨nb,QD⟩:∃nb:Nat,Hid (B.length=nb):=⟨_,Q rfl⟩;rw[QD.out] at uY zF K7;clear Ji;have tT:Grow w w0:=(gl.trans mK).trans pO;have Qg:(w:Nat)<=y∧y<(wb:Nat):=by have:=HY.out;have:=rL.lt;omega
 have Sl:=pO.size;have k_:∀b,New wb w0 b->(w:Nat)<=b:=λb hb=>by have:=hb.1;have:=(gl.trans mK).size;omega
 have hF:=fE m s bE bS p g (Z Ab nb cb) q fQ gO F M B T;have rj:=hF.cons (Cell.framed y 40 (e,A,c));have fN:Solo (nU V w) (dN (Cell y 40 (e,A,c)::gJ m s bE bS p g (Z Ab nb cb) q fQ gO F M B R)) w0:=
  Solo.D3 (U:=λb=>b=y) (λb hb => .inr ap) uY (λb hb=>(hU b hb).elim (λh=>⟨.inl h,by have:=hV b h;omega⟩) (λh=>⟨.inr (k_ b h),h.2⟩)) ⟨rfl,rL.grow pO⟩
   (λb hb=>by rw[hb];exact⟨.inr Qg.1,by omega,λh=>(hU y h).elim (λh=>by have:=hV y h;omega) (λh=>by have:=h.1;omega)⟩)
 have J0:=dM.dK (V:=nU V w) tT;have Iz:=fN.blk 0 rfl;have sx:=fN.blk 5 rfl;have xW:=fN.blk 6 rfl;have Ot:∀w1,Grow w0 w1->dz W 176 #[Z Ab nb cb,J e.sq] w1 λen O=>en=b5 (aY false)∧Grow w1 O:=λw1 H=>by have h:=zU w1 (λb=>b<(w0:Nat)) Ab nb cb B e.sq (In.grow (Reads.jL (V:=λb=>b<(w0:Nat)) zF (bh _) λ_ h=>h) H) K7;rw[aD Yh] at h;exact h
 have Jj:∀w1,Grow w0 w1->dz W 175 #[g,J e.sq] w1 λen O=>en=b5 (aY true)∧Grow w1 O:=λw1 H=>by have h:=abq.ol w1 g F M e.sq (xW.grow H) hI pi;rw[zb] at h;exact h
 clear zF;go_wp2_with fail;have c0:=λw1(H:Grow _ w1)=>(sx.grow H).cell 0;have c1:=λw1(H:Grow _ w1)=>(Iz.grow H).cell 3;have c2:=λw1(H:Grow _ w1)=>(sx.grow H).cell 1;refine fh ?_;intro w1 H;clear c0 c1 c2;have vi:=H;have ej:=fN.grows rj vi;have K2:=sx.grow vi;have Fq:=Iz.grow vi;go_wp2_with fail;have c0:=λw2(H:Grow _ w2)=>(K2.grow H).cell 0;have c1:=λw2(H:Grow _ w2)=>(Fq.grow H).cell 3;have c2:=λw2(H:Grow _ w2)=>Jj w2 (vi.trans H);refine fh ?_;intro w2 H;clear c0 c1 c2;have Ou:=H;have dV:=ej.grows rj Ou;go_wp2;go_ret2;obtain⟨r1,r2⟩:=Solo.done (l:=gJ m s bE bS p g (Z Ab nb cb) q fQ gO F M B R) (dV.drop1) ((J0.trans (dM.dK vi)).trans (dM.dK Ou)) hV;exact⟨rfl,mT hO r1,r2⟩
def a4z(b:Bool)(kA:List (Key×Pl))(k:Key)(x:Pl):List (Key×Pl):=if b then i_ kA k x else kA
def a4A(b:Bool)(gO:List (Key×K))(k:Key)(v:K):List (Key×K):=if b then l9 gO k v else gO
theorem pk(w:X)(m:Nat)(q:abk.Sm)(fQ:List (Int×K))(kA:List (Key×Pl))(e:En)(A:aU)(c:Nat)(D V:aV)(hV:∀b,V b->b<(w:Nat))(gC:e.Ok)(N:e.k=1)(hd:jM w D A e.ds.length e.ds)(j6:∀b,D b->b<(w:Nat))(kV:∀b,D b->¬ V b)(F:Int)(M:Nat)(B:aN)(kY:gW kA (e.ag,e.sh)=⟨F,M,B⟩)(K7:B.length<=1048576)(hI:abq.jW F M)(pi:-9223372036854775808<=e.sq∧e.sq<=9223372036854775807)(zb:abq.seen F M e.sq=false)(Ov:∃x:Int,(uk fQ e.ag).getD (J 0)=J x∧x<=e.ep)(QM:abq.far F e.sq=false)(code:Int)(q':abk.Sm)(b:Bool)(F':Int)(M':Nat)(B':aN)(hb:b=false->F'=F∧M'=M∧B'=B)
 (E:∀(w6:X)(s bE bS p g:Nat)(Ab:aU)(nb cb:Nat)(gO:List (Key×K))(R:dW)(U:aV),B.length=nb->eu R->dN (gJ m s bE bS p g (Z Ab nb cb) q (l9 fQ e.ag (J e.ep)) gO F M B R) w6 U->(∀b,U b->b<(w6:Nat))->jM w6 D A e.ds.length e.ds->(∀b,D b->b<(w6:Nat))->(∀b,D b->¬ U b)->
  dz W 178 #[m,p,aZ (e.agg A c)] w6 λen O=>en=b5 (J code)∧(∃v,dN (gJ m s bE bS p g v q' (l9 fQ e.ag (J e.ep)) (a4A b gO (e.ag,e.sh) ((p:K))) F' M' B' R) O (iY U w6 O))∧dM U w6 O) (h:i8 m q fQ kA w V):dz W 111 #[m,aZ (e.agg A c)] w λen O=>en=b5 (a_ #[J code,ae ah 0])∧i8 m q' (l9 fQ e.ag (J e.ep)) (a4z b kA (e.ag,e.sh) ⟨F',M',B'⟩) O (iY V w O)∧dM V w O:=by
 have Sk:∀(vs:aP)(w:X),(callFunc 175 vs).run W w=.ok (.enter 175 vs) w:=λvs w=>by go_simp
 have a4B:∀(vs:aP)(w:X),(callFunc 177 vs).run W w=.ok (.enter 177 vs) w:=λvs w=>by go_simp
 have gl:=dT w (.cells (e.agg A c) 40);have gU:=eJ.made w 40 (e.agg A c);obtain⟨y,HY⟩:=az ((w:Nat):Nat);obtain⟨wa,lZ⟩:=az (w.alloc (.cells (e.agg A c) 40):X);rw[<-lZ.out] at gl gU;rw[<-HY.out] at gU;have m6:=ju wa e D A c gC (In.grow hd gl);unfold En.agg at lZ m6 gU ⊢;have ip:(e.k == 2)=false:=by rw[N];rfl
 clear N;go_in;go_wp2_with fail;rw[<-lZ.out,<-HY.out];refine m6.mono ?_;rintro en wb ⟨rfl,mK⟩;have rL:=gU.grow mK;have y0:=rL.cell 0;have y1:=rL.cell 1;have y2:=rL.cell 2;have Jh:=tA wb m q fQ kA V (λb hb=>bw (hV b hb) (gl.trans mK).size) e.ag e.sh (i8.framed m q fQ kA w wb V h λb hb=>(gl.trans mK).block b (hV b hb));rw[kY] at Jh;clear h;go_wp2_with fail;clear y0 y1 y2;refine Jh.mono ?_;rintro en w0 ⟨s,bE,bS,p,g,v,gO,R,rfl,hO,pO,U,uY,hU⟩;have T:=hO.framed;obtain⟨UB,Ji,_⟩:=(dN.pick _ 6 _ rfl uY).fst;obtain⟨Ab,cb,rfl,zF,_,_⟩:=Own.reads (show Own w0 UB 2 1 v B.length (lI B) from Ji);obtain⟨nb,QD⟩:∃nb:Nat,Hid (B.length=nb):=⟨_,Q rfl⟩;rw[QD.out] at uY zF K7;clear Ji;have tT:Grow w w0:=(gl.trans mK).trans pO;have Qg:(w:Nat)<=y∧y<(wb:Nat):=by have:=HY.out;have:=rL.lt;omega
 have Sl:=pO.size;have k_:∀b,New wb w0 b->(w:Nat)<=b:=λb hb=>by have:=hb.1;have:=(gl.trans mK).size;omega
 have hF:=fE m s bE bS p g (Z Ab nb cb) q fQ gO F M B T;have rj:=hF.cons (Cell.framed y 40 (e,A,c));have fN:Solo (nU V w) (dN (Cell y 40 (e,A,c)::gJ m s bE bS p g (Z Ab nb cb) q fQ gO F M B R)) w0:=
  Solo.D3 (U:=λb=>b=y) (λb hb => .inr ap) uY (λb hb=>(hU b hb).elim (λh=>⟨.inl h,by have:=hV b h;omega⟩) (λh=>⟨.inr (k_ b h),h.2⟩)) ⟨rfl,rL.grow pO⟩
   (λb hb=>by rw[hb];exact⟨.inr Qg.1,by omega,λh=>(hU y h).elim (λh=>by have:=hV y h;omega) (λh=>by have:=h.1;omega)⟩)
 have pJ:(gO.map Prod.fst).Nodup:=by obtain⟨_,hG,_⟩:=fN.see 4 rfl;exact Lh hG
 have J0:=dM.dK (V:=nU V w) tT;have Iz:=fN.blk 0 rfl;have sx:=fN.blk 5 rfl;have xW:=fN.blk 6 rfl;have Jj:∀w1,Grow w0 w1->dz W 175 #[g,J e.sq] w1 λen O=>en=b5 (aY false)∧Grow w1 O:=λw1 H=>by have h:=abq.ol w1 g F M e.sq (xW.grow H) hI pi;rw[zb] at h;exact h
 clear zF;go_wp2_with fail;have c0:=λw1(H:Grow _ w1)=>(sx.grow H).cell 0;have c1:=λw1(H:Grow _ w1)=>(Iz.grow H).cell 3;refine fh ?_;intro w1 H;clear c0 c1;have vi:=H;have ej:=fN.grows rj vi;have K2:=sx.grow vi;have Fq:=Iz.grow vi;go_wp2_with fail;have c0:=λw2(H:Grow _ w2)=>(K2.grow H).cell 0;have c1:=λw2(H:Grow _ w2)=>(Fq.grow H).cell 3;have c2:=λw2(H:Grow _ w2)=>Jj w2 (vi.trans H);refine fh ?_;intro w2 H;clear c0 c1 c2;have Ou:=H;have dV:=ej.grows rj Ou;obtain⟨x,Y,hxe⟩:=Ov;have TY:decide (e.ep<x)=false:=aD ap;have Cv:∀w1,Grow w2 w1->(Instr.lookup 135 (.map (some bE)) (J e.ag) false).run W w1=.ok (J x) w1:=λw1 H=>by obtain⟨U3,hG3,_⟩:=(dV.grows rj H).see 3 rfl;have h:=eI.look Oe (t:=135) (et:=2) aw (zI w1) hG3 e.ag false;rw[aB am,Y] at h;exact h
 have zE:=dV.blk 1 rfl;have K6:=dV.blk 0 rfl;go_wp2_with fail;have c0:=λw3(H:Grow _ w3)=>(K6.grow H).cell 4;have c1:=λw3(H:Grow _ w3)=>(zE.grow H).cell 1;have c2:=λw3(H:Grow _ w3)=>(K6.grow H).cell 1;refine fh ?_;intro w3 H;clear c0 c1 c2;have UL:=H;have dX:=dV.grows rj UL;have R4:=dX.blk 1 rfl;have Wz:=dX.blk 0 rfl;clear Cv;go_wp2_with fail;have c0:=λw4(H:Grow _ w4)=>(R4.grow H).cell 1;have c1:=λw4(H:Grow _ w4)=>(Wz.grow H).cell 1;have c2:=λw4(H:Grow _ w4)=>(Wz.grow H).cell 4;refine jo 9 λw4 H=>?_;clear c0 c1 c2;have hgH:=H;have eO:=dX.grows rj hgH;obtain⟨w5,eR,eF,ra⟩:=eO.R3 (φ:=λO=>(Instr.mapUpdate 135 (.map (some bE)) (J e.ag) (J e.ep)).run W w4=.ok () O) 3 rfl rj (λU hU jR=>by obtain⟨O,I,G,L⟩:=eI.put Oe (t:=135) (et:=2) aw hU e.ag (J e.ep);exact⟨O,I,G,L.imp λb hb=>hb▸hU.1⟩)
 obtain⟨tB,HE⟩:=az (l9 fQ e.ag (J e.ep):List (Int×K));rw[<-HE.out] at eF;have eF:Solo (nU V w) (dN (Cell y 40 (e,A,c)::gJ m s bE bS p g (Z Ab nb cb) q tB gO F M B R)) w5:=eF;have Oo:=(fE m s bE bS p g (Z Ab nb cb) q tB gO F M B T).cons (Cell.framed y 40 (e,A,c));have J5:dM (nU V w) w w5:=((((J0.trans (dM.dK vi)).trans (dM.dK Ou)).trans (dM.dK UL)).trans (dM.dK hgH)).trans ra;clear R4 zE K6 Wz sx Iz xW K2 Fq;have hp5:=eF.blk 5 rfl;have YE:=eF.blk 0 rfl;have ng:=eF.blk 6 rfl;have hFr:∀w1,Grow w5 w1->dz W 177 #[g,J e.sq] w1 λen O=>en=b5 (aY false)∧Grow w1 O:=λw1 H=>by have h:=abq.rO w1 g F M e.sq _ (ng.grow H) ⟨by have:=hI.lo;omega,hI.hi⟩ pi QM;exact h.mono λ_ _ ⟨I,G⟩=>⟨I,G▸Grow.refl _⟩
 go_wp2_with fail;clear eR;have c0:=λw6(H:Grow _ w6)=>(hp5.grow H).cell 0;have c1:=λw6(H:Grow _ w6)=>(YE.grow H).cell 3;refine fh ?_;intro w6 H;clear c0 c1;have hgI:=H;have eN:=eF.grows Oo hgI;have Sn:=eN.blk 0 rfl;have J6:=J5.trans (dM.dK hgI);have Yi:jM w6 D A e.ds.length e.ds:=In.just hd J6 λb hb hl=>hl.elim (kV b hb) (λh=>by have:=j6 b hb;omega);have fH:Solo (nU V w) (dN (dN (gJ m s bE bS p g (Z Ab nb cb) q tB gO F M B R)::[Cell y 40 (e,A,c)])) w6:=Solo.Vz (eN.perm (List.perm_append_singleton _ _).symm);have hF7:eG (dN (gJ m s bE bS p g (Z Ab nb cb) q tB gO F M B R)::[Cell y 40 (e,A,c)]):=(eG.nil.cons (Cell.framed _ _ _)).cons (dN.framed _ (fE m s bE bS p g (Z Ab nb cb) q tB gO F M B T));have hw6:=J6.size;obtain⟨UM,hUM,a04,a4D⟩:=Solo.opx (S:=dN (gJ m s bE bS p g (Z Ab nb cb) q tB gO F M B R)) 0 rfl hF7 fH;rw[HE.out] at hUM;have oJ:=E w6 s bE bS p g Ab nb cb gO R UM QD.out T hUM (λb hb=>(a04 b hb).2) Yi (λb hb=>by have:=j6 b hb;omega) (λb hb hu=>(a04 b hu).1.elim (kV b hb) (λh=>by have:=j6 b hb;omega));clear E;unfold En.agg at oJ;have y0:=Sn.cell 0;have y1:=Sn.cell 1;have y2:=Sn.cell 2;have y3:=Sn.cell 3;have y4:=Sn.cell 4;have y5:=Sn.cell 5;have y6:=Sn.cell 6;have y7:=Sn.cell 7;have y8:=Sn.cell 8;go_wp2_with fail;clear y0 y1 y2 y3 y4 y5 y6 y7 y8;refine oJ.mono ?_;rintro en w7 ⟨rfl,⟨v7,h7⟩,WA⟩;obtain⟨fD,hj8⟩:=a4D _ w7 h7 WA;go_wp2;go_ret2;have gy:=(Solo.flat fD).perm (List.perm_append_singleton _ _);obtain⟨r1,r2⟩:=Solo.done gy.drop1 (J6.trans hj8) hV;refine⟨rfl,?_,r2⟩;cases b with
 | true=>exact Li hO pJ r1
 | false=>
   obtain⟨rfl,rfl,rfl⟩:=hb rfl;exact mT (x:=⟨_,_,_⟩) (gO:=gO) hO r1
end Go.Proofs.YtpeepcmdehhbgaaGreatDoor
