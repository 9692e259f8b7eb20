import Derived.Test.YtpeepcmdehhbgaaGreatDoorJa04
set_option linter.all false
set_option maxRecDepth 100000
set_option maxHeartbeats 2000000
open Go.Value renaming int->ae,slice->Z,string->aX,bool->aY,agg->aZ,tuple->a_
open Go.Ending renaming returned->b5
open Go.IntKind renaming i64->af,u64->ah
open Go.Proofs.Tryz renaming prog->W,underlying45->bG
open Go.Lib renaming hid->Q
open List renaming length_append->bd,perm_append_comm->bg,append_nil->bm,append_assoc->bp,length_singleton->bv,map_append->bI,map_cons->bQ,cons_append->cD,map_congr_left->cO,map_nil->cQ,mem_map_of_mem->cT,map_toArray->cV,mem_of_mem_eraseIdx->cY,length_map->bj,length_take->bn,set_cons_succ->bz,set_cons_zero->bA,getElem_mem->bF,drop_eq_getElem_cons->bP,range->bV,setIfInBounds_toArray->bY,size_toArray->cy,not_mem_nil->cF,mem_cons->cI,drop_eq_nil_of_le->cR
open Nat renaming le_refl->bh,lt_of_lt_of_le->bw,le_trans->bB,zero_le->bo,le_of_ble_eq_true->bf
open Go renaming Value->K,World->X,Calls->dz,TypeId->dC,Program->dD,Oper->dE,maxLen->dG
open Bool renaming eq_false_or_eq_true->bC
open Go (J az aE aA aB aC aD ay aj am ap aw aL aK aJ aI aH aV aU aT aR aQ aP aO aN)
section
open Go.Hop (dW)
variable{w:X}{V:aV}{m s bE bS p g M:Nat}{l:List dW}{v:K}{fQ:List (Int×K)}{F:Int}{B:aN}{o:dE}{ρ:Go.Operand->K}{x:Go.Operand}
section
namespace Go.Hop
open Go.RowKit
theorem dN.one{abh:dW}(h:abh w V):dN [abh] w V:=⟨V,λ_=>False,h,trivial,λ_ h=>h,λ_ h=>h.elim,λ_ _ h=>h⟩
theorem dN.one'{abh:dW}(hX:C_ abh)(h:dN [abh] w V):abh w V:=by obtain⟨V1,V2,a,_,c,_⟩:=h;exact hX w V1 V c a
theorem Solo.opx{P:aV}{S:dW}(i:Nat)(hi:l[i]?=some S)(hF:eG l)(h:Solo P (dN l) w):∃U:aV,S w U∧(∀b,U b->P b∧b<(w:Nat))∧∀(S':dW)(O:X),S' O (iY U w O)->dM U w O->Solo P (dN (l.set i S')) O∧dM P w O:=by
 obtain⟨h0,V,I,h4⟩:=h;obtain⟨V1,V2,a,b,c,d,e⟩:=dN.pick l i S hi I;refine⟨V1,a,λx Y=>h4 x (c x Y),λS' O hs hj=>⟨⟨λx Y=>h0 x (bB hj.size Y),iY V w O,dN.rP l i S S' hi ⟨iY V1 w O,V2,hs,dN.framed _ (λR T=>hF R (cY T)) w O V2 b λx Y=>hj.block x (h4 x (d x Y)).2 (λI=>e x I Y),λx Y=>?_,λx Y => .inl (d x Y),λx Y G=>?_⟩,Bo h4 h0 hj.size⟩,hj.imp λx Y=>(h4 x (c x Y)).1⟩⟩
 ·rcases Y with Y|Y
  ·exact .inl (c x Y)
  ·exact .inr Y
 ·rcases Y with Y|Y
  ·exact e x Y G
  ·have:=(h4 x (d x G)).2;have:=Y.1;omega
end Go.Hop
namespace Go.Proofs.YtpeepcmdehhbgaaGreatDoor
open Go.RowKit Go.Hop
structure Pl where
 F:Int
 M:Nat
 B:List Int
abbrev Key:=Int×Int
abbrev QB:=List (Key×Nat×Pl)
def tv(v:K)(B:aN):dW:=λw V=>Own w V 2 1 v B.length (lI B)
theorem tv.framed(v:K)(B:aN):eu (tv v B):=λw O V h N=>Own.keep h N
theorem tv.wide(v:K)(B:aN):C_ (tv v B):=λw U U' hu h=>Own.mono h hu
def UJ(p g:Nat)(v:K)(x:Pl):List dW:=[Cell p 272 #[g,v],Cell g 328 #[J x.F,ae ah x.M],tv v x.B]
theorem GF(p g:Nat)(v:K)(x:Pl):eG (UJ p g v x):=((eG.nil.cons (tv.framed _ _)).cons (Cell.framed _ _ _)).cons (Cell.framed _ _ _)
def ShT(p:Nat)(x:Pl):dW:=λw V=>∃(g:Nat)(v:K),dN (UJ p g v x) w V
theorem ShT.framed(p:Nat)(x:Pl):eu (ShT p x):=λw O V ⟨g,v,h⟩ N=>⟨g,v,dN.framed _ (GF _ _ _ _) w O V h N⟩
theorem ShT.wide(p:Nat)(x:Pl):C_ (ShT p x):=λw U U' hu ⟨g,v,h⟩=>⟨g,v,dN.wide _ w U U' hu h⟩
def iL(abn:QB):List (Key×K):=abn.map λx=>(x.1,.pointer (some ⟨x.2.1,0,none⟩))
def ri(abn:QB):List dW:=abn.map λx=>ShT x.2.1 x.2.2
def oA(abn:QB):List (Key×Pl):=abn.map λx=>(x.1,x.2.2)
theorem vh(abn:QB):eG (ri abn):=λS h=>by obtain⟨x,_,rfl⟩:=List.mem_map.1 h;exact ShT.framed _ _
theorem mS(abn:QB):(iL abn).map Prod.fst=abn.map Prod.fst:=by simp[iL]
theorem qO(abn:QB):(oA abn).map Prod.fst=abn.map Prod.fst:=by simp[oA]
def gW(l:List (Key×Pl))(k:Key):Pl:=((l.find? λa=>decide (a.1=k)).map (·.2)).getD ⟨0,0,[]⟩
def i_:List (Key×Pl)->Key->Pl->List (Key×Pl)
 | [],k,x=>[(k,x)]
 | a::l,k,x=>if a.1=k then (k,x)::l else a::i_ l k x
theorem Om{L1 L2:List (Key×Pl)}{k:Key}{x:Pl}(h:k ∉ L1.map Prod.fst):gW (L1++(k,x)::L2) k=x:=by
 unfold gW;induction L1 with
 | nil=>simp
 | cons a l ih=>
   have I:¬ a.1=k:=λe=>h (by simp[e]);have G:k ∉ l.map Prod.fst:=λe=>h (by simp at e ⊢;exact .inr e);rw[cD,List.find?_cons];simp only[I,decide_false];exact ih G
theorem GG{l:List (Key×Pl)}{k:Key}(h:k ∉ l.map Prod.fst):gW l k=⟨0,0,[]⟩:=by
 unfold gW;rw[List.find?_eq_none.2 λa ha=>by have:¬ a.1=k:=λe=>h (e▸cT ha);simpa using this]
 rfl
theorem On{L1 L2:List (Key×Pl)}{k:Key}{x y:Pl}(h:k ∉ L1.map Prod.fst):i_ (L1++(k,x)::L2) k y=L1++(k,y)::L2:=by
 induction L1 with
 | nil=>simp[i_]
 | cons a l ih=>
   have I:¬ a.1=k:=λe=>h (by simp[e]);have G:k ∉ l.map Prod.fst:=λe=>h (by simp at e ⊢;exact .inr e);rw[cD,i_,aB I,ih G,cD]
theorem GH{l:List (Key×Pl)}{k:Key}{y:Pl}(h:k ∉ l.map Prod.fst):i_ l k y=l++[(k,y)]:=by
 induction l with
 | nil=>rfl
 | cons a l ih=>
   have I:¬ a.1=k:=λe=>h (by simp[e]);have G:k ∉ l.map Prod.fst:=λe=>h (by simp at e ⊢;exact .inr e);rw[i_,aB I,ih G,cD]
theorem AJ(l:List (Key×Pl))(k:Key)(y:Pl)(k':Key):gW (i_ l k y) k'=if k'=k then y else gW l k':=by
 unfold gW;induction l with
 | nil=>
   by_cases h:k'=k;·subst h;simp[i_]
   ·rw[aB h]
    have h':¬ k=k':=λe=>h e.symm;simp[i_,h']
 | cons a l ih=>
   by_cases I:a.1=k
   ·rw[i_,aA I]
    by_cases h:k'=k;·subst h;simp
    ·have h':¬ k=k':=λe=>h e.symm
     rw[aB h,List.find?_cons,List.find?_cons];simp[h',I]
   ·rw[i_,aB I,List.find?_cons]
    by_cases G:a.1=k'
    ·have h:¬ k'=k:=λe=>I (G.trans e)
     rw[aB h,List.find?_cons];simp[G]
    ·simp only[G,decide_false]
     rw[ih,List.find?_cons];simp[G]
def qf(m s bE bS:Nat)(q:abk.Sm)(fQ:List (Int×K))(gO:List (Key×K)):List dW:=[Cell m 138 #[s,.map (some bE),.map (some bS)],abk.gT s q,eI o0 bE fQ,eI GD bS gO]
theorem C4(m s bE bS:Nat)(q:abk.Sm)(fQ:List (Int×K))(gO:List (Key×K)):eG (qf m s bE bS q fQ gO):=(((eG.nil.cons (eI.framed _ _)).cons (eI.framed _ _)).cons (abk.gT.framed _ _)).cons (Cell.framed _ _ _)
def i8(m:Nat)(q:abk.Sm)(fQ:List (Int×K))(kA:List (Key×Pl)):dW:=λw V=>∃s bE bS abn,oA abn=kA∧dN (qf m s bE bS q fQ (iL abn)++[dN (ri abn)]) w V
theorem AK(m s bE bS:Nat)(q:abk.Sm)(fQ:List (Int×K))(abn:QB):eG (qf m s bE bS q fQ (iL abn)++[dN (ri abn)]):=λS h=>by
 rcases List.mem_append.1 h with h|h
 ·exact C4 _ _ _ _ _ _ _ S h
 ·rw[List.mem_singleton.1 h];exact dN.framed _ (vh abn)
theorem i8.framed(m:Nat)(q:abk.Sm)(fQ:List (Int×K))(kA:List (Key×Pl)):eu (i8 m q fQ kA):=λw O V ⟨s,bE,bS,abn,e,h⟩ N=>⟨s,bE,bS,abn,e,dN.framed _ (AK _ _ _ _ _ _ _) w O V h N⟩
theorem i8.wide(m:Nat)(q:abk.Sm)(fQ:List (Int×K))(kA:List (Key×Pl)):C_ (i8 m q fQ kA):=λw U U' hu ⟨s,bE,bS,abn,e,h⟩=>⟨s,bE,bS,abn,e,dN.wide _ w U U' hu h⟩
def gJ(m s bE bS p g:Nat)(v:K)(q:abk.Sm)(fQ:List (Int×K))(gO:List (Key×K))(F:Int)(M:Nat)(B:aN)(R:dW):List dW:=[Cell m 138 #[s,.map (some bE),.map (some bS)],abk.gT s q,eI o0 bE fQ,eI GD bS gO,Cell p 272 #[g,v],Cell g 328 #[J F,ae ah M],tv v B,R]
theorem fE(m s bE bS p g:Nat)(v:K)(q:abk.Sm)(fQ:List (Int×K))(gO:List (Key×K))(F:Int)(M:Nat)(B:aN){R:dW}(T:eu R):eG (gJ m s bE bS p g v q fQ gO F M B R):=(((((((eG.nil.cons T).cons (tv.framed _ _)).cons (Cell.framed _ _ _)).cons (Cell.framed _ _ _)).cons (eI.framed _ _)).cons (eI.framed _ _)).cons (abk.gT.framed _ _)).cons (Cell.framed _ _ _)
def sb(k:Key)(kA:List (Key×Pl))(x:Pl)(p:Nat)(gO:List (Key×K))(R:dW):Prop:=∃abn,oA abn=kA∧gO=iL abn∧((∃L1 L2,abn=L1++(k,p,x)::L2∧k ∉ L1.map Prod.fst∧R=dN (ri (L1++L2)))∨(k ∉ abn.map Prod.fst∧R=dN (ri abn)))
theorem sb.framed{k:Key}{kA:List (Key×Pl)}{x:Pl}{p:Nat}{gO:List (Key×K)}{R:dW}(h:sb k kA x p gO R):eu R:=by obtain⟨abn,_,_,⟨L1,L2,_,_,e⟩|⟨_,e⟩⟩:=h<;>rw[e]<;>exact dN.framed _ (vh _)
theorem tw{q:abk.Sm}{gO:List (Key×K)}(h:dN (gJ m s bE bS p g v q fQ gO F M B (dN l)) w V):dN (qf m s bE bS q fQ gO++[dN (ShT p ⟨F,M,B⟩::l)]) w V:=by refine dN.flat _ ((dN.app (qf m s bE bS q fQ gO) (l':=UJ p g v ⟨F,M,B⟩++[dN l]) h).imp (λ_ h=>h) λU h=>dN.one ?_);exact (dN.app (UJ p g v ⟨F,M,B⟩) (l':=[dN l]) h).imp (λU h=>⟨g,v,h⟩) λU h=>dN.one' (dN.wide l) h
theorem Lg{q:abk.Sm}{gO:List (Key×K)}(h:dN (qf m s bE bS q fQ gO++[dN (ShT p ⟨F,M,B⟩::l)]) w V):∃g v,dN (gJ m s bE bS p g v q fQ gO F M B (dN l)) w V:=by obtain⟨V1,V2,I,G,a,b,c⟩:=dN.app (qf m s bE bS q fQ gO) h;obtain⟨U1,U2,⟨g,v,L⟩,h4,d,e,f⟩:=dN.one' (dN.wide _) G;exact⟨g,v,dN.flat (qf m s bE bS q fQ gO) (l':=UJ p g v ⟨F,M,B⟩++[dN l]) ⟨V1,V2,I,dN.flat _ ⟨U1,U2,L,dN.one h4,d,e,f⟩,a,b,c⟩⟩
theorem tz(L1 L2:QB)(k:Key)(p:Nat)(x:Pl):(ShT p x::ri (L1++L2)).Perm (ri (L1++(k,p,x)::L2)):=by unfold ri;rw[bI,bI,bQ];exact List.perm_middle.symm
theorem wj{abj l':List dW}(hp:l.Perm l')(h:dN (abj++[dN l]) w V):dN (abj++[dN l']) w V:=dN.flat abj ((dN.app abj h).imp (λ_ h=>h) λU h=>dN.one (dN.perm hp (dN.one' (dN.wide l) h)))
theorem Lh{κ:Type}{ke:κ->K}[DecidableEq κ]{b:Nat}{q:List (κ×K)}(h:eI ke b q w V):(q.map Prod.fst).Nodup:=h.2.1
theorem Li{k:Key}{kA:List (Key×Pl)}{x:Pl}{q:abk.Sm}{gO:List (Key×K)}{R:dW}(hO:sb k kA x p gO R)(hn:(gO.map Prod.fst).Nodup)(h:dN (gJ m s bE bS p g v q fQ (l9 gO k ((p:K))) F M B R) w V):i8 m q fQ (i_ kA k ⟨F,M,B⟩) w V:=by
 obtain⟨abn,rfl,rfl,⟨L1,L2,rfl,N,rfl⟩|⟨N,rfl⟩⟩:=hO
 ·refine⟨s,bE,bS,L1++(k,p,⟨F,M,B⟩)::L2,?_,?_⟩
  ·have e:oA (L1++(k,p,x)::L2)=oA L1++(k,x)::oA L2:=by simp[oA]
   rw[e,On (by rw[qO];exact N)];simp[oA]
  ·have I:=wj (tz L1 L2 k p ⟨F,M,B⟩) (tw h)
   have e:l9 (iL (L1++(k,p,x)::L2)) k ((p:K))=iL (L1++(k,p,⟨F,M,B⟩)::L2):=by
    unfold l9;rw[aA (by rw[mS];simp)];rw[mS,bI,bQ] at hn;have Ya:k ∉ L2.map Prod.fst:=λe=>by have:=(List.nodup_append.1 hn).2.1;exact (List.nodup_cons.1 this).1 e
    have hid:∀abn:QB,k ∉ abn.map Prod.fst->((iL abn).map λa=>if a.1=k then (k,Value.pointer (some ⟨p,0,none⟩)) else a)=iL abn:=λabn hL=>by
     conv=>rhs;rw[<-List.map_id (iL abn)]
     refine cO λa ha=>?_;have:¬ a.1=k:=λe=>hL (by rw[<-mS];exact e▸cT ha);rw[aB this];rfl
    have es:∀y:Pl,iL (L1++(k,p,y)::L2)=iL L1++(k,(p:K))::iL L2:=λy=>by simp[iL]
    rw[es,es,bI,bQ,hid L1 N,hid L2 Ya,aA rfl]
   rw[e] at I;exact I
 ·refine⟨s,bE,bS,abn++[(k,p,⟨F,M,B⟩)],?_,?_⟩
  ·rw[GH (by rw[qO];exact N)]
   simp[oA]
  ·have I:=wj (l':=ri (abn++[(k,p,⟨F,M,B⟩)])) (by
    have:=tz abn [] k p ⟨F,M,B⟩;rwa [bm] at this) (tw h)
   rw[Nk _ (by rw[mS];exact N)] at I
   have e:iL abn++[(k,(p:K))]=iL (abn++[(k,p,⟨F,M,B⟩)]):=by simp[iL]
   rw[e] at I
   exact I
theorem mT{k:Key}{kA:List (Key×Pl)}{x:Pl}{q:abk.Sm}{gO:List (Key×K)}{R:dW}(hO:sb k kA x p gO R)(h:dN (gJ m s bE bS p g v q fQ gO x.F x.M x.B R) w V):i8 m q fQ kA w V:=by
 obtain⟨abn,rfl,rfl,⟨L1,L2,rfl,N,rfl⟩|⟨N,rfl⟩⟩:=hO;·exact⟨s,bE,bS,_,rfl,wj (tz L1 L2 k p x) (tw h)⟩
 ·refine⟨s,bE,bS,abn,rfl,?_⟩
  have I:=tw h;exact dN.flat _ ((dN.app (qf m s bE bS q fQ (iL abn)) I).imp (λ_ h=>h) λU h=>dN.one (by obtain⟨U1,hU,hs⟩:=(dN.one' (dN.wide _) h:dN (ShT p ⟨x.F,x.M,x.B⟩::ri abn) w U).snd;exact dN.wide _ w U1 U hs hU))
theorem GI(w:X):dz W 54 #[] w λe O=>∃m,e=b5 (((m:Nat):K))∧i8 m [] [] [] O (New w O)∧Grow w O:=(L8 w).mono λe O ⟨m,I,⟨s,bE,bS,G⟩,L⟩=>⟨m,I,⟨s,bE,bS,[],rfl,dN.flat _ ⟨New w O,λ_=>False,G,dN.one trivial,λ_ h=>h,λ_ h=>h.elim,λ_ _ h=>h⟩⟩,L⟩
theorem Lj{abn:QB}{k:Key}(h:k∈abn.map Prod.fst):∃L1 L2 p x,abn=L1++(k,p,x)::L2∧k ∉ L1.map Prod.fst:=by
 induction abn with
 | nil=>simp at h
 | cons a l ih=>
   obtain⟨k',p,x⟩:=a;by_cases e:k'=k;·subst e;exact⟨[],l,p,x,rfl,by simp⟩
   ·have:k∈l.map Prod.fst:=by
     rw[bQ] at h;rcases List.mem_cons.1 h with h|h
     ·exact absurd h.symm e
     ·exact h
    obtain⟨L1,L2,p',x',e1,e2⟩:=ih this
    exact⟨(k',p,x)::L1,L2,p',x',by rw[e1];rfl,λh=>by
     rw[bQ] at h;rcases List.mem_cons.1 h with h|h
     ·exact e h.symm
     ·exact e2 h⟩
theorem tA(w:X)(m:Nat)(q:abk.Sm)(fQ:List (Int×K))(kA:List (Key×Pl))(V:aV)(hV:∀b,V b->b<(w:Nat))(ag sh:Int)(h:i8 m q fQ kA w V):dz W 174 #[m,J ag,J sh] w λe O=>∃s bE bS p g v gO R,e=b5 (((p:Nat):K))∧sb (ag,sh) kA (gW kA (ag,sh)) p gO R∧Grow w O∧∃U,dN (gJ m s bE bS p g v q fQ gO (gW kA (ag,sh)).F (gW kA (ag,sh)).M (gW kA (ag,sh)).B R) O U∧∀b,U b->V b∨New w O b:=by
 obtain⟨s,bE,bS,abn,rfl,h⟩:=h;have su:=(dN.pick _ 0 _ rfl h).fst;obtain⟨_,su,_⟩:=su;have Wy:=su.2;obtain⟨_,hG0,_⟩:=(dN.pick _ 3 _ rfl h).fst;have Cv:=eI.look Ww (t:=136) (et:=268) aw (zS w) hG0 (ag,sh) true;have c2:=Wy.cell 2;by_cases N:(ag,sh)∈abn.map Prod.fst
 ·obtain⟨L1,L2,p,x,rfl,iP⟩:=Lj N
  have z8:uk (iL (L1++((ag,sh),p,x)::L2)) (ag,sh)=some ((p:K)):=by refine G3 (j:=L1.length) hG0.2.1 ?_;simp[iL]
  have kY:gW (oA (L1++((ag,sh),p,x)::L2)) (ag,sh)=x:=by
   have e:oA (L1++((ag,sh),p,x)::L2)=oA L1++((ag,sh),x)::oA L2:=by simp[oA]
   rw[e,Om (by rw[qO];exact iP)]
  have hO:sb (ag,sh) (oA (L1++((ag,sh),p,x)::L2)) x p (iL (L1++((ag,sh),p,x)::L2)) (dN (ri (L1++L2))):=⟨_,rfl,rfl,.inl ⟨L1,L2,rfl,iP,rfl⟩⟩;obtain⟨g,v,hM⟩:=Lg (wj (tz L1 L2 (ag,sh) p x).symm h);rw[kY];rw[z8] at Cv;simp only[GD,if_true,Option.getD_some,Option.isSome_some] at Cv;clear z8 kY N iP hG0 Wy su h;generalize iL (L1++((ag,sh),p,x)::L2)=gO at hO hM;generalize oA (L1++((ag,sh),p,x)::L2)=kA at hO;generalize dN (ri (L1++L2))=R at hO hM;go_in;go_wp2;go_ret;exact⟨s,bE,bS,p,g,v,gO,R,rfl,hO,Grow.refl _,V,hM,λ_ h => .inl h⟩
 ·have z8:uk (iL abn) (ag,sh)=none:=xn (by rw[mS];exact N)
  have kY:gW (oA abn) (ag,sh)=⟨0,0,[]⟩:=GG (by rw[qO];exact N);rw[kY];rw[z8] at Cv;simp only[GD,if_true] at Cv;have hO:∀p,sb (ag,sh) (oA abn) ⟨0,0,[]⟩ p (iL abn) (dN (ri abn)):=λp=>⟨abn,rfl,rfl,.inr ⟨N,rfl⟩⟩;have hFh:=AK m s bE bS q fQ abn;clear z8 kY N hG0 su;have hN:=abq.Rm w;go_in;go_wp2_with fail;refine hN.mono ?_;rintro e w1 ⟨rfl,hW,eD⟩;go_wp2;go_ret;have hgp:=dT w1 (.cells #[.pointer (some ⟨(w:Nat),0,none⟩),ay] 272);have hP:=eJ.made w1 272 #[.pointer (some ⟨(w:Nat),0,none⟩),ay];generalize sC:w1.alloc (.cells #[.pointer (some ⟨(w:Nat),0,none⟩),ay] 272)=w2 at hgp hP ⊢;have z2:(w2:Nat)=(w1:Nat)+1:=by rw[<-sC];simp
  have QQ:=eD.trans hgp;have hM:=dN.framed _ hFh w w2 V h λb hb=>QQ.block b (hV b hb);have hW2:=hW.grow hgp;have hwl:=hW.lt;have G:dN (UJ (w1:Nat) (w:Nat) (Z none 0 0) ⟨0,0,[]⟩) w2 (λb=>b=(w1:Nat)∨b=(w:Nat)):=⟨λb=>b=(w1:Nat),λb=>b=(w:Nat),⟨rfl,hP⟩,⟨λb=>b=(w:Nat),λ_=>False,⟨rfl,hW2⟩,dN.one Own.nil,λ_ h=>h,λ_ h=>h.elim,λ_ _ h=>h⟩,λ_ h => .inl h,λ_ h => .inr h,λb I G=>by omega⟩
  refine⟨s,bE,bS,(w1:Nat),(w:Nat),Z none 0 0,iL abn,dN (ri abn),rfl,hO _,QQ,λb=>V b∨b=(w1:Nat)∨b=(w:Nat),?_,λb hb=>?_⟩
  ·have L:dN ((qf m s bE bS q fQ (iL abn)++[dN (ri abn)])++UJ (w1:Nat) (w:Nat) (Z none 0 0) ⟨0,0,[]⟩) w2 (λb=>V b∨b=(w1:Nat)∨b=(w:Nat)):=
    dN.flat _ ⟨V,λb=>b=(w1:Nat)∨b=(w:Nat),hM,G,λ_ h => .inl h,λ_ h => .inr h,λb I G=>by have:=hV b I;have:=eD.size;omega⟩
   rw[bp] at L
   exact dN.perm (List.Perm.append_left (qf m s bE bS q fQ (iL abn)) (bg (l₁:=[dN (ri abn)]) (l₂:=UJ (w1:Nat) (w:Nat) (Z none 0 0) ⟨0,0,[]⟩))) L
  ·rcases hb with hb|rfl|rfl
   ·exact .inl hb
   ·exact .inr ⟨eD.size,by omega⟩
   ·exact .inr ⟨bh _,by omega⟩
end Go.Proofs.YtpeepcmdehhbgaaGreatDoor
end
namespace Go.Proofs.YtpeepcmdehhbgaaGreatDoor
open RowKit Hop
theorem GJ(w:X)(m s bE bS p g:Nat)(Ab:aU)(nb cb:Nat)(q:abk.Sm)(fQ:List (Int×K))(gO:List (Key×K))(F:Int)(M:Nat)(B:aN)(R:dW)(T:eu R)(e:En)(A:aU)(c:Nat)(D V:aV)(hM:dN (gJ m s bE bS p g (Z Ab nb cb) q fQ gO F M B R) w V)(hV:∀b,V b->b<(w:Nat))(hd:jM w D A e.ds.length e.ds)(j6:∀b,D b->b<(w:Nat))(kV:∀b,D b->¬ V b)(iZ:∀d∈e.ds,d.1.size<=dG∧d.2<=abk.o6)(hn:e.ds.length<=1048576)(hq:q.length<=1048576)(hI:abq.jW F M)(pi:-9223372036854775808<=e.sq∧e.sq<=9223372036854775807)(yR:abk.iV q e.ds=0):dz W 178 #[m,p,aZ (e.agg A c)] w λen O=>en=b5 (J 1)∧dN (gJ m s bE bS p g (Z Ab nb cb) (abk.nj q e.ds) fQ (l9 gO (e.ag,e.sh) ((p:K))) (abq.ij F M e.sq).1 (abq.ij F M e.sq).2 B R) O (iY V w O)∧dM V w O:=by
 have ZX:∀(vs:aP)(w:X),(callFunc 235 vs).run W w=.ok (.enter 235 vs) w:=λvs w=>by go_simp
 have a4w:∀(vs:aP)(w:X),(callFunc 237 vs).run W w=.ok (.enter 237 vs) w:=λvs w=>by go_simp
 have hF:=fE m s bE bS p g (Z Ab nb cb) q fQ gO F M B T;have hS:=Solo.begin_ hM hV;have gl:=dT w (.cells (e.agg A c) 40);have gU:=eJ.made w 40 (e.agg A c);obtain⟨y,HY⟩:=az ((w:Nat):Nat);obtain⟨wa,lZ⟩:=az (w.alloc (.cells (e.agg A c) 40):X);rw[<-lZ.out] at gl gU;rw[<-HY.out] at gU;unfold En.agg at lZ ⊢;have mh:=hS.join hF gl (R:=Cell y 40 (e,A,c)) (U:=λb=>b=y) ⟨rfl,gU⟩ (λb hb=>by have:=HY.out;have:=gU.lt;omega);have rj:=hF.cons (Cell.framed y 40 (e,A,c));have Fq:=mh.blk 0 rfl;have ry:=mh.blk 1 rfl;clear gU;go_in;go_wp2_with fail;rw[<-lZ.out,<-HY.out];have c0:=λw1(H:Grow _ w1)=>(ry.grow H).cell 0;have c1:=λw1(H:Grow _ w1)=>(Fq.grow H).cell 5;refine jo 6 λw1 H=>?_;clear c0 c1;have ej:=mh.grows rj H;have J1:=dM.dK (V:=nU V w) (gl.trans H);have F6:=hd.grow (gl.trans H);have oJ:=ej.Ys 2 rfl rj (λU hU jR UK=>abk.sX w1 s q U hU jR A e.ds.length c e.ds D F6 (λb hb hu=>(UK b hu).elim (kV b hb) (λh=>by have:=j6 b hb;omega)) iZ hn hq);rw[yR] at oJ;go_wp2_with fail;refine oJ.mono ?_;rintro en w2 ⟨rfl,k7,dV⟩;obtain⟨q',HQ⟩:=az (abk.nj q e.ds:abk.Sm);rw[<-HQ.out] at dV;have dV:Solo (nU V w) (dN (Cell y 40 (e,A,c)::gJ m s bE bS p g (Z Ab nb cb) q' fQ gO F M B R)) w2:=dV;have Oo:=(fE m s bE bS p g (Z Ab nb cb) q' fQ gO F M B T).cons (Cell.framed y 40 (e,A,c));have Cz:=dV.blk 5 rfl;have K6:=dV.blk 0 rfl;go_wp2_with fail;have c0:=λw3(pG:Grow _ w3)=>(Cz.grow pG).cell 0;have c1:=λw3(pG:Grow _ w3)=>(K6.grow pG).cell 3;refine jo 7 λw3 pG=>?_;clear c0 c1;have dX:=dV.grows Oo pG;have sy:=dX.Ys (S':=Cell g 328 #[J (abq.ij F M e.sq).1,ae ah ((abq.ij F M e.sq).2:Int)]) 6 rfl Oo (λU hU jR UK=>(abq.IP w3 g F M e.sq hU.2 hI pi).mono λen O ⟨I,G,L⟩=>⟨I,⟨.inl hU.1,G⟩,dM.jA L hU.1⟩);go_wp2_with fail;refine sy.mono ?_;rintro en w4 ⟨rfl,CG,eO⟩;have eO:Solo (nU V w) (dN (Cell y 40 (e,A,c)::gJ m s bE bS p g (Z Ab nb cb) q' fQ gO (abq.ij F M e.sq).1 (abq.ij F M e.sq).2 B R)) w4:=eO;obtain⟨F',HF⟩:=az ((abq.ij F M e.sq).1:Int);obtain⟨M',ZY⟩:=az ((abq.ij F M e.sq).2:Nat);rw[<-HF.out,<-ZY.out] at eO;have ZZ:=(fE m s bE bS p g (Z Ab nb cb) q' fQ gO F' M' B T).cons (Cell.framed y 40 (e,A,c));have Z_:=eO.blk 0 rfl;have VP:=eO.blk 1 rfl;go_wp2_with fail;have c0:=λw5(E8:Grow _ w5)=>(VP.grow E8).cell 2;have c1:=λw5(E8:Grow _ w5)=>(Z_.grow E8).cell 1;have c2:=λw5(E8:Grow _ w5)=>(Z_.grow E8).cell 2;refine jo 12 λw5 E8=>?_;clear c0 c1 c2;have eF:=eO.grows ZZ E8;obtain⟨w6,eR,eN,Uw⟩:=eF.R3 (φ:=λO=>(Instr.mapUpdate 136 (.map (some bS)) (aZ #[J e.ag,J e.sh]) ((p:K))).run W w5=.ok () O) 4 rfl ZZ (λU hU jR=>by obtain⟨O,I,G,L⟩:=eI.put Ww (t:=136) (et:=268) aw hU (e.ag,e.sh) ((p:K));exact⟨O,I,G,L.imp λb hb=>hb▸hU.1⟩)
 go_wp2;go_ret;obtain⟨r1,r2⟩:=Solo.done (l:=gJ m s bE bS p g (Z Ab nb cb) q' fQ (l9 gO (e.ag,e.sh) ((p:K))) F' M' B R) eN.drop1 (((J1.trans k7).trans ((dM.dK pG).trans CG)).trans ((dM.dK E8).trans Uw)) hV;rw[<-HQ.out,<-HF.out,<-ZY.out];exact⟨rfl,r1,r2⟩
theorem E9(w:X)(m s bE bS p g:Nat)(Ab:aU)(nb cb:Nat)(q:abk.Sm)(fQ:List (Int×K))(gO:List (Key×K))(F:Int)(M:Nat)(B:aN)(R:dW)(T:eu R)(e:En)(A:aU)(c:Nat)(D V:aV)(hM:dN (gJ m s bE bS p g (Z Ab nb cb) q fQ gO F M B R) w V)(hV:∀b,V b->b<(w:Nat))(hd:jM w D A e.ds.length e.ds)(j6:∀b,D b->b<(w:Nat))(kV:∀b,D b->¬ V b)(iZ:∀d∈e.ds,d.1.size<=dG∧d.2<=abk.o6)(hn:e.ds.length<=1048576)(hq:q.length<=1048576)(hI:abq.jW F M)(pi:-9223372036854775808<=e.sq∧e.sq<=9223372036854775807)(yR:abk.iV q e.ds≠0)(K4:8<=nb):dz W 178 #[m,p,aZ (e.agg A c)] w λen O=>en=b5 (J 5)∧dN (gJ m s bE bS p g (Z Ab nb cb) q fQ gO F M B R) O (iY V w O)∧dM V w O:=by
 have ZX:∀(vs:aP)(w:X),(callFunc 235 vs).run W w=.ok (.enter 235 vs) w:=λvs w=>by go_simp
 have hF:=fE m s bE bS p g (Z Ab nb cb) q fQ gO F M B T;have hS:=Solo.begin_ hM hV;have gl:=dT w (.cells (e.agg A c) 40);have gU:=eJ.made w 40 (e.agg A c);obtain⟨y,HY⟩:=az ((w:Nat):Nat);obtain⟨wa,lZ⟩:=az (w.alloc (.cells (e.agg A c) 40):X);rw[<-lZ.out] at gl gU;rw[<-HY.out] at gU;unfold En.agg at lZ ⊢;have mh:=hS.join hF gl (R:=Cell y 40 (e,A,c)) (U:=λb=>b=y) ⟨rfl,gU⟩ (λb hb=>by have:=HY.out;have:=gU.lt;omega);have rj:=hF.cons (Cell.framed y 40 (e,A,c));have Fq:=mh.blk 0 rfl;have ry:=mh.blk 1 rfl;clear gU;go_in;go_wp2_with fail;rw[<-lZ.out,<-HY.out];have c0:=λw1(H:Grow _ w1)=>(ry.grow H).cell 0;have c1:=λw1(H:Grow _ w1)=>(Fq.grow H).cell 5;refine jo 6 λw1 H=>?_;clear c0 c1;have ej:=mh.grows rj H;have J1:=dM.dK (V:=nU V w) (gl.trans H);have F6:=hd.grow (gl.trans H);have oJ:=ej.Ys 2 rfl rj (λU hU jR UK=>abk.sX w1 s q U hU jR A e.ds.length c e.ds D F6 (λb hb hu=>(UK b hu).elim (kV b hb) (λh=>by have:=j6 b hb;omega)) iZ hn hq);have qC:abk.nj q e.ds=q:=by unfold abk.nj;rw[aB yR]
 rw[qC] at oJ;obtain⟨x,HX⟩:=az (abk.iV q e.ds:Int);rw[<-HX.out] at oJ yR;have yS:(x != 0)=true:=bne_iff_ne.2 yR;have lU:decide ((8:Int)<=(nb:Int))=true:=aC ap;go_wp2_with fail;refine oJ.mono ?_;rintro en w2 ⟨rfl,k7,dV⟩;have dV:Solo (nU V w) (dN (Cell y 40 (e,A,c)::gJ m s bE bS p g (Z Ab nb cb) q fQ gO F M B R)) w2:=dV;have Cz:=dV.blk 5 rfl;have c1:=Cz.cell 1;clear yR K4;go_wp2;go_ret;obtain⟨r1,r2⟩:=Solo.done (l:=gJ m s bE bS p g (Z Ab nb cb) q fQ gO F M B R) dV.drop1 (J1.trans k7) hV;exact⟨rfl,r1,r2⟩
end Go.Proofs.YtpeepcmdehhbgaaGreatDoor
section
namespace Go.Hop
open Go.RowKit
def a00(U:aV)(w0:X)(e:dC)(size n:Nat)(xs:List K)(u:K)(w:X):Prop:=Own w (iY U w0 w) e size u n xs
theorem Own.drew{w:X}{V:aV}{e:dC}{size n:Nat}{v:K}{xs:List K}(h:Own w V e size v n xs):Own w.drew V e size v n xs:=h
theorem GK{P:dD}{t e:dC}{size bytes:Nat}{z:K}(abl:Elem P t e size bytes z){w0:X}{y:Operand}{n:Nat}{xs:List K}(hI:Own w V e size v n xs)(Y:ρ x=v){A:aU}{c Bd:Nat}{news:List K}(hy:ρ y=Z A m c)(hr:Reads w Bd size A m news)
 (I:∀u∈news,u.oneCell'=true) (fw:(n+m)*bytes<=140737488355328) (h0:(w0:Nat)<=(w:Nat)) (ho:o.op=.call { callee := .builtin .append,args:=#[x,y],argTypes:=#[t,t] }) (k:Nat):gE P (λu O=>dM V w O∧Own O V e size v n xs∧Once (a00 V w0 e size (n+m) (xs++news)) (k+1) u O) ((execOp ρ o).run P w):=by
 obtain⟨v',O,eR,G,L,h4⟩:=vy abl w o.type v n xs hI Bd A m c news hr I fw;refine gv (u:=v') (w:=O) ?_ ⟨L,h4,show Own O (iY V w0 O) e size v' (n+m) (xs++news) from G.mono λb hb=>?_⟩
 ·unfold execOp
  simp only[ho,resolve,invoke,builtin,Sem.run_bind,Sem.run_pure,Result.andThen_ok,cV,bQ,cQ,Y,hy,eR]
 ·rcases hb with hb|hb
  ·exact .inl hb
  ·exact .inr ⟨bB h0 hb.1,hb.2⟩
end Go.Hop
namespace Go.Proofs.YtpeepcmdehhbgaaGreatDoor
open Go.RowKit Go.Hop
theorem Oq{n:Int}(Y:ρ x=J n)(ho:o.op=.buildSlice 72 1 #[(0,x)]):gE W (λu O=>Grow w O∧Zh 1 1 [J n] u O) ((execOp ρ o).run W w):=by obtain⟨dst,op,ty,pos,after,guard⟩:=o;simp only at ho;subst ho;have H:Grow w (w.alloc (.cells #[J n] 2)):=(Below.refl _ w).alloc (bh _) _;refine gv (u := Z (some ⟨(w:Nat),0,none⟩) 1 1) (w:=w.alloc (.cells #[J n] 2)) (by go_simp) ⟨H,some ⟨(w:Nat),0,none⟩,1,rfl,?_⟩;exact Reads.more (fF w #[J n] 2 (0,0) (n:=1) (size:=1) rfl _ rfl) (by simp)
theorem GL(w:X)(m s bE bS p g:Nat)(Ab:aU)(nb cb:Nat)(q:abk.Sm)(fQ:List (Int×K))(gO:List (Key×K))(F:Int)(M:Nat)(B:aN)(R:dW)(T:eu R)(e:En)(A:aU)(c:Nat)(D V:aV)(hM:dN (gJ m s bE bS p g (Z Ab nb cb) q fQ gO F M B R) w V)(hV:∀b,V b->b<(w:Nat))(hd:jM w D A e.ds.length e.ds)(j6:∀b,D b->b<(w:Nat))(kV:∀b,D b->¬ V b)(iZ:∀d∈e.ds,d.1.size<=dG∧d.2<=abk.o6)(hn:e.ds.length<=1048576)(hq:q.length<=1048576)(hI:abq.jW F M)(pi:-9223372036854775808<=e.sq∧e.sq<=9223372036854775807)(yR:abk.iV q e.ds≠0)(K4:nb<8)(hB:B.length=nb):dz W 178 #[m,p,aZ (e.agg A c)] w λen O=>en=b5 (J 3)∧(∃v,dN (gJ m s bE bS p g v q fQ (l9 gO (e.ag,e.sh) ((p:K))) (abq.ij F M e.sq).1 (abq.ij F M e.sq).2 (pB (B++[e.sq])) R) O (iY V w O))∧dM V w O:=by
 have ZX:∀(vs:aP)(w:X),(callFunc 235 vs).run W w=.ok (.enter 235 vs) w:=λvs w=>by go_simp
 have a4w:∀(vs:aP)(w:X),(callFunc 237 vs).run W w=.ok (.enter 237 vs) w:=λvs w=>by go_simp
 have k236:∀(vs:aP)(w:X),(callFunc 236 vs).run W w=.ok (.enter 236 vs) w:=λvs w=>by go_simp
 have hF:=fE m s bE bS p g (Z Ab nb cb) q fQ gO F M B T;have hS:=Solo.begin_ hM hV;have gl:=dT w (.cells (e.agg A c) 40);have gU:=eJ.made w 40 (e.agg A c);obtain⟨y,HY⟩:=az ((w:Nat):Nat);obtain⟨wa,lZ⟩:=az (w.alloc (.cells (e.agg A c) 40):X);rw[<-lZ.out] at gl gU;rw[<-HY.out] at gU;unfold En.agg at lZ ⊢;have mh:=hS.join hF gl (R:=Cell y 40 (e,A,c)) (U:=λb=>b=y) ⟨rfl,gU⟩ (λb hb=>by have:=HY.out;have:=gU.lt;omega);have rj:=hF.cons (Cell.framed y 40 (e,A,c));have Fq:=mh.blk 0 rfl;have ry:=mh.blk 1 rfl;clear gU;go_in;go_wp2_with fail;rw[<-lZ.out,<-HY.out];have c0:=λw1(H:Grow _ w1)=>(ry.grow H).cell 0;have c1:=λw1(H:Grow _ w1)=>(Fq.grow H).cell 5;refine jo 6 λw1 H=>?_;clear c0 c1;have ej:=mh.grows rj H;have J1:=dM.dK (V:=nU V w) (gl.trans H);have F6:=hd.grow (gl.trans H);have oJ:=ej.Ys 2 rfl rj (λU hU jR UK=>abk.sX w1 s q U hU jR A e.ds.length c e.ds D F6 (λb hb hu=>(UK b hu).elim (kV b hb) (λh=>by have:=j6 b hb;omega)) iZ hn hq);have qC:abk.nj q e.ds=q:=by unfold abk.nj;rw[aB yR]
 rw[qC] at oJ;obtain⟨x,HX⟩:=az (abk.iV q e.ds:Int);rw[<-HX.out] at oJ yR;have yS:(x != 0)=true:=bne_iff_ne.2 yR;have lU:decide ((8:Int)<=(nb:Int))=false:=aD ap;go_wp2_with fail;refine oJ.mono ?_;rintro en w2 ⟨rfl,k7,dV⟩;have dV:Solo (nU V w) (dN (Cell y 40 (e,A,c)::gJ m s bE bS p g (Z Ab nb cb) q fQ gO F M B R)) w2:=dV;have Cz:=dV.blk 5 rfl;have c1:=Cz.cell 1;clear yR;have HB:=Q hB;go_wp2_with fail;obtain⟨U,hU,jR,hUo⟩:=Solo.opx (S:=tv (Z Ab nb cb) B) 7 rfl rj dV;have hU:Own w2 U 2 1 (Z Ab nb cb) B.length (lI B):=hU;rw[hB] at hU;clear hB;have Up:∀w3,dM U w2 w3->eJ w3 p 272 #[g,Z Ab nb cb]:=λw3 hj=>(hUo Yr w3 trivial hj).1.blk 5 rfl;have hYj:∀w3,dM U w2 w3->eJ w3 y 40 (e,A,c):=λw3 hj=>(hUo Yr w3 trivial hj).1.blk 0 rfl;have gd:Grow w2 w2.drew:=(Grow.refl _).drew;have jd:dM U w2 w2.drew:=dM.dK gd;refine dJ rfl ?_;refine fC (dM U w2) [10,11,12] 13 rfl [0,1,2,3,4,5,6,7] ?_;iterate 8 refine eV rfl jd (λw3 hj R T=>by have c:=(Up w3 hj).cell 1;have c':=(hYj w3 hj).cell 3;go_simp;exact T) ?_
 refine eZ 8 [] rfl ?_;refine fV rfl (Oq (n:=e.sq) (x := .tmp 29) rfl rfl) ?_;rintro v30 u3 ⟨ib,A9,c9,rfl,QC⟩;replace ib:=gd.trans ib;go_wp2_with fail;refine⟨λ_=>dM.dK ib,?_⟩;refine eZ 9 [] rfl ?_;refine fV rfl (GK (w0:=w2) (x := .tmp 26) (y := .tmp 30) a3S (Own.grows hU ib) rfl rfl QC (Nr [e.sq]) ap ib.size rfl 0) ?_;rintro v31 w3 ⟨QQ,_,nt⟩;replace QQ:dM U w2 w3:=(dM.dK ib).trans QQ;have nt:a00 U w2 2 1 (nb+1) (lI B++[J e.sq]) v31 w3:=nt;go_wp2_with fail;refine⟨λ_=>QQ,?_⟩;refine fY 10 rfl aw ?_;obtain⟨A3,c3,rfl,_,_,_⟩:=Own.reads nt;have a01:tv (Z A3 (nb+1) c3) (B++[e.sq]) w3 (iY U w2 w3):=by
  have e1:lI B++[J e.sq]=lI (B++[e.sq]):=by simp[lI]
  have e2:nb+1=(B++[e.sq]).length:=by rw[bd,HB.out];rfl
  show Own w3 (iY U w2 w3) 2 1 (Z A3 (nb+1) c3) (B++[e.sq]).length (lI (B++[e.sq]));rw[<-e2,<-e1];exact nt
 obtain⟨dX,J3⟩:=hUo _ w3 a01 QQ;have dX:Solo (nU V w) (dN [Cell y 40 (e,A,c),Cell m 138 #[s,.map (some bE),.map (some bS)],abk.gT s q,eI o0 bE fQ,eI GD bS gO,Cell p 272 #[g,Z Ab nb cb],Cell g 328 #[J F,ae ah M],tv (Z A3 (nb+1) c3) (B++[e.sq]),R]) w3:=dX;have hF3:eG [Cell y 40 (e,A,c),Cell m 138 #[s,.map (some bE),.map (some bS)],abk.gT s q,eI o0 bE fQ,eI GD bS gO,Cell p 272 #[g,Z Ab nb cb],Cell g 328 #[J F,ae ah M],tv (Z A3 (nb+1) c3) (B++[e.sq]),R]:=((((((((eG.nil.cons T).cons (tv.framed _ _)).cons (Cell.framed _ _ _)).cons (Cell.framed _ _ _)).cons (eI.framed _ _)).cons (eI.framed _ _)).cons (abk.gT.framed _ _)).cons (Cell.framed _ _ _)).cons (Cell.framed _ _ _);have Yg:=dX.blk 5 rfl;have c1:=Yg.cell 1;have f1:=Yg.frozen 1;have eO:Solo (nU V w) (dN (Cell y 40 (e,A,c)::gJ m s bE bS p g (Z A3 (nb+1) c3) q fQ gO F M (B++[e.sq]) R)) (w3.setCell ⟨p,1,none⟩ (Z A3 (nb+1) c3)):=Solo.puts (x:=p) (t:=272) (cs:=#[g,Z Ab nb cb]) 5 rfl hF3 dX 1 (Z A3 (nb+1) c3);have J4:dM (nU V w) w (w3.setCell ⟨p,1,none⟩ (Z A3 (nb+1) c3)):=((J1.trans k7).trans J3).put (dX.Vy 5 rfl).1 1 (Z A3 (nb+1) c3);obtain⟨B2,HB2⟩:=az (B++[e.sq]:List Int);obtain⟨w4,HW4⟩:=az (w3.setCell ⟨p,1,none⟩ (Z A3 (nb+1) c3):X);rw[<-HB2.out] at eO;rw[<-HW4.out] at eO J4;have hF4:=(fE m s bE bS p g (Z A3 (nb+1) c3) q fQ gO F M B2 T).cons (Cell.framed y 40 (e,A,c));clear Cz Up hYj hUo nt a01 dX hF3 hU jR Fq ry;have hp4:=eO.blk 5 rfl;have d1:=hp4.cell 1;have a4x:=eO.Ys (S':=tv (Z A3 (nb+1) c3) (pB B2)) 7 rfl hF4 (λU hU jR UK=>(Kv w4 U (Z A3 (nb+1) c3) B2 hU (by rw[HB2.out,bd,HB.out,bv];omega)).mono λen O ⟨I,G,L⟩=>⟨I,G.mono λ_ h => .inl h,L⟩);go_wp2_with fail;rw[<-HW4.out];clear c1 f1 Yg;go_wp2_with fail;refine a4x.mono ?_;rintro en w5 ⟨rfl,ra,eF⟩;have eF:Solo (nU V w) (dN (Cell y 40 (e,A,c)::gJ m s bE bS p g (Z A3 (nb+1) c3) q fQ gO F M (pB B2) R)) w5:=eF;obtain⟨B3,HB3⟩:=az (pB B2:aN);rw[<-HB3.out] at eF;have Oo:=(fE m s bE bS p g (Z A3 (nb+1) c3) q fQ gO F M B3 T).cons (Cell.framed y 40 (e,A,c));clear d1 hp4;have Cz:=eF.blk 5 rfl;have K6:=eF.blk 0 rfl;go_wp2_with fail;have c0:=λw7(pG:Grow _ w7)=>(Cz.grow pG).cell 0;have c1:=λw7(pG:Grow _ w7)=>(K6.grow pG).cell 3;refine jo 7 λw7 pG=>?_;clear c0 c1;have fH:=eF.grows Oo pG;have sy:=fH.Ys (S':=Cell g 328 #[J (abq.ij F M e.sq).1,ae ah ((abq.ij F M e.sq).2:Int)]) 6 rfl Oo (λU hU jR UK=>(abq.IP w7 g F M e.sq hU.2 hI pi).mono λen O ⟨I,G,L⟩=>⟨I,⟨.inl hU.1,G⟩,dM.jA L hU.1⟩);go_wp2_with fail;refine sy.mono ?_;rintro en w8 ⟨rfl,CG,fD⟩;have fD:Solo (nU V w) (dN (Cell y 40 (e,A,c)::gJ m s bE bS p g (Z A3 (nb+1) c3) q fQ gO (abq.ij F M e.sq).1 (abq.ij F M e.sq).2 B3 R)) w8:=fD;obtain⟨F',HF⟩:=az ((abq.ij F M e.sq).1:Int);obtain⟨M',ZY⟩:=az ((abq.ij F M e.sq).2:Nat);rw[<-HF.out,<-ZY.out] at fD;have ZZ:=(fE m s bE bS p g (Z A3 (nb+1) c3) q fQ gO F' M' B3 T).cons (Cell.framed y 40 (e,A,c));have Z_:=fD.blk 0 rfl;have VP:=fD.blk 1 rfl;go_wp2_with fail;have c0:=λw9(E8:Grow _ w9)=>(VP.grow E8).cell 2;have c1:=λw9(E8:Grow _ w9)=>(Z_.grow E8).cell 1;have c2:=λw9(E8:Grow _ w9)=>(Z_.grow E8).cell 2;refine jo 12 λw9 E8=>?_;clear c0 c1 c2;have eF:=fD.grows ZZ E8;obtain⟨wA,eR,eN,Uw⟩:=eF.R3 (φ:=λO=>(Instr.mapUpdate 136 (.map (some bS)) (aZ #[J e.ag,J e.sh]) ((p:K))).run W w9=.ok () O) 4 rfl ZZ (λU hU jR=>by obtain⟨O,I,G,L⟩:=eI.put Ww (t:=136) (et:=268) aw hU (e.ag,e.sh) ((p:K));exact⟨O,I,G,L.imp λb hb=>hb▸hU.1⟩)
 go_wp2;go_ret;obtain⟨r1,r2⟩:=Solo.done (l:=gJ m s bE bS p g (Z A3 (nb+1) c3) q fQ (l9 gO (e.ag,e.sh) ((p:K))) F' M' B3 R) eN.drop1 (((J4.trans ra).trans ((dM.dK pG).trans CG)).trans ((dM.dK E8).trans Uw)) hV;rw[HB2.out] at HB3;rw[<-HB3.out,<-HF.out,<-ZY.out];exact⟨rfl,⟨_,r1⟩,r2⟩
end Go.Proofs.YtpeepcmdehhbgaaGreatDoor
end
namespace Go.Proofs.YtpeepcmdehhbgaaGreatDoor
open RowKit Hop
theorem Ea(w:X)(m:Nat)(q:abk.Sm)(fQ:List (Int×K))(kA:List (Key×Pl))(e:En)(A:aU)(c:Nat)(D V:aV)(hV:∀b,V b->b<(w:Nat))(gC:e.Ok)(N:e.k=1)(hd:jM w D A e.ds.length e.ds)(j6:∀b,D b->b<(w:Nat))(kV:∀b,D b->¬ V b)(F:Int)(M:Nat)(B:aN)(kY:gW kA (e.ag,e.sh)=⟨F,M,B⟩)(K7:B.length<=1048576)(hI:abq.jW F M)(pi:-9223372036854775808<=e.sq∧e.sq<=9223372036854775807)(zb:abq.seen F M e.sq=true)(Yh:e.sq∈B)(h:i8 m q fQ kA w V):dz W 111 #[m,aZ (e.agg A c)] w λen O=>en=b5 (a_ #[J 3,ae ah 0])∧i8 m q fQ kA O (iY V w O)∧dM V w O:=by
 have Sk:∀(vs:aP)(w:X),(callFunc 175 vs).run W w=.ok (.enter 175 vs) w:=λvs w=>by go_simp
 have a4y:∀(vs:aP)(w:X),(callFunc 176 vs).run W w=.ok (.enter 176 vs) w:=λvs w=>by go_simp
 have gl:=dT w (.cells (e.agg A c) 40);have gU:=eJ.made w 40 (e.agg A c);obtain⟨y,HY⟩:=az ((w:Nat):Nat);obtain⟨wa,lZ⟩:=az (w.alloc (.cells (e.agg A c) 40):X);rw[<-lZ.out] at gl gU;rw[<-HY.out] at gU;have m6:=ju wa e D A c gC (In.grow hd gl);unfold En.agg at lZ m6 gU ⊢;have ip:(e.k == 2)=false:=by rw[N];rfl
 clear N;go_in;go_wp2_with fail;rw[<-lZ.out,<-HY.out];refine m6.mono ?_;rintro en wb ⟨rfl,mK⟩;have rL:=gU.grow mK;have y0:=rL.cell 0;have y1:=rL.cell 1;have y2:=rL.cell 2;have Jh:=tA wb m q fQ kA V (λb hb=>bw (hV b hb) (gl.trans mK).size) e.ag e.sh (i8.framed m q fQ kA w wb V h λb hb=>(gl.trans mK).block b (hV b hb));rw[kY] at Jh;clear h;go_wp2_with fail;clear y0 y1 y2;refine Jh.mono ?_;rintro en w0 ⟨s,bE,bS,p,g,v,gO,R,rfl,hO,pO,U,uY,hU⟩;have T:=hO.framed;obtain⟨UB,Ji,_⟩:=(dN.pick _ 6 _ rfl uY).fst;obtain⟨Ab,cb,rfl,zF,_,_⟩:=Own.reads (show Own w0 UB 2 1 v B.length (lI B) from Ji);obtain⟨nb,QD⟩:∃nb:Nat,Hid (B.length=nb):=⟨_,Q rfl⟩;rw[QD.out] at uY zF K7;clear Ji;have tT:Grow w w0:=(gl.trans mK).trans pO;have Qg:(w:Nat)<=y∧y<(wb:Nat):=by have:=HY.out;have:=rL.lt;omega
 have Sl:=pO.size;have k_:∀b,New wb w0 b->(w:Nat)<=b:=λb hb=>by have:=hb.1;have:=(gl.trans mK).size;omega
 have hF:=fE m s bE bS p g (Z Ab nb cb) q fQ gO F M B T;have rj:=hF.cons (Cell.framed y 40 (e,A,c));have fN:Solo (nU V w) (dN (Cell y 40 (e,A,c)::gJ m s bE bS p g (Z Ab nb cb) q fQ gO F M B R)) w0:=
  Solo.D3 (U:=λb=>b=y) (λb hb => .inr ap) uY (λb hb=>(hU b hb).elim (λh=>⟨.inl h,by have:=hV b h;omega⟩) (λh=>⟨.inr (k_ b h),h.2⟩)) ⟨rfl,rL.grow pO⟩
   (λb hb=>by rw[hb];exact⟨.inr Qg.1,by omega,λh=>(hU y h).elim (λh=>by have:=hV y h;omega) (λh=>by have:=h.1;omega)⟩)
 have J0:=dM.dK (V:=nU V w) tT;have Iz:=fN.blk 0 rfl;have sx:=fN.blk 5 rfl;have xW:=fN.blk 6 rfl;have Ot:∀w1,Grow w0 w1->dz W 176 #[Z Ab nb cb,J e.sq] w1 λen O=>en=b5 (aY true)∧Grow w1 O:=λw1 H=>by have h:=zU w1 (λb=>b<(w0:Nat)) Ab nb cb B e.sq (In.grow (Reads.jL (V:=λb=>b<(w0:Nat)) zF (bh _) λ_ h=>h) H) K7;rw[aC Yh] at h;exact h
 have Jj:∀w1,Grow w0 w1->dz W 175 #[g,J e.sq] w1 λen O=>en=b5 (aY true)∧Grow w1 O:=λw1 H=>by have h:=abq.ol w1 g F M e.sq (xW.grow H) hI pi;rw[zb] at h;exact h
 clear zF;go_wp2_with fail;have c0:=λw1(H:Grow _ w1)=>(sx.grow H).cell 0;have c1:=λw1(H:Grow _ w1)=>(Iz.grow H).cell 3;have c2:=λw1(H:Grow _ w1)=>(sx.grow H).cell 1;refine fh ?_;intro w1 H;clear c0 c1 c2;have vi:=H;have ej:=fN.grows rj vi;go_wp2;go_ret2;obtain⟨r1,r2⟩:=Solo.done (l:=gJ m s bE bS p g (Z Ab nb cb) q fQ gO F M B R) (ej.drop1) (J0.trans (dM.dK vi)) hV;exact⟨rfl,mT hO r1,r2⟩
theorem GM(w:X)(m:Nat)(q:abk.Sm)(fQ:List (Int×K))(kA:List (Key×Pl))(e:En)(A:aU)(c:Nat)(D V:aV)(hV:∀b,V b->b<(w:Nat))(gC:e.Ok)(N:e.k=1)(hd:jM w D A e.ds.length e.ds)(j6:∀b,D b->b<(w:Nat))(kV:∀b,D b->¬ V b)(F:Int)(M:Nat)(B:aN)(kY:gW kA (e.ag,e.sh)=⟨F,M,B⟩)(K7:B.length<=1048576)(hI:abq.jW F M)(pi:-9223372036854775808<=e.sq∧e.sq<=9223372036854775807)(zb:abq.seen F M e.sq=true)(Yh:e.sq ∉ B)(h:i8 m q fQ kA w V):dz W 111 #[m,aZ (e.agg A c)] w λen O=>en=b5 (a_ #[J 2,ae ah 0])∧i8 m q fQ kA O (iY V w O)∧dM V w O:=by
 have Sk:∀(vs:aP)(w:X),(callFunc 175 vs).run W w=.ok (.enter 175 vs) w:=λvs w=>by go_simp
 have a4y:∀(vs:aP)(w:X),(callFunc 176 vs).run W w=.ok (.enter 176 vs) w:=λvs w=>by go_simp
 have gl:=dT w (.cells (e.agg A c) 40);have gU:=eJ.made w 40 (e.agg A c);obtain⟨y,HY⟩:=az ((w:Nat):Nat);obtain⟨wa,lZ⟩:=az (w.alloc (.cells (e.agg A c) 40):X);rw[<-lZ.out] at gl gU;rw[<-HY.out] at gU;have m6:=ju wa e D A c gC (In.grow hd gl);unfold En.agg at lZ m6 gU ⊢;have ip:(e.k == 2)=false:=by rw[N];rfl
 clear N;go_in;go_wp2_with fail;rw[<-lZ.out,<-HY.out];refine m6.mono ?_;rintro en wb ⟨rfl,mK⟩;have rL:=gU.grow mK;have y0:=rL.cell 0;have y1:=rL.cell 1;have y2:=rL.cell 2;have Jh:=tA wb m q fQ kA V (λb hb=>bw (hV b hb) (gl.trans mK).size) e.ag e.sh (i8.framed m q fQ kA w wb V h λb hb=>(gl.trans mK).block b (hV b hb));rw[kY] at Jh;clear h;go_wp2_with fail;clear y0 y1 y2;refine Jh.mono ?_;rintro en w0 ⟨s,bE,bS,p,g,v,gO,R,rfl,hO,pO,U,uY,hU⟩;have T:=hO.framed;obtain⟨UB,Ji,_⟩:=(dN.pick _ 6 _ rfl uY).fst;obtain⟨Ab,cb,rfl,zF,_,_⟩:=Own.reads (show Own w0 UB 2 1 v B.length (lI B) from Ji);obtain⟨nb,QD⟩:∃nb:Nat,Hid (B.length=nb):=⟨_,Q rfl⟩;rw[QD.out] at uY zF K7;clear Ji;have tT:Grow w w0:=(gl.trans mK).trans pO;have Qg:(w:Nat)<=y∧y<(wb:Nat):=by have:=HY.out;have:=rL.lt;omega
 have Sl:=pO.size;have k_:∀b,New wb w0 b->(w:Nat)<=b:=λb hb=>by have:=hb.1;have:=(gl.trans mK).size;omega
 have hF:=fE m s bE bS p g (Z Ab nb cb) q fQ gO F M B T;have rj:=hF.cons (Cell.framed y 40 (e,A,c));have fN:Solo (nU V w) (dN (Cell y 40 (e,A,c)::gJ m s bE bS p g (Z Ab nb cb) q fQ gO F M B R)) w0:=
  Solo.D3 (U:=λb=>b=y) (λb hb => .inr ap) uY (λb hb=>(hU b hb).elim (λh=>⟨.inl h,by have:=hV b h;omega⟩) (λh=>⟨.inr (k_ b h),h.2⟩)) ⟨rfl,rL.grow pO⟩
   (λb hb=>by rw[hb];exact⟨.inr Qg.1,by omega,λh=>(hU y h).elim (λh=>by have:=hV y h;omega) (λh=>by have:=h.1;omega)⟩)
 have J0:=dM.dK (V:=nU V w) tT;have Iz:=fN.blk 0 rfl;have sx:=fN.blk 5 rfl;have xW:=fN.blk 6 rfl;have Ot:∀w1,Grow w0 w1->dz W 176 #[Z Ab nb cb,J e.sq] w1 λen O=>en=b5 (aY false)∧Grow w1 O:=λw1 H=>by have h:=zU w1 (λb=>b<(w0:Nat)) Ab nb cb B e.sq (In.grow (Reads.jL (V:=λb=>b<(w0:Nat)) zF (bh _) λ_ h=>h) H) K7;rw[aD Yh] at h;exact h
 have Jj:∀w1,Grow w0 w1->dz W 175 #[g,J e.sq] w1 λen O=>en=b5 (aY true)∧Grow w1 O:=λw1 H=>by have h:=abq.ol w1 g F M e.sq (xW.grow H) hI pi;rw[zb] at h;exact h
 clear zF;go_wp2_with fail;have c0:=λw1(H:Grow _ w1)=>(sx.grow H).cell 0;have c1:=λw1(H:Grow _ w1)=>(Iz.grow H).cell 3;have c2:=λw1(H:Grow _ w1)=>(sx.grow H).cell 1;refine fh ?_;intro w1 H;clear c0 c1 c2;have vi:=H;have ej:=fN.grows rj vi;have K2:=sx.grow vi;have Fq:=Iz.grow vi;go_wp2_with fail;have c0:=λw2(H:Grow _ w2)=>(K2.grow H).cell 0;have c1:=λw2(H:Grow _ w2)=>(Fq.grow H).cell 3;have c2:=λw2(H:Grow _ w2)=>Jj w2 (vi.trans H);refine fh ?_;intro w2 H;clear c0 c1 c2;have Ou:=H;have dV:=ej.grows rj Ou;go_wp2;go_ret2;obtain⟨r1,r2⟩:=Solo.done (l:=gJ m s bE bS p g (Z Ab nb cb) q fQ gO F M B R) (dV.drop1) ((J0.trans (dM.dK vi)).trans (dM.dK Ou)) hV;exact⟨rfl,mT hO r1,r2⟩
def a4z(b:Bool)(kA:List (Key×Pl))(k:Key)(x:Pl):List (Key×Pl):=if b then i_ kA k x else kA
def a4A(b:Bool)(gO:List (Key×K))(k:Key)(v:K):List (Key×K):=if b then l9 gO k v else gO
theorem pk(w:X)(m:Nat)(q:abk.Sm)(fQ:List (Int×K))(kA:List (Key×Pl))(e:En)(A:aU)(c:Nat)(D V:aV)(hV:∀b,V b->b<(w:Nat))(gC:e.Ok)(N:e.k=1)(hd:jM w D A e.ds.length e.ds)(j6:∀b,D b->b<(w:Nat))(kV:∀b,D b->¬ V b)(F:Int)(M:Nat)(B:aN)(kY:gW kA (e.ag,e.sh)=⟨F,M,B⟩)(K7:B.length<=1048576)(hI:abq.jW F M)(pi:-9223372036854775808<=e.sq∧e.sq<=9223372036854775807)(zb:abq.seen F M e.sq=false)(Ov:∃x:Int,(uk fQ e.ag).getD (J 0)=J x∧x<=e.ep)(QM:abq.far F e.sq=false)(code:Int)(q':abk.Sm)(b:Bool)(F':Int)(M':Nat)(B':aN)(hb:b=false->F'=F∧M'=M∧B'=B)
 (E:∀(w6:X)(s bE bS p g:Nat)(Ab:aU)(nb cb:Nat)(gO:List (Key×K))(R:dW)(U:aV),B.length=nb->eu R->dN (gJ m s bE bS p g (Z Ab nb cb) q (l9 fQ e.ag (J e.ep)) gO F M B R) w6 U->(∀b,U b->b<(w6:Nat))->jM w6 D A e.ds.length e.ds->(∀b,D b->b<(w6:Nat))->(∀b,D b->¬ U b)->
  dz W 178 #[m,p,aZ (e.agg A c)] w6 λen O=>en=b5 (J code)∧(∃v,dN (gJ m s bE bS p g v q' (l9 fQ e.ag (J e.ep)) (a4A b gO (e.ag,e.sh) ((p:K))) F' M' B' R) O (iY U w6 O))∧dM U w6 O) (h:i8 m q fQ kA w V):dz W 111 #[m,aZ (e.agg A c)] w λen O=>en=b5 (a_ #[J code,ae ah 0])∧i8 m q' (l9 fQ e.ag (J e.ep)) (a4z b kA (e.ag,e.sh) ⟨F',M',B'⟩) O (iY V w O)∧dM V w O:=by
 have Sk:∀(vs:aP)(w:X),(callFunc 175 vs).run W w=.ok (.enter 175 vs) w:=λvs w=>by go_simp
 have a4B:∀(vs:aP)(w:X),(callFunc 177 vs).run W w=.ok (.enter 177 vs) w:=λvs w=>by go_simp
 have gl:=dT w (.cells (e.agg A c) 40);have gU:=eJ.made w 40 (e.agg A c);obtain⟨y,HY⟩:=az ((w:Nat):Nat);obtain⟨wa,lZ⟩:=az (w.alloc (.cells (e.agg A c) 40):X);rw[<-lZ.out] at gl gU;rw[<-HY.out] at gU;have m6:=ju wa e D A c gC (In.grow hd gl);unfold En.agg at lZ m6 gU ⊢;have ip:(e.k == 2)=false:=by rw[N];rfl
 clear N;go_in;go_wp2_with fail;rw[<-lZ.out,<-HY.out];refine m6.mono ?_;rintro en wb ⟨rfl,mK⟩;have rL:=gU.grow mK;have y0:=rL.cell 0;have y1:=rL.cell 1;have y2:=rL.cell 2;have Jh:=tA wb m q fQ kA V (λb hb=>bw (hV b hb) (gl.trans mK).size) e.ag e.sh (i8.framed m q fQ kA w wb V h λb hb=>(gl.trans mK).block b (hV b hb));rw[kY] at Jh;clear h;go_wp2_with fail;clear y0 y1 y2;refine Jh.mono ?_;rintro en w0 ⟨s,bE,bS,p,g,v,gO,R,rfl,hO,pO,U,uY,hU⟩;have T:=hO.framed;obtain⟨UB,Ji,_⟩:=(dN.pick _ 6 _ rfl uY).fst;obtain⟨Ab,cb,rfl,zF,_,_⟩:=Own.reads (show Own w0 UB 2 1 v B.length (lI B) from Ji);obtain⟨nb,QD⟩:∃nb:Nat,Hid (B.length=nb):=⟨_,Q rfl⟩;rw[QD.out] at uY zF K7;clear Ji;have tT:Grow w w0:=(gl.trans mK).trans pO;have Qg:(w:Nat)<=y∧y<(wb:Nat):=by have:=HY.out;have:=rL.lt;omega
 have Sl:=pO.size;have k_:∀b,New wb w0 b->(w:Nat)<=b:=λb hb=>by have:=hb.1;have:=(gl.trans mK).size;omega
 have hF:=fE m s bE bS p g (Z Ab nb cb) q fQ gO F M B T;have rj:=hF.cons (Cell.framed y 40 (e,A,c));have fN:Solo (nU V w) (dN (Cell y 40 (e,A,c)::gJ m s bE bS p g (Z Ab nb cb) q fQ gO F M B R)) w0:=
  Solo.D3 (U:=λb=>b=y) (λb hb => .inr ap) uY (λb hb=>(hU b hb).elim (λh=>⟨.inl h,by have:=hV b h;omega⟩) (λh=>⟨.inr (k_ b h),h.2⟩)) ⟨rfl,rL.grow pO⟩
   (λb hb=>by rw[hb];exact⟨.inr Qg.1,by omega,λh=>(hU y h).elim (λh=>by have:=hV y h;omega) (λh=>by have:=h.1;omega)⟩)
 have pJ:(gO.map Prod.fst).Nodup:=by obtain⟨_,hG,_⟩:=fN.see 4 rfl;exact Lh hG
 have J0:=dM.dK (V:=nU V w) tT;have Iz:=fN.blk 0 rfl;have sx:=fN.blk 5 rfl;have xW:=fN.blk 6 rfl;have Jj:∀w1,Grow w0 w1->dz W 175 #[g,J e.sq] w1 λen O=>en=b5 (aY false)∧Grow w1 O:=λw1 H=>by have h:=abq.ol w1 g F M e.sq (xW.grow H) hI pi;rw[zb] at h;exact h
 clear zF;go_wp2_with fail;have c0:=λw1(H:Grow _ w1)=>(sx.grow H).cell 0;have c1:=λw1(H:Grow _ w1)=>(Iz.grow H).cell 3;refine fh ?_;intro w1 H;clear c0 c1;have vi:=H;have ej:=fN.grows rj vi;have K2:=sx.grow vi;have Fq:=Iz.grow vi;go_wp2_with fail;have c0:=λw2(H:Grow _ w2)=>(K2.grow H).cell 0;have c1:=λw2(H:Grow _ w2)=>(Fq.grow H).cell 3;have c2:=λw2(H:Grow _ w2)=>Jj w2 (vi.trans H);refine fh ?_;intro w2 H;clear c0 c1 c2;have Ou:=H;have dV:=ej.grows rj Ou;obtain⟨x,Y,hxe⟩:=Ov;have TY:decide (e.ep<x)=false:=aD ap;have Cv:∀w1,Grow w2 w1->(Instr.lookup 135 (.map (some bE)) (J e.ag) false).run W w1=.ok (J x) w1:=λw1 H=>by obtain⟨U3,hG3,_⟩:=(dV.grows rj H).see 3 rfl;have h:=eI.look Oe (t:=135) (et:=2) aw (zI w1) hG3 e.ag false;rw[aB am,Y] at h;exact h
 have zE:=dV.blk 1 rfl;have K6:=dV.blk 0 rfl;go_wp2_with fail;have c0:=λw3(H:Grow _ w3)=>(K6.grow H).cell 4;have c1:=λw3(H:Grow _ w3)=>(zE.grow H).cell 1;have c2:=λw3(H:Grow _ w3)=>(K6.grow H).cell 1;refine fh ?_;intro w3 H;clear c0 c1 c2;have UL:=H;have dX:=dV.grows rj UL;have R4:=dX.blk 1 rfl;have Wz:=dX.blk 0 rfl;clear Cv;go_wp2_with fail;have c0:=λw4(H:Grow _ w4)=>(R4.grow H).cell 1;have c1:=λw4(H:Grow _ w4)=>(Wz.grow H).cell 1;have c2:=λw4(H:Grow _ w4)=>(Wz.grow H).cell 4;refine jo 9 λw4 H=>?_;clear c0 c1 c2;have hgH:=H;have eO:=dX.grows rj hgH;obtain⟨w5,eR,eF,ra⟩:=eO.R3 (φ:=λO=>(Instr.mapUpdate 135 (.map (some bE)) (J e.ag) (J e.ep)).run W w4=.ok () O) 3 rfl rj (λU hU jR=>by obtain⟨O,I,G,L⟩:=eI.put Oe (t:=135) (et:=2) aw hU e.ag (J e.ep);exact⟨O,I,G,L.imp λb hb=>hb▸hU.1⟩)
 obtain⟨tB,HE⟩:=az (l9 fQ e.ag (J e.ep):List (Int×K));rw[<-HE.out] at eF;have eF:Solo (nU V w) (dN (Cell y 40 (e,A,c)::gJ m s bE bS p g (Z Ab nb cb) q tB gO F M B R)) w5:=eF;have Oo:=(fE m s bE bS p g (Z Ab nb cb) q tB gO F M B T).cons (Cell.framed y 40 (e,A,c));have J5:dM (nU V w) w w5:=((((J0.trans (dM.dK vi)).trans (dM.dK Ou)).trans (dM.dK UL)).trans (dM.dK hgH)).trans ra;clear R4 zE K6 Wz sx Iz xW K2 Fq;have hp5:=eF.blk 5 rfl;have YE:=eF.blk 0 rfl;have ng:=eF.blk 6 rfl;have hFr:∀w1,Grow w5 w1->dz W 177 #[g,J e.sq] w1 λen O=>en=b5 (aY false)∧Grow w1 O:=λw1 H=>by have h:=abq.rO w1 g F M e.sq _ (ng.grow H) ⟨by have:=hI.lo;omega,hI.hi⟩ pi QM;exact h.mono λ_ _ ⟨I,G⟩=>⟨I,G▸Grow.refl _⟩
 go_wp2_with fail;clear eR;have c0:=λw6(H:Grow _ w6)=>(hp5.grow H).cell 0;have c1:=λw6(H:Grow _ w6)=>(YE.grow H).cell 3;refine fh ?_;intro w6 H;clear c0 c1;have hgI:=H;have eN:=eF.grows Oo hgI;have Sn:=eN.blk 0 rfl;have J6:=J5.trans (dM.dK hgI);have Yi:jM w6 D A e.ds.length e.ds:=In.just hd J6 λb hb hl=>hl.elim (kV b hb) (λh=>by have:=j6 b hb;omega);have fH:Solo (nU V w) (dN (dN (gJ m s bE bS p g (Z Ab nb cb) q tB gO F M B R)::[Cell y 40 (e,A,c)])) w6:=Solo.Vz (eN.perm (List.perm_append_singleton _ _).symm);have hF7:eG (dN (gJ m s bE bS p g (Z Ab nb cb) q tB gO F M B R)::[Cell y 40 (e,A,c)]):=(eG.nil.cons (Cell.framed _ _ _)).cons (dN.framed _ (fE m s bE bS p g (Z Ab nb cb) q tB gO F M B T));have hw6:=J6.size;obtain⟨UM,hUM,a04,a4D⟩:=Solo.opx (S:=dN (gJ m s bE bS p g (Z Ab nb cb) q tB gO F M B R)) 0 rfl hF7 fH;rw[HE.out] at hUM;have oJ:=E w6 s bE bS p g Ab nb cb gO R UM QD.out T hUM (λb hb=>(a04 b hb).2) Yi (λb hb=>by have:=j6 b hb;omega) (λb hb hu=>(a04 b hu).1.elim (kV b hb) (λh=>by have:=j6 b hb;omega));clear E;unfold En.agg at oJ;have y0:=Sn.cell 0;have y1:=Sn.cell 1;have y2:=Sn.cell 2;have y3:=Sn.cell 3;have y4:=Sn.cell 4;have y5:=Sn.cell 5;have y6:=Sn.cell 6;have y7:=Sn.cell 7;have y8:=Sn.cell 8;go_wp2_with fail;clear y0 y1 y2 y3 y4 y5 y6 y7 y8;refine oJ.mono ?_;rintro en w7 ⟨rfl,⟨v7,h7⟩,WA⟩;obtain⟨fD,hj8⟩:=a4D _ w7 h7 WA;go_wp2;go_ret2;have gy:=(Solo.flat fD).perm (List.perm_append_singleton _ _);obtain⟨r1,r2⟩:=Solo.done gy.drop1 (J6.trans hj8) hV;refine⟨rfl,?_,r2⟩;cases b with
 | true=>exact Li hO pJ r1
 | false=>
   obtain⟨rfl,rfl,rfl⟩:=hb rfl;exact mT (x:=⟨_,_,_⟩) (gO:=gO) hO r1
end Go.Proofs.YtpeepcmdehhbgaaGreatDoor
end
section
variable{n:Nat}
namespace Go.Proofs.YtpeepcmdehhbgaaGreatDoor
open RowKit Hop
theorem zm(w:X)(m:Nat)(q:abk.Sm)(fQ:List (Int×K))(kA:List (Key×Pl))(e:En)(A:aU)(c:Nat)(D V:aV)(hV:∀b,V b->b<(w:Nat))(gC:e.Ok)(N:e.k=1)(hd:jM w D A e.ds.length e.ds)(j6:∀b,D b->b<(w:Nat))(kV:∀b,D b->¬ V b)(F:Int)(M:Nat)(B:aN)(kY:gW kA (e.ag,e.sh)=⟨F,M,B⟩)(K7:B.length<=1048576)(hI:abq.jW F M)(pi:-9223372036854775808<=e.sq∧e.sq<=9223372036854775807)(zb:abq.seen F M e.sq=false)(Ov:∃x:Int,(uk fQ e.ag).getD (J 0)=J x∧e.ep<x)(h:i8 m q fQ kA w V):dz W 111 #[m,aZ (e.agg A c)] w λen O=>en=b5 (a_ #[J 4,ae ah 0])∧i8 m q fQ kA O (iY V w O)∧dM V w O:=by
 have Sk:∀(vs:aP)(w:X),(callFunc 175 vs).run W w=.ok (.enter 175 vs) w:=λvs w=>by go_simp
 have gl:=dT w (.cells (e.agg A c) 40);have gU:=eJ.made w 40 (e.agg A c);obtain⟨y,HY⟩:=az ((w:Nat):Nat);obtain⟨wa,lZ⟩:=az (w.alloc (.cells (e.agg A c) 40):X);rw[<-lZ.out] at gl gU;rw[<-HY.out] at gU;have m6:=ju wa e D A c gC (In.grow hd gl);unfold En.agg at lZ m6 gU ⊢;have ip:(e.k == 2)=false:=by rw[N];rfl
 clear N;go_in;go_wp2_with fail;rw[<-lZ.out,<-HY.out];refine m6.mono ?_;rintro en wb ⟨rfl,mK⟩;have rL:=gU.grow mK;have y0:=rL.cell 0;have y1:=rL.cell 1;have y2:=rL.cell 2;have Jh:=tA wb m q fQ kA V (λb hb=>bw (hV b hb) (gl.trans mK).size) e.ag e.sh (i8.framed m q fQ kA w wb V h λb hb=>(gl.trans mK).block b (hV b hb));rw[kY] at Jh;clear h;go_wp2_with fail;clear y0 y1 y2;refine Jh.mono ?_;rintro en w0 ⟨s,bE,bS,p,g,v,gO,R,rfl,hO,pO,U,uY,hU⟩;have T:=hO.framed;obtain⟨UB,Ji,_⟩:=(dN.pick _ 6 _ rfl uY).fst;obtain⟨Ab,cb,rfl,zF,_,_⟩:=Own.reads (show Own w0 UB 2 1 v B.length (lI B) from Ji);obtain⟨nb,QD⟩:∃nb:Nat,Hid (B.length=nb):=⟨_,Q rfl⟩;rw[QD.out] at uY zF K7;clear Ji;have tT:Grow w w0:=(gl.trans mK).trans pO;have Qg:(w:Nat)<=y∧y<(wb:Nat):=by have:=HY.out;have:=rL.lt;omega
 have Sl:=pO.size;have k_:∀b,New wb w0 b->(w:Nat)<=b:=λb hb=>by have:=hb.1;have:=(gl.trans mK).size;omega
 have hF:=fE m s bE bS p g (Z Ab nb cb) q fQ gO F M B T;have rj:=hF.cons (Cell.framed y 40 (e,A,c));have fN:Solo (nU V w) (dN (Cell y 40 (e,A,c)::gJ m s bE bS p g (Z Ab nb cb) q fQ gO F M B R)) w0:=
  Solo.D3 (U:=λb=>b=y) (λb hb => .inr ap) uY (λb hb=>(hU b hb).elim (λh=>⟨.inl h,by have:=hV b h;omega⟩) (λh=>⟨.inr (k_ b h),h.2⟩)) ⟨rfl,rL.grow pO⟩
   (λb hb=>by rw[hb];exact⟨.inr Qg.1,by omega,λh=>(hU y h).elim (λh=>by have:=hV y h;omega) (λh=>by have:=h.1;omega)⟩)
 have J0:=dM.dK (V:=nU V w) tT;have Iz:=fN.blk 0 rfl;have sx:=fN.blk 5 rfl;have xW:=fN.blk 6 rfl;have Jj:∀w1,Grow w0 w1->dz W 175 #[g,J e.sq] w1 λen O=>en=b5 (aY false)∧Grow w1 O:=λw1 H=>by have h:=abq.ol w1 g F M e.sq (xW.grow H) hI pi;rw[zb] at h;exact h
 clear zF;go_wp2_with fail;have c0:=λw1(H:Grow _ w1)=>(sx.grow H).cell 0;have c1:=λw1(H:Grow _ w1)=>(Iz.grow H).cell 3;refine fh ?_;intro w1 H;clear c0 c1;have vi:=H;have ej:=fN.grows rj vi;have K2:=sx.grow vi;have Fq:=Iz.grow vi;go_wp2_with fail;have c0:=λw2(H:Grow _ w2)=>(K2.grow H).cell 0;have c1:=λw2(H:Grow _ w2)=>(Fq.grow H).cell 3;have c2:=λw2(H:Grow _ w2)=>Jj w2 (vi.trans H);refine fh ?_;intro w2 H;clear c0 c1 c2;have Ou:=H;have dV:=ej.grows rj Ou;obtain⟨x,Y,hxe⟩:=Ov;have Cv:∀w1,Grow w2 w1->(Instr.lookup 135 (.map (some bE)) (J e.ag) false).run W w1=.ok (J x) w1:=λw1 H=>by obtain⟨U3,hG3,_⟩:=(dV.grows rj H).see 3 rfl;have h:=eI.look Oe (t:=135) (et:=2) aw (zI w1) hG3 e.ag false;rw[aB am,Y] at h;exact h
 have zE:=dV.blk 1 rfl;have K6:=dV.blk 0 rfl;go_wp2_with fail;have c0:=λw3(H:Grow _ w3)=>(K6.grow H).cell 4;have c1:=λw3(H:Grow _ w3)=>(zE.grow H).cell 1;have c2:=λw3(H:Grow _ w3)=>(K6.grow H).cell 1;refine fh ?_;intro w3 H;clear c0 c1 c2;have UL:=H;have dX:=dV.grows rj UL;go_wp2;go_ret2;obtain⟨r1,r2⟩:=Solo.done (l:=gJ m s bE bS p g (Z Ab nb cb) q fQ gO F M B R) (dX.drop1) (((J0.trans (dM.dK vi)).trans (dM.dK Ou)).trans (dM.dK UL)) hV;exact⟨rfl,mT hO r1,r2⟩
theorem GN(w:X)(m:Nat)(q:abk.Sm)(fQ:List (Int×K))(kA:List (Key×Pl))(e:En)(A:aU)(c:Nat)(D V:aV)(hV:∀b,V b->b<(w:Nat))(gC:e.Ok)(N:e.k=1)(hd:jM w D A e.ds.length e.ds)(j6:∀b,D b->b<(w:Nat))(kV:∀b,D b->¬ V b)(F:Int)(M:Nat)(B:aN)(kY:gW kA (e.ag,e.sh)=⟨F,M,B⟩)(K7:B.length<=1048576)(hI:abq.jW F M)(pi:-9223372036854775808<=e.sq∧e.sq<=9223372036854775807)(zb:abq.seen F M e.sq=false)(Ov:∃x:Int,(uk fQ e.ag).getD (J 0)=J x∧x<=e.ep)(QM:abq.far F e.sq=true)(h:i8 m q fQ kA w V):dz W 111 #[m,aZ (e.agg A c)] w λen O=>en=b5 (a_ #[J 5,ae ah 0])∧i8 m q (l9 fQ e.ag (J e.ep)) kA O (iY V w O)∧dM V w O:=by
 have Sk:∀(vs:aP)(w:X),(callFunc 175 vs).run W w=.ok (.enter 175 vs) w:=λvs w=>by go_simp
 have a4B:∀(vs:aP)(w:X),(callFunc 177 vs).run W w=.ok (.enter 177 vs) w:=λvs w=>by go_simp
 have gl:=dT w (.cells (e.agg A c) 40);have gU:=eJ.made w 40 (e.agg A c);obtain⟨y,HY⟩:=az ((w:Nat):Nat);obtain⟨wa,lZ⟩:=az (w.alloc (.cells (e.agg A c) 40):X);rw[<-lZ.out] at gl gU;rw[<-HY.out] at gU;have m6:=ju wa e D A c gC (In.grow hd gl);unfold En.agg at lZ m6 gU ⊢;have ip:(e.k == 2)=false:=by rw[N];rfl
 clear N;go_in;go_wp2_with fail;rw[<-lZ.out,<-HY.out];refine m6.mono ?_;rintro en wb ⟨rfl,mK⟩;have rL:=gU.grow mK;have y0:=rL.cell 0;have y1:=rL.cell 1;have y2:=rL.cell 2;have Jh:=tA wb m q fQ kA V (λb hb=>bw (hV b hb) (gl.trans mK).size) e.ag e.sh (i8.framed m q fQ kA w wb V h λb hb=>(gl.trans mK).block b (hV b hb));rw[kY] at Jh;clear h;go_wp2_with fail;clear y0 y1 y2;refine Jh.mono ?_;rintro en w0 ⟨s,bE,bS,p,g,v,gO,R,rfl,hO,pO,U,uY,hU⟩;have T:=hO.framed;obtain⟨UB,Ji,_⟩:=(dN.pick _ 6 _ rfl uY).fst;obtain⟨Ab,cb,rfl,zF,_,_⟩:=Own.reads (show Own w0 UB 2 1 v B.length (lI B) from Ji);obtain⟨nb,QD⟩:∃nb:Nat,Hid (B.length=nb):=⟨_,Q rfl⟩;rw[QD.out] at uY zF K7;clear Ji;have tT:Grow w w0:=(gl.trans mK).trans pO;have Qg:(w:Nat)<=y∧y<(wb:Nat):=by have:=HY.out;have:=rL.lt;omega
 have Sl:=pO.size;have k_:∀b,New wb w0 b->(w:Nat)<=b:=λb hb=>by have:=hb.1;have:=(gl.trans mK).size;omega
 have hF:=fE m s bE bS p g (Z Ab nb cb) q fQ gO F M B T;have rj:=hF.cons (Cell.framed y 40 (e,A,c));have fN:Solo (nU V w) (dN (Cell y 40 (e,A,c)::gJ m s bE bS p g (Z Ab nb cb) q fQ gO F M B R)) w0:=
  Solo.D3 (U:=λb=>b=y) (λb hb => .inr ap) uY (λb hb=>(hU b hb).elim (λh=>⟨.inl h,by have:=hV b h;omega⟩) (λh=>⟨.inr (k_ b h),h.2⟩)) ⟨rfl,rL.grow pO⟩
   (λb hb=>by rw[hb];exact⟨.inr Qg.1,by omega,λh=>(hU y h).elim (λh=>by have:=hV y h;omega) (λh=>by have:=h.1;omega)⟩)
 have J0:=dM.dK (V:=nU V w) tT;have Iz:=fN.blk 0 rfl;have sx:=fN.blk 5 rfl;have xW:=fN.blk 6 rfl;have Jj:∀w1,Grow w0 w1->dz W 175 #[g,J e.sq] w1 λen O=>en=b5 (aY false)∧Grow w1 O:=λw1 H=>by have h:=abq.ol w1 g F M e.sq (xW.grow H) hI pi;rw[zb] at h;exact h
 clear zF;go_wp2_with fail;have c0:=λw1(H:Grow _ w1)=>(sx.grow H).cell 0;have c1:=λw1(H:Grow _ w1)=>(Iz.grow H).cell 3;refine fh ?_;intro w1 H;clear c0 c1;have vi:=H;have ej:=fN.grows rj vi;have K2:=sx.grow vi;have Fq:=Iz.grow vi;go_wp2_with fail;have c0:=λw2(H:Grow _ w2)=>(K2.grow H).cell 0;have c1:=λw2(H:Grow _ w2)=>(Fq.grow H).cell 3;have c2:=λw2(H:Grow _ w2)=>Jj w2 (vi.trans H);refine fh ?_;intro w2 H;clear c0 c1 c2;have Ou:=H;have dV:=ej.grows rj Ou;obtain⟨x,Y,hxe⟩:=Ov;have TY:decide (e.ep<x)=false:=aD ap;have Cv:∀w1,Grow w2 w1->(Instr.lookup 135 (.map (some bE)) (J e.ag) false).run W w1=.ok (J x) w1:=λw1 H=>by obtain⟨U3,hG3,_⟩:=(dV.grows rj H).see 3 rfl;have h:=eI.look Oe (t:=135) (et:=2) aw (zI w1) hG3 e.ag false;rw[aB am,Y] at h;exact h
 have zE:=dV.blk 1 rfl;have K6:=dV.blk 0 rfl;go_wp2_with fail;have c0:=λw3(H:Grow _ w3)=>(K6.grow H).cell 4;have c1:=λw3(H:Grow _ w3)=>(zE.grow H).cell 1;have c2:=λw3(H:Grow _ w3)=>(K6.grow H).cell 1;refine fh ?_;intro w3 H;clear c0 c1 c2;have UL:=H;have dX:=dV.grows rj UL;have R4:=dX.blk 1 rfl;have Wz:=dX.blk 0 rfl;clear Cv;go_wp2_with fail;have c0:=λw4(H:Grow _ w4)=>(R4.grow H).cell 1;have c1:=λw4(H:Grow _ w4)=>(Wz.grow H).cell 1;have c2:=λw4(H:Grow _ w4)=>(Wz.grow H).cell 4;refine jo 9 λw4 H=>?_;clear c0 c1 c2;have hgH:=H;have eO:=dX.grows rj hgH;obtain⟨w5,eR,eF,ra⟩:=eO.R3 (φ:=λO=>(Instr.mapUpdate 135 (.map (some bE)) (J e.ag) (J e.ep)).run W w4=.ok () O) 3 rfl rj (λU hU jR=>by obtain⟨O,I,G,L⟩:=eI.put Oe (t:=135) (et:=2) aw hU e.ag (J e.ep);exact⟨O,I,G,L.imp λb hb=>hb▸hU.1⟩)
 obtain⟨tB,HE⟩:=az (l9 fQ e.ag (J e.ep):List (Int×K));rw[<-HE.out] at eF;have eF:Solo (nU V w) (dN (Cell y 40 (e,A,c)::gJ m s bE bS p g (Z Ab nb cb) q tB gO F M B R)) w5:=eF;have Oo:=(fE m s bE bS p g (Z Ab nb cb) q tB gO F M B T).cons (Cell.framed y 40 (e,A,c));have J5:dM (nU V w) w w5:=((((J0.trans (dM.dK vi)).trans (dM.dK Ou)).trans (dM.dK UL)).trans (dM.dK hgH)).trans ra;clear R4 zE K6 Wz sx Iz xW K2 Fq;have hp5:=eF.blk 5 rfl;have YE:=eF.blk 0 rfl;have ng:=eF.blk 6 rfl;have hFr:∀w1,Grow w5 w1->dz W 177 #[g,J e.sq] w1 λen O=>en=b5 (aY true)∧Grow w1 O:=λw1 H=>by have h:=abq.rO w1 g F M e.sq _ (ng.grow H) ⟨by have:=hI.lo;omega,hI.hi⟩ pi QM;exact h.mono λ_ _ ⟨I,G⟩=>⟨I,G▸Grow.refl _⟩
 go_wp2_with fail;clear eR;have c0:=λw6(H:Grow _ w6)=>(hp5.grow H).cell 0;have c1:=λw6(H:Grow _ w6)=>(YE.grow H).cell 3;refine fh ?_;intro w6 H;clear c0 c1;have hgI:=H;have eN:=eF.grows Oo hgI;go_wp2;go_ret2;obtain⟨r1,r2⟩:=Solo.done (l:=gJ m s bE bS p g (Z Ab nb cb) q tB gO F M B R) (eN.drop1) (J5.trans (dM.dK hgI)) hV;rw[<-HE.out];exact⟨rfl,mT hO r1,r2⟩
theorem Eb(w:X)(m:Nat)(q:abk.Sm)(fQ:List (Int×K))(kA:List (Key×Pl))(e:En)(A:aU)(c:Nat)(D V:aV)(hV:∀b,V b->b<(w:Nat))(gC:e.Ok)(N:e.k=2)(zb:e.se.size<=dG)(hd:jM w D A e.ds.length e.ds)(h:i8 m q fQ kA w V):dz W 111 #[m,aZ (e.agg A c)] w λen O=>en=b5 (a_ #[J 8,ae ah ((abk.gt q e.se:Nat):Int)])∧i8 m q fQ kA O (iY V w O)∧dM V w O:=by
 have k173:∀(vs:aP)(w:X),(callFunc 173 vs).run W w=.ok (.enter 173 vs) w:=λvs w=>by go_simp
 have gl:=dT w (.cells (e.agg A c) 40);have gU:=eJ.made w 40 (e.agg A c);obtain⟨y,HY⟩:=az ((w:Nat):Nat);obtain⟨wa,lZ⟩:=az (w.alloc (.cells (e.agg A c) 40):X);rw[<-lZ.out] at gl gU;rw[<-HY.out] at gU;have m6:=ju wa e D A c gC (In.grow hd gl);unfold En.agg at lZ m6 gU ⊢;have ip:(e.k == 2)=true:=by rw[N];rfl
 obtain⟨abp,HN⟩:=az (abk.gt q e.se:Nat);have hF:=i8.framed m q fQ kA;have h0:=h;obtain⟨s,bE,bS,abn,rfl,h⟩:=h;obtain⟨U0,su,hU0⟩:=(dN.pick _ 0 _ rfl h).fst;obtain⟨U1,hs0,YF⟩:=(dN.pick _ 1 _ rfl h).fst;have Wy:=su.2;clear N h;go_in;go_wp2_with fail;rw[<-lZ.out,<-HY.out];refine m6.mono ?_;rintro en wb ⟨rfl,mK⟩;have rL:=gU.grow mK;have hmb:=Wy.grow (gl.trans mK);have hGet:∀w1,Grow wb w1->dz W 173 #[s,aX e.se] w1 λen O=>en=b5 (ae ah abp)∧Grow w1 O:=λw1 H=>by have I:=abk.qG w1 s q U1 (abk.gT.framed s q w w1 U1 hs0 λb hb=>((gl.trans mK).trans H).block b (hV b (YF b hb))) e.se zb;rw[<-HN.out] at I;exact I.mono λ_ _ ⟨a,b⟩=>⟨a,b▸Grow.refl _⟩
 have y0:=rL.cell 0;go_wp2_with fail;clear y0;have c0:=λw1(H:Grow _ w1)=>(hmb.grow H).cell 0;have c1:=λw1(H:Grow _ w1)=>(rL.grow H).cell 6;refine fh ?_;intro w1 H;clear c0 c1;go_wp2;go_ret2;have QQ:=(gl.trans mK).trans H;rw[<-HN.out];exact⟨rfl,(hF w w1 V h0 λb hb=>QQ.block b (hV b hb)).elim λs h=>i8.wide m q fQ (oA abn) w1 V _ (λb hb => .inl hb) ⟨s,h⟩,dM.dK QQ⟩
def Fs(l:List (Int×Int)):List (Int×K):=l.map λa=>(a.1,J a.2)
def Ec(l:List (Int×Int))(k:Int):Int:=((l.find? λa=>decide (a.1=k)).map (·.2)).getD 0
def tC(l:List (Int×Int))(k n:Int):List (Int×Int):=if k∈l.map Prod.fst then l.map (λa=>if a.1=k then (k,n) else a) else l++[(k,n)]
theorem Jk(l:List (Int×Int))(k:Int):(uk (Fs l) k).getD (J 0)=J (Ec l k):=by unfold uk Fs Ec;rw[List.find?_map];show Option.getD (Option.map _ (Option.map _ (l.find? λa=>decide (a.1=k)))) _=_;cases l.find? λa=>decide (a.1=k)<;>rfl
theorem wk(l:List (Int×Int))(k n:Int):l9 (Fs l) k (J n)=Fs (tC l k n):=by
 unfold l9 tC Fs;have e:(l.map λa=>((a.1,Value.int .i64 a.2):Int×K)).map Prod.fst=l.map Prod.fst:=by simp
 rw[e];by_cases h:k∈l.map Prod.fst
 ·rw[aA h,aA h,List.map_map,List.map_map]
  refine cO λa _=>?_;by_cases G:a.1=k<;>simp[G]
 ·rw[aB h,aB h]
  simp
structure j4 where
 q:abk.Sm
 fQ:List (Int×Int)
 pl:List (Key×Pl)
def j4.new:j4:=⟨[],[],[]⟩
def j4.at_(x:j4)(e:En):Pl:=gW x.pl (e.ag,e.sh)
def ei(x:j4)(e:En):Int×Nat×j4:=
 if e.k=2 then (8,abk.gt x.q e.se,x) else
 if abq.seen (x.at_ e).F (x.at_ e).M e.sq then (if e.sq∈(x.at_ e).B then (3,0,x) else (2,0,x)) else
 if e.ep<Ec x.fQ e.ag then (4,0,x) else
 if abq.far (x.at_ e).F e.sq then (5,0,⟨x.q,tC x.fQ e.ag e.ep,x.pl⟩) else
 if abk.iV x.q e.ds=0 then (1,0,⟨abk.nj x.q e.ds,tC x.fQ e.ag e.ep,i_ x.pl (e.ag,e.sh) ⟨(abq.ij (x.at_ e).F (x.at_ e).M e.sq).1,(abq.ij (x.at_ e).F (x.at_ e).M e.sq).2,(x.at_ e).B⟩⟩) else
 if (x.at_ e).B.length<8 then (3,0,⟨x.q,tC x.fQ e.ag e.ep,i_ x.pl (e.ag,e.sh) ⟨(abq.ij (x.at_ e).F (x.at_ e).M e.sq).1,(abq.ij (x.at_ e).F (x.at_ e).M e.sq).2,pB ((x.at_ e).B++[e.sq])⟩⟩) else
 (5,0,⟨x.q,tC x.fQ e.ag e.ep,x.pl⟩)
def gR(m:Nat)(x:j4):dW:=i8 m x.q (Fs x.fQ) x.pl
theorem gR.framed(m:Nat)(x:j4):eu (gR m x):=i8.framed _ _ _ _
theorem gR.wide(m:Nat)(x:j4):C_ (gR m x):=i8.wide _ _ _ _
structure AL(n:Nat)(x:j4):Prop where
 q:x.q.length<=n
 win:∀k,abq.jW (gW x.pl k).F (gW x.pl k).M
 bad:∀k,(gW x.pl k).B.length<=8
theorem AL.new:AL 0 j4.new:=⟨bh _,λk=>abq.jW.none,λk=>bo _⟩
theorem AL.more{n':Nat}{x:j4}(h:AL n x)(hn:n<=n'):AL n' x:=⟨bB h.q hn,h.win,h.bad⟩
theorem AL.put{x:j4}(h:AL n x){q:abk.Sm}{fQ:List (Int×Int)}(k:Key)(y:Pl)(hq:q.length<=n)(hw:abq.jW y.F y.M)(hb:y.B.length<=8):AL n ⟨q,fQ,i_ x.pl k y⟩:=
 ⟨hq,λk'=>by
  show abq.jW (gW (i_ x.pl k y) k').F (gW (i_ x.pl k y) k').M;rw[AJ];split;·exact hw
  ·exact h.win k',λk'=>by
  show (gW (i_ x.pl k y) k').B.length<=8;rw[AJ];split;·exact hb
  ·exact h.bad k'⟩
theorem Ow(q:abk.Sm)(l:List Dl):(abk.nj q l).length<=q.length+l.length:=by
 unfold abk.nj;split;·exact abk.nA l q
 ·omega
theorem AL.step{x:j4}(h:AL n x)(e:En)(pi:e.sq<=9223372036854775807):AL (n+e.ds.length) (ei x e).2.2:=by
 have h':AL (n+e.ds.length) x:=h.more ap;have hw:=(h.win (e.ag,e.sh)).add pi;have hb:=h.bad (e.ag,e.sh);unfold ei;split;·exact h'
 split;·split<;>exact h'
 split;·exact h'
 split;·exact⟨h'.q,h'.win,h'.bad⟩
 split;·exact h'.put _ _ (bB (Ow _ _) (by have:=h.q;omega)) hw hb
 split
 ·rename_i h8
  exact h'.put _ _ h'.q hw (by rw[o_,bd,bv];omega)
 ·exact⟨h'.q,h'.win,h'.bad⟩
theorem Lk{e:En}(gC:e.Ok)(N:e.k≠2):e.k=1∧(∀d∈e.ds,d.1.size<=dG∧d.2<=abk.o6)∧e.ds.length<=1048576 ∧ -9223372036854775808<=e.sq∧e.sq<=9223372036854775807:=by
 rcases gC.2 with h|h
 ·refine⟨h.1,?_⟩
  obtain⟨_,_,_,_,h5,_,h7,h8⟩:=h;exact⟨λd hd=>by obtain⟨_,b,_,s⟩:=h8 d hd;exact⟨by unfold dG;omega,by unfold abk.o6;omega⟩,by omega,by omega,by omega⟩
 ·exact absurd h.1 N
theorem Ll(w:X)(m:Nat)(x:j4)(n:Nat)(e:En)(A:aU)(c:Nat)(D V:aV)(hV:∀b,V b->b<(w:Nat))(gC:e.Ok)(zb:e.se.size<=dG)(hd:jM w D A e.ds.length e.ds)(j6:∀b,D b->b<(w:Nat))(kV:∀b,D b->¬ V b)(Y:AL n x)(hn:n<=1048576)(h:gR m x w V):dz W 111 #[m,aZ (e.agg A c)] w λen O=>en=b5 (a_ #[J (ei x e).1,ae ah ((ei x e).2.1:Nat)])∧gR m (ei x e).2.2 O (iY V w O)∧dM V w O:=by
 obtain⟨q,fQ,pl⟩:=x;have hh:i8 m q (Fs fQ) pl w V:=h;by_cases N:e.k=2
 ·have es:ei ⟨q,fQ,pl⟩ e=(8,abk.gt q e.se,⟨q,fQ,pl⟩):=by unfold ei;rw[aA N]
  rw[es];exact Eb w m q (Fs fQ) pl e A c D V hV gC N zb hd hh
 obtain⟨iP,iZ,oK,pi⟩:=Lk gC N;have hI:abq.jW (gW pl (e.ag,e.sh)).F (gW pl (e.ag,e.sh)).M:=Y.win _;have K7:(gW pl (e.ag,e.sh)).B.length<=8:=Y.bad _;have hq:q.length<=1048576:=bB Y.q hn;have eat:(⟨q,fQ,pl⟩:j4).at_ e=gW pl (e.ag,e.sh):=rfl;unfold ei;rw[aB N,eat];generalize kY:gW pl (e.ag,e.sh)=p at hI K7;obtain⟨F,M,B⟩:=p;dsimp only at hI K7 ⊢;have ky:B.length<=1048576:=by omega
 cases GQ:abq.seen F M e.sq with
 | true=>
   rw[aA rfl];by_cases hb:e.sq∈B
   ·rw[aA hb]
    exact Ea w m q (Fs fQ) pl e A c D V hV gC iP hd j6 kV F M B kY ky hI pi GQ hb hh
   ·rw[aB hb]
    exact GM w m q (Fs fQ) pl e A c D V hV gC iP hd j6 kV F M B kY ky hI pi GQ hb hh
 | false=>
   rw[aB am];by_cases hf:e.ep<Ec fQ e.ag
   ·rw[aA hf]
    exact zm w m q (Fs fQ) pl e A c D V hV gC iP hd j6 kV F M B kY ky hI pi GQ ⟨_,Jk fQ e.ag,hf⟩ hh
   rw[aB hf];have Ov:∃x:Int,(uk (Fs fQ) e.ag).getD (J 0)=J x∧x<=e.ep:=⟨_,Jk fQ e.ag,by omega⟩;cases QM:abq.far F e.sq with
   | true=>
     rw[aA rfl];have I:=GN w m q (Fs fQ) pl e A c D V hV gC iP hd j6 kV F M B kY ky hI pi GQ Ov QM hh;rw[wk] at I;exact I
   | false=>
     rw[aB am];by_cases hm:abk.iV q e.ds=0
     ·rw[aA hm]
      have I:=pk w m q (Fs fQ) pl e A c D V hV gC iP hd j6 kV F M B kY ky hI pi GQ Ov QM 1 (abk.nj q e.ds) true (abq.ij F M e.sq).1 (abq.ij F M e.sq).2 B (λh=>by cases h)
       (λw6 s bE bS p g Ab nb cb gO R U K4 T hM hU Yi hD6 hDU=>(GJ w6 m s bE bS p g Ab nb cb q _ gO F M B R T e A c D U hM hU Yi hD6 hDU iZ oK hq hI pi hm).mono λen O ⟨a,b,c⟩=>⟨a,⟨_,b⟩,c⟩) hh
      rw[wk] at I;exact I
     rw[aB hm];by_cases h8:B.length<8
     ·rw[aA h8]
      have I:=pk w m q (Fs fQ) pl e A c D V hV gC iP hd j6 kV F M B kY ky hI pi GQ Ov QM 3 q true (abq.ij F M e.sq).1 (abq.ij F M e.sq).2 (pB (B++[e.sq])) (λh=>by cases h)
       (λw6 s bE bS p g Ab nb cb gO R U K4 T hM hU Yi hD6 hDU=>GL w6 m s bE bS p g Ab nb cb q _ gO F M B R T e A c D U hM hU Yi hD6 hDU iZ oK hq hI pi hm ap K4) hh
      rw[wk] at I;exact I
     ·rw[aB h8]
      have I:=pk w m q (Fs fQ) pl e A c D V hV gC iP hd j6 kV F M B kY ky hI pi GQ Ov QM 5 q false F M B (λ_=>⟨rfl,rfl,rfl⟩)
       (λw6 s bE bS p g Ab nb cb gO R U K4 T hM hU Yi hD6 hDU=>(E9 w6 m s bE bS p g Ab nb cb q _ gO F M B R T e A c D U hM hU Yi hD6 hDU iZ oK hq hI pi hm ap).mono λen O ⟨a,b,c⟩=>⟨a,⟨_,b⟩,c⟩) hh
      rw[wk] at I;exact I
end Go.Proofs.YtpeepcmdehhbgaaGreatDoor
end
section
variable{w w0 O:X}{V:aV}{cs:aP}
section
namespace Go.Hop
open Go.RowKit
section
variable{P:dD}{D:aV}{f:FuncId}{args:aP}{ι:Type}{C:ι->Ending->Prop}{S:dW}{S':ι->dW}
theorem xX(h:S w V):dN [S] w V:=⟨V,λ_=>False,h,trivial,λ_ h=>h,λ_ h=>h.elim,λ_ _ h=>h⟩
theorem Lw.one(h:∀V:aV,S w V->(∀b,V b->b<(w:Nat)∧¬ D b)->dz P f args w λe O=>∃i,C i e∧S' i O (iY V w O)∧dM V w O):Lw P D f args [.o S] C (λi=>[.o (S' i)]) w:=λV hM hV=>by obtain⟨U,_,hS,_,k1,_⟩:=hM;exact (h U hS λb hb=>hV b (k1 b hb)).mono λe O ⟨i,hC,yP,hj⟩=>⟨i,hC,dN.wide [S' i] O _ _ (λb hb=>hb.imp (k1 b) id) (xX yP),hj.imp k1⟩
end
end Go.Hop
namespace Go.Proofs.YtpeepcmdehhbgaaGreatDoor
open Go.RowKit Go.Hop V
def En.zero:En:=⟨0,0,0,0,0,[],⟨#[]⟩,0,0⟩
structure Ms where
 (k:Int) (e:En) (tag code:Int) (n:Nat) (term had:Int) (log:List En) (commit len:Int)
structure Sd where
 (to:Int) (m:Ms) (A:aU) (c:Nat) (A2:aU) (q:List El) (c2:Nat)
def Ms.cells(m:Ms)(A:aU)(c:Nat)(A2:aU)(c2:Nat):List K:=[J m.k,J m.e.k,J m.e.ag,J m.e.sh,J m.e.sq,J m.e.ep,Z A m.e.ds.length c,aX m.e.se,J m.e.fr,J m.e.tg,J m.tag,J m.code,ae ah m.n,J m.term,J m.had,Z A2 m.log.length c2,J m.commit,J m.len]
def Sd.cells(s:Sd):List K := J s.to::s.m.cells s.A s.c s.A2 s.c2
structure Sd.In(w:X)(D:Nat->Prop)(s:Sd):Prop where
 e:kP w D ⟨s.m.e,s.A,s.c⟩
 q:jO w D s.A2 s.q
 eq:s.q.map El.e=s.m.log
 c2:s.q.length<=s.c2∧s.c2<=dG
theorem xY(s:Sd):s.cells.length=19:=rfl
theorem uH(s:Sd):∀u∈s.cells,u.oneCell'=true:=by intro u hu;simp only[Sd.cells,Ms.cells,cI,cF,or_false] at hu;rcases hu with rfl|rfl|rfl|rfl|rfl|rfl|rfl|rfl|rfl|rfl|rfl|rfl|rfl|rfl|rfl|rfl|rfl|rfl|rfl<;>rfl
theorem pm:lE (λw D s=>Sd.In w D s):=λw O D s h N=>⟨⟨In.keep h.e.1 λb hb _=>N b hb,h.e.2⟩,fT.framed s.A2 s.q w O D h.q N,h.eq,h.c2⟩
theorem po:iz (λw D s=>Sd.In w D s):=λw D D' s h hd=>⟨jg _ _ _ _ h.e hd,h.q.mono hd,h.eq,h.c2⟩
def dS(u:K)(q:List Sd):dW:=h_ 218 19 Sd.cells (λw D s=>Sd.In w D s) u q
theorem dS.framed(u:K)(q:List Sd):eu (dS u q):=h_.framed pm u q
theorem xZ{u:K}{q:List Sd}{l:List Bl}(h:St V w0 (.o (dS u q)::l) w):∃A c,u=Z A q.length c∧q.length<=c∧c<=dG:=St.sl (e:=218) (size:=19) (cells:=Sd.cells) (good:=λw D s=>Sd.In w D s) h
def rk(to tag code:Int)(n:Nat):Sd:=⟨to,⟨2,En.zero,tag,code,n,0,0,[],0,0⟩,none,0,none,[],0⟩
theorem nD(w:X)(D:aV)(to tag code:Int)(n:Nat):Sd.In w D (rk to tag code n):=⟨⟨⟨by simp[rk,En.zero,fm],λh=>by simp[rk,En.zero] at h⟩,bh _,bo _,bo _⟩,jO.nil,rfl,bh _,bo _⟩
def yb(x:El):dW:=λw V=>kP w V x
theorem yb.framed(x:El):eu (yb x):=λ_ _ _ h N=>⟨In.keep h.1 λb hb _=>N b hb,h.2⟩
theorem Ox(w:X)(m:Nat)(x:j4)(n:Nat)(e:En)(A:aU)(c:Nat)(D:aV)(gC:e.Ok)(hd:jM w D A e.ds.length e.ds)(j6:∀b,D b->b<(w:Nat))(Y:AL n x)(hn:n<=1048576):Lw W D 111 #[m,aZ (e.agg A c)] [.o (gR m x)] (λ(_:Unit)en=>en=b5 (a_ #[J (ei x e).1,ae ah ((ei x e).2.1:Nat)])) (λ_=>[.o (gR m (ei x e).2.2)]) w:=
 Lw.one (S':=λ_=>gR m (ei x e).2.2) λV h hV=>(Ll w m x n e A c D V (λb hb=>(hV b hb).1) gC (by
  rcases gC.2 with h|h
  ·rw[h.2.1];exact bo _
  ·have:=h.2.2.2.2.2.2.2;unfold dG;omega) hd j6 (λb hb h=>(hV b h).2 hb) Y hn h).mono λe O ⟨a,b,c⟩=>⟨(),a,b,c⟩
def pI(p:pj)(node nodes commit:Int)(v:K)(leads:Bool)(own:Int)(t h:Nat)(es:List En)(n:Int)(bs:aT)(ms:j4):List Bl:=[.c p.r 118 (iu p node nodes commit v leads own),.o (gR p.m ms),.o (gG p.s p.x p.d t h es n bs)]
theorem GR(p:pj)(node nodes commit:Int)(v:K)(leads:Bool)(own:Int)(t h:Nat)(es:List En)(n:Int)(bs:aT)(ms:j4):pF (pI p node nodes commit v leads own t h es n bs ms):=⟨trivial,gR.framed _ _,gG.framed _ _ _ _ _ _ _ _,trivial⟩
def CJ(leads:Bool)(own:Nat):List En->Nat->j4->List Sd->j4×List Sd
 | [],_,x,out=>(x,out)
 | e::l,k,x,out=>CJ leads own l (k+1) (ei x e).2.2 (if leads&&decide (own<=k) then out++[rk e.fr e.tg (ei x e).1 (ei x e).2.1] else out)
end Go.Proofs.YtpeepcmdehhbgaaGreatDoor
end
namespace Go.Proofs.YtpeepcmdehhbgaaGreatDoor
open RowKit Hop V
theorem Ln(w:X)(D:aV)(m:Ms)(A:aU)(c:Nat)(A2:aU)(c2:Nat)(q:List El)(he:kP w D ⟨m.e,A,c⟩)(hq:jO w D A2 q)(kZ:q.map El.e=m.log)(ig:q.length<=1048576):dz W 123 #[aZ (m.cells A c A2 c2).toArray] w λe O=>∃(A' A2':aU)(q':List El),e=b5 (aZ (m.cells A' m.e.ds.length A2' m.log.length).toArray)∧kP O (New w O) ⟨m.e,A',m.e.ds.length⟩∧jO O (New w O) A2' q'∧q'.map El.e=m.log∧Grow w O:=by
 obtain⟨k,⟨ek,ag,sh,sq,ep,ds,se,fr,tg⟩,tag,code,n,term,had,log,commit,len⟩:=m;unfold Ms.cells;dsimp only at he kZ ⊢;have wu:log.length=q.length:=by rw[<-kZ,bj]
 rw[wu];have hS:=St.begin_ (l:=[]) (w:=w) (V:=λ_=>False) trivial (λ_ h=>h.elim) trivial;obtain⟨y,wa,HY,HA,hS⟩:=hS.new' #[J k,J ek,J ag,J sh,J sq,J ep,Z A ds.length c,aX se,J fr,J tg,J tag,J code,ae ah n,J term,J had,Z A2 q.length c2,J commit,J len] 45;obtain⟨z,wb,HZ,HB,hS⟩:=hS.new' aJ 45;have HZ2:Hid (z=y+1):=by have I:=HY.out;have G:=HA.out;have L:=HZ.out;rw[G] at L;exact Q (by rw[L,I];simp)
 have gl:Grow w wb:=by have G:=HA.out;have L:=HB.out;rw[L,G];exact (dT w _).trans (dT _ _)
 have E:=hS.facts;simp only[ec] at E;have hC:=t7 wb D ⟨⟨ek,ag,sh,sq,ep,ds,se,fr,tg⟩,A,c⟩ ⟨In.grow he.1 gl,he.2⟩;unfold En.agg at hC;dsimp only at hC;go_in;go_wp2_with fail;rw[<-HA.out,<-HY.out,<-HB.out,<-HZ2.out];refine hC.mono ?_;rintro e w1 ⟨A',rfl,Md,eD⟩;have hS:=hS.join (yb.framed _) eD (U:=New wb w1) Md (λb hb=>hb);have E:=hS.facts;simp only[ec] at E;go_wp2_with (refine d_ hS 2 rfl 40 _ _ rfl 1 rfl [J ek,J ag,J sh,J sq,J ep,Z A' ds.length ds.length,aX se,J fr,J tg] rfl (bf rfl) rfl aw #[J k,J ek,J ag,J sh,J sq,J ep,Z A' ds.length ds.length,aX se,J fr,J tg,J tag,J code,ae ah n,J term,J had,Z A2 q.length c2,J commit,J len] rfl rfl ?_;clear hS E;intro w2 hS;refine stay ?_);refine dI ?_;have E:=hS.facts;simp only[bz,bA,ec] at E;have fk:=hS.grown;have hL:=mQ w2 D A2 c2 q (hq.grow fk) ig;go_wp2_with fail;refine hL.mono ?_;rintro e w3 ⟨u,rfl,⟨A3,c3,q3,rfl,Jd,Oy,hqc3,a4E⟩,-,ib⟩;have hl3:q3.length=q.length:=by rw[<-bj (f:=El.e),Oy,bj]
 have hS:=hS.join (fT.framed A3 q3) ib (U:=New w2 w3) Jd (λb hb=>hb);clear E;go_wp2_with fail;refine (DO w3 A3 q.length c3 ap).mono ?_;rintro e w4 ⟨rfl,rfl⟩;go_wp2_with (refine fv hS 3 rfl 43 _ _ rfl 15 rfl (Z A3 q.length q.length) rfl (bf rfl) rfl aw rfl ?_;clear hS;intro w5 hS;refine stay ?_);refine dI ?_;simp only[bY,bz,bA] at hS;go_wp2_with (refine kG hS 3 rfl 45 _ rfl rfl bG aw rfl ?_;refine stay ?_);refine dI ?_;go_wp2_with (refine d_ hS 2 rfl 45 _ _ rfl 0 rfl [J k,J ek,J ag,J sh,J sq,J ep,Z A' ds.length ds.length,aX se,J fr,J tg,J tag,J code,ae ah n,J term,J had,Z A3 q.length q.length,J commit,J len] rfl (bf rfl) rfl aw #[J k,J ek,J ag,J sh,J sq,J ep,Z A' ds.length ds.length,aX se,J fr,J tg,J tag,J code,ae ah n,J term,J had,Z A3 q.length q.length,J commit,J len] rfl rfl ?_;clear hS;intro w6 hS;refine stay ?_);refine dI ?_;go_wp2;refine bodyPost_ret (fy rfl _ z rfl (hS.blk 2 rfl) bG aw) rfl ?_;obtain⟨U1,I,k1⟩:=hS.own.see 0 rfl;obtain⟨U2,G,k2⟩:=hS.own.see 1 rfl;have N:∀{U:aV},(∀b,U b->nU (λ_=>False) w b∧b<(w6:Nat))->∀b,U b->New w w6 b:=λh b hb=>⟨(h b hb).1.elim False.elim id,(h b hb).2⟩;exact⟨A',A3,q3,rfl,jg _ _ _ _ G (N k2),jO.mono I (N k1),Oy.trans kZ,hS.grown⟩
def Sd.fn(s:Sd):Int×Ms:=(s.to,s.m)
def tD(node i:Nat)(m:Ms):List (Int×Ms):=((bV i).filter λj => !decide (j=node)).map λj:Nat=>((j:Int),m)
theorem AO(node i:Nat)(m:Ms):tD node (i+1) m=tD node i m++if i=node then [] else [((i:Int),m)]:=by unfold tD;rw[List.range_succ,List.filter_append,bI];by_cases h:i=node<;>simp[h]
def a4F(V:aV)(w:X)(p:pj)(node nodes:Nat)(commit:Int)(v:K)(leads:Bool)(own:Int)(y:Nat)(m:Ms)(cs:aP)(u c:K)(wr:X):Prop:=∃(i:Nat)(q:List Sd),c=J i∧i<=nodes∧q.map Sd.fn=tD node i m∧q.length<=i∧St V w [.o (dS u q),.c y 45 cs,.c p.r 118 (iu p node nodes commit v leads own)] wr
theorem AP(w:X)(D:aV)(p:pj)(node nodes:Nat)(h8:nodes<=8)(commit:Int)(v:K)(leads:Bool)(own:Int)(m:Ms)(A:aU)(c:Nat)(A2:aU)(c2:Nat)(q:List El)(he:kP w D ⟨m.e,A,c⟩)(hq:jO w D A2 q)(kZ:q.map El.e=m.log)(ig:q.length<=1048576)(j6:∀b,D b->b<(w:Nat)):Lw W D 64 #[.pointer (some ⟨p.r,0,none⟩),aZ (m.cells A c A2 c2).toArray] [.c p.r 118 (iu p node nodes commit v leads own)] (λ(i:K×List Sd)e=>e=b5 i.1∧i.2.map Sd.fn=tD node nodes m)
  (λi=>[.o (dS i.1 i.2),.c p.r 118 (iu p node nodes commit v leads own)]) w:=by
 intro V hM hV
 have kV:∀x,D x->x<(w:Nat)∧¬ V x:=λx Y=>⟨j6 x Y,λh=>(hV x h).2 Y⟩
 have hS:=St.begin_ hM (λb hb=>(hV b hb).1) ⟨trivial,trivial⟩
 have E:=(hS.new (m.cells A c A2 c2).toArray 45).facts
 obtain⟨y,wa,HY,HA,hS⟩:=hS.new' (m.cells A c A2 c2).toArray 45
 obtain⟨cs,HC⟩:=az ((m.cells A c A2 c2).toArray)
 simp only[ec,iu] at E
 unfold Ms.cells at HA E ⊢
 go_in
 go_wp2_with fail
 rw[<-HA.out,<-HY.out]
 unfold Ms.cells at HC
 clear E
 go_loopw [5,11] (λu x wr=>a4F V w p node nodes commit v leads own y m cs u x wr) (λ_ x _=>nodes-(intOf x).toNat)
 case atStart=>exact⟨0,[],rfl,bo _,rfl,bh _,HC.out▸St.join hS (dS.framed _ _) (Grow.refl _) (U:=λ_=>False) (h_.nil _ _) (λ_ h=>h.elim)⟩
 case round=>
  obtain⟨i,qs,rfl,kT,hfn,a4G,hS⟩:=hrel
  obtain⟨Au,cu,rfl,Uz⟩:=xZ hS
  have E:=hS.facts
  simp only[ec,iu] at E
  by_cases N:i<nodes
  ·have dk:decide ((i:Int)<(nodes:Int))=true:=aC ap
   by_cases jT:i=node
   ·have dn:((i:Int) != (node:Int))=false:=by simp[jT]
    have e:=AO node i m
    rw[aA jT,bm] at e
    replace jT:=Q jT
    replace e:=Q e
    go_wp2_with fail
    exact⟨⟨i+1,qs,rfl,by omega,hfn.trans e.out.symm,by omega,hS⟩,by simp only[intOf];omega⟩
   ·have dn:((i:Int) != (node:Int))=true:=by simp;omega
    have e:=AO node i m
    rw[aB jT] at e
    replace e:=Q e
    have hC:=Ln wr D m A c A2 c2 q ⟨In.keep he.1 λb hb _=>hS.keep kV b hb,he.2⟩ ⟨In.keep hq.1 λb hb _=>hS.keep kV b hb,λx Y=>⟨In.keep (hq.2 x Y).1 λb hb _=>hS.keep kV b hb,(hq.2 x Y).2⟩⟩ kZ ig
    unfold Ms.cells at hC
    rw[<-HC.out] at hC
    go_wp2_with (refine kG hS 1 rfl 45 _ rfl rfl bG (by rw[HC.out];kernel_rfl) rfl ?_;refine stay ?_)
    refine dI ?_
    go_wp2_with fail
    refine hC.mono ?_
    rintro en w1 ⟨A',A3,q3,rfl,Md,Jd,Oy,eD⟩
    go_wp2_with (at_builtin;refine stay ?_)
    refine dI ?_
    have hl3:q3.length=m.log.length:=by rw[<-Oy,bj]
    have Fv:m.log.length<=1048576:=by rw[<-kZ,bj];exact ig
    refine lb AH pm po xY uH rfl (.tmp 20) (.tmp 25) rfl rfl hS eD (b:=⟨i,m,A',m.e.ds.length,A3,q3,m.log.length⟩) ⟨Md,Jd,Oy,Nat.le_of_eq hl3,by show m.log.length<=dG;unfold dG;omega⟩ ap 1 rfl ?_
    intro v' O yP
    have yP:St V w [.o (dS v' (qs++[⟨(i:Int),m,A',m.e.ds.length,A3,q3,m.log.length⟩])),.c y 45 cs,.c p.r 118 (iu p node nodes commit v leads own)] O:=yP
    go_wp2_with fail
    exact⟨⟨i+1,qs++[⟨(i:Int),m,A',m.e.ds.length,A3,q3,m.log.length⟩],rfl,by omega,by rw[bI,hfn,e.out];rfl,by rw[bd,bv];omega,yP⟩,by simp only[intOf];omega⟩
  ·obtain rfl:i=nodes:=by omega
   have dk:decide ((i:Int)<(i:Int))=false:=aD ap
   go_wp2
   go_ret
   obtain⟨r1,r2⟩:=(hS.dO 1 rfl).fin
   exact⟨(_,qs),⟨rfl,hfn⟩,r1,r2⟩
def ApR(V:aV)(w:X)(p:pj)(node nodes:Int)(k0:Nat)(v:K)(leads:Bool)(own t h:Nat)(es:List En)(n:Int)(bs:aT)(ms0:j4)(abp M:Nat)(A:aU)(q:List El)(u:K)(wr:X):Prop:=∃(k:Nat)(ms:j4)(out:List Sd),k0<=k∧k<=max k0 M∧CJ leads own ((es.take abp).drop k) k ms out=CJ leads own ((es.take abp).drop k0) k0 ms0 []∧AL (8*k) ms∧out.length<=k∧St V w (.o (dS u out)::.o (fT A q)::pI p node nodes (k:Int) v leads (own:Int) t h es n bs ms) wr
theorem Oz{e:En}(h:e.Ok):e.ds.length<=8∧e.sq<=9223372036854775807:=by
 rcases h.2 with h|h
 ·exact⟨h.2.2.2.2.2.2.1.2,h.2.2.2.2.1.2⟩
 ·rw[h.2.2.2.2.2.1,h.2.2.2.1];exact⟨bo _,by decide⟩
theorem Ed(w:X)(p:pj)(node nodes:Int)(k0:Nat)(v:K)(leads:Bool)(own t h:Nat)(es:List En)(n:Int)(bs:aT)(ms0:j4)(abp:Nat)(gC:∀e∈es,e.Ok)(fj:es.length<=128)(hm:AL (8*k0) ms0)(ja:k0<=128):Lw W (λ_=>False) 127 #[.pointer (some ⟨p.r,0,none⟩),J abp] (pI p node nodes (k0:Int) v leads (own:Int) t h es n bs ms0) (λu e=>e=b5 u)
  (λu => .o (dS u (CJ leads own ((es.take abp).drop k0) k0 ms0 []).2)::pI p node nodes (max k0 (min abp es.length):Nat) v leads (own:Int) t h es n bs (CJ leads own ((es.take abp).drop k0) k0 ms0 []).1) w:=by
 intro V hM hV
 have hS:=St.begin_ hM (λb hb=>(hV b hb).1) (GR _ _ _ _ _ _ _ _ _ _ _ _ _)
 obtain⟨U,MD,hU⟩:=hS.own.see 2 rfl
 have hL:=qd w p.s p.x p.d t h es n bs U MD ap
 have E:=hS.facts
 simp only[pI,ec,iu] at E
 go_in
 go_wp2_with fail
 refine hL.mono ?_
 rintro e wl ⟨u,rfl,⟨A,c,q,rfl,hEn,kZ,Z2,iO⟩,-,H⟩
 have hS:=hS.join (fT.framed A q) H (U:=New w wl) hEn (λb hb=>hb)
 clear MD hU hL E
 have wK:q.length=es.length:=by rw[<-kZ,bj]
 obtain⟨M,HM⟩:=az (min abp es.length:Nat)
 have Qf:∀ts t w,(Builtin.min_ ts t #[J abp,J es.length]).run W w=.ok (J M) w:=λts t w=>by rw[run_min_int2,HM.out];congr 2;split<;>omega
 go_wp2_with fail
 go_loopw [5] (λu wr=>ApR V w p node nodes k0 v leads own t h es n bs ms0 abp M A q u wr) (λ_ wr=>M-(intOf ((wr.cell? ⟨p.r,4,none⟩).getD undef)).toNat)
 case atStart=>exact⟨k0,ms0,[],bh _,by omega,rfl,hm,bo _,St.join hS (dS.framed _ _) (Grow.refl _) (U:=λ_=>False) (h_.nil _ _) (λ_ h=>h.elim)⟩
 case round=>
  obtain⟨k,ms,out,ja,hkM,Ub,hmk,hol,hS⟩:=hrel
  obtain⟨Au,cu,rfl,Uz⟩:=xZ hS
  have E:=hS.facts
  simp only[pI,ec,iu] at E
  by_cases N:k<M
  ·have dk:decide (k<M)=true:=aC N
   obtain⟨UE,hE,_⟩:=hS.own.see 1 rfl
   have hE:jO _ UE A q:=hE
   obtain⟨ad,vo,rfl,hVk,i4,e0,e1⟩:=hE.1.mr ap pf (k:=k) (by have:=HM.out;omega)
   have hbe:q[k]∈q:=bF vo
   have re:q[k].e.Ok:=gC _ (by rw[<-kZ];exact List.mem_map.2 ⟨_,hbe,rfl⟩)
   have Fy:(es.take abp).drop k=q[k].e::(es.take abp).drop (k+1):=by rw[bP (by rw[bn,<-HM.out];exact N)];congr 1;rw[List.getElem_take];simp[<-kZ]
   rw[Fy] at Ub
   generalize q[k]=b at e0 e1 hbe re Ub Fy
   obtain⟨⟨ek,ag,sh,sq,ep,ds,se,fr,tg⟩,Ab,cb⟩:=b
   dsimp only[El.cells,En.agg] at e0 e1
   have f0:=e0 _ rfl
   have f1:=e1 0 _ rfl
   have f2:=e1 1 _ rfl
   have f3:=e1 2 _ rfl
   have f4:=e1 3 _ rfl
   have f5:=e1 4 _ rfl
   have f6:=e1 5 _ rfl
   have f7:=e1 6 _ rfl
   have f8:=e1 7 _ rfl
   obtain⟨y,wa,HY,HA,mh⟩:=hS.new' #[J ek,J ag,J sh,J sq,J ep,Z Ab ds.length cb,aX se,J fr,J tg] 40
   clear e0 e1
   have o9:wr.cell? ⟨p.r,4,none⟩=some (J k):=E.1.1 4
   have fin:∀(u:K)(O:X),St V w (.o (dS u (if leads&&decide (own<=k) then out++[rk fr tg (ei ms ⟨ek,ag,sh,sq,ep,ds,se,fr,tg⟩).1 (ei ms ⟨ek,ag,sh,sq,ep,ds,se,fr,tg⟩).2.1] else out))::.o (fT (some ad) q)::pI p node nodes (k:Int) v leads (own:Int) t h es n bs (ei ms ⟨ek,ag,sh,sq,ep,ds,se,fr,tg⟩).2.2) O->
    ApR V w p node nodes k0 v leads own t h es n bs ms0 abp M (some ad) q u (O.setCell ⟨p.r,4,none⟩ (J ((k:Int)+1)))∧M-(intOf (((O.setCell ⟨p.r,4,none⟩ (J ((k:Int)+1))).cell? ⟨p.r,4,none⟩).getD undef)).toNat<M-(intOf ((wr.cell? ⟨p.r,4,none⟩).getD undef)).toNat:=λu O hS=>by
    obtain⟨h8,pi⟩:=Oz re;have I:=hS.put 2 rfl 4 (J ((k:Int)+1));have G:=I.facts;refine⟨⟨k+1,_,_,by omega,by omega,Ub,(hmk.step _ pi).more ap,?_,I⟩,?_⟩
    ·split
     ·rw[bd,bv];omega
     ·omega
    ·have L:(O.setCell ⟨p.r,4,none⟩ (J ((k:Int)+1))).cell? ⟨p.r,4,none⟩=some (J ((k:Int)+1)):=G.1.1 4
     rw[L,o9];simp only[Option.getD_some,intOf];omega
   go_wp2_with fail
   rw[<-HA.out,<-HY.out]
   have eW:=mh.grow (Grow.refl _).drew
   have E:=eW.facts
   simp only[pI,ec,iu] at E
   refine dJ rfl ?_
   have QO:=eW.facts
   apply gi (ec _) 11 rfl
   refine held 0 rfl QO (λw1 E R T=>by simp only[pI,ec,iu] at E;go_simp;exact T) ?_
   refine held 1 rfl QO (λw1 E R T=>by simp only[pI,ec,iu] at E;go_simp;exact T) ?_
   refine held 2 rfl QO (λw1 E R T=>by simp only[pI,ec,iu] at E;go_simp;exact T) ?_
   refine held 3 rfl QO (λw1 E R T=>by simp only[pI,ec,iu] at E;go_simp;exact T) ?_
   refine held 4 rfl QO (λw1 E R T=>by simp only[pI,ec,iu] at E;go_simp;exact T) ?_
   refine dY 5 rfl ?_
   go_wp2_with fail
   refine (eW.atR 4 2 rfl rfl (λ_=>gR.framed _ _) (λU hU jR=>Ox _ p.m ms (8*k) ⟨ek,ag,sh,sq,ep,ds,se,fr,tg⟩ Ab cb U re (hU.2 _ hbe).1 jR hmk ap)).mono ?_
   rintro en w2 ⟨_,rfl,dV⟩
   go_wp2_with fail
   refine⟨dV.facts,?_⟩
   refine held 6 rfl dV.facts (λw1 E=>aM) ?_
   refine held 7 rfl dV.facts (λw1 E=>aM) ?_
   refine held 8 rfl dV.facts (λw1 E=>aM) ?_
   refine held 9 rfl dV.facts (λw1 E=>aM) ?_
   refine held 10 rfl dV.facts (λw1 E=>aM) ?_
   refine eU ?_
   clear E eW mh hS f0 f1 f2 f3 f4 f5 f6 f7 f8
   go_wp2_with fail
   have hS:=dV.grow (Grow.refl _).drew
   have E:=hS.facts
   simp only[pI,bz,bA,ec,iu] at E
   clear dV
   have oN:=hS.facts
   clear E
   refine dJ rfl ?_
   apply gi (ec _) 15 rfl
   rcases bC leads with hl|hl
   case' inl=>
    refine held 0 rfl oN (λw1 E R T=>by simp only[pI,bz,bA,ec,iu] at E;go_simp;exact T) ?_
    refine held 1 rfl oN (λw1 E R T=>by simp only[pI,bz,bA,ec,iu] at E;go_simp;exact T) ?_
    refine held 2 rfl oN (λw1 E R T=>by simp only[pI,bz,bA,ec,iu] at E;go_simp;exact T) ?_
    refine held 3 rfl oN (λw1 E R T=>by simp only[pI,bz,bA,ec,iu] at E;go_simp;exact T) ?_
    refine held 4 rfl oN (λw1 E R T=>by simp only[pI,bz,bA,ec,iu] at E;go_simp;exact T) ?_
    refine held 5 rfl oN (λw1 E R T=>by simp only[pI,bz,bA,ec,iu] at E;go_simp;exact T) ?_
    refine held 6 rfl oN (λw1 E R T=>by simp only[pI,bz,bA,ec,iu] at E;go_simp;exact T) ?_
    refine held 7 rfl oN (λw1 E R T=>by simp only[pI,bz,bA,ec,iu] at E;go_simp;exact T) ?_
    refine held 8 rfl oN (λw1 E R T=>by simp only[pI,bz,bA,ec,iu] at E;go_simp;exact T) ?_
    refine held 9 rfl oN (λw1 E R T=>by simp only[pI,bz,bA,ec,iu] at E;go_simp;exact T) ?_
    refine held 10 rfl oN (λw1 E R T=>by simp only[pI,bz,bA,ec,iu] at E;go_simp;exact T) ?_
    refine held 11 rfl oN (λw1 E R T=>by simp only[pI,bz,bA,ec,iu] at E;go_simp;exact T) ?_
    refine held 12 rfl oN (λw1 E R T=>by simp only[pI,bz,bA,ec,iu] at E;go_simp;exact T) ?_
    refine held 13 rfl oN (λw1 E R T=>by simp only[pI,bz,bA,ec,iu] at E;go_simp;exact T) ?_
    refine held 14 rfl oN (λw1 E R T=>by simp only[pI,bz,bA,ec,iu] at E;go_simp;exact T) ?_
   case' inr=>
    refine held 0 rfl oN (λw1 E R T=>by simp only[pI,bz,bA,ec,iu] at E;go_simp;exact T) ?_
    refine held 1 rfl oN (λw1 E R T=>by simp only[pI,bz,bA,ec,iu] at E;go_simp;exact T) ?_
    refine held 2 rfl oN (λw1 E R T=>by simp only[pI,bz,bA,ec,iu] at E;go_simp;exact T) ?_
    refine held 3 rfl oN (λw1 E R T=>by simp only[pI,bz,bA,ec,iu] at E;go_simp;exact T) ?_
    refine held 4 rfl oN (λw1 E R T=>by simp only[pI,bz,bA,ec,iu] at E;go_simp;exact T) ?_
    refine dQ 5 rfl oN ?_
    refine dQ 6 rfl oN ?_
    refine dQ 7 rfl oN ?_
    refine dQ 8 rfl oN ?_
    refine dQ 9 rfl oN ?_
    refine dQ 10 rfl oN ?_
    refine dQ 11 rfl oN ?_
    refine dQ 12 rfl oN ?_
    refine dQ 13 rfl oN ?_
    refine held 14 rfl oN (λw1 E R T=>by simp only[pI,bz,bA,ec,iu] at E;go_simp;exact T) ?_
   all_goals refine eU ?_
   all_goals (have E:=hS.facts;simp only[pI,bz,bA,ec,iu] at E)
   all_goals go_wp2_with (at_builtin;refine stay ?_)
   ·exact fin _ _ (by rw[hl];exact hl▸hS.dO 0 rfl)
   ·rename_i hb
    refine dI ?_
    refine lb AH pm po xY uH rfl (.tmp 55) (.tmp 64) rfl rfl (hS.front 1 rfl) (Grow.refl _) (b:=rk fr tg (ei ms ⟨ek,ag,sh,sq,ep,ds,se,fr,tg⟩).1 (ei ms ⟨ek,ag,sh,sq,ep,ds,se,fr,tg⟩).2.1) (nD _ _ _ _ _ _) ap 1 rfl ?_
    intro v' O hS
    have E:=hS.facts
    simp only[pI,bz,bA,List.eraseIdx_cons_succ,List.eraseIdx_cons_zero,ec,iu] at E
    go_wp2_with fail
    exact fin _ _ (by rw[hl,Bool.true_and,aA (aC hb)];exact hl▸hS.dO 1 rfl)
   ·rename_i hb
    exact fin _ _ (by rw[hl,Bool.true_and,aB (by simpa using hb)];exact hl▸hS.dO 0 rfl)
  ·have uY:k=max k0 M:=by omega
   have kS:(es.take abp).drop k=[]:=cR (by rw[bn,<-HM.out];omega)
   rw[kS] at Ub
   have dk:decide (k<M)=false:=aD N
   go_wp2
   go_ret
   rw[<-Ub,<-HM.out,<-uY]
   obtain⟨r1,r2⟩:=(hS.dO 1 rfl).fin
   exact⟨_,rfl,r1,r2⟩
end Go.Proofs.YtpeepcmdehhbgaaGreatDoor
section
namespace Go.Hop
open Go.RowKit
theorem St.qg{l:List Bl}{p:Nat}{t:dC}{cs':aP}{S:dW}{U:aV}(h:St V w0 (.c p t cs::l) w)(hj:dM (λb=>b=p) w O)(hB:eJ O p t cs')(hS:eu S)(T:S O U)(hU:∀b,U b->(w:Nat)<=b∧b<(O:Nat)):St V w0 (.o S::.c p t cs'::l) O:=
 St.step (a:=[.c p t cs]) (a2:=[.o S,.c p t cs']) h ⟨hS,trivial,trivial⟩ λU1 hM fS=>by obtain⟨U2,U3,hC,_,k1,_,_⟩:=hM;have hp:U1 p:=k1 p hC.1;refine⟨⟨U,λb=>b=p,T,⟨λb=>b=p,λ_=>False,⟨rfl,hB⟩,trivial,λ_ h=>h,λ_ h=>h.elim,λ_ _ h=>h⟩,λb hb => .inr (hU b hb),λb hb => .inl (hb▸hp),λb hb e=>by have I:=(hU b hb).1;have G:=fS p hp;have L:b=p:=e;omega⟩,hj.imp λb hb=>hb▸hp⟩
end Go.Hop
namespace Go.Proofs.YtpeepcmdehhbgaaGreatDoor
open Go.RowKit Go.Hop V
theorem OA(w:X)(A:aU)(n c:Nat):dz W 77 #[Z A n c] w λe O=>∃r,e=b5 (((r:Nat):K))∧(w:Nat)<=r∧eJ O r 237 #[Z A n c,aY false]∧Grow w O:=by go_in;go_wp2;go_ret;exact⟨_,rfl,bh _,eJ.made w _ _,(Below.refl _ w).alloc (bh _) _⟩
section
variable{l l':List Bl}{r abp:Nat}{s:RS}
theorem kH(hS:St (λ_=>False) w0 l w)(i:Nat)(hi:l[i]?=some (.c r 237 cs))(h:km r (w0:Nat) abp s O)(ho:fI r w O):∃cs',St (λ_=>False) w0 (l.set i (.c r 237 cs')) O:=by obtain⟨_,A,n,c,l1,b,_,hB,_⟩:=h;exact⟨_,hS.turned i hi (dM.jA ho rfl) hB⟩
theorem kI(h:km r (w0:Nat) abp s w)(hS:St (λ_=>False) w0 l w)(yP:St (λ_=>False) w0 l' O)(i i':Nat)(hi:l[i]?=some (.c r 237 cs))(tR:l'[i']?=some (.c r 237 cs)):km r (w0:Nat) abp s O:=by
 obtain⟨h0,A,n,c,l1,b,I,hB,G,L⟩:=h;have e:#[Z A n c,aY b]=cs:=by have h4:=hB.symm.trans (hS.blk i hi);injection h4 with h4;injection h4
 have N:∀b,b<(w0:Nat)->O.heap[b]?=w.heap[b]?:=λb hb=>(yP.keep (D:=λb=>b<(w0:Nat)) (λ_ h=>⟨h,λh=>h⟩) b hb).trans (hS.keep (D:=λb=>b<(w0:Nat)) (λ_ h=>⟨h,λh=>h⟩) b hb).symm;exact⟨h0,A,n,c,l1,b,I,e▸yP.blk i' tR,Reads.keep G λp hp=>World.cell?_of_block (N _ hp),L⟩
end
def WC(A:aU)(n:Nat)(ds:List Dl):dW:=λw V=>jM w V A n ds
theorem WC.framed(A:aU)(n:Nat)(ds:List Dl):eu (WC A n ds):=λ_ _ _ h N=>In.keep h λb hb _=>N b hb
def yc(l:aT):En×RS:=
 let k:=nB (some l)
 let f:=gb 8 k.2
 let tg:=gu f.2
 if k.1=2 then (⟨(k.1:Int),0,0,0,0,[],⟨(gn tg.2).1.toArray⟩,(f.1:Int),(tg.1:Int)⟩,(gn tg.2).2) else
 let ag:=gb 8 tg.2
 let sh:=gb 4 ag.2
 let sq:=gu sh.2
 let ep:=gu sq.2
 let n:=gb 8 ep.2
 (⟨(k.1:Int),(ag.1:Int),(sh.1:Int),(sq.1:Int),(ep.1:Int),(mg n.1 n.2).1,⟨#[]⟩,(f.1:Int),(tg.1:Int)⟩,(mg n.1 n.2).2)
def C5(l:aT)(e:En):Prop:=yc l=(e,some [])∧e.Ok
def a06(l:aT)(w O:X)(en:Ending):Prop:=(∃(e:En)(A:aU)(c:Nat),en=b5 (a_ #[aZ (e.agg A c),()])∧C5 l e∧kP O (New w O) ⟨e,A,c⟩)∨∃abl:Int,abl≠0∧en=b5 (a_ #[aZ (En.zero.agg none 0),J abl])∧∀e,¬ C5 l e
set_option maxRecDepth 100000
set_option maxHeartbeats 1000000
theorem Jl(w:X)(A:aU)(n c abp:Nat)(l:aT)(hb:Bytes w (w:Nat) A n l)(hl:l.length<=abp)(hN:abp<=1000000)(iS:n<=c)(iO:c<=dG):dz W 137 #[Z A n c] w λen O=>a06 l w O en∧Grow w O:=by
 have hS:=St.begin_ (l:=[]) (w:=w) (V:=λ_=>False) trivial (λ_ h=>h.elim) trivial;obtain⟨x,wa,HX,HA,hS⟩:=hS.new' aK 40;have hNw:=OA wa A n c;go_in;go_wp2_with fail;rw[<-HA.out,<-HX.out];refine hNw.mono ?_;rintro e w1 ⟨r,rfl,hr,Qk,eD⟩;have ej:=hS.made eD Qk hr;have zh:Grow w w1:=ej.grown;have lT:km r (w:Nat) abp (some l) w1:=⟨bB hS.grown.size hr,A,n,c,l,false,hl,Qk,Reads.below hb zh,⟨iS,iO⟩,rfl⟩;clear hNw Qk hb hS;go_wp2_with fail;refine (I_ w1 r _ abp _ lT).mono ?_;rintro e w2 ⟨k,s2,q2,N,rfl,gS,pN⟩;obtain⟨cs2,dV⟩:=kH ej 0 rfl gS pN;have dV:St (λ_=>False) w [.c r 237 cs2,.c x 40 aK] w2:=dV;have hwk:IntKind.i64.wrap (k:Int)=(k:Int):=by rw[IntKind.wrap_i64];omega
 obtain⟨y,w3,HY,H3,dX⟩:=dV.new' #[J k,(),(),(),(),ay,"",(),()] 40;have jN:=kI gS dV dX 0 1 rfl rfl;clear lT gS ej dV;go_wp2_with fail;rw[<-H3.out,<-HY.out];refine (lK w3 r _ abp 8 _ jN).mono ?_;rintro e w4 ⟨f,s4,q4,hf,rfl,om,S4⟩;obtain⟨cs4,eO⟩:=kH dX 1 rfl om S4;clear jN dX;go_wp2_with fail;refine (mO w4 r _ abp _ om).mono ?_;rintro e w5 ⟨tg,s5,q5,KS,rfl,qM,Sp⟩;obtain⟨cs5,eF⟩:=kH eO 1 rfl qM Sp;clear om eO;go_wp2_with (refine fv eF 0 rfl 3 _ _ rfl 7 rfl (J f) rfl (bf rfl) rfl aw rfl ?_;intro w6 eN;refine stay ?_);refine dI ?_;have vC:=kI qM eF eN 1 1 rfl rfl;clear qM eF;go_wp2_with (refine fv eN 0 rfl 2 _ _ rfl 8 rfl (J tg) rfl (bf rfl) rfl aw rfl ?_;intro w7 fH;refine stay ?_);refine dI ?_;have yd:=kI vC eN fH 1 1 rfl rfl;clear vC eN;simp only[bY,bz,bA] at fH;have eA:w7.cell? ⟨y,0,none⟩=some (J k):=(fH.facts.1.1 0).trans rfl;by_cases ip:k=2;case' pos=>
  have dk:((k:Int) == 2)=true:=by simp[ip]
  replace ip:=Q ip;go_wp2_with fail;refine (BV w7 r _ abp _ yd).mono ?_;rintro e w8 ⟨s,s8,q8,hs,rfl,Lp,ho8⟩;obtain⟨cs8,fD⟩:=kH fH 1 rfl Lp ho8;clear yd fH eA;go_wp2_with (refine fv fD 0 rfl 9 _ _ rfl 6 rfl (aX ⟨s.toArray⟩) rfl (bf rfl) rfl aw rfl ?_;intro w9 gy;refine stay ?_);refine dI ?_;have QC:=kI Lp fD gy 1 1 rfl rfl;clear Lp fD;simp only[bY,bz,bA] at gy;have gy:=St.join gy (WC.framed none 0 []) (Grow.refl _) (U:=λ_=>False) ⟨by simp[fm],λh=>by omega⟩ (λ_ h=>h.elim);have WE:En.Rt ⟨(k:Int),0,0,0,0,[],⟨s.toArray⟩,(f:Int),(tg:Int)⟩:=⟨by show (0:Int)<=_;decide,by show (0:Int)<=_;decide,by show (tg:Int)<=_;omega,λd hd=>absurd hd (by simp),by show s.toArray.size<=_;rw[cy];omega,bo _⟩;obtain⟨abl,HE⟩:=aE (⟨(k:Int),0,0,0,0,[],⟨s.toArray⟩,(f:Int),(tg:Int)⟩:En);obtain⟨A9,UN⟩:=aE (none:aU);obtain⟨c9,HC9⟩:=aE (0:Nat);have hcE:abl.ds.length<=c9∧c9<=dG:=by rw[HE,HC9];exact⟨bh _,bo _⟩
  have gy:St (λ_=>False) w [.o (WC A9 abl.ds.length abl.ds),.c y 40 (abl.agg A9 c9),.c r 237 cs8,.c x 40 aK] w9:=by rw[HE,UN,HC9];exact gy
  have rx:Hid (yc l=(abl,s8)):=Q (by unfold yc;dsimp only;rw[q2.out,q4.out,q5.out];dsimp only;rw[aA ip.out,q8.out,HE])
  rw[<-HE] at WE;obtain⟨s9,es9⟩:=aE s8;rw[<-es9] at rx QC;replace HE:=Q HE;replace UN:=Q UN;replace HC9:=Q HC9
 case' neg=>
  have dk:((k:Int) == 2)=false:=by simp;omega
  replace ip:=Q ip;go_wp2_with fail;refine (lK w7 r _ abp 8 _ yd).mono ?_;rintro e w8 ⟨ag,s8,q8,Qt,rfl,Lp,ho8⟩;obtain⟨cs8,fD⟩:=kH fH 1 rfl Lp ho8;clear yd fH eA;go_wp2_with fail;refine (lK w8 r _ abp 4 _ Lp).mono ?_;rintro e w9 ⟨sh,s9,q9,YW,rfl,QC,ho9⟩;obtain⟨cs9,gy⟩:=kH fD 1 rfl QC ho9;clear Lp fD;have gy:St (λ_=>False) w [.c y 40 #[J k,(),(),(),(),ay,"",J f,J tg],.c r 237 cs9,.c x 40 aK] w9:=gy;go_wp2_with (refine d_ gy 0 rfl 37 _ _ rfl 1 rfl [J ag,J sh,()] rfl (bf rfl) rfl aw #[J k,J ag,J sh,(),(),ay,"",J f,J tg] rfl rfl ?_;intro UO iA;refine stay ?_);refine dI ?_;have a07:=kI QC gy iA 1 1 rfl rfl;clear QC gy;go_wp2_with fail;refine (mO UO r _ abp _ a07).mono ?_;rintro e w11 ⟨sq,s11,q11,pi,rfl,WG,a4K⟩;obtain⟨cs11,kQ⟩:=kH iA 1 rfl WG a4K;clear a07 iA;go_wp2_with fail;refine (mO w11 r _ abp _ WG).mono ?_;rintro e w12 ⟨ep,s12,q12,Ov,rfl,WH,a4L⟩;obtain⟨cs12,ll⟩:=kH kQ 1 rfl WH a4L;clear WG kQ;go_wp2_with (refine fv ll 0 rfl 2 _ _ rfl 3 rfl (J sq) rfl (bf rfl) rfl aw rfl ?_;intro w13 nm;refine stay ?_);refine dI ?_;have a08:=kI WH ll nm 1 1 rfl rfl;clear WH ll;go_wp2_with (refine fv nm 0 rfl 2 _ _ rfl 4 rfl (J ep) rfl (bf rfl) rfl aw rfl ?_;intro w14 C6;refine stay ?_);refine dI ?_;have a09:=kI a08 nm C6 1 1 rfl rfl;clear a08 nm;go_wp2_with fail;refine (lK w14 r _ abp 8 _ a09).mono ?_;rintro e w15 ⟨nd,s15,q15,pJ,rfl,WI,a4M⟩;obtain⟨cs15,Sq⟩:=kH C6 1 rfl WI a4M;clear a09 C6;go_wp2_with fail;refine (Wi w15 r _ abp nd _ WI ap).mono ?_;rintro e w16 ⟨⟨A9,c9,ds⟩,rfl,⟨hdq,tS⟩,Sr,hD,hc9,hm9,a4N⟩;dsimp only at hdq tS hD hc9 hm9;obtain rfl:ds.length=nd:=by rw[hdq,AA]
  obtain⟨s16,q16⟩:∃s16,Hid (mg ds.length s15=(ds,s16)):=⟨_,Q (Prod.ext hdq.symm rfl)⟩;rw[show (mg ds.length s15).2=s16 by rw[q16.out]] at Sr;clear hdq;have Mi:=Sr;obtain⟨_,A',n',c',l',b',_,a0a,_⟩:=Mi;have GU:=((Sq.front 1 rfl).qg (dM.jA a4N rfl) a0a (WC.framed A9 ds.length ds) (U:=New w15 w16) hD (λb hb=>hb)).perm (List.Perm.cons _ (List.Perm.swap _ _ _));have GU:St (λ_=>False) w [.o (WC A9 ds.length ds),.c y 40 #[J k,J ag,J sh,J sq,J ep,ay,"",J f,J tg],.c r 237 #[Z A' n' c',aY b'],.c x 40 aK] w16:=GU;clear Sq WI a0a hD;go_wp2_with (refine fv GU 1 rfl 38 _ _ rfl 5 rfl (Z A9 ds.length c9) rfl (bf rfl) rfl aw rfl ?_;intro w9 gy;refine stay ?_);refine dI ?_;have QC:=kI Sr GU gy 2 2 rfl rfl;clear Sr GU;simp only[bY,bz,bA] at gy;have WE:En.Rt ⟨(k:Int),(ag:Int),(sh:Int),(sq:Int),(ep:Int),ds,⟨#[]⟩,(f:Int),(tg:Int)⟩:=⟨by show (sq:Int)<=_;omega,by show (ep:Int)<=_;omega,by show (tg:Int)<=_;omega,λd hd=>⟨(tS d hd).2,bB (tS d hd).1 hN⟩,by show (0:Nat)<=_;omega,by show ds.length<=_;omega⟩;obtain⟨abl,HE⟩:=aE (⟨(k:Int),(ag:Int),(sh:Int),(sq:Int),(ep:Int),ds,⟨#[]⟩,(f:Int),(tg:Int)⟩:En);have hcE:abl.ds.length<=c9∧c9<=dG:=by rw[HE];exact⟨hc9,hm9⟩
  have gy:St (λ_=>False) w [.o (WC A9 abl.ds.length abl.ds),.c y 40 (abl.agg A9 c9),.c r 237 #[Z A' n' c',aY b'],.c x 40 aK] w9:=by rw[HE];exact gy
  have rx:Hid (yc l=(abl,s16)):=Q (by unfold yc;dsimp only;rw[q2.out,q4.out,q5.out];dsimp only;rw[aB ip.out,q8.out];dsimp only;rw[q9.out];dsimp only;rw[q11.out];dsimp only;rw[q12.out];dsimp only;rw[q15.out];dsimp only;rw[q16.out,HE])
  rw[<-HE] at WE;obtain⟨s9,es9⟩:=aE s16;rw[<-es9] at rx QC;replace HE:=Q HE
 all_goals
  have m6:=λU(hU:jM w9 U A9 abl.ds.length abl.ds)=>oy w9 abl U A9 c9 WE hU
  obtain⟨U9,hD9,_⟩:=gy.own.see 0 rfl
  have m6:=m6 U9 hD9
  obtain⟨E0,HE0⟩:=az abl
  rw[<-HE0.out] at rx
  obtain⟨ek,eag,esh,esq,eep,eds,ese,efr,etg⟩:=abl
  unfold En.agg at m6 gy
  dsimp only at m6 gy hcE hD9
  have E:=gy.facts
  simp only[ec] at E
  go_wp2_with fail
  refine (BP w9 r _ abp _ QC).mono ?_
  rintro e w17 ⟨rfl,rfl⟩
  obtain⟨b,Hb⟩:=az (decide (s9=some []))
  rw[<-Hb.out]
  rcases bC b with K8|K8
  case' inr=>
   subst K8
   go_wp2_with fail
   change bodyPost _ _ _ _ _ (World.setCells w9 x 0 [(),(),(),(),(),ay,"",(),()])
   have C7:=gy.turned 3 rfl (uq x [(),(),(),(),(),ay,"",(),()] w9) ((gy.blk 3 rfl).fill [(),(),(),(),(),ay,"",(),()] rfl)
   refine bodyPost_ret (dZ rfl _ x rfl (C7.blk 3 rfl) Tryz.underlying40 aw) rfl ?_
   exact⟨.inr ⟨12,by decide,rfl,λe1 I=>by have G:=(Prod.mk.inj (rx.out.symm.trans I.1)).2;have L:=Hb.out;rw[G,aC rfl] at L;cases L⟩,C7.grown⟩
  case' inl=>
   subst K8
   go_wp2_with fail
   refine m6.mono ?_
   rintro e w17 ⟨⟨F,rfl,hF⟩,a4P⟩
   have OB:=gy.grow a4P
   replace hF:=Q hF
   clear E
   have E:=OB.facts
   simp only[ec] at E
   by_cases Jm:F=0
   ·subst Jm
    have gC:=hF.out.1 rfl
    go_wp2_with fail
    change bodyPost _ _ _ _ _ (World.setCells w17 x 0 [J ek,J eag,J esh,J esq,J eep,Z A9 eds.length c9,aX ese,J efr,J etg])
    have C7:=OB.turned 3 rfl (uq x [J ek,J eag,J esh,J esq,J eep,Z A9 eds.length c9,aX ese,J efr,J etg] w17) ((OB.blk 3 rfl).fill [J ek,J eag,J esh,J esq,J eep,Z A9 eds.length c9,aX ese,J efr,J etg] rfl)
    refine bodyPost_ret (dZ rfl _ x rfl (C7.blk 3 rfl) Tryz.underlying40 aw) rfl ?_
    obtain⟨U1,I,k1⟩:=C7.own.see 0 rfl
    exact⟨.inl ⟨⟨ek,eag,esh,esq,eep,eds,ese,efr,etg⟩,A9,c9,rfl,⟨by rw[rx.out,HE0.out,of_decide_eq_true Hb.out.symm],gC⟩,In.mono I (λb hb=>⟨(k1 b hb).1.elim False.elim id,(k1 b hb).2⟩),hcE.1,hcE.2,WE.n⟩,C7.grown⟩
   ·have ME:(F != 0)=true:=by simp[Jm]
    replace Jm:=Q Jm
    go_wp2_with fail
    change bodyPost _ _ _ _ _ (World.setCells w17 x 0 [(),(),(),(),(),ay,"",(),()])
    have C7:=OB.turned 3 rfl (uq x [(),(),(),(),(),ay,"",(),()] w17) ((OB.blk 3 rfl).fill [(),(),(),(),(),ay,"",(),()] rfl)
    refine bodyPost_ret (dZ rfl _ x rfl (C7.blk 3 rfl) Tryz.underlying40 aw) rfl ?_
    exact⟨.inr ⟨12,by decide,rfl,λe1 I=>Jm.out (hF.out.2 (by have G:=(Prod.mk.inj (rx.out.symm.trans I.1)).1;rw[<-HE0.out,G];exact I.2))⟩,C7.grown⟩
end Go.Proofs.YtpeepcmdehhbgaaGreatDoor
end
end
