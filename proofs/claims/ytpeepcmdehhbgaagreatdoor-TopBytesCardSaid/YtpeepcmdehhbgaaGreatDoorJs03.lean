/- More, Sep, St, Gro, Sepb, Dlt, Lb, Dclone, Bts, Vput, Vget, Dplain, Dr. -/
import Derived.Test.YtpeepcmdehhbgaaGreatDoorJs01
import Derived.Lib.SlBytesConst
set_option linter.all false
set_option maxRecDepth 100000
set_option maxHeartbeats 2000000
open Go.Value renaming int->ae,slice->Z,string->aX,bool->aY,agg->aZ,tuple->a_
open Go.Ending renaming returned->b5
open Go.IntKind renaming i64->af,u64->ah
open Go (J az aE aA aB aC aD ay aj am ap aw aL aK aJ aI aH aV aU aT aR aQ aP aO aN)
open Go.Proofs.Tryz renaming prog->W,underlying9->cW,underlying23->d9,underlying5->dm
open Go.Lib renaming hid->Q
open List renaming length_append->bd,length_map->bj,append_nil->bm,append_assoc->bp,eq_nil_of_length_eq_zero->bu,length_singleton->bv,take_of_length_le->bH,map_append->bI,flatMap_cons->bJ,flatMap_append->bL,map_cons->bQ,nil_append->ch,flatMap_nil->cE,not_mem_nil->cF,mem_cons->cI,map_nil->cQ,mem_of_mem_eraseIdx->cY
open Nat renaming le_refl->bh,zero_le->bo,lt_of_lt_of_le->bw,le_trans->bB,eq_zero_or_pos->b_,zero_add->cJ,mul_le_mul_right->cK,mul_one->cM
open Go renaming Value->K,World->X,Calls->dz,Addr->dA,TypeId->dC,Program->dD,Oper->dE,Act->dF,maxLen->dG
open Go.Hop (dW)
variable{w O w1 w0 w2:X}{n e bytes B x k:Nat}{t:dC}{V:aV}{v z u:K}{S S' R:dW}{xs:List K}{A:aU}{P Pr:dD}{cs args:aP}{o:dE}{ρ:Go.Operand->K}{a:dF}{l:aT}
namespace Go.Hop
open RowKit
def New(w O:X)(b:Nat):Prop:=(w:Nat)<=b∧b<(O:Nat)
def ny{e:dC}{size:Nat}(hO:Own w1 (iY (λb=>b=(w:Nat)) (w.alloc (.cells #[] t)) w1) e size v n xs)(hj:dM (λb=>b=(w:Nat)) (w.alloc (.cells #[] t)) w1):Own w1 (New w w1) e size v n xs∧Grow w w1:=by
 have hs:(w:Nat)<(w1:Nat):=by have:=hj.size;simp at this;omega
 refine⟨hO.mono (λb hb=>?_),((Below.refl (w:Nat) w).alloc (bh _) (.cells #[] t)).trans (hj.below (B:=(w:Nat)) (λb hb=>by rw[hb];exact bh _) (by simp))⟩;rcases hb with rfl|⟨I,G⟩
 ·exact⟨bh _,hs⟩
 ·simp at I;exact⟨by omega,G⟩
def lC(w:X)(e:dC)(size:Nat):Own (w.alloc (.cells #[] e)) (λb=>b=(w:Nat)) e size (Z (some ⟨(w:Nat),0,none⟩) 0 0) 0 []:=⟨by simp,.inr ⟨(w:Nat),0,#[],rfl,rfl,heap_alloc_new w _,bh _,bo _,.inl (by simp),by simp⟩⟩
section
variable{P P' abo:aV}
def Solo.wide(h:Solo P S w)(hP:∀b,P b->P' b):Solo P' S w:=by obtain⟨h0,V,I,G⟩:=h;exact⟨λb hb=>hP b (h0 b hb),V,I,λb hb=>⟨hP b (G b hb).1,(G b hb).2⟩⟩
def Solo.turn(h:Solo P S w)(hS:∀V,S w V->S' w V):Solo P S' w:=by obtain⟨h0,V,I,G⟩:=h;exact⟨h0,V,hS V I,G⟩
end
section
variable{α:Type}(e:dC)(size:Nat)(cells:α->List K)(good:X->(Nat->Prop)->α->Prop)
def Zf(B:Nat)(abh:α->Prop)(u:K)(w:X):Prop:=∃(b:α)(abj:Nat),abh b∧u=aZ (cells b).toArray∧good w (λx=>B<=x∧x<abj) b∧abj<=(w:Nat)
def Zg(B:Nat)(abh:α->Prop)(u:K)(w:X):Prop:=∃(b:α)(abj:Nat)(A:aU),abh b∧u=Z A 1 1∧In w (λx=>B<=x) size A 1 (cells b)∧good w (λx=>B<=x∧x<abj) b∧abj<=(w:Nat)
def a3H(R:aV)(B:Nat)(q:List α)(abh:α->Prop)(u:K)(w:X):Prop:=∃(b:α)(R' D':aV),abh b∧Row w R' e size u (q.length+1) ((q++[b]).flatMap cells)∧good w D' b∧(∀x,R' x->(R x∨B<=x)∧x<(w:Nat)∧¬ D' x)∧(∀x,D' x->B<=x∧x<(w:Nat))
variable{e size cells good}
variable{R:aV}{q:List α}{abh:α->Prop}
def jr(good:X->(Nat->Prop)->α->Prop):Prop:=∀(w O:X)(D U:aV)(a:α),good w D a->dM U w O->(∀b,D b->¬ U b)->good O D a
def Ki(hG:jr good)(hl:∀b,(cells b).length=size)(h:Zf cells good B abh u w)(hs:B<=(w:Nat))
 (eR:∀b:α,u=aZ (cells b).toArray->(execOp ρ o).run P w=.ok (.value (Z (some ⟨(w:Nat),0,none⟩) 1 1)) (w.alloc (.cells (cells b).toArray e))):gE P (λv O=>Grow w O∧Zg size cells good B abh v O) ((execOp ρ o).run P w):=by obtain⟨b,abj,e1,e2,hb,hH⟩:=h;have H:Grow w (w.alloc (.cells (cells b).toArray e)):=(Below.refl _ w).alloc (bh _) _;refine gv (eR b e2) ⟨H,b,abj,some ⟨(w:Nat),0,none⟩,e1,rfl,?_,hG _ _ _ _ _ hb (dM.dK (V:=λ_=>False) H) (λ_ _ h=>h),bB hH H.size⟩;obtain⟨L,h4⟩:=fF w (cells b).toArray e (0,0) (n:=1) (size:=size) (by simp[hl]) _ rfl;exact⟨by simp[hl],λhn=>⟨_,rfl,hs,by simp,by obtain⟨ad,e,_,E⟩:=h4 hn;injection e with e;rw[e];simpa using E⟩⟩
def CZ(abl:Elem P t e size bytes z)(hG:jr good)(m_:∀b,∀u∈cells b,u.oneCell'=true){x y:Operand}(Mi:∀x,R x->x<B)
 (h:Row w R e size v q.length (q.flatMap cells)) (hu:Zg size cells good B abh u w) (Mw:B<=(w:Nat)) (fw:(q.length+1)*bytes<=140737488355328)
 (I:ρ x=v) (G:ρ y=u) (ho:o.op=.call { callee := .builtin .append,args:=#[x,y],argTypes:=#[t,t] }):gE P (λv' O=>dM R w O∧a3H e size cells good R B q abh v' O) ((execOp ρ o).run P w):=by
 obtain⟨b,abj,A,e1,rfl,hI,hb,hH⟩:=hu;refine pv abl ho I h G hI.reads (m_ b) fw λv' O T hj=>⟨hj,b,iY R w O,λx=>B<=x∧x<abj,e1,?_,hG _ _ _ _ _ hb hj λx Y hr=>?_,λx Y=>?_,λx Y=>⟨Y.1,bw Y.2 (bB hH hj.size)⟩⟩;·rw[bL,bJ,cE,bm];exact T
 ·exact Nat.lt_irrefl _ (bw (Mi x hr) Y.1)
 ·rcases Y with Y|Y
  ·have:=Mi x Y
   exact⟨.inl Y,by have:=hj.size;omega,λhd=>by have L:B<=x:=hd.1;omega⟩
  ·exact⟨.inr (by have:=Y.1;omega),Y.2,λhd=>by have:=Y.1;have L:x<abj:=hd.2;omega⟩
end
def Zh(size n:Nat)(xs:List K)(u:K)(w:X):Prop:=∃(A:aU)(c:Nat),u=Z A n c∧Reads w (w:Nat) size A n xs
section
variable{e:dC}{size:Nat}
end
def Sep(S R:dW):dW:=λw V=>∃V1 V2:aV,S w V1∧R w V2∧(∀b,V1 b->V b)∧(∀b,V2 b->V b)∧∀b,V1 b->¬ V2 b
def Yr:dW:=λ_ _=>True
def dN:List dW->dW
 | []=>Yr
 | S::l=>Sep S (dN l)
def Cell(x:Nat)(t:dC)(cs:aP):dW:=λw V=>V x∧eJ w x t cs
def Uk(p:Prop):dW:=λ_ _=>p
def eG(l:List dW):Prop:=∀S∈l,eu S
section
variable{R':dW}{l l':List dW}{V':aV}
def Cell.framed(x:Nat)(t:dC)(cs:aP):eu (Cell x t cs):=λ_ _ _ h N=>⟨h.1,(N x h.1).trans h.2⟩
def Yr.framed:eu Yr:=λ_ _ _ _ _=>trivial
def Uk.framed(p:Prop):eu (Uk p):=λ_ _ _ h _=>h
def Sep.framed(I:eu S)(G:eu R):eu (Sep S R):=λw O V ⟨V1,V2,a,b,c,d,e⟩ N=>⟨V1,V2,I w O V1 a λx Y=>N x (c x Y),G w O V2 b λx Y=>N x (d x Y),c,d,e⟩
theorem dN.framed:∀(l:List dW),eG l->eu (dN l)
 | [],_=>Yr.framed
 | S::l,h=>Sep.framed (h S (by simp)) (dN.framed l λR T=>h R (by simp[T]))
def eG.nil:eG []:=λS h=>by simp at h
def eG.cons(h:eu S)(hl:eG l):eG (S::l):=λR T=>by
 rcases List.mem_cons.1 T with rfl|T
 ·exact h
 ·exact hl R T
def Sep.wide(h:Sep S R w V)(hV:∀b,V b->V' b):Sep S R w V':=by obtain⟨V1,V2,a,b,c,d,e⟩:=h;exact⟨V1,V2,a,b,λx Y=>hV x (c x Y),λx Y=>hV x (d x Y),e⟩
def Sep.swap(h:Sep S R w V):Sep R S w V:=by obtain⟨V1,V2,a,b,c,d,e⟩:=h;exact⟨V2,V1,b,a,d,c,λx G I=>e x I G⟩
def Sep.assoc{abo:dW}(h:Sep (Sep S R) abo w V):Sep S (Sep R abo) w V:=by obtain⟨V1,V2,⟨U1,U2,a,b,c,d,e⟩,q,f,g,i⟩:=h;exact⟨U1,λx=>U2 x∨V2 x,a,⟨U2,V2,b,q,λx Y => .inl Y,λx Y => .inr Y,λx Y=>i x (d x Y)⟩,λx Y=>f x (c x Y),λx Y=>Y.elim (λY=>f x (d x Y)) (g x),λx Y hy=>hy.elim (e x Y) (i x (c x Y))⟩
def Sep.FK{abo:dW}(h:Sep S (Sep R abo) w V):Sep (Sep S R) abo w V:=by have I:=h.swap;have G:Sep R (Sep abo S) w V:=Sep.assoc I;have L:Sep abo (Sep S R) w V:=Sep.assoc G.swap;exact L.swap
def Sep.imp(h:Sep S R w V)(hS:∀U,S w U->S' w U)(T:∀U,R w U->R' w U):Sep S' R' w V:=by obtain⟨V1,V2,a,b,c,d,e⟩:=h;exact⟨V1,V2,hS _ a,T _ b,c,d,e⟩
def Sep.fst(h:Sep S R w V):∃U:aV,S w U∧∀b,U b->V b:=by obtain⟨V1,V2,a,b,c,d,e⟩:=h;exact⟨V1,a,c⟩
def Sep.snd(h:Sep S R w V):∃U:aV,R w U∧∀b,U b->V b:=h.swap.fst
theorem dN.perm(hp:l.Perm l'):∀{V:aV},dN l w V->dN l' w V:=by
 induction hp with
 | nil=>exact λh=>h
 | cons S _ ih=>intro V h;obtain⟨V1,V2,a,b,c,d,e⟩:=h;exact⟨V1,V2,a,ih b,c,d,e⟩
 | swap S R l=>
   intro V h;have I:Sep (Sep R S) (dN l) w V:=Sep.FK h;exact Sep.assoc (I.imp (λU hU=>hU.swap) (λU hU=>hU))
 | trans _ _ ih1 ih2=>exact λh=>ih2 (ih1 h)
theorem dN.app:∀(l:List dW){l':List dW}{V:aV},dN (l++l') w V->Sep (dN l) (dN l') w V
 | [],l',V,h=>⟨λ_=>False,V,trivial,h,λ_ h=>h.elim,λ_ h=>h,λ_ h _=>h⟩
 | S::l,l',V,h=>Sep.FK (S:=S) (R:=dN l) (by
     obtain⟨V1,V2,a,b,c,d,e⟩:=h;exact⟨V1,V2,a,dN.app l b,c,d,e⟩)
theorem dN.flat:∀(l:List dW){l':List dW}{V:aV},Sep (dN l) (dN l') w V->dN (l++l') w V
 | [],l',V,h=>by
   obtain⟨V1,V2,_,b,_,d,_⟩:=h;cases l' with
   | nil=>trivial
   | cons S l'=>exact Sep.wide b d
 | S::l,l',V,h=>by
   obtain⟨V1,V2,a,b,c,d,e⟩:=Sep.assoc (S:=S) (R:=dN l) h;exact⟨V1,V2,a,dN.flat l b,c,d,e⟩
theorem dN.pick:∀(l:List dW)(i:Nat)(S:dW),l[i]?=some S->∀{V:aV},dN l w V->Sep S (dN (l.eraseIdx i)) w V
 | S::l,0,S',h,V,hM=>by cases h;exact hM
 | S::l,i+1,S',h,V,hM=>by
   obtain⟨V1,V2,a,b,c,d,e⟩:=hM;have hp:=dN.pick l i S' (by simpa using h) b;have I:Sep (Sep S' (dN (l.eraseIdx i))) S w V:=⟨V2,V1,hp,a,d,c,λx G I=>e x I G⟩;exact (Sep.assoc I).imp (λU hU=>hU) (λU hU=>hU.swap)
theorem dN.rP:∀(l:List dW)(i:Nat)(S S':dW),l[i]?=some S->∀{V:aV},Sep S' (dN (l.eraseIdx i)) w V->dN (l.set i S') w V
 | S::l,0,_,S',_,V,hM=>hM
 | S::l,i+1,S0,S',h,V,hM=>by
   have I:Sep S' (Sep S (dN (l.eraseIdx i))) w V:=hM;have G:Sep S (Sep S' (dN (l.eraseIdx i))) w V:=Sep.assoc ((Sep.FK I).imp (λU hU=>hU.swap) (λU hU=>hU));exact G.imp (λU hU=>hU) (λU hU=>dN.rP l i S0 S' (by simpa using h) hU)
end
section
variable{f:FuncId}{C:Ending->Prop}{R':dW}{l l':List dW}{P:aV}
def wX(h:Sep S R w V)(T:eu R)(hV:∀b,V b->b<(w:Nat))(E:∀U:aV,S w U->(∀b,U b->b<(w:Nat))->(∀b,U b->V b)->dz Pr f args w λe O=>C e∧S' O (iY U w O)∧dM U w O):dz Pr f args w λe O=>C e∧Sep S' R O (iY V w O)∧dM V w O:=by
 obtain⟨V1,V2,a,b,c,d,e⟩:=h;refine (E V1 a (λx Y=>hV x (c x Y)) c).mono λen O ⟨he,hs,hj⟩=>⟨he,⟨iY V1 w O,V2,hs,T w O V2 b λx Y=>hj.block x (hV x (d x Y)) (λI=>e x I Y),λx Y=>?_,λx Y => .inl (d x Y),λx Y G=>?_⟩,hj.imp λx Y=>c x Y⟩
 ·rcases Y with Y|Y
  ·exact .inl (c x Y)
  ·exact .inr Y
 ·rcases Y with Y|Y
  ·exact e x Y G
  ·have:=hV x (d x G);have:=Y.1;omega
def Solo.at_(i:Nat)(hi:l[i]?=some S)(hF:eG l)(h:Solo P (dN l) w)(E:ii Pr f args C S S' w):dz Pr f args w λe O=>C e∧dM P w O∧Solo P (dN (l.set i S')) O:=by refine Solo.call h λV hM hV=>?_;exact (wX (dN.pick l i S hi hM) (dN.framed _ λR T=>hF R (cY T)) hV λU hU Vx _=>E U hU Vx).mono λe O ⟨a,b,c⟩=>⟨a,dN.rP l i S S' hi b,c⟩
def Solo.see(i:Nat)(hi:l[i]?=some S)(h:Solo P (dN l) w):∃U:aV,S w U∧∀b,U b->P b∧b<(w:Nat):=by obtain⟨_,V,hM,hV⟩:=h;obtain⟨U,hU,hs⟩:=(dN.pick l i S hi hM).fst;exact⟨U,hU,λb hb=>hV b (hs b hb)⟩
def Solo.grows(h:Solo P (dN l) w)(hF:eG l)(H:Grow w O):Solo P (dN l) O:=h.grow (dN.framed l hF) H
def nU(V:aV)(w:X)(b:Nat):Prop:=V b∨(w:Nat)<=b
def Solo.begin_(h:S w V)(hV:∀b,V b->b<(w:Nat)):Solo (nU V w) S w:=⟨λ_ hb => .inr hb,V,h,λb hb=>⟨.inl hb,hV b hb⟩⟩
def nU.grow(w:X)(H:Grow w O):dM (nU V w) w O:=dM.dK H
def Solo.end_(hW:∀(U U':aV),(∀b,U b->U' b)->S O U->S O U')(h:Solo (nU V w) S O)(hj:dM (nU V w) w O)(hV:∀b,V b->b<(w:Nat)):S O (iY V w O)∧dM V w O:=by
 obtain⟨_,U,hS,hU⟩:=h;refine⟨hW U _ (λb hb=>?_) hS,⟨hj.os,hj.tape,hj.output,hj.size,λb hb hv=>hj.block b hb λhl=>?_⟩⟩
 ·obtain⟨I,G⟩:=hU b hb
  rcases I with I|I
  ·exact .inl I
  ·exact .inr ⟨I,G⟩
 ·rcases hl with hl|hl
  ·exact hv hl
  ·omega
def C_(S:dW):Prop:=∀(w:X)(U U':aV),(∀b,U b->U' b)->S w U->S w U'
theorem dN.wide(l:List dW):C_ (dN l):=λw U U' h hs=>by
 cases l with
 | nil=>trivial
 | cons S l=>exact Sep.wide hs h
def Solo.done(h:Solo (nU V w) (dN l) O)(hj:dM (nU V w) w O)(hV:∀b,V b->b<(w:Nat)):dN l O (iY V w O)∧dM V w O:=h.end_ (λU U' hu=>dN.wide l O U U' hu) hj hV
theorem Solo.cell{x:Nat}{t:dC}{cs:aP}(h:Solo P (dN (Cell x t cs::l)) w)(i:Nat):w.cell? ⟨x,i,none⟩=cs[i]?:=by obtain⟨U,hU,_⟩:=h.see 0 rfl;exact hU.2.cell i
theorem Solo.frozen{x:Nat}{t:dC}{cs:aP}(h:Solo P (dN (Cell x t cs::l)) w)(i:Nat):w.frozen? ⟨x,i,none⟩=false:=by obtain⟨U,hU,_⟩:=h.see 0 rfl;exact hU.2.frozen i
theorem Solo.put{x:Nat}{t:dC}{cs:aP}(h:Solo P (dN (Cell x t cs::l)) w)(hF:eG l)(i:Nat)(u:K):Solo P (dN (Cell x t (cs.setIfInBounds i u)::l)) (w.setCell ⟨x,i,none⟩ u):=by obtain⟨h0,V,⟨V1,V2,a,b,c,d,e⟩,hV⟩:=h;refine⟨λb hb=>h0 b (by rwa [gg] at hb),V,⟨V1,V2,⟨a.1,a.2.put i u⟩,?_,c,d,e⟩,λb hb=>by rw[gg];exact hV b hb⟩;exact dN.framed l hF w _ V2 b λy hy=>Below.heap_setCell w ⟨x,i,none⟩ u y (λJV=>e x a.1 (by rw[<-show y=x from JV];exact hy))
def Solo.blk{x:Nat}{t:dC}{cs:aP}(i:Nat)(hi:l[i]?=some (Cell x t cs))(h:Solo P (dN l) w):eJ w x t cs:=by obtain⟨U,hU,_⟩:=h.see i hi;exact hU.2
def Solo.Vy(i:Nat)(hi:l[i]?=some (Cell x t cs))(h:Solo P (dN l) w):P x∧x<(w:Nat):=by obtain⟨U,hU,G⟩:=h.see i hi;exact G x hU.1
def Solo.turned{x:Nat}{t:dC}{cs cs':aP}(i:Nat)(hi:l[i]?=some (Cell x t cs))(hF:eG l)(h:Solo P (dN l) w)(hj:dM (λb=>b=x) w O)(hB:eJ O x t cs'):Solo P (dN (l.set i (Cell x t cs'))) O:=by obtain⟨h0,V,hM,hV⟩:=h;obtain⟨V1,V2,a,b,c,d,e⟩:=dN.pick l i _ hi hM;refine⟨λy hy=>h0 y (bB hj.size hy),V,dN.rP l i (Cell x t cs) _ hi ⟨V1,V2,⟨a.1,hB⟩,?_,c,d,e⟩,λy hy=>⟨(hV y hy).1,bw (hV y hy).2 hj.size⟩⟩;exact dN.framed _ (λR T=>hF R (cY T)) w O V2 b λy hy=>hj.block y (hV y (d y hy)).2 λJV=>e x a.1 (by rw[<-JV];exact hy)
def Solo.puts(i:Nat)(hi:l[i]?=some (Cell x t cs))(hF:eG l)(h:Solo P (dN l) w)(k:Nat)(u:K):Solo P (dN (l.set i (Cell x t (cs.setIfInBounds k u)))) (w.setCell ⟨x,k,none⟩ u):=h.turned i hi hF (kD w x k u) ((h.blk i hi).put k u)
def Solo.join{R:dW}(h:Solo P (dN l) w)(hF:eG l)(H:Grow w O){U:aV}(T:R O U)(hU:∀b,U b->(w:Nat)<=b∧b<(O:Nat)):Solo P (dN (R::l)) O:=by
 obtain⟨h0,V,hM,hV⟩:=h;refine⟨λb hb=>h0 b (bB H.size hb),λb=>V b∨U b,⟨U,V,T,dN.framed l hF w O V hM λb hb=>H.block b (hV b hb).2,λb hb => .inr hb,λb hb => .inl hb,λb hb hv=>?_⟩,λb hb=>?_⟩;·have:=(hV b hv).2;have:=(hU b hb).1;omega
 ·rcases hb with hb|hb
  ·exact⟨(hV b hb).1,bw (hV b hb).2 H.size⟩
  ·exact⟨h0 b (hU b hb).1,(hU b hb).2⟩
theorem Solo.perm(hp:l.Perm l')(h:Solo P (dN l) w):Solo P (dN l') w:=h.turn λ_ hV=>dN.perm hp hV
def Solo.drop1(h:Solo P (dN (S::l)) w):Solo P (dN l) w:=h.turn λV hV=>by obtain⟨U,hU,hs⟩:=Sep.snd hV;exact dN.wide l w U V hs hU
theorem Solo.flat(h:Solo P (dN (dN l::l')) w):Solo P (dN (l++l')) w:=h.turn λ_ hV=>dN.flat l hV
def Solo.Vz(h:Solo P (dN (l++l')) w):Solo P (dN (dN l::l')) w:=h.turn λ_ hV=>dN.app l hV
def Solo.map(i:Nat)(hi:l[i]?=some S)(h:Solo P (dN l) w)(hS:∀U,S w U->S' w U):Solo P (dN (l.set i S')) w:=h.turn λ_ hV=>dN.rP l i S S' hi ((dN.pick l i S hi hV).imp hS λ_ h=>h)
end
inductive Bl where
 | c (p:Nat) (t:dC) (cs:aP)
 | o (S:dW)
def Bl.th:Bl->dW
 | .c p t cs=>Cell p t cs
 | .o S=>S
def Bl.ok:Bl->Prop
 | .c ..=>True
 | .o S=>eu S
theorem Bl.framed:∀{x:Bl},x.ok->eu x.th
 | .c p t cs,_=>Cell.framed p t cs
 | .o _,h=>h
abbrev px(l:List Bl):List dW:=l.map Bl.th
def pF:List Bl->Prop
 | []=>True
 | x::l=>x.ok∧pF l
theorem oP:∀{l:List Bl},pF l->∀x∈l,x.ok
 | x::l,h,y,hy=>by
   rcases List.mem_cons.1 hy with rfl|hy
   ·exact h.1
   ·exact oP h.2 y hy
theorem pT:∀{l:List Bl},(∀x∈l,x.ok)->pF l
 | [],_=>trivial
 | x::l,h=>⟨h x (by simp),pT λy hy=>h y (by simp[hy])⟩
def lz{a b:List Bl}(ha:pF a)(hb:pF b):pF (a++b):=pT λx Y=>(List.mem_append.1 Y).elim (oP ha x) (oP hb x)
def jC{a b:List Bl}(h:pF (a++b)):pF b:=pT λx Y=>oP h x (List.mem_append.2 (.inr Y))
def Q_{l:List Bl}(h:pF l)(i:Nat){b:Bl}(hb:b.ok):pF (l.set i b):=pT λx Y=>(List.mem_or_eq_of_mem_set Y).elim (oP h x) λe=>e▸hb
def fP{l:List Bl}(h:pF l):eG (px l):=λS hS=>by obtain⟨x,Y,rfl⟩:=List.mem_map.1 hS;exact Bl.framed (oP h x Y)
def iD{l:List Bl}{i:Nat}{b:Bl}(h:l[i]?=some b):(px l)[i]?=some b.th:=by simp[px,h]
structure St(V:Nat->Prop)(w0:X)(l:List Bl)(w:X):Prop where
 own:Solo (nU V w0) (dN (px l)) w
 just:dM (nU V w0) w0 w
 ok:pF l
 lt:∀b,V b->b<(w0:Nat)
def Lw(P:dD)(D:aV)(f:FuncId)(args:aP)(a:List Bl){ι:Type}(C:ι->Ending->Prop)(a':ι->List Bl)(w:X):Prop:=∀V:aV,dN (px a) w V->(∀b,V b->b<(w:Nat)∧¬ D b)->dz P f args w λe O=>∃i,C i e∧dN (px (a' i)) O (iY V w O)∧dM V w O
def ec:List Bl->X->Prop
 | [],_=>True
 | .c p _ cs::l,w=>((∀i,w.cell? ⟨p,i,none⟩=cs[i]?)∧∀i,w.frozen? ⟨p,i,none⟩=false)∧ec l w
 | .o _::l,w=>ec l w
theorem wY:∀{l:List Bl}{w:X}{V:aV},dN (px l) w V->ec l w
 | [],_,_,_=>trivial
 | .c p t cs::l,w,V,h=>by
   obtain⟨_,_,I,G,_⟩:=h;exact⟨⟨λi=>I.2.cell i,λi=>I.2.frozen i⟩,wY G⟩
 | .o S::l,w,V,h=>by
   obtain⟨_,_,_,G,_⟩:=h;exact wY (l:=l) G
section
variable{D:aV}{f:FuncId}{ι:Type}{x:Bl}{C:ι->Ending->Prop}{l a b:List Bl}{a':ι->List Bl}{p:Nat}
theorem St.begin_(h:dN (px l) w V)(hV:∀b,V b->b<(w:Nat))(ho:pF l):St V w l w:=⟨Solo.begin_ h hV,dM.dK (Grow.refl w),ho,hV⟩
def St.facts(h:St V w0 l w):ec l w:=by obtain⟨⟨_,V,hM,_⟩,_⟩:=h;exact wY hM
theorem St.blk(h:St V w0 l w)(i:Nat)(hi:l[i]?=some (.c p t cs)):eJ w p t cs:=h.own.blk i (iD hi)
def St.grow(h:St V w0 l w)(H:Grow w O):St V w0 l O:=⟨h.own.grows (fP h.ok) H,h.just.trans (dM.dK H),h.ok,h.lt⟩
def fb(w:X)(o:Obj):Grow w (w.alloc o):=(Below.refl _ w).alloc (bh _) o
def St.new(h:St V w0 l w)(cs:aP)(t:dC):St V w0 (.c (w:Nat) t cs::l) (w.alloc (.cells cs t)):=⟨h.own.join (fP h.ok) (fb w _) (R:=Cell (w:Nat) t cs) (U:=λb=>b=(w:Nat)) ⟨rfl,eJ.made w t cs⟩ (λb hb=>by rw[show b=(w:Nat) from hb];exact⟨bh _,by simp⟩),h.just.trans (dM.dK (fb w _)),⟨trivial,h.ok⟩,h.lt⟩
theorem St.join(h:St V w0 l w){S:dW}(hS:eu S)(H:Grow w O){U:aV}(T:S O U)(hU:∀b,U b->(w:Nat)<=b∧b<(O:Nat)):St V w0 (.o S::l) O:=⟨h.own.join (fP h.ok) H T hU,h.just.trans (dM.dK H),⟨hS,h.ok⟩,h.lt⟩
def R1(l:List Bl)(i:Nat)(b:Bl):px (l.set i b)=(px l).set i b.th:=List.map_set
theorem St.turned(h:St V w0 l w)(i:Nat){cs':aP}(hi:l[i]?=some (.c p t cs))(hj:dM (λb=>b=p) w O)(hB:eJ O p t cs'):St V w0 (l.set i (.c p t cs')) O:=⟨by rw[R1];exact h.own.turned i (iD hi) (fP h.ok) hj hB,h.just.trans (hj.imp λb hb=>hb▸(h.own.Vy i (iD hi)).1),Q_ h.ok i trivial,h.lt⟩
theorem St.put(h:St V w0 l w)(i:Nat)(hi:l[i]?=some (.c p t cs))(k:Nat)(u:K):St V w0 (l.set i (.c p t (cs.setIfInBounds k u))) (w.setCell ⟨p,k,none⟩ u):=h.turned i hi (kD w p k u) ((h.blk i hi).put k u)
theorem St.perm(h:St V w0 l w){l':List Bl}(hp:l.Perm l'):St V w0 l' w:=⟨h.own.perm (hp.map _),h.just,pT λx Y=>oP h.ok x (hp.mem_iff.2 Y),h.lt⟩
theorem mM{α:Type}:∀{l:List α}{i:Nat}{b:α},l[i]?=some b->l.Perm (b::l.eraseIdx i)
 | x::l,0,b,h=>by cases h;exact List.Perm.refl _
 | x::l,i+1,b,h=>((mM (l:=l) (i:=i) (by simpa using h)).cons x).trans (List.Perm.swap b x _)
def St.front(h:St V w0 l w)(i:Nat){b:Bl}(hi:l[i]?=some b):St V w0 (b::l.eraseIdx i) w:=h.perm (mM hi)
def kE(a b:List Bl):px (a++b)=px a++px b:=bI
def St.call(h:St V w0 (a++b) w)(TS:∀i,pF (a' i))(hD:∀x,D x->x<(w:Nat)->¬ nU V w0 x)(E:Lw P D f args a C a' w):dz P f args w λe O=>∃i,C i e∧St V w0 (a' i++b) O:=by
 obtain⟨⟨h0,V1,hM,hV⟩,hj,ho,fS⟩:=h;rw[kE] at hM;obtain⟨U1,U2,hA,hB,k1,k2,k3⟩:=dN.app _ hM;refine (E U1 hA λx Y=>⟨(hV x (k1 x Y)).2,λhd=>hD x hd (hV x (k1 x Y)).2 (hV x (k1 x Y)).1⟩).mono λe O ⟨i,hC,XZ,lR⟩=>⟨i,hC,⟨⟨λx Y=>h0 x (bB lR.size Y),iY V1 w O,?_,λx Y=>?_⟩,hj.trans (lR.imp λx Y=>(hV x (k1 x Y)).1),lz (TS i) (jC ho),fS⟩⟩
 ·rw[kE]
  refine dN.flat _ ⟨iY U1 w O,U2,XZ,dN.framed _ (fP (jC ho)) w O U2 hB λx Y=>lR.block x (hV x (k2 x Y)).2 λI=>k3 x I Y,λx Y=>?_,λx Y => .inl (k2 x Y),λx Y G=>?_⟩
  ·rcases Y with Y|Y
   ·exact .inl (k1 x Y)
   ·exact .inr Y
  ·rcases Y with Y|Y
   ·exact k3 x Y G
   ·have:=(hV x (k2 x G)).2;have:=Y.1;omega
 ·rcases Y with Y|Y
  ·exact⟨(hV x Y).1,bw (hV x Y).2 lR.size⟩
  ·exact⟨h0 x Y.1,Y.2⟩
def St.D1(h:St V w0 (a++x::b) w)(TS:∀i,pF (a' i))(E:∀U:aV,x.th w U->(∀y,U y->y<(w:Nat))->Lw P U f args a C a' w):dz P f args w λe O=>∃i,C i e∧St V w0 (a' i++x::b) O:=by
 obtain⟨⟨h0,V1,hM,hV⟩,hj,ho,fS⟩:=h;rw[kE] at hM;obtain⟨U1,U2,hA,hB,k1,k2,k3⟩:=dN.app _ hM;obtain⟨W1,W2,Y,hB',m1,m2,m3⟩:=hB;refine (E W1 Y (λy hy=>(hV y (k2 y (m1 y hy))).2) U1 hA λy hy=>⟨(hV y (k1 y hy)).2,λhd=>k3 y hy (m1 y hd)⟩).mono λe O ⟨i,hC,XZ,lR⟩=>⟨i,hC,⟨⟨λy hy=>h0 y (bB lR.size hy),iY V1 w O,?_,λy hy=>?_⟩,hj.trans (lR.imp λy hy=>(hV y (k1 y hy)).1),lz (TS i) (jC ho),fS⟩⟩
 ·rw[kE]
  refine dN.flat _ ⟨iY U1 w O,U2,XZ,dN.framed _ (fP (jC ho)) w O U2 ⟨W1,W2,Y,hB',m1,m2,m3⟩ λy hy=>lR.block y (hV y (k2 y hy)).2 λI=>k3 y I hy,λy hy=>?_,λy hy => .inl (k2 y hy),λy hy G=>?_⟩
  ·rcases hy with hy|hy
   ·exact .inl (k1 y hy)
   ·exact .inr hy
  ·rcases hy with hy|hy
   ·exact k3 y hy G
   ·have:=(hV y (k2 y G)).2;have:=hy.1;omega
 ·rcases hy with hy|hy
  ·exact⟨(hV y hy).1,bw (hV y hy).2 lR.size⟩
  ·exact⟨h0 y hy.1,hy.2⟩
def St.opn{κ:Type}{o:κ->List Bl}(h:St V w0 (.o S::b) w)(hS:∀U,S w U->∃k,dN (px (o k)) w U∧pF (o k)):∃k,St V w0 (o k++b) w:=by obtain⟨⟨h0,V1,⟨U1,U2,hA,hB,k1,k2,k3⟩,hV⟩,hj,ho,fS⟩:=h;obtain⟨k,hM,N⟩:=hS U1 hA;exact⟨k,⟨h0,V1,by rw[kE];exact dN.flat _ ⟨U1,U2,hM,hB,k1,k2,k3⟩,hV⟩,hj,lz N ho.2,fS⟩
def St.cls(h:St V w0 (a++b) w)(hF:eu S)(hS:∀U,dN (px a) w U->S w U):St V w0 (.o S::b) w:=by obtain⟨⟨h0,V1,hM,hV⟩,hj,ho,fS⟩:=h;rw[kE] at hM;obtain⟨U1,U2,hA,hB,k1,k2,k3⟩:=dN.app _ hM;exact⟨⟨h0,V1,⟨U1,U2,hS _ hA,hB,k1,k2,k3⟩,hV⟩,hj,⟨hF,jC ho⟩,fS⟩
def St.drop(h:St V w0 (x::b) w):St V w0 b w:=⟨h.own.drop1,h.just,h.ok.2,h.lt⟩
def St.fin(h:St V w l O):dN (px l) O (iY V w O)∧dM V w O:=h.own.done h.just h.lt
theorem St.size(h:St V w0 l w):(w0:Nat)<=(w:Nat):=h.just.size
def St.keep(h:St V w0 l w)(hD:∀x,D x->x<(w0:Nat)∧¬ V x):∀x,D x->w.heap[x]?=w0.heap[x]?:=λx Y=>
 h.just.block x (hD x Y).1 λhl=>hl.elim (hD x Y).2 λG=>by have:=(hD x Y).1;omega
def St.far(hD:∀x,D x->x<(w0:Nat)∧¬ V x):∀x,D x->x<(w:Nat)->¬ nU V w0 x:=λx Y _ hl=>hl.elim (hD x Y).2 λG=>by have:=(hD x Y).1;omega
theorem iG{α:Type}:∀{l:List α}{i:Nat}{b b':α},l[i]?=some b->(l.set i b').Perm (b'::l.eraseIdx i)
 | x::l,0,b,b',h=>by cases h;exact List.Perm.refl _
 | x::l,i+1,b,b',h=>((iG (l:=l) (i:=i) (b':=b') (by simpa using h)).cons x).trans (List.Perm.swap b' x _)
def St.at_(h:St V w0 l w)(i:Nat){S':ι->dW}(hi:l[i]?=some (.o S))(hF:∀k,eu (S' k))(hD:∀x,D x->x<(w:Nat)->¬ nU V w0 x)(E:Lw P D f args [.o S] C (λk=>[.o (S' k)]) w):dz P f args w λe O=>∃k,C k e∧St V w0 (l.set i (.o (S' k))) O:=(St.call (a:=[.o S]) (a':=λk=>[.o (S' k)]) (b:=l.eraseIdx i) (h.front i hi) (λk=>⟨hF k,trivial⟩) hD E).mono λe O ⟨k,hC,hS⟩=>⟨k,hC,hS.perm (iG hi).symm⟩
def St.atR(h:St V w0 l w)(i j:Nat){S':ι->dW}(hi:l[i]?=some (.o S))(hj:(l.eraseIdx i)[j]?=some x)(hF:∀k,eu (S' k))(E:∀U:aV,x.th w U->(∀y,U y->y<(w:Nat))->Lw P U f args [.o S] C (λk=>[.o (S' k)]) w):dz P f args w λe O=>∃k,C k e∧St V w0 (l.set i (.o (S' k))) O:=(St.D1 (a:=[.o S]) (a':=λk=>[.o (S' k)]) (b:=(l.eraseIdx i).eraseIdx j) ((h.front i hi).perm ((mM hj).cons _)) (λk=>⟨hF k,trivial⟩) E).mono λe O ⟨k,hC,hS⟩=>⟨k,hC,(hS.perm ((mM hj).symm.cons _)).perm (iG hi).symm⟩
def St.dO(h:St V w0 l w)(i:Nat){b:Bl}(hi:l[i]?=some b):St V w0 (l.eraseIdx i) w:=(h.front i hi).drop
def St.new'(h:St V w0 l w)(cs:aP)(t:dC):∃y wa,Hid (y=(w:Nat))∧Hid (wa=w.alloc (.cells cs t))∧St V w0 (.c y t cs::l) wa:=⟨_,_,rfl,rfl,h.new cs t⟩
end
def ze(R:K->dF->Prop)(a:dF)(o:dE)(w:X):Result Next->Prop
 | .ok (.value v) O=>O=w∧R v (a.put o.dst v)
 | _=>False
def FL{R:K->dF->Prop}:ze R a o w (.ok (.value v) O)=(O=w∧R v (a.put o.dst v)):=rfl
attribute [go_sem] FL
def aM{a a':Act}{o:Oper}{w:World}{v:Value}{r:Result Next}(h:∀R:Value->Act->Prop,R v a'->ze R a o w r:=by intro R T;go_simp;exact T):∀R:Value->Act->Prop,R v a'->ze R a o w r:=h
def a3I(R:FuncId->Array K->Prop)(w:X):Result Next->Prop
 | .ok (.enter f args) O=>O=w∧R f args
 | _=>False
def FM{R:FuncId->Array K->Prop}{f:FuncId}:a3I R w (.ok (.enter f args) O)=(O=w∧R f args):=rfl
attribute [go_sem] FM
abbrev Facts:=List (Nat×K×Fact)
section
variable{ops:Array dE}{abo:Exit->dF->X->Prop}{A:Nat->List Nat}{abk:Nat->Kind}{abm:dF->X->Prop}{l:List dE}{j:Nat}{F:Facts}
def a3J(P:dD)(ops:Array dE)(A:Nat->List Nat)(abk:Nat->Kind)(abm:dF->X->Prop)(w0:X)(l:List dE)(j:Nat)(a:dF)(F:Facts):Prop:=wL P ops A abk quiet w0 abm l j a F
end
section
variable{l:List Bl}
def St.made{g:Nat}(h:St V w0 l w)(H:Grow w O)(hB:eJ O g t cs)(hn:(w:Nat)<=g):St V w0 (.c g t cs::l) O:=⟨h.own.join (fP h.ok) H (R:=Cell g t cs) (U:=λb=>b=g) ⟨rfl,hB⟩ (λb hb=>by rw[show b=g from hb];exact⟨hn,hB.lt⟩),h.just.trans (dM.dK H),⟨trivial,h.ok⟩,h.lt⟩
end
attribute [irreducible] a3J
def eJ.jL(h:eJ w x t cs){size:Nat}(hn:cs.toList.length=n*size):In w (λb=>b=x) size (some (x,0)) n cs.toList:=
 ⟨hn,λ_=>⟨_,rfl,rfl,h.lt,λj u hu=>by
  have I:=h.cell j;have G:((x,0):dA).add j=⟨x,j,none⟩:=by
   unfold Addr.add;split;·rename_i h;rw[h]
   ·simp
  rw[G,I,<-Array.getElem?_toList];exact hu⟩⟩
section
variable{f:FuncId}{C:Ending->Prop}{R':dW}{l l':List dW}{P:aV}
def Solo.Ys(i:Nat)(hi:l[i]?=some S)(hF:eG l)(h:Solo P (dN l) w)(E:∀U:aV,S w U->(∀b,U b->b<(w:Nat))->(∀b,U b->P b)->dz Pr f args w λe O=>C e∧S' O (iY U w O)∧dM U w O):dz Pr f args w λe O=>C e∧dM P w O∧Solo P (dN (l.set i S')) O:=by obtain⟨h0,V,I,h4⟩:=h;refine (wX (dN.pick l i S hi I) (dN.framed _ λR T=>hF R (cY T)) (λb hb=>(h4 b hb).2) λU hU Vx hU3=>E U hU Vx λb hb=>(h4 b (hU3 b hb)).1).mono λe O ⟨a,b,c⟩=>⟨a,c.imp λk N=>(h4 k N).1,λb hb=>h0 b (bB c.size hb),iY V w O,dN.rP l i S S' hi b,Bo h4 h0 c.size⟩
def Solo.R3{φ:X->Prop}(i:Nat)(hi:l[i]?=some S)(hF:eG l)(h:Solo P (dN l) w)(E:∀U:aV,S w U->(∀b,U b->P b∧b<(w:Nat))->∃O,φ O∧S' O U∧dM U w O):∃O,φ O∧Solo P (dN (l.set i S')) O∧dM P w O:=by obtain⟨h0,V,I,h4⟩:=h;obtain⟨V1,V2,a,b,c,d,e⟩:=dN.pick l i S hi I;obtain⟨O,hp,hs,hj⟩:=E V1 a λx Y=>h4 x (c x Y);have T:=dN.framed _ (λR T=>hF R (cY T)) w O V2 b λx Y=>hj.block x (h4 x (d x Y)).2 λI=>e x I Y;exact⟨O,hp,⟨λb hb=>h0 b (bB hj.size hb),V,dN.rP l i S S' hi ⟨V1,V2,hs,T,c,d,e⟩,λb hb=>⟨(h4 b hb).1,bw (h4 b hb).2 hj.size⟩⟩,hj.imp λx Y=>(h4 x (c x Y)).1⟩
def Solo.VA(h0:∀b,(w:Nat)<=b->P b)(hM:dN l w V)(hV:∀b,V b->P b∧b<(w:Nat)):Solo P (dN l) w:=⟨h0,V,hM,hV⟩
def Solo.D3{U:aV}(h0:∀b,(w:Nat)<=b->P b)(hM:dN l w V)(hV:∀b,V b->P b∧b<(w:Nat))(T:R w U)(hU:∀b,U b->P b∧b<(w:Nat)∧¬ V b):Solo P (dN (R::l)) w:=⟨h0,λb=>U b∨V b,⟨U,V,T,hM,λ_ h => .inl h,λ_ h => .inr h,λb I G=>(hU b I).2.2 G⟩,λb hb=>hb.elim (λh=>⟨(hU b h).1,(hU b h).2.1⟩) (hV b)⟩
end
end Go.Hop
namespace Go.Proofs.YtpeepcmdehhbgaaGreatDoor
open RowKit Hop
abbrev Dl:=ByteArray×Nat
def mN(d:Dl):List K:=[aX d.1,ae ah d.2]
def fm(l:List Dl):List K:=l.flatMap mN
def iH(d:Dl):(mN d).length=2:=rfl
def rQ(l:List Dl):∀u∈fm l,u.oneCell'=true:=by intro u hu;unfold fm at hu;obtain⟨d,_,hd⟩:=List.mem_flatMap.1 hu;simp only[mN,cI,cF,or_false] at hd;rcases hd with rfl|rfl<;>rfl
def ka(l:List Dl):(fm l).length=l.length*2:=ix mN 2 iH l
def New(w O:X)(b:Nat):Prop:=(w:Nat)<=b∧b<(O:Nat)
theorem info_parts{size:Nat}(h:(Tryz.prog.info? e).map (λi=>(i.zero,i.size,i.bytes))=some (some z,size,bytes)):∃i,Tryz.prog.info? e=some i∧i.zero=some z∧i.size=size∧i.bytes=bytes:=by
 cases hi:Tryz.prog.info? e with
 | none=>rw[hi] at h;cases h
 | some i=>rw[hi] at h;injection h with h;injection h with I G;injection G with G L;exact⟨i,rfl,I,G,L⟩
def FN:(Tryz.prog.info? 147).map (λi=>(i.zero,i.size,i.bytes))=some (some (aZ #[.string .empty,ae ah 0]),2,24):=by kernel_rfl
def oQ:Elem W 38 147 2 24 (aZ #[.string .empty,ae ah 0]):=⟨Tryz.underlying38,info_parts FN,rfl,by decide,by decide⟩
def jM(w:X)(V:aV)(A:aU)(n:Nat)(l:List Dl):Prop:=In w V 2 A n (fm l)
def jM.len{l:List Dl}(h:jM w V A n l):l.length=n:=by have:=h.1;rw[ka] at this;omega
def ny{e:dC}{size:Nat}(hO:Own w1 (iY (λb=>b=(w:Nat)) (w.alloc (.cells #[] t)) w1) e size v n xs)(hj:dM (λb=>b=(w:Nat)) (w.alloc (.cells #[] t)) w1):Own w1 (New w w1) e size v n xs∧Grow w w1:=by
 have hs:(w:Nat)<(w1:Nat):=by have:=hj.size;simp at this;omega
 refine⟨hO.mono (λb hb=>?_),((Below.refl (w:Nat) w).alloc (bh _) (.cells #[] t)).trans (hj.below (B:=(w:Nat)) (λb hb=>by rw[hb];exact bh _) (by simp))⟩;rcases hb with rfl|⟨I,G⟩
 ·exact⟨bh _,hs⟩
 ·simp at I;exact⟨by omega,G⟩
def lC(w:X)(e:dC)(size:Nat):Own (w.alloc (.cells #[] e)) (λb=>b=(w:Nat)) e size (Z (some ⟨(w:Nat),0,none⟩) 0 0) 0 []:=⟨by simp,.inr ⟨(w:Nat),0,#[],rfl,rfl,heap_alloc_new w _,bh _,bo _,.inl (by simp),by simp⟩⟩
end Go.Proofs.YtpeepcmdehhbgaaGreatDoor
namespace Go.Proofs.YtpeepcmdehhbgaaGreatDoor.abn
open RowKit Hop
abbrev Lb:=ByteArray×ByteArray
def mc(d:Lb):List K:=[aX d.1,aX d.2]
def gF(l:List Lb):List K:=l.flatMap mc
def oc(d:Lb):(mc d).length=2:=rfl
def wZ(l:List Lb):∀u∈gF l,u.oneCell'=true:=by intro u hu;unfold gF at hu;obtain⟨d,_,hd⟩:=List.mem_flatMap.1 hu;simp only[mc,cI,cF,or_false] at hd;rcases hd with rfl|rfl<;>rfl
def oR(l:List Lb):(gF l).length=l.length*2:=ix mc 2 oc l
def FO:(Tryz.prog.info? 66).map (λi=>(i.zero,i.size,i.bytes))=some (some (aZ #[.string .empty,.string .empty]),2,32):=by kernel_rfl
def MR:Elem W 67 66 2 32 (aZ #[.string .empty,.string .empty]):=⟨Tryz.underlying67,info_parts FO,rfl,by decide,by decide⟩
def MS:(Tryz.prog.info? 9).map (λi=>(i.zero,i.size,i.bytes))=some (some (.string .empty),1,16):=by kernel_rfl
def a3L:Elem W 59 9 1 16 (.string .empty):=⟨Tryz.underlying59,info_parts MS,rfl,by decide,by decide⟩
def FP(l:List ByteArray):∀u∈l.map Value.string,u.oneCell'=true:=by intro u hu;obtain⟨x,_,rfl⟩:=List.mem_map.1 hu;rfl
def FQ{q:List Lb}(h:In w V 2 A n (gF q))(N:k<n):∃(ad:dA)(hq:k<q.length),A=some ad∧(∀w1,Grow w w1->w1.cell? (ad.add (k*2))=some (aX q[k].1))∧∀w1,Grow w w1->w1.cell? ⟨(ad.add (k*2)).block,(ad.add (k*2)).off+1,none⟩=some (aX q[k].2):=by obtain⟨ad,hq,e,_,hb,e0,e12⟩:=In.mr (cells:=mc) h ap oc N;exact⟨ad,hq,e,λw1 H=>(H.cell (by rw[block_add];exact hb)).trans (e0 _ rfl),λw1 H=>(H.cell (p:=⟨(ad.add (k*2)).block,(ad.add (k*2)).off+1,none⟩) (show (ad.add (k*2)).block<_ by rw[block_add];exact hb)).trans (e12 0 _ rfl)⟩
def VB{q:List ByteArray}(h:In w V 1 A n (q.map Value.string))(N:k<n):∃(ad:dA)(hq:k<q.length),A=some ad∧∀w1,Grow w w1->w1.cell? (ad.add k)=some (aX q[k]):=by
 obtain⟨ad,e,_,hb,E⟩:=h.2 ap;have hl:=h.1;simp only[bj,cM] at hl;have hq:k<q.length:=by omega
 exact⟨ad,hq,e,λw1 H=>(H.cell (by rw[block_add];exact hb)).trans (E k _ (by rw[List.getElem?_map,List.getElem?_eq_getElem hq];rfl))⟩
def LIn.len{l:List Lb}(h:In w V 2 A n (gF l)):l.length=n:=by have:=h.1;rw[oR] at this;omega
end Go.Proofs.YtpeepcmdehhbgaaGreatDoor.abn
namespace Go.Proofs.YtpeepcmdehhbgaaGreatDoor
open RowKit Hop
theorem jD(w:X)(V:aV)(A:aU)(n c:Nat)(l:List Dl)(h:jM w V A n l)(hn:n<=1048576):dz W 188 #[Z A n c] w λe O=>∃A' c',e=b5 (Z A' n c')∧jM O (New w O) A' n l∧n<=c'∧c'<=dG∧Grow w O:=by
 have kS:=λ(O:X)=>Lib.run_eql_slice_nil (P:=W) O 38 147 A n c 0 0 Tryz.underlying38;cases A with
 | none=>
   have y_:n=0:=by
    rcases b_ n with h0|h0
    ·exact h0
    ·obtain⟨_,e,_⟩:=h.2 h0;cases e
   subst y_;obtain rfl:l=[]:=bu h.len;go_in;go_wp2;go_ret;exact⟨_,_,rfl,In.nil,bh _,bo _,Grow.refl _⟩
 | some ad=>
   go_in;go_wp2_with (at_builtin;refine stay ?_);refine dI ?_;refine fO (V:=λb=>b=(w:Nat)) oQ _ rfl (.tmp 5) (.tmp 6) rfl (Z (some ⟨(w:Nat),0,none⟩) 0 0) 0 [] rfl (lC w _ _) (w:Nat) (some ad) n c (fm l) rfl (Reads.alloc (In.reads h) (bh _) _) (rQ l) ap ?_;intro v1 w1 kv wo;simp only[cJ,ch] at kv;obtain⟨sw,eD⟩:=ny kv wo;obtain⟨A2,c2,rfl,hI,iS,hm⟩:=sw.jL;go_wp2;go_ret;exact⟨A2,c2,rfl,hI,iS,hm,eD⟩
def od(w:X)(A:aU)(n c:Nat)(hn:n<=c):dz W 133 #[Z A n c] w λe O=>e=b5 (Z A n n)∧w=O:=by go_in;go_wp2;go_ret;exact⟨rfl,rfl⟩
end Go.Proofs.YtpeepcmdehhbgaaGreatDoor
namespace Go.Proofs.YtpeepcmdehhbgaaGreatDoor.V
open RowKit Hop
def Br:(Tryz.prog.info? 5).map (λi=>(i.zero,i.size,i.bytes))=some (some (.int .u8 0),1,1):=by kernel_rfl
theorem info_parts{size:Nat}(h:(Tryz.prog.info? e).map (λi=>(i.zero,i.size,i.bytes))=some (some z,size,bytes)):∃i,Tryz.prog.info? e=some i∧i.zero=some z∧i.size=size∧i.bytes=bytes:=by
 cases hi:Tryz.prog.info? e with
 | none=>rw[hi] at h;cases h
 | some i=>rw[hi] at h;injection h with h;injection h with I G;injection G with G L;exact⟨i,rfl,I,G,L⟩
def Kj:Elem W 23 5 1 1 (.int .u8 0):=⟨d9,info_parts Br,rfl,by decide,by decide⟩
def New(w O:X)(b:Nat):Prop:=(w:Nat)<=b∧b<(O:Nat)
def w_(l:aT)(k:Nat):kz (l.take k)=(kz l).take (k*1):=by unfold kz;rw[List.map_take,cM]
def pU(l:aT)(k:Nat):kz (l.drop k)=(kz l).drop (k*1):=by unfold kz;rw[List.map_drop,cM]
def IF(w:X)(h:eM l u w):(convert 23 9 u).run W w=.ok (aX ⟨l.toArray⟩) w:=CU 23 9 5 d9 dm cW w h
def x9(w:X){c:Nat}(h:Bytes w B A n l):(convert 23 9 (Z A n c)).run W w=.ok (aX ⟨l.toArray⟩) w:=pP 23 9 5 d9 dm cW w h
def lC(w:X):Own (w.alloc (.cells #[] 5)) (λb=>b=(w:Nat)) 5 1 (Z (some ⟨(w:Nat),0,none⟩) 0 0) 0 []:=Own.wO (World.ownsRow_made w #[] 0 (bh _) am rfl) (λg H=>by injection H with H;exact H.symm)
def ny(hO:Own w1 (iY (λb=>b=(w:Nat)) (w.alloc (.cells #[] 5)) w1) 5 1 v n xs)(hj:dM (λb=>b=(w:Nat)) (w.alloc (.cells #[] 5)) w1):Own w1 (New w w1) 5 1 v n xs∧Grow w w1:=by
 have hs:(w:Nat)<(w1:Nat):=by have:=hj.size;simp at this;omega
 refine⟨hO.mono (λb hb=>?_),((Below.refl (w:Nat) w).alloc (bh _) (.cells #[] 5)).trans (hj.below (B:=(w:Nat)) (λb hb=>by rw[hb];exact bh _) (by simp))⟩;rcases hb with rfl|⟨I,G⟩
 ·exact⟨bh _,hs⟩
 ·simp at I;exact⟨by omega,G⟩
def D4{size:Nat}(H:Grow w w1)(hO:Own w2 (iY (New w w1) w1 w2) e size v n xs)(hj:dM (New w w1) w1 w2):Own w2 (New w w2) e size v n xs∧Grow w w2:=by
 have I:=H.size;have G:=hj.size;refine⟨hO.mono λb hb=>?_,Below.trans H (hj.below (B:=(w:Nat)) (λb hb=>hb.1) I)⟩;rcases hb with hb|hb
 ·exact⟨hb.1,by have:=hb.2;omega⟩
 ·exact⟨by have:=hb.1;omega,hb.2⟩
def mC{size:Nat}{o:Obj}(H:Grow w w1)(hO:Own w2 (iY (New w w1) (w1.alloc o) w2) e size v n xs)(hj:dM (New w w1) (w1.alloc o) w2):Own w2 (New w w2) e size v n xs∧Grow w w2:=by
 have I:=H.size;have G:=hj.size;simp at G;refine⟨hO.mono λb hb=>?_,Below.trans H (Below.trans ((Below.refl (w1:Nat) w1).alloc (bh _) o |>.mono I) (hj.below (B:=(w:Nat)) (λb hb=>hb.1) (by simp;omega)))⟩;rcases hb with hb|hb
 ·exact⟨hb.1,by have:=hb.2;omega⟩
 ·have:=hb.1;simp at this;exact⟨by omega,hb.2⟩
def mD{size:Nat}(hO:Own w1 (New w w1) e size v n xs)(o:Obj):Own (w1.alloc o) (New w w1) e size v n xs:=hO.grow (λb hb=>hb.2) ((Below.refl (w1:Nat) w1).alloc (bh _) o)
theorem jD(w:X)(A:aU)(n c:Nat)(l:aT)(h:Bytes w (w:Nat) A n l)(hn:n<=140737488355328):dz W 135 #[Z A n c] w λe O=>∃v,e=b5 v∧Own O (New w O) 5 1 v n (kz l)∧Grow w O:=by
 have kS:=λ(O:X)=>Lib.run_eql_slice_nil (P:=W) O 23 5 A n c 0 0 d9;cases A with
 | none=>
   have y_:n=0:=by
    rcases b_ n with h0|h0
    ·exact h0
    ·obtain⟨_,e,_⟩:=h.2 h0;cases e
   subst y_;obtain rfl:l=[]:=bu h.len;go_in;go_wp2;go_ret;exact⟨_,rfl,Own.nil,Grow.refl _⟩
 | some ad=>
   go_in;go_wp2_with (at_builtin;refine stay ?_);refine dI ?_;refine fO (V:=λb=>b=(w:Nat)) Kj _ rfl (.tmp 5) (.tmp 6) rfl (Z (some ⟨(w:Nat),0,none⟩) 0 0) 0 [] rfl (lC w) (w:Nat) (some ad) n c (kz l) rfl (Reads.alloc h (bh _) _) lx ap ?_;intro v1 w1 kv wo;simp only[cJ,ch] at kv;obtain⟨kv,eD⟩:=ny kv wo;go_wp2;go_ret;exact⟨v1,rfl,kv,eD⟩
def od(w:X)(A:aU)(n c:Nat)(hn:n<=c):dz W 238 #[Z A n c] w λe O=>e=b5 (Z A n n)∧w=O:=by go_in;go_wp2;go_ret;exact⟨rfl,rfl⟩
def D5(w:X)(V:aV)(v:K)(n:Nat)(l:aT)(h:Own w V 5 1 v n (kz l)):dz W 238 #[v] w λe O=>∃v',e=b5 v'∧w=O∧Own w V 5 1 v' n (kz l):=by obtain⟨A,c,rfl,T,hn,hm⟩:=h.reads;refine (od w A n c hn).mono λe O ⟨he,hw⟩=>⟨_,he,hw,?_⟩;have:=h.cut (bh n);rwa [bH (by rw[h.1];omega)] at this
def D6:∀x:Nat,x<256->bits .or .u8 (x:Int) 128=((x % 128+128:Nat):Int):=by decide +kernel
def Zi(m:Nat):bits .or .u8 ((m:Int) % 256) 128=((m % 128+128:Nat):Int):=by have:=D6 (m % 256) ap;rw[show ((m % 256:Nat):Int)=(m:Int) % 256 by omega] at this;rw[this];omega
def _root_.Go.Hop.Reads.oe{size:Nat}{ys:List K}(h:Reads w B size A n xs)(e:ys=xs):Reads w B size A n ys:=e▸h
def Bt(w:X)(A:aU)(n c:Nat)(l:aT)(hb:Bytes w (w:Nat) A n l)(hn:n<=1099511627776)(m:Nat)(hm:m<18446744073709551616):dz W 182 #[Z A n c,ae ah m] w λe O=>∃v,e=b5 v∧Own O (New w O) 5 1 v (n+(enc m).length) (kz (l++enc m))∧Grow w O:=by
 have fj:=eE hm;go_in;go_wp2_with (go_at_call 135;refine (jD _ A n c l hb ap).mono ?_;rintro e w1 ⟨v1,rfl,kv,eD⟩);go_loopw [1,5] (λmv v wr=>∃(pre:aT)(m':Nat),mv=ae ah m'∧m'<18446744073709551616∧pre++enc m'=enc m∧Own wr (New w wr) 5 1 v (n+pre.length) (kz (l++pre))∧Grow w wr) (λmv _ _=>(intOf mv).toNat);case atStart=>exact⟨[],m,rfl,hm,rfl,by simpa using kv,eD⟩
 case round=>
  obtain⟨pre,m',rfl,YR,F4,hO,H⟩:=hrel;obtain⟨A1,c1,rfl,lT,oK,ry⟩:=hO.reads;have TT:pre.length<=10:=by have:=congrArg List.length F4;rw[bd] at this;omega
  have HP:=Q F4;clear F4;by_cases hgo:128<=m'
  ·have eor:=Zi m'
   go_wp2_with (at_builtin;refine stay ?_);refine dI ?_;refine fO (V:=New w wr) Kj _ rfl (.tmp 10) (.tmp 14) rfl (Z A1 (n+pre.length) c1) (n+pre.length) (kz (l++pre)) rfl (mD hO _) ((wr:Nat)+1) (some ⟨(wr:Nat),0,none⟩) 1 1 (kz [UInt8.ofNat (m' % 128+128)]) rfl (fF wr _ 5 _ rfl _ rfl |>.oe (by simp only[kz,bQ,cQ];rw[nT ap];push_cast;rfl)) lx ap ?_;intro v3 w3 nt mz;rw[<-iT,bp] at nt;obtain⟨nt,ib⟩:=mC H nt mz;clear mz hO lT;go_wp2_with fail;go_roundw;case rel=>exact⟨pre++[UInt8.ofNat (m' % 128+128)],m' / 128,by go_num,by omega,by rw[bp,List.singleton_append,<-lB hgo];exact HP.out,by rw[bd,<-Nat.add_assoc];exact nt,ib⟩
   case measure=>simp[intOf];omega
  ·go_wp2_with (at_builtin;refine stay ?_)
   refine dI ?_;refine fO (V:=New w wr) Kj _ rfl (.tmp 18) (.tmp 21) rfl (Z A1 (n+pre.length) c1) (n+pre.length) (kz (l++pre)) rfl (mD hO _) ((wr:Nat)+1) (some ⟨(wr:Nat),0,none⟩) 1 1 (kz [UInt8.ofNat m']) rfl (fF wr _ 5 _ rfl _ rfl |>.oe (by simp only[kz,bQ,cQ];rw[nT ap])) lx ap ?_;intro v3 w3 nt mz;rw[<-iT,bp] at nt;obtain⟨nt,ib⟩:=mC H nt mz;have hP:=HP.out;rw[j7 ap] at hP;rw[hP] at nt;have hL:=congrArg List.length hP;rw[bd,bv] at hL;have hL':n+pre.length+1=n+(enc m).length:=by omega
   rw[hL'] at nt;clear mz hO lT hP hL hL';obtain⟨A3,c3,rfl,jN,Ul,R4⟩:=nt.reads;go_wp2_with (go_at_call 238;refine (D5 _ _ _ _ _ nt).mono ?_;rintro e w4 ⟨v4,rfl,rfl,hO4⟩);go_ret;exact⟨v4,rfl,hO4,ib⟩
def ug:∀x:Nat,x<256->bits .andNot .u64 (x:Int) 128=((x % 128:Nat):Int):=by decide +kernel
def R5(i:Nat):(2:Int) ^ (i*7)=((128 ^ i:Nat):Int):=by rw[Nat.mul_comm,Int.pow_mul];push_cast;rfl
def FR(p i:Nat)(h:p*128 ^ i<18446744073709551616):IntKind.u64.wrap ((p:Int)*2 ^ (i*7))=((p*128 ^ i:Nat):Int):=by rw[R5,<-Int.natCast_mul,wrap_u64];omega
def FT(p i:Nat):((p*128 ^ i:Nat):Int) / 2 ^ (i*7)=(p:Int):=by rw[R5,<-Int.natCast_ediv,Nat.mul_div_cancel _ (Nat.pow_pos ap)]
def Bu(p i:Nat)(h:¬ p*128 ^ i<18446744073709551616)(hi:i<=9)(hp:p<128):∃q d:Nat,IntKind.u64.wrap ((p:Int)*2 ^ (i*7))=(q:Int)∧(q:Int) / 2 ^ (i*7)=(d:Int)∧d≠p:=by
 have h9:i=9:=by
  rcases Nat.lt_or_ge i 9 with I|I
  ·exfalso
   have:128 ^ i<=128 ^ 8:=Nat.pow_le_pow_right ap ap;have G:p*128 ^ i<=127*128 ^ 8:=Nat.mul_le_mul ap this;omega
  ·omega
 subst h9;refine⟨p*128 ^ 9 % 18446744073709551616,p % 2,?_,?_,by omega⟩;·rw[R5,<-Int.natCast_mul,wrap_u64];omega
 ·rw[R5];omega
def VC(a b:Nat)(ha:a<18446744073709551616)(hb:b<18446744073709551616):bits .or .u64 (a:Int) (b:Int)=((a ||| b:Nat):Int):=by show IntKind.u64.wrap ((BitVec.ofInt 64 (a:Int) ||| BitVec.ofInt 64 (b:Int)).toNat:Nat)=_;rw[BitVec.toNat_or,BitVec.toNat_ofInt,BitVec.toNat_ofInt,wrap_u64];rw[show ((a:Int) % ((2 ^ 64:Nat):Int)).toNat=a by omega,show ((b:Int) % ((2 ^ 64:Nat):Int)).toNat=b by omega];have:=Nat.or_lt_two_pow (n:=64) ha hb;omega
def IG(a p i:Nat)(ha:a<128 ^ i)(h:p*128 ^ i<18446744073709551616)(hi:i<=9):a+p*128 ^ i<18446744073709551616:=by
 have M9:(18446744073709551616:Nat)=2 ^ (64-7*i)*128 ^ i:=by rw[show (128:Nat)=2 ^ 7 by rfl,<-Nat.pow_mul,<-Nat.pow_add,show 64-7*i+7*i=64 by omega]
 rw[M9] at h ⊢;have hp:p<2 ^ (64-7*i):=Nat.lt_of_mul_lt_mul_right h;calc a+p*128 ^ i<128 ^ i+p*128 ^ i:=by omega
  _=(p+1)*128 ^ i:=by rw[Nat.add_mul];omega
  _<=2 ^ (64-7*i)*128 ^ i:=cK _ hp
def MU(a p i:Nat)(ha:a<128 ^ i)(h:p*128 ^ i<18446744073709551616)(hi:i<=9)(_hp:p<128):bits .or .u64 (a:Int) ((p*128 ^ i:Nat):Int)=((a+p*128 ^ i:Nat):Int):=by
 have I:=IG a p i ha h hi;rw[VC a _ ap h];have Zj:(128:Nat) ^ i=2 ^ (7*i):=by rw[Nat.pow_mul]
 rw[Zj] at ha ⊢;have:=Nat.two_pow_add_eq_or_of_lt ha p;rw[Nat.mul_comm p,Nat.or_comm,<-this,Nat.add_comm]
def Kk(w:X)(B:Nat)(A:aU)(n c:Nat)(l:aT)(hb:Bytes w B A n l)(Qe:n<=dG)(hn:n<10):dz W 134 #[Z A n c] w λe O=>∃v k:Nat,iF l v k∧e=b5 (a_ #[ae ah v,J k])∧w=O:=by
 have fj:=hb.len;unfold dG at Qe;go_in;go_wp2_with fail;go_loopw [4,11] (λav iv wr=>∃i:Nat,i<=n∧iv=J i∧av=ae ah (val (l.take i):Int)∧Hi l i∧wr=w) (λ_ iv _=>n-(intOf iv).toNat);case atStart=>exact⟨0,by omega,rfl,rfl,λj hj h=>by omega,rfl⟩
 case round=>
  obtain⟨i,kT,rfl,rfl,JW,rfl⟩:=hrel;by_cases hi:i<n
  ·obtain⟨ad,vP,rfl,ia⟩:=hb.at_ (show i<n by omega)
   have E:=l[i].toNat_lt;obtain⟨x,HX⟩:∃x:Nat,Hid (x=l[i].toNat):=⟨l[i].toNat,rfl⟩;rw[<-HX.out] at ia E;have Zk:=ug x ap;obtain⟨p,IH⟩:=az (x % 128:Nat);have hp:p<128:=by have:=IH.out;omega
   rw[<-IH.out] at Zk;have hv:=ly l i vP;rw[<-HX.out,<-IH.out] at hv;have JX:=pQ l i;obtain⟨a,HA⟩:=az (val (l.take i):Nat);obtain⟨b,HB⟩:=az (val (l.take (i+1)):Nat);rw[<-HA.out] at hv JX;rw[<-HB.out] at hv;rw[<-HA.out];have zL:=Q JW;clear JW;by_cases JY:p*128 ^ i<18446744073709551616
   ·have ew:=FR p i JY
    obtain⟨q,HQ⟩:=az (p*128 ^ i:Nat);have ed:=FT p i;rw[<-HQ.out] at ew ed hv JY;have eo:bits .or .u64 (a:Int) (q:Int)=(b:Int):=by rw[hv,HQ.out];exact MU a p i JX (by rw[<-HQ.out];exact JY) (show i<=9 by omega) hp
    have uV:b<18446744073709551616:=by have:=IG a p i JX (by rw[<-HQ.out];exact JY) (show i<=9 by omega);rw[<-HQ.out] at this;omega
    clear hv JX;by_cases Y:128<=x
    ·go_wp2_with fail
     go_roundw;case rel=>exact⟨i+1,by omega,by go_num,by rw[HB.out],Bp vP zL.out (by rw[<-HX.out];exact Y),trivial⟩
     case measure=>simp[intOf];omega
    ·by_cases hz:x<=0∧0<i
     ·obtain⟨hz,h0⟩:=hz
      have hz':l[i]=0:=by have:=HX.out;apply UInt8.toNat_inj.1;rw[<-this,show x=0 by omega];rfl
      go_wp2;go_ret2;exact⟨0,0,iF.none (pR vP zL.out hz' h0),rfl,rfl⟩
     ·have hG:iF l b (i+1):=by
       rw[HB.out];refine uc vP zL.out (by rw[<-HX.out];omega) ?_ (by rw[<-HB.out];exact uV);by_cases h0:i=0;·exact .inr h0
       ·refine .inl λe=>hz ⟨?_,by omega⟩
        have:x=0:=by rw[HX.out,e];rfl
        omega
      by_cases TU:x<=0
      ·have hi0:i<=0:=by omega
       clear hz
       go_wp2
       go_ret2
       exact⟨b,i+1,hG,by push_cast;rfl,rfl⟩
      ·clear hz
       go_wp2
       go_ret2
       exact⟨b,i+1,hG,by push_cast;rfl,rfl⟩
   ·obtain⟨q,d,ew,ed,hd⟩:=Bu p i ap ap hp
    go_wp2;go_ret2;refine⟨0,0,iF.none (rN vP zL.out ?_),rfl,rfl⟩;rw[<-HX.out,<-IH.out];omega
  ·have tR:i=n:=by omega
   have zL:=Q JW;clear JW;obtain⟨a,HA⟩:=az (val (l.take i):Nat);rw[<-HA.out];subst tR;go_wp2;go_ret2;exact⟨0,0,iF.none (ub zL.out ap),rfl,rfl⟩
def MV(w:X)(B:Nat)(A:aU)(n c:Nat)(l:aT)(hb:Bytes w B A n l)(Qe:n<=dG)(hn:10<n):dz W 134 #[Z A n c] w λe O=>∃v k:Nat,iF l v k∧e=b5 (a_ #[ae ah v,J k])∧w=O:=by
 have fj:=hb.len;unfold dG at Qe;go_in;go_wp2_with fail;go_loopw [4,11] (λav iv wr=>∃i:Nat,i<=10∧iv=J i∧av=ae ah (val (l.take i):Int)∧Hi l i∧wr=w) (λ_ iv _=>10-(intOf iv).toNat);case atStart=>exact⟨0,by omega,rfl,rfl,λj hj h=>by omega,rfl⟩
 case round=>
  obtain⟨i,kT,rfl,rfl,JW,rfl⟩:=hrel;by_cases hi:i<10
  ·obtain⟨ad,vP,rfl,ia⟩:=hb.at_ (show i<n by omega)
   have E:=l[i].toNat_lt;obtain⟨x,HX⟩:∃x:Nat,Hid (x=l[i].toNat):=⟨l[i].toNat,rfl⟩;rw[<-HX.out] at ia E;have Zk:=ug x ap;obtain⟨p,IH⟩:=az (x % 128:Nat);have hp:p<128:=by have:=IH.out;omega
   rw[<-IH.out] at Zk;have hv:=ly l i vP;rw[<-HX.out,<-IH.out] at hv;have JX:=pQ l i;obtain⟨a,HA⟩:=az (val (l.take i):Nat);obtain⟨b,HB⟩:=az (val (l.take (i+1)):Nat);rw[<-HA.out] at hv JX;rw[<-HB.out] at hv;rw[<-HA.out];have zL:=Q JW;clear JW;by_cases JY:p*128 ^ i<18446744073709551616
   ·have ew:=FR p i JY
    obtain⟨q,HQ⟩:=az (p*128 ^ i:Nat);have ed:=FT p i;rw[<-HQ.out] at ew ed hv JY;have eo:bits .or .u64 (a:Int) (q:Int)=(b:Int):=by rw[hv,HQ.out];exact MU a p i JX (by rw[<-HQ.out];exact JY) (show i<=9 by omega) hp
    have uV:b<18446744073709551616:=by have:=IG a p i JX (by rw[<-HQ.out];exact JY) (show i<=9 by omega);rw[<-HQ.out] at this;omega
    clear hv JX;by_cases Y:128<=x
    ·go_wp2_with fail
     go_roundw;case rel=>exact⟨i+1,by omega,by go_num,by rw[HB.out],Bp vP zL.out (by rw[<-HX.out];exact Y),trivial⟩
     case measure=>simp[intOf];omega
    ·by_cases hz:x<=0∧0<i
     ·obtain⟨hz,h0⟩:=hz
      have hz':l[i]=0:=by have:=HX.out;apply UInt8.toNat_inj.1;rw[<-this,show x=0 by omega];rfl
      go_wp2;go_ret2;exact⟨0,0,iF.none (pR vP zL.out hz' h0),rfl,rfl⟩
     ·have hG:iF l b (i+1):=by
       rw[HB.out];refine uc vP zL.out (by rw[<-HX.out];omega) ?_ (by rw[<-HB.out];exact uV);by_cases h0:i=0;·exact .inr h0
       ·refine .inl λe=>hz ⟨?_,by omega⟩
        have:x=0:=by rw[HX.out,e];rfl
        omega
      by_cases TU:x<=0
      ·have hi0:i<=0:=by omega
       clear hz
       go_wp2
       go_ret2
       exact⟨b,i+1,hG,by push_cast;rfl,rfl⟩
      ·clear hz
       go_wp2
       go_ret2
       exact⟨b,i+1,hG,by push_cast;rfl,rfl⟩
   ·obtain⟨q,d,ew,ed,hd⟩:=Bu p i ap ap hp
    go_wp2;go_ret2;refine⟨0,0,iF.none (rN vP zL.out ?_),rfl,rfl⟩;rw[<-HX.out,<-IH.out];omega
  ·have tR:i=10:=by omega
   have zL:=Q JW;clear JW;obtain⟨a,HA⟩:=az (val (l.take i):Nat);rw[<-HA.out];subst tR;go_wp2;go_ret2;exact⟨0,0,iF.none (ub zL.out ap),rfl,rfl⟩
def R6(w:X)(B:Nat)(A:aU)(n c:Nat)(l:aT)(hb:Bytes w B A n l)(Qe:n<=dG)(hn:n=10):dz W 134 #[Z A n c] w λe O=>∃v k:Nat,iF l v k∧e=b5 (a_ #[ae ah v,J k])∧w=O:=by
 have fj:=hb.len;subst hn;clear Qe;go_in;go_wp2_with fail;go_loopw [4,11] (λav iv wr=>∃i:Nat,i<=10∧iv=J i∧av=ae ah (val (l.take i):Int)∧Hi l i∧wr=w) (λ_ iv _=>10-(intOf iv).toNat);case atStart=>exact⟨0,by omega,rfl,rfl,λj hj h=>by omega,rfl⟩
 case round=>
  obtain⟨i,kT,rfl,rfl,JW,rfl⟩:=hrel;by_cases hi:i<10
  ·obtain⟨ad,vP,rfl,ia⟩:=hb.at_ (show i<10 by omega)
   have E:=l[i].toNat_lt;obtain⟨x,HX⟩:∃x:Nat,Hid (x=l[i].toNat):=⟨l[i].toNat,rfl⟩;rw[<-HX.out] at ia E;have Zk:=ug x ap;obtain⟨p,IH⟩:=az (x % 128:Nat);have hp:p<128:=by have:=IH.out;omega
   rw[<-IH.out] at Zk;have hv:=ly l i vP;rw[<-HX.out,<-IH.out] at hv;have JX:=pQ l i;obtain⟨a,HA⟩:=az (val (l.take i):Nat);obtain⟨b,HB⟩:=az (val (l.take (i+1)):Nat);rw[<-HA.out] at hv JX;rw[<-HB.out] at hv;rw[<-HA.out];have zL:=Q JW;clear JW;by_cases JY:p*128 ^ i<18446744073709551616
   ·have ew:=FR p i JY
    obtain⟨q,HQ⟩:=az (p*128 ^ i:Nat);have ed:=FT p i;rw[<-HQ.out] at ew ed hv JY;have eo:bits .or .u64 (a:Int) (q:Int)=(b:Int):=by rw[hv,HQ.out];exact MU a p i JX (by rw[<-HQ.out];exact JY) (show i<=9 by omega) hp
    have uV:b<18446744073709551616:=by have:=IG a p i JX (by rw[<-HQ.out];exact JY) (show i<=9 by omega);rw[<-HQ.out] at this;omega
    clear hv JX;by_cases Y:128<=x
    ·go_wp2_with fail
     go_roundw;case rel=>exact⟨i+1,by omega,by go_num,by rw[HB.out],Bp vP zL.out (by rw[<-HX.out];exact Y),trivial⟩
     case measure=>simp[intOf];omega
    ·by_cases hz:x<=0∧0<i
     ·obtain⟨hz,h0⟩:=hz
      have hz':l[i]=0:=by have:=HX.out;apply UInt8.toNat_inj.1;rw[<-this,show x=0 by omega];rfl
      go_wp2;go_ret2;exact⟨0,0,iF.none (pR vP zL.out hz' h0),rfl,rfl⟩
     ·have hG:iF l b (i+1):=by
       rw[HB.out];refine uc vP zL.out (by rw[<-HX.out];omega) ?_ (by rw[<-HB.out];exact uV);by_cases h0:i=0;·exact .inr h0
       ·refine .inl λe=>hz ⟨?_,by omega⟩
        have:x=0:=by rw[HX.out,e];rfl
        omega
      by_cases TU:x<=0
      ·have hi0:i<=0:=by omega
       clear hz
       go_wp2
       go_ret2
       exact⟨b,i+1,hG,by push_cast;rfl,rfl⟩
      ·clear hz
       go_wp2
       go_ret2
       exact⟨b,i+1,hG,by push_cast;rfl,rfl⟩
   ·obtain⟨q,d,ew,ed,hd⟩:=Bu p i ap ap hp
    go_wp2;go_ret2;refine⟨0,0,iF.none (rN vP zL.out ?_),rfl,rfl⟩;rw[<-HX.out,<-IH.out];omega
  ·have tR:i=10:=by omega
   have zL:=Q JW;clear JW;obtain⟨a,HA⟩:=az (val (l.take i):Nat);rw[<-HA.out];subst tR;go_wp2;go_ret2;exact⟨0,0,iF.none (ub zL.out ap),rfl,rfl⟩
def qG(w:X)(B:Nat)(A:aU)(n c:Nat)(l:aT)(hb:Bytes w B A n l)(Qe:n<=dG):dz W 134 #[Z A n c] w λe O=>∃v k:Nat,iF l v k∧e=b5 (a_ #[ae ah v,J k])∧w=O:=by
 by_cases h:n<10;·exact Kk w B A n c l hb Qe h
 ·by_cases h':10<n
  ·exact MV w B A n c l hb Qe h'
  ·exact R6 w B A n c l hb Qe ap
def fits(l b:aT):Bool:=decide (l.length+b.length<=1048576)
def Bv(l b:aT):Int:=if fits l b then 0 else 24
def R7(l b:aT):List UInt8:=if fits l b then l++b else l
def sI(l:aT)(n:Int):Bool:=decide (0<=n)&&decide (n<=(l.length:Int))
def R8(l:aT)(n:Int):List UInt8:=if sI l n then l.take n.toNat else l
def kb(l:aT)(k:Nat)(n:Int):Nat:=if sI l n then n.toNat else k
def g9(t d:Nat)(l:aT)(k:Nat):dW:=λw V=>
 V d∧k<=l.length∧l.length<=1048576∧∃v,eJ w d t #[v,J k]∧Own w (λb=>V b∧b≠d) 5 1 v l.length (kz l)
def g9.framed(t d:Nat)(l:aT)(k:Nat):eu (g9 t d l k):=λw O V h N=>by obtain⟨I,G,L,v,h4,h5⟩:=h;exact⟨I,G,L,v,(N d I).trans h4,h5.keep λb hb=>N b hb.1⟩
end Go.Proofs.YtpeepcmdehhbgaaGreatDoor.V
