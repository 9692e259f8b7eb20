/- Ma1, Ma2, Ma3, Ma4, Ma5, Ma6, Ma7. -/
import Derived.Test.YtpeepcmdehhbgaaGreatDoorJs23
import Derived.Test.YtpeepcmdehhbgaaGreatDoorJs12
import Derived.Test.YtpeepcmdehhbgaaGreatDoorJs06
set_option linter.all false
set_option maxRecDepth 100000
open Go.Value renaming int->ae,slice->Z,string->aX,bool->aY,agg->aZ,tuple->a_
open Go.Ending renaming returned->b5
open Go.IntKind renaming i64->af,u64->ah
open Go (J az aE aA aB aC aD ay aj am ap aw aL aK aJ aI aH aV aU aT aR aQ aP aO aN)
open Go.Proofs.Tryz renaming prog->W
open Nat renaming le_refl->bh
open Go renaming Value->K,World->X,Calls->dz
namespace Go.Proofs.YtpeepcmdehhbgaaGreatDoor
open RowKit Hop
def o0(x:Int):K := J x
def GD(k:Int×Int):K := aZ #[J k.1,J k.2]
theorem Oe:oo W 3 o0:=zR aw
theorem Ww:oo W 325 GD:=sR (fs:=(Tryz.prog.fieldsOf 325)) aw (λw b k=>by unfold GD;kernel_rfl)
 (λw a b=>by unfold GD;show (Op.equalIn 10000 _ _ _).run W w=_;go_simp;by_cases I:a.1=b.1<;>by_cases G:a.2=b.2<;>simp[I,G,Prod.ext_iff])
 (λk=>by simp[GD,Instr.sameBits])
theorem zI(w:X):(zeroValue 2).run W w=.ok (J 0) w:=by kernel_rfl
theorem zS(w:X):(zeroValue 268).run W w=.ok (.pointer none) w:=by kernel_rfl
def UI(m s bE bS p g:Nat)(q:abk.Sm)(fQ:List (Int×K))(gO:List ((Int×Int)×K))(F:Int)(M:Nat):List dW:=[Cell m 138 #[s,.map (some bE),.map (some bS)],abk.gT s q,eI o0 bE fQ,eI GD bS gO,Cell p 272 #[g,ay],Cell g 328 #[J F,ae ah M]]
def xU(m:Nat)(q:abk.Sm)(fQ:List (Int×K))(st:Option ((Int×Int)×(Int×Nat))):dW:=λw V=>match st with
 | none=>∃s bE bS,dN [Cell m 138 #[.pointer (some ⟨s,0,none⟩),.map (some bE),.map (some bS)],abk.gT s q,eI o0 bE fQ,eI GD bS []] w V
 | some (k,F,M)=>∃s bE bS p g,dN (UI m s bE bS p g q fQ [(k,.pointer (some ⟨p,0,none⟩))] F M) w V
theorem C1(m s bE bS p g:Nat)(q:abk.Sm)(fQ:List (Int×K))(gO:List ((Int×Int)×K))(F:Int)(M:Nat):eG (UI m s bE bS p g q fQ gO F M):=(((((eG.nil.cons (Cell.framed _ _ _)).cons (Cell.framed _ _ _)).cons (eI.framed _ _)).cons (eI.framed _ _)).cons (abk.gT.framed _ _)).cons (Cell.framed _ _ _)
theorem C2(m s bE bS:Nat)(q:abk.Sm)(fQ:List (Int×K)):eG [Cell m 138 #[s,.map (some bE),.map (some bS)],abk.gT s q,eI o0 bE fQ,eI GD bS []]:=(((eG.nil.cons (eI.framed _ _)).cons (eI.framed _ _)).cons (abk.gT.framed _ _)).cons (Cell.framed _ _ _)
theorem xU.framed(m:Nat)(q:abk.Sm)(fQ:List (Int×K))(st:Option ((Int×Int)×(Int×Nat))):eu (xU m q fQ st):=λw O V h N=>by
 match st,h with
 | none,h=>obtain⟨s,bE,bS,h⟩:=h;exact⟨s,bE,bS,dN.framed _ (C2 _ _ _ _ _ _) w O V h N⟩
 | some (k,F,M),h=>obtain⟨s,bE,bS,p,g,h⟩:=h;exact⟨s,bE,bS,p,g,dN.framed _ (C1 _ _ _ _ _ _ _ _ _ _ _) w O V h N⟩
theorem xU.wide(m:Nat)(q:abk.Sm)(fQ:List (Int×K))(st:Option ((Int×Int)×(Int×Nat))):C_ (xU m q fQ st):=λw U U' hu h=>by
 match st,h with
 | none,h=>obtain⟨s,bE,bS,h⟩:=h;exact⟨s,bE,bS,dN.wide _ w U U' hu h⟩
 | some (k,F,M),h=>obtain⟨s,bE,bS,p,g,h⟩:=h;exact⟨s,bE,bS,p,g,dN.wide _ w U U' hu h⟩
theorem L8(w:X):dz W 54 #[] w λe O=>∃m,e=b5 (((m:Nat):K))∧xU m [] [] none O (New w O)∧Grow w O:=by
 have QK:=@run_makeMap W;have hK:=abk.oS w;go_in;go_wp2_with fail;refine hK.mono ?_;rintro e w1 ⟨s,rfl,hS,eD⟩;go_wp2;go_ret;have g1:Grow w1 (w1.alloc (.map #[] 0)):=(Below.refl _ w1).alloc (bh _) _;have g2:=(Below.refl _ (w1.alloc (.map #[] 0))).alloc (bh _) (.map #[] 0);generalize sC:w1.alloc (.map #[] 0)=w2 at g1 g2 ⊢;have m1:eI (κ:=Int) o0 (w1:Nat) [] w2 (λb=>b=(w1:Nat)):=sC▸eI.made w1;have m2:eI (κ:=Int×Int) GD (w2:Nat) [] (w2.alloc (.map #[] 0)) (λb=>b=(w2:Nat)):=eI.made w2;have z2:(w2:Nat)=(w1:Nat)+1:=by rw[<-sC];simp
 rw[<-z2];generalize Bg:w2.alloc (.map #[] 0)=w3 at g2 m2 ⊢;have z3:(w3:Nat)=(w2:Nat)+1:=by rw[<-Bg];simp
 have g3:=dT w3 (.cells #[s,.map (some (w1:Nat)),.map (some (w2:Nat))] 138);have hB:=eJ.made w3 138 #[s,.map (some (w1:Nat)),.map (some (w2:Nat))];generalize hw4:w3.alloc (.cells #[s,.map (some (w1:Nat)),.map (some (w2:Nat))] 138)=w4 at g3 hB ⊢;have z4:(w4:Nat)=(w3:Nat)+1:=by rw[<-hw4];simp
 have zz:=eD.size;have gA:Grow w1 w4:=(g1.trans g2).trans g3;have eO:=abk.gT.framed s [] w1 w4 _ hS λb hb=>gA.block b hb.2;have m14:=eI.framed (ke:=o0) _ _ w2 w4 _ m1 λb hb=>(Grow.trans g2 g3).block b (by rw[hb];omega);have m24:=eI.framed (ke:=GD) _ _ w3 w4 _ m2 λb hb=>g3.block b (by rw[hb];omega);refine⟨(w3:Nat),by rw[z3];rfl,⟨s,(w1:Nat),(w2:Nat),λb=>b=(w3:Nat),λb=>New w w4 b∧b≠(w3:Nat),⟨rfl,hB⟩,⟨New w w1,λb=>b=(w1:Nat)∨b=(w2:Nat),eO,⟨λb=>b=(w1:Nat),λb=>b=(w2:Nat),m14,⟨λb=>b=(w2:Nat),λ_=>False,m24,trivial,λ_ h=>h,λ_ h=>h.elim,λ_ _ h=>h⟩,λ_ h => .inl h,λ_ h => .inr h,λb I G=>?_⟩,λb hb=>?_,λb hb=>?_,λb hb E=>?_⟩,λb hb=>?_,λb hb=>hb.1,λb hb E=>E.2 hb⟩,eD.trans gA⟩;·subst I;omega
 ·exact⟨⟨hb.1,by have:=hb.2;omega⟩,by have:=hb.2;omega⟩
 ·rcases hb with rfl|rfl
  ·exact⟨⟨by omega,by omega⟩,by omega⟩
  ·exact⟨⟨by omega,by omega⟩,by omega⟩
 ·rcases E with rfl|rfl
  ·have:=hb.2;omega
  ·have:=hb.2;omega
 ·subst hb;exact⟨by omega,by omega⟩
end Go.Proofs.YtpeepcmdehhbgaaGreatDoor
