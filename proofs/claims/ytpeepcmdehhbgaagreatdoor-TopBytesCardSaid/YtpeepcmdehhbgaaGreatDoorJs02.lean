/- Rowk, Kito. -/
import Derived.ProofKit
import Derived.OpenShut
import Derived.JoinedCond
import Derived.Test.YtpeepcmdehhbgaaGreatDoorJs00
set_option linter.all false
set_option maxRecDepth 100000
open Go.Value renaming int->ae,slice->Z,string->aX,bool->aY,agg->aZ,tuple->a_
open Go.Ending renaming returned->b5
open Go.IntKind renaming i64->af,u64->ah
open Go (J az aE aA aB aC aD ay aj am ap aw aL aK aJ aI aH aV aU aT aR aQ aP aO aN)
open Go.Proofs.Tryz renaming prog->W
open Nat renaming le_refl->bh,zero_le->bo
open List renaming length_map->bj,append_nil->bm,length_take->bn,getElem_mem->bF,mem_of_mem_take->bW,getElem_map->di
open Option renaming map_some->df
open Go renaming Value->K,World->X,TypeId->dC,Program->dD,maxLen->dG
variable{t e:dC}{w:X}{v:K}{b0:Nat}
namespace Go.Hop
open ChangeShapes WideShapes ChangeAt RowKit
section
variable{abj:Type}{enc:dC×K->abj}{P:dD}
theorem rC(hl:laidOutB P=true){abq W':X}(hb:Below (abq:Nat) abq W'):∀(ts:List dC)(vs:List K)(ds:List (DataW abj))(ps:List MemPlace),
 (∀t∈ts,P.readableRec t=true∧t<P.types.size)->DataW.TrodAll enc P abq 0 (λ_=>true) true ts vs ds ps->(∀x∈ps,x.block<(abq:Nat))->
 DataW.TrodAll enc P W' 0 (λb=>decide (b<(abq:Nat))) true ts vs ds ps
 | [],vs,ds,ps,_,h,_=>by
   obtain⟨rfl,rfl,rfl⟩:=trodAll_nil h;exact trodAll_mk0
 | t::ts,vs,ds,ps,hr,h,fS=>by
   obtain⟨v0,vs0,d0,ds0,p0,q0,rfl,rfl,rfl,h0,r0⟩:=trodAll_cons h;obtain⟨I,G⟩:=hr t (by simp);exact⟨p0,q0,Below.trod hl I G h0 hb (λx Y=>fS x (by simp[Y])),rC hl hb ts vs0 ds0 q0 (λu hu=>hr u (by simp[hu])) r0 (λx Y=>fS x (by simp[Y])),rfl⟩
def MP{f:Func}{s:ChangeSpec}{tb:dC}(hl:laidOutB P=true)(htb:P.underlying tb=some .bool)(Ir:f.resultTypes=#[tb])(V7:s.vars=[])
 (V8:(f.params.toList.all λt=>P.readableRec t&&decide (t<P.types.size))=true) {abq W':X} {args:aP} {ds gs:List (DataW abj)} {before:List MemPlace}
 (hW:DataW.Whole enc P f.params.toList s.vars false abq args.toList ds gs before) (Qd:s.fn abj ds={ results:=[.lit (.bool true)],args:=ds }) (hb:Below (abq:Nat) abq W'):s.post enc P f false true false false abq args (aY true) W':=by
 have hW':=hW;have hr:∀t∈f.params.toList,P.readableRec t=true∧t<P.types.size:=by intro t ht;simpa using List.all_eq_true.1 V8 t ht
 have fS:∀p∈before,p.block<(abq:Nat):=λp hp=>hW'.lt p hp;obtain⟨p,q,hA,hV,rfl,hfz,pJ⟩:=hW;rw[V7] at hV;obtain⟨rfl,rfl⟩:=trodVars_none hV;refine⟨ds,[],p++[],[],p,[],hW',?_,?_,?_,World.keptBut_mono (λx Y=>⟨Y,?_⟩) (hb.frame (·∈p++[])),λh=>by cases h⟩
 ·rw[bm,Qd,Ir]
  exact trodAll_mk1 (shut_bool htb true)
 ·rw[bm,Qd]
  exact rC hl hb _ _ _ _ hr hA (λx Y=>fS x (by simp[Y]))
 ·rw[bm,Qd,V7]
  rfl
 ·exact Or.inr (Or.inl (by simpa using Y))
def MQ{z:Int}(h:(Lit.int .u8 z).wf=true):((UInt8.ofNat z.toNat).toNat:Int)=z:=by
 have Y:0<=z∧z<=255:=by simpa [Lit.wf,IntKind.min,IntKind.max,IntKind.signed,IntKind.bits] using h
 rw[UInt8.toNat_ofNat'];omega
def open_bytes(ht:P.underlying t=some (.slice e))(he:P.underlying e=some (.int .u8))(E:P.cellsOf e=1){d:DataW abj}{p:List MemPlace}{r:Reach}
 (hv:Value.okWide P w r b0 t v) (h:DataW.Trod enc P w 0 (λ_=>true) true t v d p):∃(A:aU)(n cap:Nat)(l:aT),v=Z A n cap∧Bytes w (w:Nat) A n l∧n<=cap∧cap<=dG∧
   ((d=.nil∧n=0)∨∃zs:aN,d=.slice (lits .u8 (zs.take n)) (lits .u8 (zs.drop n))∧zs.length=cap):=by
 obtain⟨A,n,cap,rfl⟩:=okWide_slice ht hv
 obtain⟨fuel,hf⟩:=h
 rcases open_ints ht he E hf with ⟨jQ,Y⟩|⟨a,len',cap',zs,jQ,_,hl,hm,hz,Y,ia,TQ⟩
 ·simp only[Value.cells,List.cons.injEq,Value.slice.injEq,and_true] at jQ
  simp only[Prod.mk.injEq] at Y
  obtain⟨rfl,rfl,rfl⟩:=jQ
  exact⟨none,0,0,[],rfl,Reads.nil,bh _,bo _,.inl ⟨Y.1,rfl⟩⟩
 ·simp only[Value.cells,List.cons.injEq,Value.slice.injEq,and_true] at jQ
  simp only[Prod.mk.injEq] at Y
  obtain⟨rfl,rfl,rfl⟩:=jQ
  simp only[if_true] at hz
  refine⟨_,_,_,(zs.take n).map (λz=>UInt8.ofNat z.toNat),rfl,⟨by simp;omega,λhn=>⟨a,rfl,?_,λj u hu=>?_⟩⟩,hl,hm,.inr ⟨zs,Y.1,hz⟩⟩
  ·have:=World.block_lt_of_cell? w (a.add 0) (ia 0 ap)
   rwa [block_add] at this
  ·obtain⟨hj,rfl⟩:=Bm hu
   simp only[bj,bn] at hj
   rw[ia j ap]
   simp only[di,List.getElem_take]
   rw[MQ (TQ _ (bF _))]
   simp[List.getD,show j<zs.length by omega]
def Kh{k:IntKind}(ht:P.underlying t=some (.slice e))(he:P.underlying e=some (.int k))(E:P.cellsOf e=1){d:DataW abj}{p:List MemPlace}{r:Reach}
 (hv:Value.okWide P w r b0 t v) (h:DataW.Trod enc P w 0 (λ_=>true) true t v d p):∃(A:aU)(n cap:Nat)(l:aN),v=.slice A n cap∧Reads w (w:Nat) 1 A n (l.map (Value.int k))∧(∀z∈l,(Lit.int k z).wf=true)∧n<=cap∧cap<=dG∧
   ((d=.nil∧n=0)∨∃zs:aN,d=.slice (lits k (zs.take n)) (lits k (zs.drop n))∧zs.length=cap):=by
 obtain⟨A,n,cap,rfl⟩:=okWide_slice ht hv
 obtain⟨fuel,hf⟩:=h
 rcases open_ints ht he E hf with ⟨jQ,Y⟩|⟨a,len',cap',zs,jQ,_,hl,hm,hz,Y,ia,TQ⟩
 ·simp only[Value.cells,List.cons.injEq,Value.slice.injEq,and_true] at jQ
  simp only[Prod.mk.injEq] at Y
  obtain⟨rfl,rfl,rfl⟩:=jQ
  exact⟨none,0,0,[],rfl,Reads.nil,by simp,bh _,bo _,.inl ⟨Y.1,rfl⟩⟩
 ·simp only[Value.cells,List.cons.injEq,Value.slice.injEq,and_true] at jQ
  simp only[Prod.mk.injEq] at Y
  obtain⟨rfl,rfl,rfl⟩:=jQ
  simp only[if_true] at hz
  refine⟨_,_,_,zs.take n,rfl,⟨by simp;omega,λhn=>⟨a,rfl,?_,λj u hu=>?_⟩⟩,λz hz=>TQ z (bW hz),hl,hm,.inr ⟨zs,Y.1,hz⟩⟩
  ·have:=World.block_lt_of_cell? w (a.add 0) (ia 0 ap)
   rwa [block_add] at this
  ·rw[List.getElem?_map,List.getElem?_take] at hu
   split at hu
   ·rename_i hj
    rw[List.getElem?_eq_getElem ap] at hu
    rw[ia j ap]
    simp only[df,Option.some.injEq] at hu
    rw[<-hu]
    simp[List.getD,show j<zs.length by omega]
   ·cases hu
end
end Go.Hop
namespace Go.Proofs.YtpeepcmdehhbgaaGreatDoor
open RowKit Hop ChangeShapes WideShapes ChangeAt
def own:ownKnob Tryz.prog.godebug=none:=by kernel_rfl
def laidOut:laidOutB W=true:=by kernel_rfl
end Go.Proofs.YtpeepcmdehhbgaaGreatDoor
