/- topLedgers_card: proved for every input. LedgersRow. -/
import Derived.Test.YtpeepcmdehhbgaaGreatDoorJs53
import Derived.Test.YtpeepcmdehhbgaaGreatDoorTie
import Derived.Test.YtpeepcmdehhbgaaGreatDoorCards
import Derived.LaidMore
import Derived.Lay
import Derived.SevenTiedAt
import Derived.Stop.Joined
set_option linter.all false
set_option maxRecDepth 100000
open Go.Value renaming int->ae,slice->Z,string->aX,bool->aY,agg->aZ,tuple->a_
open Go.Ending renaming returned->b5
open Go.IntKind renaming i64->af,u64->ah
open Go (J az aE aA aB aC aD ay aj am ap aw aL aK aJ aI aH aV aU aT aR aQ aP aO aN)
open Go.Proofs.Tryz renaming prog->W
open Go renaming Value->K,World->X,Calls->dz,TypeId->dC
section
namespace Go.Proofs.YtpeepcmdehhbgaaGreatDoor
open Go.RowKit Go.Hop Go.ChangeShapes Go.WideShapes Go.ChangeAt
open Go.ChangeMaps (open_string)
theorem aau(abj:Type)(enc:dC×K->abj)(abq:X)(base:Nat)(args:aP)(ds gs:List (DataW abj))(before:List MemPlace)
 (Ug:∀(j:Nat)t v,Tryz.f4.params[j]?=some t->args[j]?=some v->Value.okWide W abq .any base t v)
 (hW:DataW.Whole enc W Tryz.f4.params.toList Rows.topLedgersSpec.vars false abq args.toList ds gs before):dz W 4 args abq λe W'=>∃v,e=b5 v∧Rows.topLedgersSpec.post enc W Tryz.f4 false true false false abq args v W':=by
 have hW':=hW;obtain⟨p,q,hA0,hV,rfl,hfz,pJ⟩:=hW;have hA:DataW.TrodAll enc W abq 0 (λ_=>true) true Tryz.f4.params.toList args.toList ds p:=hA0;rw[Tryz.params4] at hA Ug;obtain⟨v0,vs0,d0,ds0,p0,q0,hargs,rfl,rfl,h0,r0⟩:=trodAll_cons hA;obtain⟨rfl,rfl,rfl⟩:=trodAll_nil r0;obtain rfl:args=#[v0]:=by cases args;simp_all
 obtain⟨rfl,rfl⟩:=trodVars_none hV;obtain⟨A0,n0,c0,l0,rfl,hl0,hw0,hnc0,su,Vf⟩:=Kh (k := .u32) Tryz.underlying54 Tryz.underlying61 (show Tryz.prog.cellsOf 61=1 by kernel_rfl) (Ug 0 54 v0 rfl rfl) h0;refine (ab5 abq A0 n0 c0 l0 hl0 (abU hw0)).mono λe W' ⟨he,H⟩=>?_;subst he;exact⟨_,rfl,MP laidOut Tryz.underlying4 rfl rfl aw hW' rfl H⟩
theorem aax(os:Os)(started:os.Started)(abj:Type)(enc:dC×K->abj):ReturnsInHanded {} Tryz.checked os 4 .any (λw args=>(Rows.topLedgersSpec.pre enc W Tryz.f4 Rows.topLedgersRow.domain false w args∧laidMetH W Rows.topLedgersRow.laid w)∧sizedMet enc W Tryz.f4 (OpenSpec.ofChange Rows.topLedgersSpec) false w args)
  (Rows.topLedgersSpec.post enc W Tryz.f4 false true false false):=by
 refine returnsInHanded_of_change_and (C:=Tryz.checked) (X:=λw _=>laidMetH W Rows.topLedgersRow.laid w) (λ_ _ _ hh h=>h.of_heap hh) own started aw Tryz.func4
  (ChangeSpec.witness_shaped (enc:=enc) (C:=Tryz.checked) (os:=os) (X:=λw _=>laidMetH W Rows.topLedgersRow.laid w) false (World.laidAll W os Rows.topLedgersRow.laid) #[ay] 8 (World.laidAll_os _ _ _)
   (World.shaped_of_ZipB aw aw) aw aw aw
   (by rw[MakeChecks.laidMetH_plain _ _ _ aw];exact laidMet_laidAll _ aw aw)) ?_
 intro abq base args ds gs before a2c hW _ _ _ _
 have Ug:∀(j:Nat)t v,Tryz.f4.params[j]?=some t->args[j]?=some v->Value.okWide W abq .any base t v:=a2c
 exact aau abj enc abq base args ds gs before Ug hW
theorem aaY:Rows.topLedgersRow.wf (OpenSpec.ofChange Rows.topLedgersSpec)=true:=by kernel_rfl
theorem aaK:mapsRowed W=true:=by kernel_rfl
theorem aaL:Tryz.f4.params.all (Tryz.prog.readableRec ·)=true:=by kernel_rfl
theorem aaT:namedTie W Rows.topLedgersRow.named Rows.topLedgersSpec.vars=true:=by kernel_rfl
theorem aaE:(Tryz.prog.stops == [])=true:=by kernel_rfl
theorem aaF:(Tryz.prog.stopKnobs == [])=true:=by kernel_rfl
theorem aaU:(Rows.topLedgersRow.inPlace == Tryz.prog.inPlace 4)=true:=by kernel_rfl
theorem aaV:(Rows.topLedgersRow.unfollowed == Tryz.prog.unfollowed 4)=true:=by kernel_rfl
theorem aaW:(Rows.topLedgersRow.recurses == Tryz.prog.recurses 4)=true:=by kernel_rfl
theorem aaX:(Rows.topLedgersRow.named == Tryz.prog.varsNamed 4)=true:=by kernel_rfl
theorem aaM:(Rows.topLedgersRow.plainKeys == Tryz.prog.plainKeys)=true:=by kernel_rfl
theorem aaG:Tryz.prog.stopsHeard=true:=by kernel_rfl
theorem aaH:Tryz.prog.mayEnter=true:=by kernel_rfl
theorem aaN:(Rows.topLedgersRow.lifted == Tryz.prog.liftsFinal)=true:=by kernel_rfl
theorem aaO:(Tryz.prog.make == some Rows.topLedgersRow.make)=true:=by kernel_rfl
theorem ft{a b:Bool}(ha:a=true)(hb:b=true):(a&&b)=true:=by rw[ha,hb];rfl
theorem aay:joinedFacts W 4 Tryz.f4 Rows.topLedgersSpec Rows.topLedgersRow=true:=by unfold joinedFacts;exact ft (ft (ft (ft (ft (ft (ft (ft (ft (ft (ft (ft (ft (ft (ft (ft (ft (ft (ft (ft (ft (ft (ft (ft (ft (ft (ft (ft (ft (ft (ft aaY laidOut) aaK) aaL) aaT) (by as_aux_lemma=>kernel_rfl)) aaE) (by as_aux_lemma=>kernel_rfl)) aaF) aaU) aaV) aaW) aaX) (by as_aux_lemma=>kernel_rfl)) (by as_aux_lemma=>kernel_rfl)) (by as_aux_lemma=>kernel_rfl)) (by as_aux_lemma=>kernel_rfl)) (by as_aux_lemma=>kernel_rfl)) (by as_aux_lemma=>kernel_rfl)) (by as_aux_lemma=>kernel_rfl)) (by as_aux_lemma=>kernel_rfl)) (by as_aux_lemma=>kernel_rfl)) aaM) (by as_aux_lemma=>kernel_rfl)) aaG) aaH) aaN) aaO) (by as_aux_lemma=>kernel_rfl)) (by as_aux_lemma=>kernel_rfl)) (by as_aux_lemma=>kernel_rfl)) (by as_aux_lemma=>kernel_rfl)
theorem aaz:Rows.TopLedgersSaid:=
 OpenClaim.holds_of_wide 4 Tryz.f4 rfl rfl rfl rfl rfl rfl rfl ⟨rfl,rfl,rfl,rfl,rfl⟩ rfl rfl rfl rfl rfl (by as_aux_lemma=>kernel_rfl) Tryz.func4 aay
  (of_decide_eq_true (by as_aux_lemma=>kernel_rfl)) (by unfold Func.isWrapper;first|(rw[aA (by decide +kernel)];kernel_rfl)|(rw[aB (by decide +kernel)];exact⟨rfl,rfl⟩))
  (λos started abj enc _=>aax os started abj enc)
theorem topLedgers_card:Rows.TopLedgersCardSaid:=
 Claim7.holds_tied_plain_at .later [] [.data,.pinned] true (true, "a537f740e6fc3b9cf98dea935708cc4bf8ff5a86e69b021a69a89dda7c59098e") false aaz (λ_ h=>by cases h) (by as_aux_lemma=>kernel_rfl) (λ_ h=>by cases h) topLedgers_row_tie rfl ⟨rfl,rfl⟩ (by as_aux_lemma=>kernel_rfl) rfl
  (λf fn hf hfn=>by
   obtain rfl:f=4:=Option.some.inj ((show Tryz.prog.funcNamed "hopper/hoppertop.TopLedgers" = some 4 by kernel_rfl).symm.trans hf) |>.symm
   obtain rfl:fn=Tryz.f4:=(Option.some.inj (Tryz.func4.symm.trans hfn)).symm;exact⟨by kernel_rfl,λj t ht=>by
    rw[Tryz.params4] at ht;have hm:t∈[54]:=by simpa using Array.mem_of_getElem? ht
    have o5:([54].all λu => !Tryz.prog.wantsStandIn u)=true:=by kernel_rfl
    exact (show Tryz.prog.wantsStandIn t=false by simpa using List.all_eq_true.1 o5 t hm)⟩)
  (by as_aux_lemma=>kernel_rfl)
end Go.Proofs.YtpeepcmdehhbgaaGreatDoor
end
