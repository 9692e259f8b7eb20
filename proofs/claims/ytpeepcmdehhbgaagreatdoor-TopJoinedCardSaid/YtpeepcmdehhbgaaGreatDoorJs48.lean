/- topJoined_card: proved for every input. JoinedRow. -/
import Derived.Test.YtpeepcmdehhbgaaGreatDoorJs47
import Derived.Test.YtpeepcmdehhbgaaGreatDoorJs02
import Derived.Test.YtpeepcmdehhbgaaGreatDoorTie
import Derived.Test.YtpeepcmdehhbgaaGreatDoorCards
import Derived.LaidMore
import Derived.Lay
import Derived.SevenTiedAt
import Derived.Stop.Joined
set_option linter.all false
set_option maxRecDepth 100000
open Go.Value renaming int->ae,slice->Z,string->aX,bool->aY,agg->aZ,tuple->a_
open Go.Ending renaming returned->b5
open Go.IntKind renaming i64->af,u64->ah
open Go (J az aE aA aB aC aD ay aj am ap aw aL aK aJ aI aH aV aU aT aR aQ aP aO aN)
open Go.Proofs.Tryz renaming prog->W
open Go renaming Value->K,World->X,Calls->dz,TypeId->dC
section
namespace Go.Proofs.YtpeepcmdehhbgaaGreatDoor
open Go.RowKit Go.Hop Go.ChangeShapes Go.WideShapes Go.ChangeAt
open Go.ChangeMaps (open_string)
theorem ss(abj:Type)(enc:dC×K->abj)(abq:X)(base:Nat)(args:aP)(ds gs:List (DataW abj))(before:List MemPlace)
 (Ug:∀(j:Nat)t v,Tryz.f5.params[j]?=some t->args[j]?=some v->Value.okWide W abq .any base t v)
 (hW:DataW.Whole enc W Tryz.f5.params.toList Rows.topJoinedSpec.vars false abq args.toList ds gs before):dz W 5 args abq λe W'=>∃v,e=b5 v∧Rows.topJoinedSpec.post enc W Tryz.f5 false true false false abq args v W':=by
 have hW':=hW;obtain⟨p,q,hA0,hV,rfl,hfz,pJ⟩:=hW;have hA:DataW.TrodAll enc W abq 0 (λ_=>true) true Tryz.f5.params.toList args.toList ds p:=hA0;rw[Tryz.params5] at hA Ug;obtain⟨v0,vs0,d0,ds0,p0,q0,hargs,rfl,rfl,h0,r0⟩:=trodAll_cons hA;obtain⟨rfl,rfl,rfl⟩:=trodAll_nil r0;obtain rfl:args=#[v0]:=by cases args;simp_all
 obtain⟨rfl,rfl⟩:=trodVars_none hV;obtain⟨A0,n0,c0,l0,rfl,hl0,hw0,hnc0,su,Vf⟩:=Kh (k := .i64) Tryz.underlying72 Tryz.underlying2 (show Tryz.prog.cellsOf 2=1 by kernel_rfl) (Ug 0 72 v0 rfl rfl) h0;refine (F2 abq A0 n0 c0 l0 hl0).mono λe W' ⟨he,H⟩=>?_;subst he;exact⟨_,rfl,MP laidOut Tryz.underlying4 rfl rfl aw hW' rfl H⟩
theorem uS(os:Os)(started:os.Started)(abj:Type)(enc:dC×K->abj):ReturnsInHanded {} Tryz.checked os 5 .any (λw args=>(Rows.topJoinedSpec.pre enc W Tryz.f5 Rows.topJoinedRow.domain false w args∧laidMetH W Rows.topJoinedRow.laid w)∧sizedMet enc W Tryz.f5 (OpenSpec.ofChange Rows.topJoinedSpec) false w args)
  (Rows.topJoinedSpec.post enc W Tryz.f5 false true false false):=by
 refine returnsInHanded_of_change_and (C:=Tryz.checked) (X:=λw _=>laidMetH W Rows.topJoinedRow.laid w) (λ_ _ _ hh h=>h.of_heap hh) own started aw Tryz.func5
  (ChangeSpec.witness_shaped (enc:=enc) (C:=Tryz.checked) (os:=os) (X:=λw _=>laidMetH W Rows.topJoinedRow.laid w) false (World.laidAll W os Rows.topJoinedRow.laid) #[ay] 8 (World.laidAll_os _ _ _)
   (World.shaped_of_ZipB aw aw) aw aw aw
   (by rw[MakeChecks.laidMetH_plain _ _ _ aw];exact laidMet_laidAll _ aw aw)) ?_
 intro abq base args ds gs before a2c hW _ _ _ _
 have Ug:∀(j:Nat)t v,Tryz.f5.params[j]?=some t->args[j]?=some v->Value.okWide W abq .any base t v:=a2c
 exact ss abj enc abq base args ds gs before Ug hW
theorem Cu:Rows.topJoinedRow.wf (OpenSpec.ofChange Rows.topJoinedSpec)=true:=by kernel_rfl
theorem yJ:mapsRowed W=true:=by kernel_rfl
theorem yK:Tryz.f5.params.all (Tryz.prog.readableRec ·)=true:=by kernel_rfl
theorem zw:namedTie W Rows.topJoinedRow.named Rows.topJoinedSpec.vars=true:=by kernel_rfl
theorem vL:(Tryz.prog.stops == [])=true:=by kernel_rfl
theorem vM:(Tryz.prog.stopKnobs == [])=true:=by kernel_rfl
theorem zx:(Rows.topJoinedRow.inPlace == Tryz.prog.inPlace 5)=true:=by kernel_rfl
theorem zy:(Rows.topJoinedRow.unfollowed == Tryz.prog.unfollowed 5)=true:=by kernel_rfl
theorem zA:(Rows.topJoinedRow.recurses == Tryz.prog.recurses 5)=true:=by kernel_rfl
theorem zB:(Rows.topJoinedRow.named == Tryz.prog.varsNamed 5)=true:=by kernel_rfl
theorem yL:(Rows.topJoinedRow.plainKeys == Tryz.prog.plainKeys)=true:=by kernel_rfl
theorem vN:Tryz.prog.stopsHeard=true:=by kernel_rfl
theorem vO:Tryz.prog.mayEnter=true:=by kernel_rfl
theorem yM:(Rows.topJoinedRow.lifted == Tryz.prog.liftsFinal)=true:=by kernel_rfl
theorem yN:(Tryz.prog.make == some Rows.topJoinedRow.make)=true:=by kernel_rfl
theorem ft{a b:Bool}(ha:a=true)(hb:b=true):(a&&b)=true:=by rw[ha,hb];rfl
theorem uT:joinedFacts W 5 Tryz.f5 Rows.topJoinedSpec Rows.topJoinedRow=true:=by unfold joinedFacts;exact ft (ft (ft (ft (ft (ft (ft (ft (ft (ft (ft (ft (ft (ft (ft (ft (ft (ft (ft (ft (ft (ft (ft (ft (ft (ft (ft (ft (ft (ft (ft Cu laidOut) yJ) yK) zw) (by as_aux_lemma=>kernel_rfl)) vL) (by as_aux_lemma=>kernel_rfl)) vM) zx) zy) zA) zB) (by as_aux_lemma=>kernel_rfl)) (by as_aux_lemma=>kernel_rfl)) (by as_aux_lemma=>kernel_rfl)) (by as_aux_lemma=>kernel_rfl)) (by as_aux_lemma=>kernel_rfl)) (by as_aux_lemma=>kernel_rfl)) (by as_aux_lemma=>kernel_rfl)) (by as_aux_lemma=>kernel_rfl)) (by as_aux_lemma=>kernel_rfl)) yL) (by as_aux_lemma=>kernel_rfl)) vN) vO) yM) yN) (by as_aux_lemma=>kernel_rfl)) (by as_aux_lemma=>kernel_rfl)) (by as_aux_lemma=>kernel_rfl)) (by as_aux_lemma=>kernel_rfl)
theorem uU:Rows.TopJoinedSaid:=
 OpenClaim.holds_of_wide 5 Tryz.f5 rfl rfl rfl rfl rfl rfl rfl ⟨rfl,rfl,rfl,rfl,rfl⟩ rfl rfl rfl rfl rfl (by as_aux_lemma=>kernel_rfl) Tryz.func5 uT
  (of_decide_eq_true (by as_aux_lemma=>kernel_rfl)) (by unfold Func.isWrapper;first|(rw[aA (by decide +kernel)];kernel_rfl)|(rw[aB (by decide +kernel)];exact⟨rfl,rfl⟩))
  (λos started abj enc _=>uS os started abj enc)
theorem topJoined_card:Rows.TopJoinedCardSaid:=
 Claim7.holds_tied_plain_at .later [] [.data,.pinned] true (true, "a537f740e6fc3b9cf98dea935708cc4bf8ff5a86e69b021a69a89dda7c59098e") false uU (λ_ h=>by cases h) (by as_aux_lemma=>kernel_rfl) (λ_ h=>by cases h) topJoined_row_tie rfl ⟨rfl,rfl⟩ (by as_aux_lemma=>kernel_rfl) rfl
  (λf fn hf hfn=>by
   obtain rfl:f=5:=Option.some.inj ((show Tryz.prog.funcNamed "hopper/hoppertop.TopJoined" = some 5 by kernel_rfl).symm.trans hf) |>.symm
   obtain rfl:fn=Tryz.f5:=(Option.some.inj (Tryz.func5.symm.trans hfn)).symm;exact⟨by kernel_rfl,λj t ht=>by
    rw[Tryz.params5] at ht;have hm:t∈[72]:=by simpa using Array.mem_of_getElem? ht
    have o5:([72].all λu => !Tryz.prog.wantsStandIn u)=true:=by kernel_rfl
    exact (show Tryz.prog.wantsStandIn t=false by simpa using List.all_eq_true.1 o5 t hm)⟩)
  (by as_aux_lemma=>kernel_rfl)
end Go.Proofs.YtpeepcmdehhbgaaGreatDoor
end
