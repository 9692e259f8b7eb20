/- topBytes_card: proved for every input. BytesRow. -/
import Derived.Test.YtpeepcmdehhbgaaGreatDoorJs63
import Derived.Test.YtpeepcmdehhbgaaGreatDoorTie
import Derived.Test.YtpeepcmdehhbgaaGreatDoorCards
import Derived.LaidMore
import Derived.Lay
import Derived.SevenTiedAt
import Derived.Stop.Joined
set_option linter.all false
set_option maxRecDepth 100000
open Go.Value renaming int->ae,slice->Z,string->aX,bool->aY,agg->aZ,tuple->a_
open Go.Ending renaming returned->b5
open Go.IntKind renaming i64->af,u64->ah
open Go (J az aE aA aB aC aD ay aj am ap aw aL aK aJ aI aH aV aU aT aR aQ aP aO aN)
open Go.Proofs.Tryz renaming prog->W,underlying23->d9,underlying5->dm,underlying3->dp
open Go renaming Value->K,World->X,Calls->dz,TypeId->dC
section
namespace Go.Proofs.YtpeepcmdehhbgaaGreatDoor
open Go.RowKit Go.Hop Go.ChangeShapes Go.WideShapes Go.ChangeAt
open Go.ChangeMaps (open_string)
theorem aaY(abj:Type)(enc:dC×K->abj)(abq:X)(base:Nat)(args:aP)(ds gs:List (DataW abj))(before:List MemPlace)
 (Ug:∀(j:Nat)t v,Tryz.f3.params[j]?=some t->args[j]?=some v->Value.okWide W abq .any base t v)
 (hW:DataW.Whole enc W Tryz.f3.params.toList Rows.topBytesSpec.vars false abq args.toList ds gs before):dz W 3 args abq λe W'=>∃v,e=b5 v∧Rows.topBytesSpec.post enc W Tryz.f3 false true false false abq args v W':=by
 have hW':=hW;obtain⟨p,q,hA0,hV,rfl,hfz,pJ⟩:=hW;have hA:DataW.TrodAll enc W abq 0 (λ_=>true) true Tryz.f3.params.toList args.toList ds p:=hA0;rw[Tryz.params3] at hA Ug;obtain⟨v0,vs0,d0,ds0,p0,q0,hargs,rfl,rfl,h0,r0⟩:=trodAll_cons hA;obtain⟨v1,vs1,d1,ds1,p1,q1,rfl,rfl,rfl,I,r1⟩:=trodAll_cons r0;obtain⟨v2,vs2,d2,ds2,p2,q2,rfl,rfl,rfl,G,r2⟩:=trodAll_cons r1;obtain⟨rfl,rfl,rfl⟩:=trodAll_nil r2;obtain rfl:args=#[v0,v1,v2]:=by cases args;simp_all
 obtain⟨rfl,rfl⟩:=trodVars_none hV;obtain⟨A0,n0,c0,l0,rfl,hl0,hw0,acT,su,Vf⟩:=Kh (k := .i64) Tryz.underlying22 dp (show Tryz.prog.cellsOf 3=1 by kernel_rfl) (Ug 0 22 v0 rfl rfl) h0;obtain⟨A1,n1,c1,l1,rfl,U8,MZ,ry,F6⟩:=open_bytes d9 dm (show Tryz.prog.cellsOf 5=1 by kernel_rfl) (Ug 1 23 v1 rfl rfl) I;obtain⟨x2,rfl,_,_,wx2⟩:=open_int dp (Ug 2 3 v2 rfl rfl) G;have lw:-9223372036854775808<=x2∧x2<=9223372036854775807:=by simpa [Lit.wf,IntKind.min,IntKind.max,IntKind.signed,IntKind.bits] using wx2
 refine (abT abq A0 n0 c0 l0 hl0 (aca hw0) ⟨acT,su⟩ A1 n1 c1 l1 U8 MZ ry x2).mono λe W' ⟨he,H⟩=>?_;subst he;exact⟨_,rfl,MP laidOut Tryz.underlying4 rfl rfl aw hW' rfl H⟩
theorem ab1(os:Os)(started:os.Started)(abj:Type)(enc:dC×K->abj):ReturnsInHanded {} Tryz.checked os 3 .any (λw args=>(Rows.topBytesSpec.pre enc W Tryz.f3 Rows.topBytesRow.domain false w args∧laidMetH W Rows.topBytesRow.laid w)∧sizedMet enc W Tryz.f3 (OpenSpec.ofChange Rows.topBytesSpec) false w args)
  (Rows.topBytesSpec.post enc W Tryz.f3 false true false false):=by
 refine returnsInHanded_of_change_and (C:=Tryz.checked) (X:=λw _=>laidMetH W Rows.topBytesRow.laid w) (λ_ _ _ hh h=>h.of_heap hh) own started aw Tryz.func3
  (ChangeSpec.witness_shaped (enc:=enc) (C:=Tryz.checked) (os:=os) (X:=λw _=>laidMetH W Rows.topBytesRow.laid w) false (World.laidAll W os Rows.topBytesRow.laid) #[ay,ay,()] 8 (World.laidAll_os _ _ _)
   (World.shaped_of_ZipB aw aw) aw aw aw
   (by rw[MakeChecks.laidMetH_plain _ _ _ aw];exact laidMet_laidAll _ aw aw)) ?_
 intro abq base args ds gs before a2c hW _ _ _ _
 have Ug:∀(j:Nat)t v,Tryz.f3.params[j]?=some t->args[j]?=some v->Value.okWide W abq .any base t v:=a2c
 exact aaY abj enc abq base args ds gs before Ug hW
theorem abO:Rows.topBytesRow.wf (OpenSpec.ofChange Rows.topBytesSpec)=true:=by kernel_rfl
theorem abB:mapsRowed W=true:=by kernel_rfl
theorem abC:Tryz.f3.params.all (Tryz.prog.readableRec ·)=true:=by kernel_rfl
theorem abH:namedTie W Rows.topBytesRow.named Rows.topBytesSpec.vars=true:=by kernel_rfl
theorem ab6:(Tryz.prog.stops == [])=true:=by kernel_rfl
theorem ab7:(Tryz.prog.stopKnobs == [])=true:=by kernel_rfl
theorem abI:(Rows.topBytesRow.inPlace == Tryz.prog.inPlace 3)=true:=by kernel_rfl
theorem abJ:(Rows.topBytesRow.unfollowed == Tryz.prog.unfollowed 3)=true:=by kernel_rfl
theorem abK:(Rows.topBytesRow.recurses == Tryz.prog.recurses 3)=true:=by kernel_rfl
theorem abL:(Rows.topBytesRow.named == Tryz.prog.varsNamed 3)=true:=by kernel_rfl
theorem abD:(Rows.topBytesRow.plainKeys == Tryz.prog.plainKeys)=true:=by kernel_rfl
theorem ab8:Tryz.prog.stopsHeard=true:=by kernel_rfl
theorem abA:Tryz.prog.mayEnter=true:=by kernel_rfl
theorem abE:(Rows.topBytesRow.lifted == Tryz.prog.liftsFinal)=true:=by kernel_rfl
theorem abF:(Tryz.prog.make == some Rows.topBytesRow.make)=true:=by kernel_rfl
theorem ft{a b:Bool}(ha:a=true)(hb:b=true):(a&&b)=true:=by rw[ha,hb];rfl
theorem ab2:joinedFacts W 3 Tryz.f3 Rows.topBytesSpec Rows.topBytesRow=true:=by unfold joinedFacts;exact ft (ft (ft (ft (ft (ft (ft (ft (ft (ft (ft (ft (ft (ft (ft (ft (ft (ft (ft (ft (ft (ft (ft (ft (ft (ft (ft (ft (ft (ft (ft abO laidOut) abB) abC) abH) (by as_aux_lemma=>kernel_rfl)) ab6) (by as_aux_lemma=>kernel_rfl)) ab7) abI) abJ) abK) abL) (by as_aux_lemma=>kernel_rfl)) (by as_aux_lemma=>kernel_rfl)) (by as_aux_lemma=>kernel_rfl)) (by as_aux_lemma=>kernel_rfl)) (by as_aux_lemma=>kernel_rfl)) (by as_aux_lemma=>kernel_rfl)) (by as_aux_lemma=>kernel_rfl)) (by as_aux_lemma=>kernel_rfl)) (by as_aux_lemma=>kernel_rfl)) abD) (by as_aux_lemma=>kernel_rfl)) ab8) abA) abE) abF) (by as_aux_lemma=>kernel_rfl)) (by as_aux_lemma=>kernel_rfl)) (by as_aux_lemma=>kernel_rfl)) (by as_aux_lemma=>kernel_rfl)
theorem ab3:Rows.TopBytesSaid:=
 OpenClaim.holds_of_wide 3 Tryz.f3 rfl rfl rfl rfl rfl rfl rfl ⟨rfl,rfl,rfl,rfl,rfl⟩ rfl rfl rfl rfl rfl (by as_aux_lemma=>kernel_rfl) Tryz.func3 ab2
  (of_decide_eq_true (by as_aux_lemma=>kernel_rfl)) (by unfold Func.isWrapper;first|(rw[aA (by decide +kernel)];kernel_rfl)|(rw[aB (by decide +kernel)];exact⟨rfl,rfl⟩))
  (λos started abj enc _=>ab1 os started abj enc)
theorem topBytes_card:Rows.TopBytesCardSaid:=
 Claim7.holds_tied_plain_at .later [] [.data,.pinned] true (true, "a537f740e6fc3b9cf98dea935708cc4bf8ff5a86e69b021a69a89dda7c59098e") false ab3 (λ_ h=>by cases h) (by as_aux_lemma=>kernel_rfl) (λ_ h=>by cases h) topBytes_row_tie rfl ⟨rfl,rfl⟩ (by as_aux_lemma=>kernel_rfl) rfl
  (λf fn hf hfn=>by
   obtain rfl:f=3:=Option.some.inj ((show Tryz.prog.funcNamed "hopper/hoppertop.TopBytes" = some 3 by kernel_rfl).symm.trans hf) |>.symm
   obtain rfl:fn=Tryz.f3:=(Option.some.inj (Tryz.func3.symm.trans hfn)).symm;exact⟨by kernel_rfl,λj t ht=>by
    rw[Tryz.params3] at ht;have hm:t∈[22,23,3]:=by simpa using Array.mem_of_getElem? ht
    have o5:([22,23,3].all λu => !Tryz.prog.wantsStandIn u)=true:=by kernel_rfl
    exact (show Tryz.prog.wantsStandIn t=false by simpa using List.all_eq_true.1 o5 t hm)⟩)
  (by as_aux_lemma=>kernel_rfl)
end Go.Proofs.YtpeepcmdehhbgaaGreatDoor
end
