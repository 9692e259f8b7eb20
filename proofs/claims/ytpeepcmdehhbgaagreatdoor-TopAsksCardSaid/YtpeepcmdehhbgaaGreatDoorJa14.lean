import Derived.Test.YtpeepcmdehhbgaaGreatDoorJa13
import Derived.Test.YtpeepcmdehhbgaaGreatDoorJb14
set_option linter.all false
set_option maxRecDepth 100000
open Go.Value renaming int->ae,slice->Z,string->aX,bool->aY,agg->aZ,tuple->a_
open Go.Ending renaming returned->b5
open Go.IntKind renaming i64->af,u64->ah
open Go.Proofs.Tryz renaming prog->W,underlying3->dp
open Go renaming Value->K,World->X,Calls->dz,TypeId->dC
open Go (J az aE aA aB aC aD ay aj am ap aw aL aK aJ aI aH aV aU aT aR aQ aP aO aN)
section
namespace Go.Proofs.YtpeepcmdehhbgaaGreatDoor
open Go.RowKit Go.Hop Go.ChangeShapes Go.WideShapes Go.ChangeAt
open Go.ChangeMaps (open_string)
theorem abZ(abj:Type)(enc:dC×K->abj)(abq:X)(base:Nat)(args:aP)(ds gs:List (DataW abj))(before:List MemPlace)
 (Ug:∀(j:Nat)t v,Tryz.f6.params[j]?=some t->args[j]?=some v->Value.okWide W abq .any base t v)
 (hW:DataW.Whole enc W Tryz.f6.params.toList Rows.topAsksSpec.vars false abq args.toList ds gs before):dz W 6 args abq λe W'=>∃v,e=b5 v∧Rows.topAsksSpec.post enc W Tryz.f6 false true false false abq args v W':=by
 have hW':=hW;obtain⟨p,q,hA0,hV,rfl,hfz,pJ⟩:=hW;have hA:DataW.TrodAll enc W abq 0 (λ_=>true) true Tryz.f6.params.toList args.toList ds p:=hA0;rw[Tryz.params6] at hA Ug;obtain⟨v0,vs0,d0,ds0,p0,q0,hargs,rfl,rfl,h0,r0⟩:=trodAll_cons hA;obtain⟨v1,vs1,d1,ds1,p1,q1,rfl,rfl,rfl,I,r1⟩:=trodAll_cons r0;obtain⟨rfl,rfl,rfl⟩:=trodAll_nil r1;obtain rfl:args=#[v0,v1]:=by cases args;simp_all
 obtain⟨rfl,rfl⟩:=trodVars_none hV;obtain⟨x0,rfl,_,_,wx0⟩:=open_int Tryz.underlying2 (Ug 0 2 v0 rfl rfl) h0;have TU:-9223372036854775808<=x0∧x0<=9223372036854775807:=by simpa [Lit.wf,IntKind.min,IntKind.max,IntKind.signed,IntKind.bits] using wx0
 obtain⟨x1,rfl,_,_,wx1⟩:=open_int dp (Ug 1 3 v1 rfl rfl) I;have rI:-9223372036854775808<=x1∧x1<=9223372036854775807:=by simpa [Lit.wf,IntKind.min,IntKind.max,IntKind.signed,IntKind.bits] using wx1
 refine (ad0 abq x0 x1).mono λe W' ⟨he,H⟩=>?_;subst he;exact⟨_,rfl,MP laidOut Tryz.underlying4 rfl rfl aw hW' rfl H⟩
theorem aca(os:Os)(started:os.Started)(abj:Type)(enc:dC×K->abj):ReturnsInHanded {} Tryz.checked os 6 .any (λw args=>(Rows.topAsksSpec.pre enc W Tryz.f6 Rows.topAsksRow.domain false w args∧laidMetH W Rows.topAsksRow.laid w)∧sizedMet enc W Tryz.f6 (OpenSpec.ofChange Rows.topAsksSpec) false w args)
  (Rows.topAsksSpec.post enc W Tryz.f6 false true false false):=by
 refine returnsInHanded_of_change_and (C:=Tryz.checked) (X:=λw _=>laidMetH W Rows.topAsksRow.laid w) (λ_ _ _ hh h=>h.of_heap hh) own started aw Tryz.func6
  (ChangeSpec.witness_shaped (enc:=enc) (C:=Tryz.checked) (os:=os) (X:=λw _=>laidMetH W Rows.topAsksRow.laid w) false (World.laidAll W os Rows.topAsksRow.laid) #[(),()] 8 (World.laidAll_os _ _ _)
   (World.shaped_of_ZipB aw aw) aw aw aw
   (by rw[MakeChecks.laidMetH_plain _ _ _ aw];exact laidMet_laidAll _ aw aw)) ?_
 intro abq base args ds gs before a2c hW _ _ _ _
 have Ug:∀(j:Nat)t v,Tryz.f6.params[j]?=some t->args[j]?=some v->Value.okWide W abq .any base t v:=a2c
 exact abZ abj enc abq base args ds gs before Ug hW
theorem ace:Rows.TopAsksSaid:=
 OpenClaim.holds_of_wide 6 Tryz.f6 rfl rfl rfl rfl rfl rfl rfl ⟨rfl,rfl,rfl,rfl,rfl⟩ rfl rfl rfl rfl rfl (by as_aux_lemma=>kernel_rfl) Tryz.func6 acb
  (of_decide_eq_true (by as_aux_lemma=>kernel_rfl)) (by unfold Func.isWrapper;first|(rw[aA (by decide +kernel)];kernel_rfl)|(rw[aB (by decide +kernel)];exact⟨rfl,rfl⟩))
  (λos started abj enc _=>aca os started abj enc)
theorem topAsks_card:Rows.TopAsksCardSaid:=
 Claim7.holds_tied_plain_at .later [] [.data,.pinned] true (true, "a537f740e6fc3b9cf98dea935708cc4bf8ff5a86e69b021a69a89dda7c59098e") false ace (λ_ h=>by cases h) (by as_aux_lemma=>kernel_rfl) (λ_ h=>by cases h) topAsks_row_tie rfl ⟨rfl,rfl⟩ (by as_aux_lemma=>kernel_rfl) rfl
  (λf fn hf hfn=>by
   obtain rfl:f=6:=Option.some.inj ((show Tryz.prog.funcNamed "hopper/hoppertop.TopAsks" = some 6 by kernel_rfl).symm.trans hf) |>.symm
   obtain rfl:fn=Tryz.f6:=(Option.some.inj (Tryz.func6.symm.trans hfn)).symm;exact⟨by kernel_rfl,λj t ht=>by
    rw[Tryz.params6] at ht;have hm:t∈[2,3]:=by simpa using Array.mem_of_getElem? ht
    have o5:([2,3].all λu => !Tryz.prog.wantsStandIn u)=true:=by kernel_rfl
    exact (show Tryz.prog.wantsStandIn t=false by simpa using List.all_eq_true.1 o5 t hm)⟩)
  (by as_aux_lemma=>kernel_rfl)
end Go.Proofs.YtpeepcmdehhbgaaGreatDoor
end
