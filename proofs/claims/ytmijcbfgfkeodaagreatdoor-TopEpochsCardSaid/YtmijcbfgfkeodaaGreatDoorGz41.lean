/- topEpochs_card: proved for every input. EpochsRow. -/
import Derived.Test.YtmijcbfgfkeodaaGreatDoorGz37
import Derived.Test.YtmijcbfgfkeodaaGreatDoorTie
import Derived.Test.YtmijcbfgfkeodaaGreatDoorCards
import Derived.LaidMore
import Derived.Lay
import Derived.SevenTiedAt
import Derived.Stop.Joined
set_option linter.all false
set_option maxRecDepth 100000
section
namespace Go.Proofs.YtmijcbfgfkeodaaGreatDoor
open Go.RowKit Go.Hop Go.ChangeShapes Go.WideShapes Go.ChangeAt
open Go.ChangeMaps (open_string)
theorem topEpochs_contract (H:Type) (enc:TypeId×Value→H) (W:World) (base:Nat) (args:Array Value) (ds gs:List (DataW H)) (before:List MemPlace)
 (hval:∀ (j:Nat) t v,Tryz.f6.params[j]?=some t→args[j]?=some v→Value.okWide Tryz.prog W .any base t v)
 (hW:DataW.Whole enc Tryz.prog Tryz.f6.params.toList Rows.topEpochsSpec.vars false W args.toList ds gs before) :
 Calls Tryz.prog 6 args W fun e W'=>∃ v,e=.returned v∧Rows.topEpochsSpec.post enc Tryz.prog Tryz.f6 false true false false W args v W':=by
 have hW':=hW
 obtain⟨p,q,hA0,hV,rfl,hfz,hnd⟩:=hW
 have hA:DataW.TrodAll enc Tryz.prog W 0 (fun _=>true) true Tryz.f6.params.toList args.toList ds p:=hA0
 rw[Tryz.params6] at hA hval
 obtain⟨v0,vs0,d0,ds0,p0,q0,hargs,rfl,rfl,h0,r0⟩:=trodAll_cons hA
 obtain⟨v1,vs1,d1,ds1,p1,q1,rfl,rfl,rfl,h1,r1⟩:=trodAll_cons r0
 obtain⟨rfl,rfl,rfl⟩:=trodAll_nil r1
 obtain rfl:args=#[v0,v1]:=by cases args;simp_all
 obtain⟨rfl,rfl⟩:=trodVars_none hV
 obtain⟨x0,rfl,_,_,wx0⟩:=open_int Tryz.underlying3 (hval 0 3 v0 rfl rfl) h0
 have hx0:-9223372036854775808≤x0∧x0≤9223372036854775807:=by simpa [Lit.wf,IntKind.min,IntKind.max,IntKind.signed,IntKind.bits] using wx0
 obtain⟨A1,n1,c1,l1,rfl,hl1,hw1,hnc1,hm1,hd1⟩:=open_nums (k := .i64) Tryz.underlying52 Tryz.underlying2 (show Tryz.prog.cellsOf 2=1 by kernel_rfl) (hval 1 52 v1 rfl rfl) h1
 refine (topEpochs_1 W x0 hx0 A1 n1 c1 l1 hl1 (range_of_wf hw1) ⟨hnc1,hm1⟩).mono fun e W' ⟨he,hg⟩=>?_
 subst he
 exact⟨_,rfl,law_post laidOut Tryz.underlying4 rfl rfl (by kernel_rfl) hW' rfl hg⟩
theorem topEpochs_lifted (os:Os) (started:os.Started) (H:Type) (enc:TypeId×Value→H) :
 ReturnsInHanded {} Tryz.checked os 6 .any (fun w args=>(Rows.topEpochsSpec.pre enc Tryz.prog Tryz.f6 Rows.topEpochsRow.domain false w args∧laidMetH Tryz.prog Rows.topEpochsRow.laid w)∧sizedMet enc Tryz.prog Tryz.f6 (OpenSpec.ofChange Rows.topEpochsSpec) false w args)
  (Rows.topEpochsSpec.post enc Tryz.prog Tryz.f6 false true false false):=by
 refine returnsInHanded_of_change_and (C:=Tryz.checked) (X:=fun w _=>laidMetH Tryz.prog Rows.topEpochsRow.laid w) (fun _ _ _ hh h=>h.of_heap hh) own started (by kernel_rfl) Tryz.func6
  (ChangeSpec.witness_shaped (enc:=enc) (C:=Tryz.checked) (os:=os) (X:=fun w _=>laidMetH Tryz.prog Rows.topEpochsRow.laid w) false (World.laidAll Tryz.prog os Rows.topEpochsRow.laid) #[.int .i64 0,.slice none 0 0] 8 (World.laidAll_os _ _ _)
   (World.shaped_of_ZipB (by kernel_rfl) (by kernel_rfl)) (by kernel_rfl) (by kernel_rfl) (by kernel_rfl)
   (by rw[MakeChecks.laidMetH_plain _ _ _ (by kernel_rfl)];exact laidMet_laidAll _ (by kernel_rfl) (by kernel_rfl))) ?_
 intro W base args ds gs before hval0 hW _ _ _ _
 have hval:∀ (j:Nat) t v,Tryz.f6.params[j]?=some t→args[j]?=some v→Value.okWide Tryz.prog W .any base t v:=hval0
 exact topEpochs_contract H enc W base args ds gs before hval hW
theorem topEpochs_wf:Rows.topEpochsRow.wf (OpenSpec.ofChange Rows.topEpochsSpec)=true:=by kernel_rfl
theorem topEpochs_maps:mapsRowed Tryz.prog=true:=by kernel_rfl
theorem topEpochs_pars:Tryz.f6.params.all (Tryz.prog.readableRec ·)=true:=by kernel_rfl
theorem topEpochs_tie:namedTie Tryz.prog Rows.topEpochsRow.named Rows.topEpochsSpec.vars=true:=by kernel_rfl
theorem topEpochs_stops:(Tryz.prog.stops == [])=true:=by kernel_rfl
theorem topEpochs_knobs:(Tryz.prog.stopKnobs == [])=true:=by kernel_rfl
theorem topEpochs_inp:(Rows.topEpochsRow.inPlace == Tryz.prog.inPlace 6)=true:=by kernel_rfl
theorem topEpochs_unf:(Rows.topEpochsRow.unfollowed == Tryz.prog.unfollowed 6)=true:=by kernel_rfl
theorem topEpochs_rec:(Rows.topEpochsRow.recurses == Tryz.prog.recurses 6)=true:=by kernel_rfl
theorem topEpochs_nam:(Rows.topEpochsRow.named == Tryz.prog.varsNamed 6)=true:=by kernel_rfl
theorem topEpochs_keys:(Rows.topEpochsRow.plainKeys == Tryz.prog.plainKeys)=true:=by kernel_rfl
theorem topEpochs_heard:Tryz.prog.stopsHeard=true:=by kernel_rfl
theorem topEpochs_enter:Tryz.prog.mayEnter=true:=by kernel_rfl
theorem topEpochs_lift:(Rows.topEpochsRow.lifted == Tryz.prog.liftsFinal)=true:=by kernel_rfl
theorem topEpochs_make:(Tryz.prog.make == some Rows.topEpochsRow.make)=true:=by kernel_rfl
theorem and_both {a b:Bool} (ha:a=true) (hb:b=true):(a && b)=true:=by rw[ha,hb];rfl
theorem topEpochs_closed:joinedFacts Tryz.prog 6 Tryz.f6 Rows.topEpochsSpec Rows.topEpochsRow=true:=by
 unfold joinedFacts
 exact and_both (and_both (and_both (and_both (and_both (and_both (and_both (and_both (and_both (and_both (and_both (and_both (and_both (and_both (and_both (and_both (and_both (and_both (and_both (and_both (and_both (and_both (and_both (and_both (and_both (and_both (and_both (and_both (and_both (and_both (and_both topEpochs_wf laidOut) topEpochs_maps) topEpochs_pars) topEpochs_tie) (by as_aux_lemma=>kernel_rfl)) topEpochs_stops) (by as_aux_lemma=>kernel_rfl)) topEpochs_knobs) topEpochs_inp) topEpochs_unf) topEpochs_rec) topEpochs_nam) (by as_aux_lemma=>kernel_rfl)) (by as_aux_lemma=>kernel_rfl)) (by as_aux_lemma=>kernel_rfl)) (by as_aux_lemma=>kernel_rfl)) (by as_aux_lemma=>kernel_rfl)) (by as_aux_lemma=>kernel_rfl)) (by as_aux_lemma=>kernel_rfl)) (by as_aux_lemma=>kernel_rfl)) (by as_aux_lemma=>kernel_rfl)) topEpochs_keys) (by as_aux_lemma=>kernel_rfl)) topEpochs_heard) topEpochs_enter) topEpochs_lift) topEpochs_make) (by as_aux_lemma=>kernel_rfl)) (by as_aux_lemma=>kernel_rfl)) (by as_aux_lemma=>kernel_rfl)) (by as_aux_lemma=>kernel_rfl)
theorem topEpochs_proved:Rows.TopEpochsSaid:=
 OpenClaim.holds_of_wide 6 Tryz.f6 rfl rfl rfl rfl rfl rfl rfl ⟨rfl,rfl,rfl,rfl,rfl⟩ rfl rfl rfl rfl rfl (by as_aux_lemma=>kernel_rfl) Tryz.func6 topEpochs_closed
  (of_decide_eq_true (by as_aux_lemma=>kernel_rfl)) (by unfold Func.isWrapper;first|(rw[if_pos (by decide +kernel)];kernel_rfl)|(rw[if_neg (by decide +kernel)];exact⟨rfl,rfl⟩))
  (fun os started H enc _=>topEpochs_lifted os started H enc)
theorem topEpochs_card:Rows.TopEpochsCardSaid:=
 Claim7.holds_tied_plain_at .later [] [.data,.pinned] true (true, "432da837a4f61510b5613f3131fe56fb9e26e86a1acc7876123bd25e713e1a32") false topEpochs_proved (fun _ h=>by cases h) (by as_aux_lemma=>kernel_rfl) (fun _ h=>by cases h) topEpochs_row_tie rfl ⟨rfl,rfl⟩ (by as_aux_lemma=>kernel_rfl) rfl
  (fun f fn hf hfn=>by
   obtain rfl:f=6:=Option.some.inj ((show Tryz.prog.funcNamed "hopper/hoppertop.TopEpochs" = some 6 by kernel_rfl).symm.trans hf) |>.symm
   obtain rfl:fn=Tryz.f6:=(Option.some.inj (Tryz.func6.symm.trans hfn)).symm
   exact⟨by kernel_rfl,fun j t ht=>by
    rw[Tryz.params6] at ht
    have hm:t∈[3,52]:=by simpa using Array.mem_of_getElem? ht
    have hall:([3,52].all fun u => !Tryz.prog.wantsStandIn u)=true:=by kernel_rfl
    exact (show Tryz.prog.wantsStandIn t=false by simpa using List.all_eq_true.1 hall t hm)⟩)
  (by as_aux_lemma=>kernel_rfl)
end Go.Proofs.YtmijcbfgfkeodaaGreatDoor
end
