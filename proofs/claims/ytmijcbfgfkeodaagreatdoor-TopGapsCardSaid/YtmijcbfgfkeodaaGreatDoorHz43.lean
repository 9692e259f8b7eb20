/- topGaps_card: proved for every input. GapsRow. -/
import Derived.Test.YtmijcbfgfkeodaaGreatDoorHz42
import Derived.Test.YtmijcbfgfkeodaaGreatDoorTie
import Derived.Test.YtmijcbfgfkeodaaGreatDoorCards
import Derived.LaidMore
import Derived.Lay
import Derived.SevenTiedAt
import Derived.Stop.Joined
set_option linter.all false
set_option maxRecDepth 100000
section
namespace Go.Proofs.YtmijcbfgfkeodaaGreatDoor
open Go.RowKit Go.Hop Go.ChangeShapes Go.WideShapes Go.ChangeAt
open Go.ChangeMaps (open_string)
theorem topGaps_contract (H:Type) (enc:TypeId×Value→H) (W:World) (base:Nat) (args:Array Value) (ds gs:List (DataW H)) (before:List MemPlace)
 (hval:∀ (j:Nat) t v,Tryz.f4.params[j]?=some t→args[j]?=some v→Value.okWide Tryz.prog W .any base t v)
 (hW:DataW.Whole enc Tryz.prog Tryz.f4.params.toList Rows.topGapsSpec.vars false W args.toList ds gs before) :
 Calls Tryz.prog 4 args W fun e W'=>∃ v,e=.returned v∧Rows.topGapsSpec.post enc Tryz.prog Tryz.f4 false true false false W args v W':=by
 have hW':=hW
 obtain⟨p,q,hA0,hV,rfl,hfz,hnd⟩:=hW
 have hA:DataW.TrodAll enc Tryz.prog W 0 (fun _=>true) true Tryz.f4.params.toList args.toList ds p:=hA0
 rw[Tryz.params4] at hA hval
 obtain⟨v0,vs0,d0,ds0,p0,q0,hargs,rfl,rfl,h0,r0⟩:=trodAll_cons hA
 obtain⟨v1,vs1,d1,ds1,p1,q1,rfl,rfl,rfl,h1,r1⟩:=trodAll_cons r0
 obtain⟨rfl,rfl,rfl⟩:=trodAll_nil r1
 obtain rfl:args=#[v0,v1]:=by cases args;simp_all
 obtain⟨rfl,rfl⟩:=trodVars_none hV
 obtain⟨A0,n0,c0,l0,rfl,hl0,hw0,hnc0,hm0,hd0⟩:=open_nums (k := .i64) Tryz.underlying38 Tryz.underlying3 (show Tryz.prog.cellsOf 3=1 by kernel_rfl) (hval 0 38 v0 rfl rfl) h0
 obtain⟨x1,rfl,_,_,wx1⟩:=open_int Tryz.underlying3 (hval 1 3 v1 rfl rfl) h1
 have hx1:-9223372036854775808≤x1∧x1≤9223372036854775807:=by simpa [Lit.wf,IntKind.min,IntKind.max,IntKind.signed,IntKind.bits] using wx1
 refine (topGaps_1 W A0 n0 c0 l0 hl0 (nums_range hw0) ⟨hnc0,hm0⟩ x1 hx1).mono fun e W' ⟨he,hg⟩=>?_
 subst he
 exact⟨_,rfl,law_post laidOut Tryz.underlying4 rfl rfl (by kernel_rfl) hW' rfl hg⟩
theorem topGaps_lifted (os:Os) (started:os.Started) (H:Type) (enc:TypeId×Value→H) :
 ReturnsInHanded {} Tryz.checked os 4 .any (fun w args=>(Rows.topGapsSpec.pre enc Tryz.prog Tryz.f4 Rows.topGapsRow.domain false w args∧laidMetH Tryz.prog Rows.topGapsRow.laid w)∧sizedMet enc Tryz.prog Tryz.f4 (OpenSpec.ofChange Rows.topGapsSpec) false w args)
  (Rows.topGapsSpec.post enc Tryz.prog Tryz.f4 false true false false):=by
 refine returnsInHanded_of_change_and (C:=Tryz.checked) (X:=fun w _=>laidMetH Tryz.prog Rows.topGapsRow.laid w) (fun _ _ _ hh h=>h.of_heap hh) own started (by kernel_rfl) Tryz.func4
  (ChangeSpec.witness_shaped (enc:=enc) (C:=Tryz.checked) (os:=os) (X:=fun w _=>laidMetH Tryz.prog Rows.topGapsRow.laid w) false (World.laidAll Tryz.prog os Rows.topGapsRow.laid) #[.slice none 0 0,.int .i64 0] 8 (World.laidAll_os _ _ _)
   (World.shaped_of_ZipB (by kernel_rfl) (by kernel_rfl)) (by kernel_rfl) (by kernel_rfl) (by kernel_rfl)
   (by rw[MakeChecks.laidMetH_plain _ _ _ (by kernel_rfl)];exact laidMet_laidAll _ (by kernel_rfl) (by kernel_rfl))) ?_
 intro W base args ds gs before hval0 hW _ _ _ _
 have hval:∀ (j:Nat) t v,Tryz.f4.params[j]?=some t→args[j]?=some v→Value.okWide Tryz.prog W .any base t v:=hval0
 exact topGaps_contract H enc W base args ds gs before hval hW
theorem topGaps_wf:Rows.topGapsRow.wf (OpenSpec.ofChange Rows.topGapsSpec)=true:=by kernel_rfl
theorem topGaps_maps:mapsRowed Tryz.prog=true:=by kernel_rfl
theorem topGaps_pars:Tryz.f4.params.all (Tryz.prog.readableRec ·)=true:=by kernel_rfl
theorem topGaps_tie:namedTie Tryz.prog Rows.topGapsRow.named Rows.topGapsSpec.vars=true:=by kernel_rfl
theorem topGaps_stops:(Tryz.prog.stops == [])=true:=by kernel_rfl
theorem topGaps_knobs:(Tryz.prog.stopKnobs == [])=true:=by kernel_rfl
theorem topGaps_inp:(Rows.topGapsRow.inPlace == Tryz.prog.inPlace 4)=true:=by kernel_rfl
theorem topGaps_unf:(Rows.topGapsRow.unfollowed == Tryz.prog.unfollowed 4)=true:=by kernel_rfl
theorem topGaps_rec:(Rows.topGapsRow.recurses == Tryz.prog.recurses 4)=true:=by kernel_rfl
theorem topGaps_nam:(Rows.topGapsRow.named == Tryz.prog.varsNamed 4)=true:=by kernel_rfl
theorem topGaps_keys:(Rows.topGapsRow.plainKeys == Tryz.prog.plainKeys)=true:=by kernel_rfl
theorem topGaps_heard:Tryz.prog.stopsHeard=true:=by kernel_rfl
theorem topGaps_enter:Tryz.prog.mayEnter=true:=by kernel_rfl
theorem topGaps_lift:(Rows.topGapsRow.lifted == Tryz.prog.liftsFinal)=true:=by kernel_rfl
theorem topGaps_make:(Tryz.prog.make == some Rows.topGapsRow.make)=true:=by kernel_rfl
theorem and_both {a b:Bool} (ha:a=true) (hb:b=true):(a && b)=true:=by rw[ha,hb];rfl
theorem topGaps_closed:joinedFacts Tryz.prog 4 Tryz.f4 Rows.topGapsSpec Rows.topGapsRow=true:=by
 unfold joinedFacts
 exact and_both (and_both (and_both (and_both (and_both (and_both (and_both (and_both (and_both (and_both (and_both (and_both (and_both (and_both (and_both (and_both (and_both (and_both (and_both (and_both (and_both (and_both (and_both (and_both (and_both (and_both (and_both (and_both (and_both (and_both (and_both topGaps_wf laidOut) topGaps_maps) topGaps_pars) topGaps_tie) (by as_aux_lemma=>kernel_rfl)) topGaps_stops) (by as_aux_lemma=>kernel_rfl)) topGaps_knobs) topGaps_inp) topGaps_unf) topGaps_rec) topGaps_nam) (by as_aux_lemma=>kernel_rfl)) (by as_aux_lemma=>kernel_rfl)) (by as_aux_lemma=>kernel_rfl)) (by as_aux_lemma=>kernel_rfl)) (by as_aux_lemma=>kernel_rfl)) (by as_aux_lemma=>kernel_rfl)) (by as_aux_lemma=>kernel_rfl)) (by as_aux_lemma=>kernel_rfl)) (by as_aux_lemma=>kernel_rfl)) topGaps_keys) (by as_aux_lemma=>kernel_rfl)) topGaps_heard) topGaps_enter) topGaps_lift) topGaps_make) (by as_aux_lemma=>kernel_rfl)) (by as_aux_lemma=>kernel_rfl)) (by as_aux_lemma=>kernel_rfl)) (by as_aux_lemma=>kernel_rfl)
theorem topGaps_proved:Rows.TopGapsSaid:=
 OpenClaim.holds_of_wide 4 Tryz.f4 rfl rfl rfl rfl rfl rfl rfl ⟨rfl,rfl,rfl,rfl,rfl⟩ rfl rfl rfl rfl rfl (by as_aux_lemma=>kernel_rfl) Tryz.func4 topGaps_closed
  (of_decide_eq_true (by as_aux_lemma=>kernel_rfl)) (by unfold Func.isWrapper;first|(rw[if_pos (by decide +kernel)];kernel_rfl)|(rw[if_neg (by decide +kernel)];exact⟨rfl,rfl⟩))
  (fun os started H enc _=>topGaps_lifted os started H enc)
theorem topGaps_card:Rows.TopGapsCardSaid:=
 Claim7.holds_tied_plain_at .later [] [.data,.pinned] true (true, "432da837a4f61510b5613f3131fe56fb9e26e86a1acc7876123bd25e713e1a32") false topGaps_proved (fun _ h=>by cases h) (by as_aux_lemma=>kernel_rfl) (fun _ h=>by cases h) topGaps_row_tie rfl ⟨rfl,rfl⟩ (by as_aux_lemma=>kernel_rfl) rfl
  (fun f fn hf hfn=>by
   obtain rfl:f=4:=Option.some.inj ((show Tryz.prog.funcNamed "hopper/hoppertop.TopGaps" = some 4 by kernel_rfl).symm.trans hf) |>.symm
   obtain rfl:fn=Tryz.f4:=(Option.some.inj (Tryz.func4.symm.trans hfn)).symm
   exact⟨by kernel_rfl,fun j t ht=>by
    rw[Tryz.params4] at ht
    have hm:t∈[38,3]:=by simpa using Array.mem_of_getElem? ht
    have hall:([38,3].all fun u => !Tryz.prog.wantsStandIn u)=true:=by kernel_rfl
    exact (show Tryz.prog.wantsStandIn t=false by simpa using List.all_eq_true.1 hall t hm)⟩)
  (by as_aux_lemma=>kernel_rfl)
end Go.Proofs.YtmijcbfgfkeodaaGreatDoor
end
