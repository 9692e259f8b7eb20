/- topFolds_card: proved for every input. FoldsRow. -/
import Derived.Test.YtmijcbfgfkeodaaGreatDoorIz45
import Derived.Test.YtmijcbfgfkeodaaGreatDoorTie
import Derived.Test.YtmijcbfgfkeodaaGreatDoorCards
import Derived.LaidMore
import Derived.Lay
import Derived.SevenTiedAt
import Derived.Stop.Joined
set_option linter.all false
set_option maxRecDepth 100000
open Go.Value renaming int → ae,slice → ai
open Go.IntKind renaming i64 → af,u64 → ah
open Go.Proofs.Tryz renaming prog → au
section
namespace Go.Proofs.YtmijcbfgfkeodaaGreatDoor
open Go.RowKit Go.Hop Go.ChangeShapes Go.WideShapes Go.ChangeAt
open Go.ChangeMaps (open_string)
theorem mJ (H:Type) (enc:TypeId×Value→H) (W:World) (base:Nat) (args:Array Value) (ds gs:List (DataW H)) (before:List MemPlace)
 (hval:∀ (j:Nat) t v,Tryz.f5.params[j]?=some t→args[j]?=some v→Value.okWide au W .any base t v)
 (hW:DataW.Whole enc au Tryz.f5.params.toList Rows.topFoldsSpec.vars false W args.toList ds gs before) :
 Calls au 5 args W fun e W'=>∃ v,e=.returned v∧Rows.topFoldsSpec.post enc au Tryz.f5 false true false false W args v W':=by
 have hW':=hW
 obtain⟨p,q,Se,hV,rfl,hfz,hnd⟩:=hW
 have hA:DataW.TrodAll enc au W 0 (fun _=>true) true Tryz.f5.params.toList args.toList ds p:=Se
 rw[Tryz.params5] at hA hval
 obtain⟨v0,Q5,d0,ds0,p0,q0,hargs,rfl,rfl,h0,r0⟩:=trodAll_cons hA
 obtain⟨rfl,rfl,rfl⟩:=trodAll_nil r0
 obtain rfl:args=#[v0]:=by cases args;simp_all
 obtain⟨rfl,rfl⟩:=trodVars_none hV
 obtain⟨A0,n0,c0,l0,rfl,hl0,hw0,OO,hm0,hd0⟩:=B7 (k := .i64) Tryz.underlying38 Tryz.underlying3 (show Tryz.prog.cellsOf 3=1 by kernel_rfl) (hval 0 38 v0 rfl rfl) h0
 refine (xK W A0 n0 c0 l0 hl0 (xJ hw0) ⟨OO,hm0⟩).mono fun e W' ⟨he,hg⟩=>?_
 subst he
 exact⟨_,rfl,Eo laidOut Tryz.underlying4 rfl rfl am hW' rfl hg⟩
theorem oa (os:Os) (started:os.Started) (H:Type) (enc:TypeId×Value→H) :
 ReturnsInHanded {} Tryz.checked os 5 .any (fun w args=>(Rows.topFoldsSpec.pre enc au Tryz.f5 Rows.topFoldsRow.domain false w args∧laidMetH au Rows.topFoldsRow.laid w)∧sizedMet enc au Tryz.f5 (OpenSpec.ofChange Rows.topFoldsSpec) false w args)
  (Rows.topFoldsSpec.post enc au Tryz.f5 false true false false):=by
 refine returnsInHanded_of_change_and (C:=Tryz.checked) (X:=fun w _=>laidMetH au Rows.topFoldsRow.laid w) (fun _ _ _ hh h=>h.of_heap hh) own started am Tryz.func5
  (ChangeSpec.witness_shaped (enc:=enc) (C:=Tryz.checked) (os:=os) (X:=fun w _=>laidMetH au Rows.topFoldsRow.laid w) false (World.laidAll au os Rows.topFoldsRow.laid) #[ai none 0 0] 8 (World.laidAll_os _ _ _)
   (World.shaped_of_ZipB am am) am am am
   (by rw[MakeChecks.laidMetH_plain _ _ _ am];exact laidMet_laidAll _ am am)) ?_
 intro W base args ds gs before hval0 hW _ _ _ _
 have hval:∀ (j:Nat) t v,Tryz.f5.params[j]?=some t→args[j]?=some v→Value.okWide au W .any base t v:=hval0
 exact mJ H enc W base args ds gs before hval hW
theorem uY:Rows.topFoldsRow.wf (OpenSpec.ofChange Rows.topFoldsSpec)=true:=by kernel_rfl
theorem qp:mapsRowed au=true:=by kernel_rfl
theorem qq:Tryz.f5.params.all (Tryz.prog.readableRec ·)=true:=by kernel_rfl
theorem sM:namedTie au Rows.topFoldsRow.named Rows.topFoldsSpec.vars=true:=by kernel_rfl
theorem pO:(Tryz.prog.stops == [])=true:=by kernel_rfl
theorem pP:(Tryz.prog.stopKnobs == [])=true:=by kernel_rfl
theorem sN:(Rows.topFoldsRow.inPlace == Tryz.prog.inPlace 5)=true:=by kernel_rfl
theorem sO:(Rows.topFoldsRow.unfollowed == Tryz.prog.unfollowed 5)=true:=by kernel_rfl
theorem sP:(Rows.topFoldsRow.recurses == Tryz.prog.recurses 5)=true:=by kernel_rfl
theorem sQ:(Rows.topFoldsRow.named == Tryz.prog.varsNamed 5)=true:=by kernel_rfl
theorem qt:(Rows.topFoldsRow.plainKeys == Tryz.prog.plainKeys)=true:=by kernel_rfl
theorem pQ:Tryz.prog.stopsHeard=true:=by kernel_rfl
theorem pR:Tryz.prog.mayEnter=true:=by kernel_rfl
theorem qu:(Rows.topFoldsRow.lifted == Tryz.prog.liftsFinal)=true:=by kernel_rfl
theorem qv:(Tryz.prog.make == some Rows.topFoldsRow.make)=true:=by kernel_rfl
theorem cY {a b:Bool} (ha:a=true) (hb:b=true):(a && b)=true:=by rw[ha,hb];rfl
theorem ob:joinedFacts au 5 Tryz.f5 Rows.topFoldsSpec Rows.topFoldsRow=true:=by
 unfold joinedFacts
 exact cY (cY (cY (cY (cY (cY (cY (cY (cY (cY (cY (cY (cY (cY (cY (cY (cY (cY (cY (cY (cY (cY (cY (cY (cY (cY (cY (cY (cY (cY (cY uY laidOut) qp) qq) sM) (by as_aux_lemma=>kernel_rfl)) pO) (by as_aux_lemma=>kernel_rfl)) pP) sN) sO) sP) sQ) (by as_aux_lemma=>kernel_rfl)) (by as_aux_lemma=>kernel_rfl)) (by as_aux_lemma=>kernel_rfl)) (by as_aux_lemma=>kernel_rfl)) (by as_aux_lemma=>kernel_rfl)) (by as_aux_lemma=>kernel_rfl)) (by as_aux_lemma=>kernel_rfl)) (by as_aux_lemma=>kernel_rfl)) (by as_aux_lemma=>kernel_rfl)) qt) (by as_aux_lemma=>kernel_rfl)) pQ) pR) qu) qv) (by as_aux_lemma=>kernel_rfl)) (by as_aux_lemma=>kernel_rfl)) (by as_aux_lemma=>kernel_rfl)) (by as_aux_lemma=>kernel_rfl)
theorem oc:Rows.TopFoldsSaid:=
 OpenClaim.holds_of_wide 5 Tryz.f5 rfl rfl rfl rfl rfl rfl rfl ⟨rfl,rfl,rfl,rfl,rfl⟩ rfl rfl rfl rfl rfl (by as_aux_lemma=>kernel_rfl) Tryz.func5 ob
  (of_decide_eq_true (by as_aux_lemma=>kernel_rfl)) (by unfold Func.isWrapper;first|(rw[if_pos (by decide +kernel)];kernel_rfl)|(rw[if_neg (by decide +kernel)];exact⟨rfl,rfl⟩))
  (fun os started H enc _=>oa os started H enc)
theorem topFolds_card:Rows.TopFoldsCardSaid:=
 Claim7.holds_tied_plain_at .later [] [.data,.pinned] true (true, "432da837a4f61510b5613f3131fe56fb9e26e86a1acc7876123bd25e713e1a32") false oc (fun _ h=>by cases h) (by as_aux_lemma=>kernel_rfl) (fun _ h=>by cases h) topFolds_row_tie rfl ⟨rfl,rfl⟩ (by as_aux_lemma=>kernel_rfl) rfl
  (fun f fn hf hfn=>by
   obtain rfl:f=5:=Option.some.inj ((show Tryz.prog.funcNamed "hopper/hoppertop.TopFolds" = some 5 by kernel_rfl).symm.trans hf) |>.symm
   obtain rfl:fn=Tryz.f5:=(Option.some.inj (Tryz.func5.symm.trans hfn)).symm
   exact⟨by kernel_rfl,fun j t ht=>by
    rw[Tryz.params5] at ht
    have hm:t∈[38]:=by simpa using Array.mem_of_getElem? ht
    have hall:([38].all fun u => !Tryz.prog.wantsStandIn u)=true:=by kernel_rfl
    exact (show Tryz.prog.wantsStandIn t=false by simpa using List.all_eq_true.1 hall t hm)⟩)
  (by as_aux_lemma=>kernel_rfl)
end Go.Proofs.YtmijcbfgfkeodaaGreatDoor
end
