import Derived.Test.YtpeepcmdehhbgaaGreatDoorJa01
import Derived.Test.YtpeepcmdehhbgaaGreatDoorTie
import Derived.Test.YtpeepcmdehhbgaaGreatDoorCards
import Derived.LaidMore
import Derived.Lay
import Derived.SevenTiedAt
import Derived.Stop.Joined
set_option linter.all false
set_option maxRecDepth 100000
open Go.Value renaming int->ae,slice->Z,string->aX,bool->aY,agg->aZ,tuple->a_
open Go.Ending renaming returned->b5
open Go.IntKind renaming i64->af,u64->ah
open Go.Proofs.Tryz renaming prog->W,underlying3->dp
open Go renaming Value->K,World->X,Calls->dz,TypeId->dC
open Go (J az aE aA aB aC aD ay aj am ap aw aL aK aJ aI aH aV aU aT aR aQ aP aO aN)
section
namespace Go.Proofs.YtpeepcmdehhbgaaGreatDoor
open Go.RowKit Go.Hop Go.ChangeShapes Go.WideShapes Go.ChangeAt
theorem acW:Rows.topAsksRow.wf (OpenSpec.ofChange Rows.topAsksSpec)=true:=by kernel_rfl
theorem acu:mapsRowed W=true:=by kernel_rfl
theorem acv:Tryz.f6.params.all (Tryz.prog.readableRec ·)=true:=by kernel_rfl
theorem acJ:namedTie W Rows.topAsksRow.named Rows.topAsksSpec.vars=true:=by kernel_rfl
theorem acg:(Tryz.prog.stops == [])=true:=by kernel_rfl
theorem ach:(Tryz.prog.stopKnobs == [])=true:=by kernel_rfl
theorem acK:(Rows.topAsksRow.inPlace == Tryz.prog.inPlace 6)=true:=by kernel_rfl
theorem acM:(Rows.topAsksRow.unfollowed == Tryz.prog.unfollowed 6)=true:=by kernel_rfl
theorem acN:(Rows.topAsksRow.recurses == Tryz.prog.recurses 6)=true:=by kernel_rfl
theorem acO:(Rows.topAsksRow.named == Tryz.prog.varsNamed 6)=true:=by kernel_rfl
theorem acw:(Rows.topAsksRow.plainKeys == Tryz.prog.plainKeys)=true:=by kernel_rfl
theorem aci:Tryz.prog.stopsHeard=true:=by kernel_rfl
theorem acj:Tryz.prog.mayEnter=true:=by kernel_rfl
theorem acx:(Rows.topAsksRow.lifted == Tryz.prog.liftsFinal)=true:=by kernel_rfl
theorem acy:(Tryz.prog.make == some Rows.topAsksRow.make)=true:=by kernel_rfl
theorem ft{a b:Bool}(ha:a=true)(hb:b=true):(a&&b)=true:=by rw[ha,hb];rfl
theorem acb:joinedFacts W 6 Tryz.f6 Rows.topAsksSpec Rows.topAsksRow=true:=by unfold joinedFacts;exact ft (ft (ft (ft (ft (ft (ft (ft (ft (ft (ft (ft (ft (ft (ft (ft (ft (ft (ft (ft (ft (ft (ft (ft (ft (ft (ft (ft (ft (ft (ft acW laidOut) acu) acv) acJ) (by as_aux_lemma=>kernel_rfl)) acg) (by as_aux_lemma=>kernel_rfl)) ach) acK) acM) acN) acO) (by as_aux_lemma=>kernel_rfl)) (by as_aux_lemma=>kernel_rfl)) (by as_aux_lemma=>kernel_rfl)) (by as_aux_lemma=>kernel_rfl)) (by as_aux_lemma=>kernel_rfl)) (by as_aux_lemma=>kernel_rfl)) (by as_aux_lemma=>kernel_rfl)) (by as_aux_lemma=>kernel_rfl)) (by as_aux_lemma=>kernel_rfl)) acw) (by as_aux_lemma=>kernel_rfl)) aci) acj) acx) acy) (by as_aux_lemma=>kernel_rfl)) (by as_aux_lemma=>kernel_rfl)) (by as_aux_lemma=>kernel_rfl)) (by as_aux_lemma=>kernel_rfl)
end Go.Proofs.YtpeepcmdehhbgaaGreatDoor
end
