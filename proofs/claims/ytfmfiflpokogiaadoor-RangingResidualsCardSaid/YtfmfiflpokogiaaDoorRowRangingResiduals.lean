/- RangingResiduals: the statement holds for every input; condition: the package-level variable reads as listed, which the card ties to the program's text. -/
import Derived.Test.YtfmfiflpokogiaaDoorResid
import Derived.Test.YtfmfiflpokogiaaDoorFacts7
import Derived.Test.YtfmfiflpokogiaaDoorTie
import Derived.Test.YtfmfiflpokogiaaDoorCards
import Derived.WalkKit
import Derived.ProofKit
import Derived.OpenShut
import Derived.JoinedCond
import Derived.SevenTiedAt
set_option linter.unusedSimpArgs false
namespace Go.Proofs.YtfmfiflpokogiaaDoor
open Go.Ev Go.ChangeShapes Go.WideShapes Go.ChangeAt Go.RowKit

theorem rangingResidualsLaw : ∀ cs, Typed [(.slice (.agg (.pair (.int .i64) (.pair (.int .i64) (.pair (.int .i64) (.pair (.int .i64) (.int .i64))))))), (.agg (.pair (.pair (.int .i64) (.int .i64)) (.pair (.int .i64) (.int .i64))))] cs → Meets Tryd.prog 10 cs saysTrue := law_of_spec (shs := [(.slice (.agg (.pair (.int .i64) (.pair (.int .i64) (.pair (.int .i64) (.pair (.int .i64) (.int .i64))))))), (.agg (.pair (.pair (.int .i64) (.int .i64)) (.pair (.int .i64) (.int .i64))))]) i10 (fun x _ => residuals_true x)

set_option maxRecDepth 100000 in
theorem rangingResidualsLifted (os : Os) (started : os.Started) (H : Type) (enc : TypeId × Value → H) :
    ReturnsInHanded {} Tryd.checked os 10 .any (fun w args => (Rows.rangingResidualsSpec.pre enc Tryd.prog Tryd.f10 Rows.rangingResidualsRow.domain false w args ∧ laidMet Tryd.prog spLaid w) ∧ sizedMet enc Tryd.prog Tryd.f10 (OpenSpec.ofChange Rows.rangingResidualsSpec) false w args)
      (Rows.rangingResidualsSpec.post enc Tryd.prog Tryd.f10 false true false false) := by
  refine returnsInHanded_of_change_and (C := Tryd.checked) (X := fun w _ => laidMet Tryd.prog spLaid w) (fun _ _ _ hh h => h.of_heap hh) own started (by kernel_rfl) Tryd.func10
    (ChangeSpec.witness_at (enc := enc) (C := Tryd.checked) (os := os) (X := fun w _ => laidMet Tryd.prog spLaid w) false (laidWorld os) #[.slice none 0 0, .agg #[.int .i64 0, .int .i64 0, .int .i64 0, .int .i64 0]] 8 rfl (by kernel_rfl) (by kernel_rfl) (by kernel_rfl) (by kernel_rfl) (by kernel_rfl) (laidWorld_met os _)) ?_
  intro W base args ds gs before hval hW _ _ hL _
  refine contract_of_law (shs := [(.slice (.agg (.pair (.int .i64) (.pair (.int .i64) (.pair (.int .i64) (.pair (.int .i64) (.int .i64))))))), (.agg (.pair (.pair (.int .i64) (.int .i64)) (.pair (.int .i64) (.int .i64))))]) (tb := 4) laid (by kernel_rfl) (by kernel_rfl) rfl (by kernel_rfl) (by kernel_rfl) rfl (fun ds h => ?_) rangingResidualsLaw (globsOf_laid hL) hval hW
  match ds, h with
  | [_, _], _ => rfl

set_option maxRecDepth 100000
theorem rangingResidualsFact0 : (Rows.rangingResidualsRow.wf (OpenSpec.ofChange Rows.rangingResidualsSpec)) = true := by kernel_rfl
theorem rangingResidualsFact1 : (laidOutB Tryd.prog) = true := laid
theorem rangingResidualsFact2 : (mapsRowed Tryd.prog) = true := fMaps
theorem rangingResidualsFact3 : (Tryd.f10.params.all (Tryd.prog.readableRec ·)) = true := by kernel_rfl
theorem rangingResidualsFact4 : (namedTie Tryd.prog Rows.rangingResidualsRow.named Rows.rangingResidualsSpec.vars) = true := by kernel_rfl
theorem rangingResidualsFact5 : ((Rows.rangingResidualsRow.stops == [])) = true := by kernel_rfl
theorem rangingResidualsFact6 : ((Tryd.prog.stops == [])) = true := by rw [fStops]; rfl
theorem rangingResidualsFact7 : ((Rows.rangingResidualsRow.knobs == [])) = true := by kernel_rfl
theorem rangingResidualsFact8 : ((Tryd.prog.stopKnobs == [])) = true := by rw [fKnobs]; rfl
theorem rangingResidualsFact9 : ((Rows.rangingResidualsRow.inPlace == Tryd.prog.inPlace 10)) = true := by kernel_rfl
theorem rangingResidualsFact10 : ((Rows.rangingResidualsRow.unfollowed == Tryd.prog.unfollowed 10)) = true := by kernel_rfl
theorem rangingResidualsFact11 : ((Rows.rangingResidualsRow.recurses == Tryd.prog.recurses 10)) = true := by kernel_rfl
theorem rangingResidualsFact12 : ((Rows.rangingResidualsRow.named == Tryd.prog.varsNamed 10)) = true := by kernel_rfl
theorem rangingResidualsFact13 : ((Rows.rangingResidualsRow.maps == (Tryd.f10.params.toList ++ Rows.rangingResidualsSpec.plain.varTypes Tryd.prog).any (Tryd.prog.mapsRec ·))) = true := by kernel_rfl
theorem rangingResidualsFact14 : ((Rows.rangingResidualsRow.ifaces == (Tryd.f10.params.toList ++ Rows.rangingResidualsSpec.plain.varTypes Tryd.prog).any (Tryd.prog.ifacesRec ·))) = true := by kernel_rfl
theorem rangingResidualsFact15 : ((Rows.rangingResidualsRow.mapsOut == Tryd.prog.mapsAmong Tryd.f10.resultTypes.toList)) = true := by kernel_rfl
theorem rangingResidualsFact16 : ((Rows.rangingResidualsRow.loops == (Tryd.f10.params.toList ++ Rows.rangingResidualsSpec.plain.varTypes Tryd.prog).any (Tryd.prog.loopsFrom ·))) = true := by kernel_rfl
theorem rangingResidualsFact17 : ((Rows.rangingResidualsRow.wideKeys == (Tryd.f10.params.toList ++ Rows.rangingResidualsSpec.plain.varTypes Tryd.prog ++ Tryd.f10.resultTypes.toList).any (Tryd.prog.wideKeysFrom ·))) = true := by kernel_rfl
theorem rangingResidualsFact18 : (Rows.rangingResidualsSpec.vars.all (Tryd.prog.varReadable ·)) = true := by kernel_rfl
theorem rangingResidualsFact19 : (Tryd.f10.resultTypes.all (fun t => Tryd.prog.readableRec t && decide (t < Tryd.prog.types.size))) = true := by kernel_rfl
theorem rangingResidualsFact20 : ((Rows.rangingResidualsRow.ifacesOut == Tryd.f10.resultTypes.toList.any (Tryd.prog.ifacesRec ·))) = true := by kernel_rfl
theorem rangingResidualsFact21 : ((Rows.rangingResidualsRow.loopsOut == Tryd.f10.resultTypes.toList.any (Tryd.prog.loopsFrom ·))) = true := by kernel_rfl
theorem rangingResidualsFact22 : ((Rows.rangingResidualsRow.plainKeys == Tryd.prog.plainKeys)) = true := by kernel_rfl
theorem rangingResidualsFact23 : (Rows.rangingResidualsRow.shortTexts.isNone) = true := by kernel_rfl
theorem rangingResidualsFact24 : (Tryd.prog.stopsHeard) = true := fHeard
theorem rangingResidualsFact25 : (Tryd.prog.mayEnter) = true := fEnter
theorem rangingResidualsFact26 : ((Rows.rangingResidualsRow.lifted == Tryd.prog.liftsFinal)) = true := by kernel_rfl
theorem rangingResidualsFact27 : ((Tryd.prog.make == some Rows.rangingResidualsRow.make)) = true := by kernel_rfl
theorem rangingResidualsFacts : joinedFacts Tryd.prog 10 Tryd.f10 Rows.rangingResidualsSpec Rows.rangingResidualsRow = true := by
  unfold joinedFacts
  rw [rangingResidualsFact0, rangingResidualsFact1, rangingResidualsFact2, rangingResidualsFact3, rangingResidualsFact4, rangingResidualsFact5, rangingResidualsFact6, rangingResidualsFact7, rangingResidualsFact8, rangingResidualsFact9, rangingResidualsFact10, rangingResidualsFact11, rangingResidualsFact12, rangingResidualsFact13, rangingResidualsFact14, rangingResidualsFact15, rangingResidualsFact16, rangingResidualsFact17, rangingResidualsFact18, rangingResidualsFact19, rangingResidualsFact20, rangingResidualsFact21, rangingResidualsFact22, rangingResidualsFact23, rangingResidualsFact24, rangingResidualsFact25, rangingResidualsFact26, rangingResidualsFact27]
  kernel_rfl

theorem rangingResidualsNamed : Tryd.prog.funcNamed "cassegrain/cassegrainlaw07.RangingResiduals" = some 10 := by kernel_rfl
theorem rangingResiduals_holds : Rows.RangingResidualsSaid :=
  OpenClaim.holds_of_wide 10 Tryd.f10 rfl rfl rfl rfl rfl rfl rfl ⟨rfl, rfl, rfl, rfl, rfl⟩ rfl rfl rfl rfl rfl rangingResidualsNamed Tryd.func10 rangingResidualsFacts
    (of_decide_eq_true (by kernel_rfl)) (by unfold Func.isWrapper; first | (rw [if_pos (by decide +kernel)]; kernel_rfl) | (rw [if_neg (by decide +kernel)]; exact ⟨rfl, rfl⟩))
    (fun os started H enc _ => rangingResidualsLifted os started H enc)

theorem rangingResidualsParams : (Tryd.f10.params.toList.all fun t => !Tryd.prog.wantsStandIn t) = true := by kernel_rfl
theorem rangingResidualsWf : Rows.rangingResidualsRow.wfByText (OpenSpec.ofChange Rows.rangingResidualsSpec) = true := by kernel_rfl
theorem rangingResidualsGoes : false = Rows.rangingResidualsRow.goesBy Tryd.pinned.checked.prog := by kernel_rfl
theorem rangingResiduals_card : Rows.RangingResidualsCardSaid :=
  Claim7.holds_tied_plain_at .later [] [.data] true (true, "b9a990e41395d9caa781e6d6f13123fc7fc88690115b0761975b0f7740f8aa07") false
    rangingResiduals_holds (fun _ h => by cases h) rangingResidualsWf (fun _ h => by cases h) rangingResiduals_row_tie rfl ⟨rfl, rfl⟩ fMain rfl
    (fun f fn hf hfn => by
      obtain rfl : f = 10 := Option.some.inj (rangingResidualsNamed.symm.trans hf) |>.symm
      obtain rfl : fn = Tryd.f10 := (Option.some.inj (Tryd.func10.symm.trans hfn)).symm
      exact ⟨fLooks, fun j t ht => by
        have := List.all_eq_true.1 rangingResidualsParams t (by rw [Array.mem_toList_iff]; exact Array.mem_of_getElem? ht)
        show Tryd.prog.wantsStandIn t = false
        simpa using this⟩)
    rangingResidualsGoes
#print axioms rangingResiduals_card
end Go.Proofs.YtfmfiflpokogiaaDoor
