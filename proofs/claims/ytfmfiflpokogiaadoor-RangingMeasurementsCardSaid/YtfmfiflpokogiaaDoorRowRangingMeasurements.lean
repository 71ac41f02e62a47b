/- RangingMeasurements: the statement holds for every input; condition: the package-level variable reads as listed, which the card ties to the program's text. -/
import Derived.Test.YtfmfiflpokogiaaDoorMeas
import Derived.Test.YtfmfiflpokogiaaDoorFacts7
import Derived.Test.YtfmfiflpokogiaaDoorTie
import Derived.Test.YtfmfiflpokogiaaDoorCards
import Derived.WalkKit
import Derived.ProofKit
import Derived.OpenShut
import Derived.JoinedCond
import Derived.SevenTiedAt
set_option linter.unusedSimpArgs false
namespace Go.Proofs.YtfmfiflpokogiaaDoor
open Go.Ev Go.ChangeShapes Go.WideShapes Go.ChangeAt Go.RowKit

theorem rangingMeasurementsLaw : ∀ cs, Typed [(.slice (.agg (.pair (.int .i64) (.pair (.int .i64) (.pair (.int .i64) (.pair (.int .i64) (.int .i64)))))))] cs → Meets Tryd.prog 3 cs saysTrue := law_of_spec (shs := [(.slice (.agg (.pair (.int .i64) (.pair (.int .i64) (.pair (.int .i64) (.pair (.int .i64) (.int .i64)))))))]) i3 (fun x _ => measurements_true x)

set_option maxRecDepth 100000 in
theorem rangingMeasurementsLifted (os : Os) (started : os.Started) (H : Type) (enc : TypeId × Value → H) :
    ReturnsInHanded {} Tryd.checked os 3 .any (fun w args => (Rows.rangingMeasurementsSpec.pre enc Tryd.prog Tryd.f3 Rows.rangingMeasurementsRow.domain false w args ∧ laidMet Tryd.prog spLaid w) ∧ sizedMet enc Tryd.prog Tryd.f3 (OpenSpec.ofChange Rows.rangingMeasurementsSpec) false w args)
      (Rows.rangingMeasurementsSpec.post enc Tryd.prog Tryd.f3 false true false false) := by
  refine returnsInHanded_of_change_and (C := Tryd.checked) (X := fun w _ => laidMet Tryd.prog spLaid w) (fun _ _ _ hh h => h.of_heap hh) own started (by kernel_rfl) Tryd.func3
    (ChangeSpec.witness_at (enc := enc) (C := Tryd.checked) (os := os) (X := fun w _ => laidMet Tryd.prog spLaid w) false (laidWorld os) #[.slice none 0 0] 8 rfl (by kernel_rfl) (by kernel_rfl) (by kernel_rfl) (by kernel_rfl) (by kernel_rfl) (laidWorld_met os _)) ?_
  intro W base args ds gs before hval hW _ _ hL _
  refine contract_of_law (shs := [(.slice (.agg (.pair (.int .i64) (.pair (.int .i64) (.pair (.int .i64) (.pair (.int .i64) (.int .i64)))))))]) (tb := 4) laid (by kernel_rfl) (by kernel_rfl) rfl (by kernel_rfl) (by kernel_rfl) rfl (fun ds h => ?_) rangingMeasurementsLaw (globsOf_laid hL) hval hW
  match ds, h with
  | [_], _ => rfl

set_option maxRecDepth 100000
theorem rangingMeasurementsFact0 : (Rows.rangingMeasurementsRow.wf (OpenSpec.ofChange Rows.rangingMeasurementsSpec)) = true := by kernel_rfl
theorem rangingMeasurementsFact1 : (laidOutB Tryd.prog) = true := laid
theorem rangingMeasurementsFact2 : (mapsRowed Tryd.prog) = true := fMaps
theorem rangingMeasurementsFact3 : (Tryd.f3.params.all (Tryd.prog.readableRec ·)) = true := by kernel_rfl
theorem rangingMeasurementsFact4 : (namedTie Tryd.prog Rows.rangingMeasurementsRow.named Rows.rangingMeasurementsSpec.vars) = true := by kernel_rfl
theorem rangingMeasurementsFact5 : ((Rows.rangingMeasurementsRow.stops == [])) = true := by kernel_rfl
theorem rangingMeasurementsFact6 : ((Tryd.prog.stops == [])) = true := by rw [fStops]; rfl
theorem rangingMeasurementsFact7 : ((Rows.rangingMeasurementsRow.knobs == [])) = true := by kernel_rfl
theorem rangingMeasurementsFact8 : ((Tryd.prog.stopKnobs == [])) = true := by rw [fKnobs]; rfl
theorem rangingMeasurementsFact9 : ((Rows.rangingMeasurementsRow.inPlace == Tryd.prog.inPlace 3)) = true := by kernel_rfl
theorem rangingMeasurementsFact10 : ((Rows.rangingMeasurementsRow.unfollowed == Tryd.prog.unfollowed 3)) = true := by kernel_rfl
theorem rangingMeasurementsFact11 : ((Rows.rangingMeasurementsRow.recurses == Tryd.prog.recurses 3)) = true := by kernel_rfl
theorem rangingMeasurementsFact12 : ((Rows.rangingMeasurementsRow.named == Tryd.prog.varsNamed 3)) = true := by kernel_rfl
theorem rangingMeasurementsFact13 : ((Rows.rangingMeasurementsRow.maps == (Tryd.f3.params.toList ++ Rows.rangingMeasurementsSpec.plain.varTypes Tryd.prog).any (Tryd.prog.mapsRec ·))) = true := by kernel_rfl
theorem rangingMeasurementsFact14 : ((Rows.rangingMeasurementsRow.ifaces == (Tryd.f3.params.toList ++ Rows.rangingMeasurementsSpec.plain.varTypes Tryd.prog).any (Tryd.prog.ifacesRec ·))) = true := by kernel_rfl
theorem rangingMeasurementsFact15 : ((Rows.rangingMeasurementsRow.mapsOut == Tryd.prog.mapsAmong Tryd.f3.resultTypes.toList)) = true := by kernel_rfl
theorem rangingMeasurementsFact16 : ((Rows.rangingMeasurementsRow.loops == (Tryd.f3.params.toList ++ Rows.rangingMeasurementsSpec.plain.varTypes Tryd.prog).any (Tryd.prog.loopsFrom ·))) = true := by kernel_rfl
theorem rangingMeasurementsFact17 : ((Rows.rangingMeasurementsRow.wideKeys == (Tryd.f3.params.toList ++ Rows.rangingMeasurementsSpec.plain.varTypes Tryd.prog ++ Tryd.f3.resultTypes.toList).any (Tryd.prog.wideKeysFrom ·))) = true := by kernel_rfl
theorem rangingMeasurementsFact18 : (Rows.rangingMeasurementsSpec.vars.all (Tryd.prog.varReadable ·)) = true := by kernel_rfl
theorem rangingMeasurementsFact19 : (Tryd.f3.resultTypes.all (fun t => Tryd.prog.readableRec t && decide (t < Tryd.prog.types.size))) = true := by kernel_rfl
theorem rangingMeasurementsFact20 : ((Rows.rangingMeasurementsRow.ifacesOut == Tryd.f3.resultTypes.toList.any (Tryd.prog.ifacesRec ·))) = true := by kernel_rfl
theorem rangingMeasurementsFact21 : ((Rows.rangingMeasurementsRow.loopsOut == Tryd.f3.resultTypes.toList.any (Tryd.prog.loopsFrom ·))) = true := by kernel_rfl
theorem rangingMeasurementsFact22 : ((Rows.rangingMeasurementsRow.plainKeys == Tryd.prog.plainKeys)) = true := by kernel_rfl
theorem rangingMeasurementsFact23 : (Rows.rangingMeasurementsRow.shortTexts.isNone) = true := by kernel_rfl
theorem rangingMeasurementsFact24 : (Tryd.prog.stopsHeard) = true := fHeard
theorem rangingMeasurementsFact25 : (Tryd.prog.mayEnter) = true := fEnter
theorem rangingMeasurementsFact26 : ((Rows.rangingMeasurementsRow.lifted == Tryd.prog.liftsFinal)) = true := by kernel_rfl
theorem rangingMeasurementsFact27 : ((Tryd.prog.make == some Rows.rangingMeasurementsRow.make)) = true := by kernel_rfl
theorem rangingMeasurementsFacts : joinedFacts Tryd.prog 3 Tryd.f3 Rows.rangingMeasurementsSpec Rows.rangingMeasurementsRow = true := by
  unfold joinedFacts
  rw [rangingMeasurementsFact0, rangingMeasurementsFact1, rangingMeasurementsFact2, rangingMeasurementsFact3, rangingMeasurementsFact4, rangingMeasurementsFact5, rangingMeasurementsFact6, rangingMeasurementsFact7, rangingMeasurementsFact8, rangingMeasurementsFact9, rangingMeasurementsFact10, rangingMeasurementsFact11, rangingMeasurementsFact12, rangingMeasurementsFact13, rangingMeasurementsFact14, rangingMeasurementsFact15, rangingMeasurementsFact16, rangingMeasurementsFact17, rangingMeasurementsFact18, rangingMeasurementsFact19, rangingMeasurementsFact20, rangingMeasurementsFact21, rangingMeasurementsFact22, rangingMeasurementsFact23, rangingMeasurementsFact24, rangingMeasurementsFact25, rangingMeasurementsFact26, rangingMeasurementsFact27]
  kernel_rfl

theorem rangingMeasurementsNamed : Tryd.prog.funcNamed "cassegrain/cassegrainlaw07.RangingMeasurements" = some 3 := by kernel_rfl
theorem rangingMeasurements_holds : Rows.RangingMeasurementsSaid :=
  OpenClaim.holds_of_wide 3 Tryd.f3 rfl rfl rfl rfl rfl rfl rfl ⟨rfl, rfl, rfl, rfl, rfl⟩ rfl rfl rfl rfl rfl rangingMeasurementsNamed Tryd.func3 rangingMeasurementsFacts
    (of_decide_eq_true (by kernel_rfl)) (by unfold Func.isWrapper; first | (rw [if_pos (by decide +kernel)]; kernel_rfl) | (rw [if_neg (by decide +kernel)]; exact ⟨rfl, rfl⟩))
    (fun os started H enc _ => rangingMeasurementsLifted os started H enc)

theorem rangingMeasurementsParams : (Tryd.f3.params.toList.all fun t => !Tryd.prog.wantsStandIn t) = true := by kernel_rfl
theorem rangingMeasurementsWf : Rows.rangingMeasurementsRow.wfByText (OpenSpec.ofChange Rows.rangingMeasurementsSpec) = true := by kernel_rfl
theorem rangingMeasurementsGoes : false = Rows.rangingMeasurementsRow.goesBy Tryd.pinned.checked.prog := by kernel_rfl
theorem rangingMeasurements_card : Rows.RangingMeasurementsCardSaid :=
  Claim7.holds_tied_plain_at .later [] [.data] true (true, "b9a990e41395d9caa781e6d6f13123fc7fc88690115b0761975b0f7740f8aa07") false
    rangingMeasurements_holds (fun _ h => by cases h) rangingMeasurementsWf (fun _ h => by cases h) rangingMeasurements_row_tie rfl ⟨rfl, rfl⟩ fMain rfl
    (fun f fn hf hfn => by
      obtain rfl : f = 3 := Option.some.inj (rangingMeasurementsNamed.symm.trans hf) |>.symm
      obtain rfl : fn = Tryd.f3 := (Option.some.inj (Tryd.func3.symm.trans hfn)).symm
      exact ⟨fLooks, fun j t ht => by
        have := List.all_eq_true.1 rangingMeasurementsParams t (by rw [Array.mem_toList_iff]; exact Array.mem_of_getElem? ht)
        show Tryd.prog.wantsStandIn t = false
        simpa using this⟩)
    rangingMeasurementsGoes
#print axioms rangingMeasurements_card
end Go.Proofs.YtfmfiflpokogiaaDoor
