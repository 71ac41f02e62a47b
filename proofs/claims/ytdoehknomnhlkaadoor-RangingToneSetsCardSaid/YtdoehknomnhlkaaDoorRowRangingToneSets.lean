/- RangingToneSets: the statement holds for every input; condition: the package-level variable reads as listed, which the card ties to the program's text. -/
import Derived.Test.YtdoehknomnhlkaaDoorToneLaw
import Derived.Test.YtdoehknomnhlkaaDoorFacts7
import Derived.Test.YtdoehknomnhlkaaDoorTie
import Derived.Test.YtdoehknomnhlkaaDoorCards
import Derived.WalkKit
import Derived.ProofKit
import Derived.OpenShut
import Derived.JoinedCond
import Derived.SevenTiedAt
set_option linter.unusedSimpArgs false
namespace Go.Proofs.YtdoehknomnhlkaaDoor
open Go.Ev Go.ChangeShapes Go.WideShapes Go.ChangeAt Go.RowKit
theorem rangingToneSetsLaw : ∀ cs, Typed [(.slice (.agg (.pair (.int .i64) (.pair (.int .i64) (.int .i64))))), (.agg (.pair (.int .i64) (.int .i64)))] cs → Meets Tryd.prog 3 cs saysTrue := law_of_spec (shs := [(.slice (.agg (.pair (.int .i64) (.pair (.int .i64) (.int .i64))))), (.agg (.pair (.int .i64) (.int .i64)))]) i3 (fun x _ => toneSets_true x)
set_option maxRecDepth 100000 in
theorem rangingToneSetsLifted (os : Os) (started : os.Started) (H : Type) (enc : TypeId × Value → H) :
 ReturnsInHanded {} Tryd.checked os 3 .any (fun w args => (Rows.rangingToneSetsSpec.pre enc Tryd.prog Tryd.f3 Rows.rangingToneSetsRow.domain false w args ∧ laidMet Tryd.prog spLaid w) ∧ sizedMet enc Tryd.prog Tryd.f3 (OpenSpec.ofChange Rows.rangingToneSetsSpec) false w args)
  (Rows.rangingToneSetsSpec.post enc Tryd.prog Tryd.f3 false true false false) := by
 refine returnsInHanded_of_change_and (C := Tryd.checked) (X := fun w _ => laidMet Tryd.prog spLaid w) (fun _ _ _ hh h => h.of_heap hh) own started (by kernel_rfl) Tryd.func3
  (ChangeSpec.witness_at (enc := enc) (C := Tryd.checked) (os := os) (X := fun w _ => laidMet Tryd.prog spLaid w) false (laidWorld os) #[.slice none 0 0, .agg #[.int .i64 0, .int .i64 0]] 8 rfl (by kernel_rfl) (by kernel_rfl) (by kernel_rfl) (by kernel_rfl) (by kernel_rfl) (laidWorld_met os _)) ?_
 intro W base args ds gs before hval hW _ _ hL _
 refine contract_of_law (shs := [(.slice (.agg (.pair (.int .i64) (.pair (.int .i64) (.int .i64))))), (.agg (.pair (.int .i64) (.int .i64)))]) (tb := 4) laid (by kernel_rfl) (by kernel_rfl) rfl (by kernel_rfl) (by kernel_rfl) rfl (fun ds h => ?_) rangingToneSetsLaw (globsOf_laid hL) hval hW
 match ds, h with
 | [_, _], _ => rfl
set_option maxRecDepth 100000
theorem rangingToneSetsFact0 : (Rows.rangingToneSetsRow.wf (OpenSpec.ofChange Rows.rangingToneSetsSpec)) = true := by kernel_rfl
theorem rangingToneSetsFact1 : (laidOutB Tryd.prog) = true := laid
theorem rangingToneSetsFact2 : (mapsRowed Tryd.prog) = true := fMaps
theorem rangingToneSetsFact3 : (Tryd.f3.params.all (Tryd.prog.readableRec ·)) = true := by kernel_rfl
theorem rangingToneSetsFact4 : (namedTie Tryd.prog Rows.rangingToneSetsRow.named Rows.rangingToneSetsSpec.vars) = true := by kernel_rfl
theorem rangingToneSetsFact5 : ((Rows.rangingToneSetsRow.stops == [])) = true := by kernel_rfl
theorem rangingToneSetsFact6 : ((Tryd.prog.stops == [])) = true := by rw [fStops]; rfl
theorem rangingToneSetsFact7 : ((Rows.rangingToneSetsRow.knobs == [])) = true := by kernel_rfl
theorem rangingToneSetsFact8 : ((Tryd.prog.stopKnobs == [])) = true := by rw [fKnobs]; rfl
theorem rangingToneSetsFact9 : ((Rows.rangingToneSetsRow.inPlace == Tryd.prog.inPlace 3)) = true := by kernel_rfl
theorem rangingToneSetsFact10 : ((Rows.rangingToneSetsRow.unfollowed == Tryd.prog.unfollowed 3)) = true := by kernel_rfl
theorem rangingToneSetsFact11 : ((Rows.rangingToneSetsRow.recurses == Tryd.prog.recurses 3)) = true := by kernel_rfl
theorem rangingToneSetsFact12 : ((Rows.rangingToneSetsRow.named == Tryd.prog.varsNamed 3)) = true := by kernel_rfl
theorem rangingToneSetsFact13 : ((Rows.rangingToneSetsRow.maps == (Tryd.f3.params.toList ++ Rows.rangingToneSetsSpec.plain.varTypes Tryd.prog).any (Tryd.prog.mapsRec ·))) = true := by kernel_rfl
theorem rangingToneSetsFact14 : ((Rows.rangingToneSetsRow.ifaces == (Tryd.f3.params.toList ++ Rows.rangingToneSetsSpec.plain.varTypes Tryd.prog).any (Tryd.prog.ifacesRec ·))) = true := by kernel_rfl
theorem rangingToneSetsFact15 : ((Rows.rangingToneSetsRow.mapsOut == Tryd.prog.mapsAmong Tryd.f3.resultTypes.toList)) = true := by kernel_rfl
theorem rangingToneSetsFact16 : ((Rows.rangingToneSetsRow.loops == (Tryd.f3.params.toList ++ Rows.rangingToneSetsSpec.plain.varTypes Tryd.prog).any (Tryd.prog.loopsFrom ·))) = true := by kernel_rfl
theorem rangingToneSetsFact17 : ((Rows.rangingToneSetsRow.wideKeys == (Tryd.f3.params.toList ++ Rows.rangingToneSetsSpec.plain.varTypes Tryd.prog ++ Tryd.f3.resultTypes.toList).any (Tryd.prog.wideKeysFrom ·))) = true := by kernel_rfl
theorem rangingToneSetsFact18 : (Rows.rangingToneSetsSpec.vars.all (Tryd.prog.varReadable ·)) = true := by kernel_rfl
theorem rangingToneSetsFact19 : (Tryd.f3.resultTypes.all (fun t => Tryd.prog.readableRec t && decide (t < Tryd.prog.types.size))) = true := by kernel_rfl
theorem rangingToneSetsFact20 : ((Rows.rangingToneSetsRow.ifacesOut == Tryd.f3.resultTypes.toList.any (Tryd.prog.ifacesRec ·))) = true := by kernel_rfl
theorem rangingToneSetsFact21 : ((Rows.rangingToneSetsRow.loopsOut == Tryd.f3.resultTypes.toList.any (Tryd.prog.loopsFrom ·))) = true := by kernel_rfl
theorem rangingToneSetsFact22 : ((Rows.rangingToneSetsRow.plainKeys == Tryd.prog.plainKeys)) = true := by kernel_rfl
theorem rangingToneSetsFact23 : (Rows.rangingToneSetsRow.shortTexts.isNone) = true := by kernel_rfl
theorem rangingToneSetsFact24 : (Tryd.prog.stopsHeard) = true := fHeard
theorem rangingToneSetsFact25 : (Tryd.prog.mayEnter) = true := fEnter
theorem rangingToneSetsFact26 : ((Rows.rangingToneSetsRow.lifted == Tryd.prog.liftsFinal)) = true := by kernel_rfl
theorem rangingToneSetsFact27 : ((Tryd.prog.make == some Rows.rangingToneSetsRow.make)) = true := by kernel_rfl
theorem rangingToneSetsFacts : joinedFacts Tryd.prog 3 Tryd.f3 Rows.rangingToneSetsSpec Rows.rangingToneSetsRow = true := by
 unfold joinedFacts
 rw [rangingToneSetsFact0, rangingToneSetsFact1, rangingToneSetsFact2, rangingToneSetsFact3, rangingToneSetsFact4, rangingToneSetsFact5, rangingToneSetsFact6, rangingToneSetsFact7, rangingToneSetsFact8, rangingToneSetsFact9, rangingToneSetsFact10, rangingToneSetsFact11, rangingToneSetsFact12, rangingToneSetsFact13, rangingToneSetsFact14, rangingToneSetsFact15, rangingToneSetsFact16, rangingToneSetsFact17, rangingToneSetsFact18, rangingToneSetsFact19, rangingToneSetsFact20, rangingToneSetsFact21, rangingToneSetsFact22, rangingToneSetsFact23, rangingToneSetsFact24, rangingToneSetsFact25, rangingToneSetsFact26, rangingToneSetsFact27]
 kernel_rfl
theorem rangingToneSetsNamed : Tryd.prog.funcNamed "cassegrain/cassegrainlaw07.RangingToneSets" = some 3 := by kernel_rfl
theorem rangingToneSets_holds : Rows.RangingToneSetsSaid :=
 OpenClaim.holds_of_wide 3 Tryd.f3 rfl rfl rfl rfl rfl rfl rfl ⟨rfl, rfl, rfl, rfl, rfl⟩ rfl rfl rfl rfl rfl rangingToneSetsNamed Tryd.func3 rangingToneSetsFacts
  (of_decide_eq_true (by kernel_rfl)) (by unfold Func.isWrapper; first | (rw [if_pos (by decide +kernel)]; kernel_rfl) | (rw [if_neg (by decide +kernel)]; exact ⟨rfl, rfl⟩))
  (fun os started H enc _ => rangingToneSetsLifted os started H enc)
theorem rangingToneSetsParams : (Tryd.f3.params.toList.all fun t => !Tryd.prog.wantsStandIn t) = true := by kernel_rfl
theorem rangingToneSetsWf : Rows.rangingToneSetsRow.wfByText (OpenSpec.ofChange Rows.rangingToneSetsSpec) = true := by kernel_rfl
theorem rangingToneSetsGoes : false = Rows.rangingToneSetsRow.goesBy Tryd.pinned.checked.prog := by kernel_rfl
theorem rangingToneSets_card : Rows.RangingToneSetsCardSaid :=
 Claim7.holds_tied_plain_at .later [] [.data] true (true, "29c768bec3825d8d0af820096dde26eca2c566ab211de3fca6d1d9eb736e2b12") false
  rangingToneSets_holds (fun _ h => by cases h) rangingToneSetsWf (fun _ h => by cases h) rangingToneSets_row_tie rfl ⟨rfl, rfl⟩ fMain rfl
  (fun f fn hf hfn => by
    obtain rfl : f = 3 := Option.some.inj (rangingToneSetsNamed.symm.trans hf) |>.symm
    obtain rfl : fn = Tryd.f3 := (Option.some.inj (Tryd.func3.symm.trans hfn)).symm
    exact ⟨fLooks, fun j t ht => by
     have := List.all_eq_true.1 rangingToneSetsParams t (by rw [Array.mem_toList_iff]; exact Array.mem_of_getElem? ht)
     show Tryd.prog.wantsStandIn t = false
     simpa using this⟩)
  rangingToneSetsGoes
#print axioms rangingToneSets_card
end Go.Proofs.YtdoehknomnhlkaaDoor
