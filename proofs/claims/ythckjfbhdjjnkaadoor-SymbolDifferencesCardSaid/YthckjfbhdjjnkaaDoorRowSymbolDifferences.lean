import Derived.Test.YthckjfbhdjjnkaaDoorDiffLaw
import Derived.Test.YthckjfbhdjjnkaaDoorFacts4
import Derived.Test.YthckjfbhdjjnkaaDoorTie
import Derived.Test.YthckjfbhdjjnkaaDoorCards
import Derived.WalkKit
import Derived.ProofKit
import Derived.OpenShut
import Derived.JoinedCond
import Derived.SevenTiedAt
set_option linter.unusedSimpArgs false
namespace Go.Proofs.YthckjfbhdjjnkaaDoor
open Go.Ev Go.ChangeShapes Go.WideShapes Go.ChangeAt Go.RowKit
theorem symbolDifferencesLaw : ∀ cs, Typed [(.slice (.int .i64)), (.int .i64)] cs → Meets Tryd.prog 6 cs saysTrue := law_of_spec (shs := [(.slice (.int .i64)), (.int .i64)]) i6 (fun x _ => differences_true x.1 x.2)
set_option maxRecDepth 100000 in
theorem symbolDifferencesLifted (os : Os) (started : os.Started) (H : Type) (enc : TypeId × Value → H) :
 ReturnsInHanded {} Tryd.checked os 6 .any (fun w args => (Rows.symbolDifferencesSpec.pre enc Tryd.prog Tryd.f6 Rows.symbolDifferencesRow.domain false w args ∧ laidMet Tryd.prog spLaid w) ∧ sizedMet enc Tryd.prog Tryd.f6 (OpenSpec.ofChange Rows.symbolDifferencesSpec) false w args)
  (Rows.symbolDifferencesSpec.post enc Tryd.prog Tryd.f6 false true false false) := by
 refine returnsInHanded_of_change_and (C := Tryd.checked) (X := fun w _ => laidMet Tryd.prog spLaid w) (fun _ _ _ hh h => h.of_heap hh) own started (by kernel_rfl) Tryd.func6
  (ChangeSpec.witness_at (enc := enc) (C := Tryd.checked) (os := os) (X := fun w _ => laidMet Tryd.prog spLaid w) false (laidWorld os) #[.slice none 0 0, .int .i64 0] 8 rfl (by kernel_rfl) (by kernel_rfl) (by kernel_rfl) (by kernel_rfl) (by kernel_rfl) (laidWorld_met os _)) ?_
 intro W base args ds gs before hval hW _ _ hL _
 refine contract_of_law (shs := [(.slice (.int .i64)), (.int .i64)]) (tb := 4) laid (by kernel_rfl) (by kernel_rfl) rfl (by kernel_rfl) (by kernel_rfl) rfl (fun ds h => ?_) symbolDifferencesLaw (globsOf_laid hL) hval hW
 match ds, h with
 | [_, _], _ => rfl
set_option maxRecDepth 100000
theorem symbolDifferencesFact0 : (Rows.symbolDifferencesRow.wf (OpenSpec.ofChange Rows.symbolDifferencesSpec)) = true := by kernel_rfl
theorem symbolDifferencesFact1 : (laidOutB Tryd.prog) = true := laid
theorem symbolDifferencesFact2 : (mapsRowed Tryd.prog) = true := fMaps
theorem symbolDifferencesFact3 : (Tryd.f6.params.all (Tryd.prog.readableRec ·)) = true := by kernel_rfl
theorem symbolDifferencesFact4 : (namedTie Tryd.prog Rows.symbolDifferencesRow.named Rows.symbolDifferencesSpec.vars) = true := by kernel_rfl
theorem symbolDifferencesFact5 : ((Rows.symbolDifferencesRow.stops == [])) = true := by kernel_rfl
theorem symbolDifferencesFact6 : ((Tryd.prog.stops == [])) = true := by rw [fStops]; rfl
theorem symbolDifferencesFact7 : ((Rows.symbolDifferencesRow.knobs == [])) = true := by kernel_rfl
theorem symbolDifferencesFact8 : ((Tryd.prog.stopKnobs == [])) = true := by rw [fKnobs]; rfl
theorem symbolDifferencesFact9 : ((Rows.symbolDifferencesRow.inPlace == Tryd.prog.inPlace 6)) = true := by kernel_rfl
theorem symbolDifferencesFact10 : ((Rows.symbolDifferencesRow.unfollowed == Tryd.prog.unfollowed 6)) = true := by kernel_rfl
theorem symbolDifferencesFact11 : ((Rows.symbolDifferencesRow.recurses == Tryd.prog.recurses 6)) = true := by kernel_rfl
theorem symbolDifferencesFact12 : ((Rows.symbolDifferencesRow.named == Tryd.prog.varsNamed 6)) = true := by kernel_rfl
theorem symbolDifferencesFact13 : ((Rows.symbolDifferencesRow.maps == (Tryd.f6.params.toList ++ Rows.symbolDifferencesSpec.plain.varTypes Tryd.prog).any (Tryd.prog.mapsRec ·))) = true := by kernel_rfl
theorem symbolDifferencesFact14 : ((Rows.symbolDifferencesRow.ifaces == (Tryd.f6.params.toList ++ Rows.symbolDifferencesSpec.plain.varTypes Tryd.prog).any (Tryd.prog.ifacesRec ·))) = true := by kernel_rfl
theorem symbolDifferencesFact15 : ((Rows.symbolDifferencesRow.mapsOut == Tryd.prog.mapsAmong Tryd.f6.resultTypes.toList)) = true := by kernel_rfl
theorem symbolDifferencesFact16 : ((Rows.symbolDifferencesRow.loops == (Tryd.f6.params.toList ++ Rows.symbolDifferencesSpec.plain.varTypes Tryd.prog).any (Tryd.prog.loopsFrom ·))) = true := by kernel_rfl
theorem symbolDifferencesFact17 : ((Rows.symbolDifferencesRow.wideKeys == (Tryd.f6.params.toList ++ Rows.symbolDifferencesSpec.plain.varTypes Tryd.prog ++ Tryd.f6.resultTypes.toList).any (Tryd.prog.wideKeysFrom ·))) = true := by kernel_rfl
theorem symbolDifferencesFact18 : (Rows.symbolDifferencesSpec.vars.all (Tryd.prog.varReadable ·)) = true := by kernel_rfl
theorem symbolDifferencesFact19 : (Tryd.f6.resultTypes.all (fun t => Tryd.prog.readableRec t && decide (t < Tryd.prog.types.size))) = true := by kernel_rfl
theorem symbolDifferencesFact20 : ((Rows.symbolDifferencesRow.ifacesOut == Tryd.f6.resultTypes.toList.any (Tryd.prog.ifacesRec ·))) = true := by kernel_rfl
theorem symbolDifferencesFact21 : ((Rows.symbolDifferencesRow.loopsOut == Tryd.f6.resultTypes.toList.any (Tryd.prog.loopsFrom ·))) = true := by kernel_rfl
theorem symbolDifferencesFact22 : ((Rows.symbolDifferencesRow.plainKeys == Tryd.prog.plainKeys)) = true := by kernel_rfl
theorem symbolDifferencesFact23 : (Rows.symbolDifferencesRow.shortTexts.isNone) = true := by kernel_rfl
theorem symbolDifferencesFact24 : (Tryd.prog.stopsHeard) = true := fHeard
theorem symbolDifferencesFact25 : (Tryd.prog.mayEnter) = true := fEnter
theorem symbolDifferencesFact26 : ((Rows.symbolDifferencesRow.lifted == Tryd.prog.liftsFinal)) = true := by kernel_rfl
theorem symbolDifferencesFact27 : ((Tryd.prog.make == some Rows.symbolDifferencesRow.make)) = true := by kernel_rfl
theorem symbolDifferencesFacts : joinedFacts Tryd.prog 6 Tryd.f6 Rows.symbolDifferencesSpec Rows.symbolDifferencesRow = true := by
 unfold joinedFacts
 rw [symbolDifferencesFact0, symbolDifferencesFact1, symbolDifferencesFact2, symbolDifferencesFact3, symbolDifferencesFact4, symbolDifferencesFact5, symbolDifferencesFact6, symbolDifferencesFact7, symbolDifferencesFact8, symbolDifferencesFact9, symbolDifferencesFact10, symbolDifferencesFact11, symbolDifferencesFact12, symbolDifferencesFact13, symbolDifferencesFact14, symbolDifferencesFact15, symbolDifferencesFact16, symbolDifferencesFact17, symbolDifferencesFact18, symbolDifferencesFact19, symbolDifferencesFact20, symbolDifferencesFact21, symbolDifferencesFact22, symbolDifferencesFact23, symbolDifferencesFact24, symbolDifferencesFact25, symbolDifferencesFact26, symbolDifferencesFact27]
 kernel_rfl
theorem symbolDifferencesNamed : Tryd.prog.funcNamed "cassegrain/cassegrainlaw04.SymbolDifferences" = some 6 := by kernel_rfl
theorem symbolDifferences_holds : Rows.SymbolDifferencesSaid :=
 OpenClaim.holds_of_wide 6 Tryd.f6 rfl rfl rfl rfl rfl rfl rfl ⟨rfl, rfl, rfl, rfl, rfl⟩ rfl rfl rfl rfl rfl symbolDifferencesNamed Tryd.func6 symbolDifferencesFacts
  (of_decide_eq_true (by kernel_rfl)) (by unfold Func.isWrapper; first | (rw [if_pos (by decide +kernel)]; kernel_rfl) | (rw [if_neg (by decide +kernel)]; exact ⟨rfl, rfl⟩))
  (fun os started H enc _ => symbolDifferencesLifted os started H enc)
theorem symbolDifferencesParams : (Tryd.f6.params.toList.all fun t => !Tryd.prog.wantsStandIn t) = true := by kernel_rfl
theorem symbolDifferencesWf : Rows.symbolDifferencesRow.wfByText (OpenSpec.ofChange Rows.symbolDifferencesSpec) = true := by kernel_rfl
theorem symbolDifferencesGoes : false = Rows.symbolDifferencesRow.goesBy Tryd.pinned.checked.prog := by kernel_rfl
theorem symbolDifferences_card : Rows.SymbolDifferencesCardSaid :=
 Claim7.holds_tied_plain_at .later [] [.data, .data, .data] true (true, "fc35d03b8b601be7e2432c9146edea038834c15e3c955cd5ed778deb69910b8c") false
  symbolDifferences_holds (fun _ h => by cases h) symbolDifferencesWf (fun _ h => by cases h) symbolDifferences_row_tie rfl ⟨rfl, rfl⟩ fMain rfl
  (fun f fn hf hfn => by
    obtain rfl : f = 6 := Option.some.inj (symbolDifferencesNamed.symm.trans hf) |>.symm
    obtain rfl : fn = Tryd.f6 := (Option.some.inj (Tryd.func6.symm.trans hfn)).symm
    exact ⟨fLooks, fun j t ht => by
     have := List.all_eq_true.1 symbolDifferencesParams t (by rw [Array.mem_toList_iff]; exact Array.mem_of_getElem? ht)
     show Tryd.prog.wantsStandIn t = false
     simpa using this⟩)
  symbolDifferencesGoes
#print axioms symbolDifferences_card
end Go.Proofs.YthckjfbhdjjnkaaDoor
