/- SymbolInverted: the statement holds for every input; condition: the package-level variables read as listed, which the card ties to the program's text. -/
import Derived.Test.YthckjfbhdjjnkaaDoorInvLaw
import Derived.Test.YthckjfbhdjjnkaaDoorFacts4
import Derived.Test.YthckjfbhdjjnkaaDoorTie
import Derived.Test.YthckjfbhdjjnkaaDoorCards
import Derived.WalkKit
import Derived.ProofKit
import Derived.OpenShut
import Derived.JoinedCond
import Derived.SevenTiedAt
set_option linter.unusedSimpArgs false
namespace Go.Proofs.YthckjfbhdjjnkaaDoor
open Go.Ev Go.ChangeShapes Go.WideShapes Go.ChangeAt Go.RowKit
theorem symbolInvertedLaw : ∀ cs, Typed [(.agg (.pair (.slice (.int .i64)) (.pair (.int .i64) (.pair (.int .i64) (.pair (.int .i64) (.pair (.int .i64) (.int .i64))))))), (.slice (.int .i64))] cs → Meets Tryd.prog 8 cs saysTrue := law_of_spec (shs := [(.agg (.pair (.slice (.int .i64)) (.pair (.int .i64) (.pair (.int .i64) (.pair (.int .i64) (.pair (.int .i64) (.int .i64))))))), (.slice (.int .i64))]) i8 (fun x _ => inverted_true x.1 x.2)
set_option maxRecDepth 100000 in
theorem symbolInvertedLifted (os : Os) (started : os.Started) (H : Type) (enc : TypeId × Value → H) :
 ReturnsInHanded {} Tryd.checked os 8 .any (fun w args => (Rows.symbolInvertedSpec.pre enc Tryd.prog Tryd.f8 Rows.symbolInvertedRow.domain false w args ∧ laidMet Tryd.prog spLaid w) ∧ sizedMet enc Tryd.prog Tryd.f8 (OpenSpec.ofChange Rows.symbolInvertedSpec) false w args)
  (Rows.symbolInvertedSpec.post enc Tryd.prog Tryd.f8 false true false false) := by
 refine returnsInHanded_of_change_and (C := Tryd.checked) (X := fun w _ => laidMet Tryd.prog spLaid w) (fun _ _ _ hh h => h.of_heap hh) own started (by kernel_rfl) Tryd.func8
  (ChangeSpec.witness_at (enc := enc) (C := Tryd.checked) (os := os) (X := fun w _ => laidMet Tryd.prog spLaid w) false (laidWorld os) #[.agg #[.slice none 0 0, .int .i64 0, .int .i64 0, .int .i64 0, .int .i64 0, .int .i64 0], .slice none 0 0] 8 rfl (by kernel_rfl) (by kernel_rfl) (by kernel_rfl) (by kernel_rfl) (by kernel_rfl) (laidWorld_met os _)) ?_
 intro W base args ds gs before hval hW _ _ hL _
 refine contract_of_law (shs := [(.agg (.pair (.slice (.int .i64)) (.pair (.int .i64) (.pair (.int .i64) (.pair (.int .i64) (.pair (.int .i64) (.int .i64))))))), (.slice (.int .i64))]) (tb := 4) laid (by kernel_rfl) (by kernel_rfl) rfl (by kernel_rfl) (by kernel_rfl) rfl (fun ds h => ?_) symbolInvertedLaw (globsOf_laid hL) hval hW
 match ds, h with
 | [_, _], _ => rfl
set_option maxRecDepth 100000
theorem symbolInvertedFact0 : (Rows.symbolInvertedRow.wf (OpenSpec.ofChange Rows.symbolInvertedSpec)) = true := by kernel_rfl
theorem symbolInvertedFact1 : (laidOutB Tryd.prog) = true := laid
theorem symbolInvertedFact2 : (mapsRowed Tryd.prog) = true := fMaps
theorem symbolInvertedFact3 : (Tryd.f8.params.all (Tryd.prog.readableRec ·)) = true := by kernel_rfl
theorem symbolInvertedFact4 : (namedTie Tryd.prog Rows.symbolInvertedRow.named Rows.symbolInvertedSpec.vars) = true := by kernel_rfl
theorem symbolInvertedFact5 : ((Rows.symbolInvertedRow.stops == [])) = true := by kernel_rfl
theorem symbolInvertedFact6 : ((Tryd.prog.stops == [])) = true := by rw [fStops]; rfl
theorem symbolInvertedFact7 : ((Rows.symbolInvertedRow.knobs == [])) = true := by kernel_rfl
theorem symbolInvertedFact8 : ((Tryd.prog.stopKnobs == [])) = true := by rw [fKnobs]; rfl
theorem symbolInvertedFact9 : ((Rows.symbolInvertedRow.inPlace == Tryd.prog.inPlace 8)) = true := by kernel_rfl
theorem symbolInvertedFact10 : ((Rows.symbolInvertedRow.unfollowed == Tryd.prog.unfollowed 8)) = true := by kernel_rfl
theorem symbolInvertedFact11 : ((Rows.symbolInvertedRow.recurses == Tryd.prog.recurses 8)) = true := by kernel_rfl
theorem symbolInvertedFact12 : ((Rows.symbolInvertedRow.named == Tryd.prog.varsNamed 8)) = true := by kernel_rfl
theorem symbolInvertedFact13 : ((Rows.symbolInvertedRow.maps == (Tryd.f8.params.toList ++ Rows.symbolInvertedSpec.plain.varTypes Tryd.prog).any (Tryd.prog.mapsRec ·))) = true := by kernel_rfl
theorem symbolInvertedFact14 : ((Rows.symbolInvertedRow.ifaces == (Tryd.f8.params.toList ++ Rows.symbolInvertedSpec.plain.varTypes Tryd.prog).any (Tryd.prog.ifacesRec ·))) = true := by kernel_rfl
theorem symbolInvertedFact15 : ((Rows.symbolInvertedRow.mapsOut == Tryd.prog.mapsAmong Tryd.f8.resultTypes.toList)) = true := by kernel_rfl
theorem symbolInvertedFact16 : ((Rows.symbolInvertedRow.loops == (Tryd.f8.params.toList ++ Rows.symbolInvertedSpec.plain.varTypes Tryd.prog).any (Tryd.prog.loopsFrom ·))) = true := by kernel_rfl
theorem symbolInvertedFact17 : ((Rows.symbolInvertedRow.wideKeys == (Tryd.f8.params.toList ++ Rows.symbolInvertedSpec.plain.varTypes Tryd.prog ++ Tryd.f8.resultTypes.toList).any (Tryd.prog.wideKeysFrom ·))) = true := by kernel_rfl
theorem symbolInvertedFact18 : (Rows.symbolInvertedSpec.vars.all (Tryd.prog.varReadable ·)) = true := by kernel_rfl
theorem symbolInvertedFact19 : (Tryd.f8.resultTypes.all (fun t => Tryd.prog.readableRec t && decide (t < Tryd.prog.types.size))) = true := by kernel_rfl
theorem symbolInvertedFact20 : ((Rows.symbolInvertedRow.ifacesOut == Tryd.f8.resultTypes.toList.any (Tryd.prog.ifacesRec ·))) = true := by kernel_rfl
theorem symbolInvertedFact21 : ((Rows.symbolInvertedRow.loopsOut == Tryd.f8.resultTypes.toList.any (Tryd.prog.loopsFrom ·))) = true := by kernel_rfl
theorem symbolInvertedFact22 : ((Rows.symbolInvertedRow.plainKeys == Tryd.prog.plainKeys)) = true := by kernel_rfl
theorem symbolInvertedFact23 : (Rows.symbolInvertedRow.shortTexts.isNone) = true := by kernel_rfl
theorem symbolInvertedFact24 : (Tryd.prog.stopsHeard) = true := fHeard
theorem symbolInvertedFact25 : (Tryd.prog.mayEnter) = true := fEnter
theorem symbolInvertedFact26 : ((Rows.symbolInvertedRow.lifted == Tryd.prog.liftsFinal)) = true := by kernel_rfl
theorem symbolInvertedFact27 : ((Tryd.prog.make == some Rows.symbolInvertedRow.make)) = true := by kernel_rfl
theorem symbolInvertedFacts : joinedFacts Tryd.prog 8 Tryd.f8 Rows.symbolInvertedSpec Rows.symbolInvertedRow = true := by
 unfold joinedFacts
 rw [symbolInvertedFact0, symbolInvertedFact1, symbolInvertedFact2, symbolInvertedFact3, symbolInvertedFact4, symbolInvertedFact5, symbolInvertedFact6, symbolInvertedFact7, symbolInvertedFact8, symbolInvertedFact9, symbolInvertedFact10, symbolInvertedFact11, symbolInvertedFact12, symbolInvertedFact13, symbolInvertedFact14, symbolInvertedFact15, symbolInvertedFact16, symbolInvertedFact17, symbolInvertedFact18, symbolInvertedFact19, symbolInvertedFact20, symbolInvertedFact21, symbolInvertedFact22, symbolInvertedFact23, symbolInvertedFact24, symbolInvertedFact25, symbolInvertedFact26, symbolInvertedFact27]
 kernel_rfl
theorem symbolInvertedNamed : Tryd.prog.funcNamed "cassegrain/cassegrainlaw04.SymbolInverted" = some 8 := by kernel_rfl
theorem symbolInverted_holds : Rows.SymbolInvertedSaid :=
 OpenClaim.holds_of_wide 8 Tryd.f8 rfl rfl rfl rfl rfl rfl rfl ⟨rfl, rfl, rfl, rfl, rfl⟩ rfl rfl rfl rfl rfl symbolInvertedNamed Tryd.func8 symbolInvertedFacts
  (of_decide_eq_true (by kernel_rfl)) (by unfold Func.isWrapper; first | (rw [if_pos (by decide +kernel)]; kernel_rfl) | (rw [if_neg (by decide +kernel)]; exact ⟨rfl, rfl⟩))
  (fun os started H enc _ => symbolInvertedLifted os started H enc)
theorem symbolInvertedParams : (Tryd.f8.params.toList.all fun t => !Tryd.prog.wantsStandIn t) = true := by kernel_rfl
theorem symbolInvertedWf : Rows.symbolInvertedRow.wfByText (OpenSpec.ofChange Rows.symbolInvertedSpec) = true := by kernel_rfl
theorem symbolInvertedGoes : false = Rows.symbolInvertedRow.goesBy Tryd.pinned.checked.prog := by kernel_rfl
theorem symbolInverted_card : Rows.SymbolInvertedCardSaid :=
 Claim7.holds_tied_plain_at .later [] [.data, .data, .data] true (true, "fc35d03b8b601be7e2432c9146edea038834c15e3c955cd5ed778deb69910b8c") false
  symbolInverted_holds (fun _ h => by cases h) symbolInvertedWf (fun _ h => by cases h) symbolInverted_row_tie rfl ⟨rfl, rfl⟩ fMain rfl
  (fun f fn hf hfn => by
    obtain rfl : f = 8 := Option.some.inj (symbolInvertedNamed.symm.trans hf) |>.symm
    obtain rfl : fn = Tryd.f8 := (Option.some.inj (Tryd.func8.symm.trans hfn)).symm
    exact ⟨fLooks, fun j t ht => by
     have := List.all_eq_true.1 symbolInvertedParams t (by rw [Array.mem_toList_iff]; exact Array.mem_of_getElem? ht)
     show Tryd.prog.wantsStandIn t = false
     simpa using this⟩)
  symbolInvertedGoes
#print axioms symbolInverted_card
end Go.Proofs.YthckjfbhdjjnkaaDoor
