import Derived.Test.YthckjfbhdjjnkaaDoorSpacingLaw
import Derived.Test.YthckjfbhdjjnkaaDoorFacts4
import Derived.Test.YthckjfbhdjjnkaaDoorTie
import Derived.Test.YthckjfbhdjjnkaaDoorCards
import Derived.WalkKit
import Derived.ProofKit
import Derived.OpenShut
import Derived.JoinedCond
import Derived.SevenTiedAt
set_option linter.unusedSimpArgs false
namespace Go.Proofs.YthckjfbhdjjnkaaDoor
open Go.Ev Go.ChangeShapes Go.WideShapes Go.ChangeAt Go.RowKit
theorem symbolSpacingLaw : ∀ cs, Typed [(.agg (.pair (.slice (.int .i64)) (.pair (.int .i64) (.pair (.int .i64) (.pair (.int .i64) (.pair (.int .i64) (.int .i64))))))), (.slice (.int .i64))] cs → Meets Tryd.prog 5 cs saysTrue := law_of_spec (shs := [(.agg (.pair (.slice (.int .i64)) (.pair (.int .i64) (.pair (.int .i64) (.pair (.int .i64) (.pair (.int .i64) (.int .i64))))))), (.slice (.int .i64))]) i5 (fun x _ => spacing_true x.1 x.2)
set_option maxRecDepth 100000 in
theorem symbolSpacingLifted (os : Os) (started : os.Started) (H : Type) (enc : TypeId × Value → H) :
 ReturnsInHanded {} Tryd.checked os 5 .any (fun w args => (Rows.symbolSpacingSpec.pre enc Tryd.prog Tryd.f5 Rows.symbolSpacingRow.domain false w args ∧ laidMet Tryd.prog spLaid w) ∧ sizedMet enc Tryd.prog Tryd.f5 (OpenSpec.ofChange Rows.symbolSpacingSpec) false w args)
  (Rows.symbolSpacingSpec.post enc Tryd.prog Tryd.f5 false true false false) := by
 refine returnsInHanded_of_change_and (C := Tryd.checked) (X := fun w _ => laidMet Tryd.prog spLaid w) (fun _ _ _ hh h => h.of_heap hh) own started (by kernel_rfl) Tryd.func5
  (ChangeSpec.witness_at (enc := enc) (C := Tryd.checked) (os := os) (X := fun w _ => laidMet Tryd.prog spLaid w) false (laidWorld os) #[.agg #[.slice none 0 0, .int .i64 0, .int .i64 0, .int .i64 0, .int .i64 0, .int .i64 0], .slice none 0 0] 8 rfl (by kernel_rfl) (by kernel_rfl) (by kernel_rfl) (by kernel_rfl) (by kernel_rfl) (laidWorld_met os _)) ?_
 intro W base args ds gs before hval hW _ _ hL _
 refine contract_of_law (shs := [(.agg (.pair (.slice (.int .i64)) (.pair (.int .i64) (.pair (.int .i64) (.pair (.int .i64) (.pair (.int .i64) (.int .i64))))))), (.slice (.int .i64))]) (tb := 4) laid (by kernel_rfl) (by kernel_rfl) rfl (by kernel_rfl) (by kernel_rfl) rfl (fun ds h => ?_) symbolSpacingLaw (globsOf_laid hL) hval hW
 match ds, h with
 | [_, _], _ => rfl
set_option maxRecDepth 100000
theorem symbolSpacingFact0 : (Rows.symbolSpacingRow.wf (OpenSpec.ofChange Rows.symbolSpacingSpec)) = true := by kernel_rfl
theorem symbolSpacingFact1 : (laidOutB Tryd.prog) = true := laid
theorem symbolSpacingFact2 : (mapsRowed Tryd.prog) = true := fMaps
theorem symbolSpacingFact3 : (Tryd.f5.params.all (Tryd.prog.readableRec ·)) = true := by kernel_rfl
theorem symbolSpacingFact4 : (namedTie Tryd.prog Rows.symbolSpacingRow.named Rows.symbolSpacingSpec.vars) = true := by kernel_rfl
theorem symbolSpacingFact5 : ((Rows.symbolSpacingRow.stops == [])) = true := by kernel_rfl
theorem symbolSpacingFact6 : ((Tryd.prog.stops == [])) = true := by rw [fStops]; rfl
theorem symbolSpacingFact7 : ((Rows.symbolSpacingRow.knobs == [])) = true := by kernel_rfl
theorem symbolSpacingFact8 : ((Tryd.prog.stopKnobs == [])) = true := by rw [fKnobs]; rfl
theorem symbolSpacingFact9 : ((Rows.symbolSpacingRow.inPlace == Tryd.prog.inPlace 5)) = true := by kernel_rfl
theorem symbolSpacingFact10 : ((Rows.symbolSpacingRow.unfollowed == Tryd.prog.unfollowed 5)) = true := by kernel_rfl
theorem symbolSpacingFact11 : ((Rows.symbolSpacingRow.recurses == Tryd.prog.recurses 5)) = true := by kernel_rfl
theorem symbolSpacingFact12 : ((Rows.symbolSpacingRow.named == Tryd.prog.varsNamed 5)) = true := by kernel_rfl
theorem symbolSpacingFact13 : ((Rows.symbolSpacingRow.maps == (Tryd.f5.params.toList ++ Rows.symbolSpacingSpec.plain.varTypes Tryd.prog).any (Tryd.prog.mapsRec ·))) = true := by kernel_rfl
theorem symbolSpacingFact14 : ((Rows.symbolSpacingRow.ifaces == (Tryd.f5.params.toList ++ Rows.symbolSpacingSpec.plain.varTypes Tryd.prog).any (Tryd.prog.ifacesRec ·))) = true := by kernel_rfl
theorem symbolSpacingFact15 : ((Rows.symbolSpacingRow.mapsOut == Tryd.prog.mapsAmong Tryd.f5.resultTypes.toList)) = true := by kernel_rfl
theorem symbolSpacingFact16 : ((Rows.symbolSpacingRow.loops == (Tryd.f5.params.toList ++ Rows.symbolSpacingSpec.plain.varTypes Tryd.prog).any (Tryd.prog.loopsFrom ·))) = true := by kernel_rfl
theorem symbolSpacingFact17 : ((Rows.symbolSpacingRow.wideKeys == (Tryd.f5.params.toList ++ Rows.symbolSpacingSpec.plain.varTypes Tryd.prog ++ Tryd.f5.resultTypes.toList).any (Tryd.prog.wideKeysFrom ·))) = true := by kernel_rfl
theorem symbolSpacingFact18 : (Rows.symbolSpacingSpec.vars.all (Tryd.prog.varReadable ·)) = true := by kernel_rfl
theorem symbolSpacingFact19 : (Tryd.f5.resultTypes.all (fun t => Tryd.prog.readableRec t && decide (t < Tryd.prog.types.size))) = true := by kernel_rfl
theorem symbolSpacingFact20 : ((Rows.symbolSpacingRow.ifacesOut == Tryd.f5.resultTypes.toList.any (Tryd.prog.ifacesRec ·))) = true := by kernel_rfl
theorem symbolSpacingFact21 : ((Rows.symbolSpacingRow.loopsOut == Tryd.f5.resultTypes.toList.any (Tryd.prog.loopsFrom ·))) = true := by kernel_rfl
theorem symbolSpacingFact22 : ((Rows.symbolSpacingRow.plainKeys == Tryd.prog.plainKeys)) = true := by kernel_rfl
theorem symbolSpacingFact23 : (Rows.symbolSpacingRow.shortTexts.isNone) = true := by kernel_rfl
theorem symbolSpacingFact24 : (Tryd.prog.stopsHeard) = true := fHeard
theorem symbolSpacingFact25 : (Tryd.prog.mayEnter) = true := fEnter
theorem symbolSpacingFact26 : ((Rows.symbolSpacingRow.lifted == Tryd.prog.liftsFinal)) = true := by kernel_rfl
theorem symbolSpacingFact27 : ((Tryd.prog.make == some Rows.symbolSpacingRow.make)) = true := by kernel_rfl
theorem symbolSpacingFacts : joinedFacts Tryd.prog 5 Tryd.f5 Rows.symbolSpacingSpec Rows.symbolSpacingRow = true := by
 unfold joinedFacts
 rw [symbolSpacingFact0, symbolSpacingFact1, symbolSpacingFact2, symbolSpacingFact3, symbolSpacingFact4, symbolSpacingFact5, symbolSpacingFact6, symbolSpacingFact7, symbolSpacingFact8, symbolSpacingFact9, symbolSpacingFact10, symbolSpacingFact11, symbolSpacingFact12, symbolSpacingFact13, symbolSpacingFact14, symbolSpacingFact15, symbolSpacingFact16, symbolSpacingFact17, symbolSpacingFact18, symbolSpacingFact19, symbolSpacingFact20, symbolSpacingFact21, symbolSpacingFact22, symbolSpacingFact23, symbolSpacingFact24, symbolSpacingFact25, symbolSpacingFact26, symbolSpacingFact27]
 kernel_rfl
theorem symbolSpacingNamed : Tryd.prog.funcNamed "cassegrain/cassegrainlaw04.SymbolSpacing" = some 5 := by kernel_rfl
theorem symbolSpacing_holds : Rows.SymbolSpacingSaid :=
 OpenClaim.holds_of_wide 5 Tryd.f5 rfl rfl rfl rfl rfl rfl rfl ⟨rfl, rfl, rfl, rfl, rfl⟩ rfl rfl rfl rfl rfl symbolSpacingNamed Tryd.func5 symbolSpacingFacts
  (of_decide_eq_true (by kernel_rfl)) (by unfold Func.isWrapper; first | (rw [if_pos (by decide +kernel)]; kernel_rfl) | (rw [if_neg (by decide +kernel)]; exact ⟨rfl, rfl⟩))
  (fun os started H enc _ => symbolSpacingLifted os started H enc)
theorem symbolSpacingParams : (Tryd.f5.params.toList.all fun t => !Tryd.prog.wantsStandIn t) = true := by kernel_rfl
theorem symbolSpacingWf : Rows.symbolSpacingRow.wfByText (OpenSpec.ofChange Rows.symbolSpacingSpec) = true := by kernel_rfl
theorem symbolSpacingGoes : false = Rows.symbolSpacingRow.goesBy Tryd.pinned.checked.prog := by kernel_rfl
theorem symbolSpacing_card : Rows.SymbolSpacingCardSaid :=
 Claim7.holds_tied_plain_at .later [] [.data, .data, .data] true (true, "fc35d03b8b601be7e2432c9146edea038834c15e3c955cd5ed778deb69910b8c") false
  symbolSpacing_holds (fun _ h => by cases h) symbolSpacingWf (fun _ h => by cases h) symbolSpacing_row_tie rfl ⟨rfl, rfl⟩ fMain rfl
  (fun f fn hf hfn => by
    obtain rfl : f = 5 := Option.some.inj (symbolSpacingNamed.symm.trans hf) |>.symm
    obtain rfl : fn = Tryd.f5 := (Option.some.inj (Tryd.func5.symm.trans hfn)).symm
    exact ⟨fLooks, fun j t ht => by
     have := List.all_eq_true.1 symbolSpacingParams t (by rw [Array.mem_toList_iff]; exact Array.mem_of_getElem? ht)
     show Tryd.prog.wantsStandIn t = false
     simpa using this⟩)
  symbolSpacingGoes
#print axioms symbolSpacing_card
end Go.Proofs.YthckjfbhdjjnkaaDoor
