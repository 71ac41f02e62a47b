/- SymbolRegular: the statement holds for every input; condition: the package-level variables read as listed, which the card ties to the program's text. -/
import Derived.Test.YthckjfbhdjjnkaaDoorRegLaw
import Derived.Test.YthckjfbhdjjnkaaDoorFacts4
import Derived.Test.YthckjfbhdjjnkaaDoorTie
import Derived.Test.YthckjfbhdjjnkaaDoorCards
import Derived.WalkKit
import Derived.ProofKit
import Derived.OpenShut
import Derived.JoinedCond
import Derived.SevenTiedAt
set_option linter.unusedSimpArgs false
namespace Go.Proofs.YthckjfbhdjjnkaaDoor
open Go.Ev Go.ChangeShapes Go.WideShapes Go.ChangeAt Go.RowKit
theorem symbolRegularLaw : ∀ cs, Typed [(.agg (.pair (.slice (.int .i64)) (.pair (.int .i64) (.pair (.int .i64) (.pair (.int .i64) (.pair (.int .i64) (.int .i64))))))), (.slice (.slice (.int .i64))), (.slice (.int .i64))] cs → Meets Tryd.prog 12 cs saysTrue := law_of_spec (shs := [(.agg (.pair (.slice (.int .i64)) (.pair (.int .i64) (.pair (.int .i64) (.pair (.int .i64) (.pair (.int .i64) (.int .i64))))))), (.slice (.slice (.int .i64))), (.slice (.int .i64))]) i12 (fun x _ => regular_true x.1 x.2.1 x.2.2)
set_option maxRecDepth 100000 in
theorem symbolRegularLifted (os : Os) (started : os.Started) (H : Type) (enc : TypeId × Value → H) :
 ReturnsInHanded {} Tryd.checked os 12 .any (fun w args => (Rows.symbolRegularSpec.pre enc Tryd.prog Tryd.f12 Rows.symbolRegularRow.domain false w args ∧ laidMet Tryd.prog spLaid w) ∧ sizedMet enc Tryd.prog Tryd.f12 (OpenSpec.ofChange Rows.symbolRegularSpec) false w args)
  (Rows.symbolRegularSpec.post enc Tryd.prog Tryd.f12 false true false false) := by
 refine returnsInHanded_of_change_and (C := Tryd.checked) (X := fun w _ => laidMet Tryd.prog spLaid w) (fun _ _ _ hh h => h.of_heap hh) own started (by kernel_rfl) Tryd.func12
  (ChangeSpec.witness_at (enc := enc) (C := Tryd.checked) (os := os) (X := fun w _ => laidMet Tryd.prog spLaid w) false (laidWorld os) #[.agg #[.slice none 0 0, .int .i64 0, .int .i64 0, .int .i64 0, .int .i64 0, .int .i64 0], .slice none 0 0, .slice none 0 0] 8 rfl (by kernel_rfl) (by kernel_rfl) (by kernel_rfl) (by kernel_rfl) (by kernel_rfl) (laidWorld_met os _)) ?_
 intro W base args ds gs before hval hW _ _ hL _
 refine contract_of_law (shs := [(.agg (.pair (.slice (.int .i64)) (.pair (.int .i64) (.pair (.int .i64) (.pair (.int .i64) (.pair (.int .i64) (.int .i64))))))), (.slice (.slice (.int .i64))), (.slice (.int .i64))]) (tb := 4) laid (by kernel_rfl) (by kernel_rfl) rfl (by kernel_rfl) (by kernel_rfl) rfl (fun ds h => ?_) symbolRegularLaw (globsOf_laid hL) hval hW
 match ds, h with
 | [_, _, _], _ => rfl
set_option maxRecDepth 100000
theorem symbolRegularFact0 : (Rows.symbolRegularRow.wf (OpenSpec.ofChange Rows.symbolRegularSpec)) = true := by kernel_rfl
theorem symbolRegularFact1 : (laidOutB Tryd.prog) = true := laid
theorem symbolRegularFact2 : (mapsRowed Tryd.prog) = true := fMaps
theorem symbolRegularFact3 : (Tryd.f12.params.all (Tryd.prog.readableRec ·)) = true := by kernel_rfl
theorem symbolRegularFact4 : (namedTie Tryd.prog Rows.symbolRegularRow.named Rows.symbolRegularSpec.vars) = true := by kernel_rfl
theorem symbolRegularFact5 : ((Rows.symbolRegularRow.stops == [])) = true := by kernel_rfl
theorem symbolRegularFact6 : ((Tryd.prog.stops == [])) = true := by rw [fStops]; rfl
theorem symbolRegularFact7 : ((Rows.symbolRegularRow.knobs == [])) = true := by kernel_rfl
theorem symbolRegularFact8 : ((Tryd.prog.stopKnobs == [])) = true := by rw [fKnobs]; rfl
theorem symbolRegularFact9 : ((Rows.symbolRegularRow.inPlace == Tryd.prog.inPlace 12)) = true := by kernel_rfl
theorem symbolRegularFact10 : ((Rows.symbolRegularRow.unfollowed == Tryd.prog.unfollowed 12)) = true := by kernel_rfl
theorem symbolRegularFact11 : ((Rows.symbolRegularRow.recurses == Tryd.prog.recurses 12)) = true := by kernel_rfl
theorem symbolRegularFact12 : ((Rows.symbolRegularRow.named == Tryd.prog.varsNamed 12)) = true := by kernel_rfl
theorem symbolRegularFact13 : ((Rows.symbolRegularRow.maps == (Tryd.f12.params.toList ++ Rows.symbolRegularSpec.plain.varTypes Tryd.prog).any (Tryd.prog.mapsRec ·))) = true := by kernel_rfl
theorem symbolRegularFact14 : ((Rows.symbolRegularRow.ifaces == (Tryd.f12.params.toList ++ Rows.symbolRegularSpec.plain.varTypes Tryd.prog).any (Tryd.prog.ifacesRec ·))) = true := by kernel_rfl
theorem symbolRegularFact15 : ((Rows.symbolRegularRow.mapsOut == Tryd.prog.mapsAmong Tryd.f12.resultTypes.toList)) = true := by kernel_rfl
theorem symbolRegularFact16 : ((Rows.symbolRegularRow.loops == (Tryd.f12.params.toList ++ Rows.symbolRegularSpec.plain.varTypes Tryd.prog).any (Tryd.prog.loopsFrom ·))) = true := by kernel_rfl
theorem symbolRegularFact17 : ((Rows.symbolRegularRow.wideKeys == (Tryd.f12.params.toList ++ Rows.symbolRegularSpec.plain.varTypes Tryd.prog ++ Tryd.f12.resultTypes.toList).any (Tryd.prog.wideKeysFrom ·))) = true := by kernel_rfl
theorem symbolRegularFact18 : (Rows.symbolRegularSpec.vars.all (Tryd.prog.varReadable ·)) = true := by kernel_rfl
theorem symbolRegularFact19 : (Tryd.f12.resultTypes.all (fun t => Tryd.prog.readableRec t && decide (t < Tryd.prog.types.size))) = true := by kernel_rfl
theorem symbolRegularFact20 : ((Rows.symbolRegularRow.ifacesOut == Tryd.f12.resultTypes.toList.any (Tryd.prog.ifacesRec ·))) = true := by kernel_rfl
theorem symbolRegularFact21 : ((Rows.symbolRegularRow.loopsOut == Tryd.f12.resultTypes.toList.any (Tryd.prog.loopsFrom ·))) = true := by kernel_rfl
theorem symbolRegularFact22 : ((Rows.symbolRegularRow.plainKeys == Tryd.prog.plainKeys)) = true := by kernel_rfl
theorem symbolRegularFact23 : (Rows.symbolRegularRow.shortTexts.isNone) = true := by kernel_rfl
theorem symbolRegularFact24 : (Tryd.prog.stopsHeard) = true := fHeard
theorem symbolRegularFact25 : (Tryd.prog.mayEnter) = true := fEnter
theorem symbolRegularFact26 : ((Rows.symbolRegularRow.lifted == Tryd.prog.liftsFinal)) = true := by kernel_rfl
theorem symbolRegularFact27 : ((Tryd.prog.make == some Rows.symbolRegularRow.make)) = true := by kernel_rfl
theorem symbolRegularFacts : joinedFacts Tryd.prog 12 Tryd.f12 Rows.symbolRegularSpec Rows.symbolRegularRow = true := by
 unfold joinedFacts
 rw [symbolRegularFact0, symbolRegularFact1, symbolRegularFact2, symbolRegularFact3, symbolRegularFact4, symbolRegularFact5, symbolRegularFact6, symbolRegularFact7, symbolRegularFact8, symbolRegularFact9, symbolRegularFact10, symbolRegularFact11, symbolRegularFact12, symbolRegularFact13, symbolRegularFact14, symbolRegularFact15, symbolRegularFact16, symbolRegularFact17, symbolRegularFact18, symbolRegularFact19, symbolRegularFact20, symbolRegularFact21, symbolRegularFact22, symbolRegularFact23, symbolRegularFact24, symbolRegularFact25, symbolRegularFact26, symbolRegularFact27]
 kernel_rfl
theorem symbolRegularNamed : Tryd.prog.funcNamed "cassegrain/cassegrainlaw04.SymbolRegular" = some 12 := by kernel_rfl
theorem symbolRegular_holds : Rows.SymbolRegularSaid :=
 OpenClaim.holds_of_wide 12 Tryd.f12 rfl rfl rfl rfl rfl rfl rfl ⟨rfl, rfl, rfl, rfl, rfl⟩ rfl rfl rfl rfl rfl symbolRegularNamed Tryd.func12 symbolRegularFacts
  (of_decide_eq_true (by kernel_rfl)) (by unfold Func.isWrapper; first | (rw [if_pos (by decide +kernel)]; kernel_rfl) | (rw [if_neg (by decide +kernel)]; exact ⟨rfl, rfl⟩))
  (fun os started H enc _ => symbolRegularLifted os started H enc)
theorem symbolRegularParams : (Tryd.f12.params.toList.all fun t => !Tryd.prog.wantsStandIn t) = true := by kernel_rfl
theorem symbolRegularWf : Rows.symbolRegularRow.wfByText (OpenSpec.ofChange Rows.symbolRegularSpec) = true := by kernel_rfl
theorem symbolRegularGoes : false = Rows.symbolRegularRow.goesBy Tryd.pinned.checked.prog := by kernel_rfl
theorem symbolRegular_card : Rows.SymbolRegularCardSaid :=
 Claim7.holds_tied_plain_at .later [] [.data, .data, .data] true (true, "fc35d03b8b601be7e2432c9146edea038834c15e3c955cd5ed778deb69910b8c") false
  symbolRegular_holds (fun _ h => by cases h) symbolRegularWf (fun _ h => by cases h) symbolRegular_row_tie rfl ⟨rfl, rfl⟩ fMain rfl
  (fun f fn hf hfn => by
    obtain rfl : f = 12 := Option.some.inj (symbolRegularNamed.symm.trans hf) |>.symm
    obtain rfl : fn = Tryd.f12 := (Option.some.inj (Tryd.func12.symm.trans hfn)).symm
    exact ⟨fLooks, fun j t ht => by
     have := List.all_eq_true.1 symbolRegularParams t (by rw [Array.mem_toList_iff]; exact Array.mem_of_getElem? ht)
     show Tryd.prog.wantsStandIn t = false
     simpa using this⟩)
  symbolRegularGoes
#print axioms symbolRegular_card
end Go.Proofs.YthckjfbhdjjnkaaDoor
