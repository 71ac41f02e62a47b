import Derived.Test.YthckjfbhdjjnkaaDoorSeqsLaw
import Derived.Test.YthckjfbhdjjnkaaDoorFacts4
import Derived.Test.YthckjfbhdjjnkaaDoorTie
import Derived.Test.YthckjfbhdjjnkaaDoorCards
import Derived.WalkKit
import Derived.ProofKit
import Derived.OpenShut
import Derived.JoinedCond
import Derived.SevenTiedAt
set_option linter.unusedSimpArgs false
namespace Go.Proofs.YthckjfbhdjjnkaaDoor
open Go.Ev Go.ChangeShapes Go.WideShapes Go.ChangeAt Go.RowKit
theorem symbolSequencesLaw : ∀ cs, Typed [(.agg (.pair (.int .i64) (.pair (.int .i64) (.int .i64)))), (.int .i64), (.slice (.int .i64))] cs → Meets Tryd.prog 9 cs saysTrue := law_of_spec (shs := [(.agg (.pair (.int .i64) (.pair (.int .i64) (.int .i64)))), (.int .i64), (.slice (.int .i64))]) i9 (fun x _ => sequences_true x.1 x.2.1 x.2.2)
set_option maxRecDepth 100000 in
theorem symbolSequencesLifted (os : Os) (started : os.Started) (H : Type) (enc : TypeId × Value → H) :
 ReturnsInHanded {} Tryd.checked os 9 .any (fun w args => (Rows.symbolSequencesSpec.pre enc Tryd.prog Tryd.f9 Rows.symbolSequencesRow.domain false w args ∧ laidMet Tryd.prog spLaid w) ∧ sizedMet enc Tryd.prog Tryd.f9 (OpenSpec.ofChange Rows.symbolSequencesSpec) false w args)
  (Rows.symbolSequencesSpec.post enc Tryd.prog Tryd.f9 false true false false) := by
 refine returnsInHanded_of_change_and (C := Tryd.checked) (X := fun w _ => laidMet Tryd.prog spLaid w) (fun _ _ _ hh h => h.of_heap hh) own started (by kernel_rfl) Tryd.func9
  (ChangeSpec.witness_at (enc := enc) (C := Tryd.checked) (os := os) (X := fun w _ => laidMet Tryd.prog spLaid w) false (laidWorld os) #[.agg #[.int .i64 0, .int .i64 0, .int .i64 0], .int .i64 0, .slice none 0 0] 8 rfl (by kernel_rfl) (by kernel_rfl) (by kernel_rfl) (by kernel_rfl) (by kernel_rfl) (laidWorld_met os _)) ?_
 intro W base args ds gs before hval hW _ _ hL _
 refine contract_of_law (shs := [(.agg (.pair (.int .i64) (.pair (.int .i64) (.int .i64)))), (.int .i64), (.slice (.int .i64))]) (tb := 4) laid (by kernel_rfl) (by kernel_rfl) rfl (by kernel_rfl) (by kernel_rfl) rfl (fun ds h => ?_) symbolSequencesLaw (globsOf_laid hL) hval hW
 match ds, h with
 | [_, _, _], _ => rfl
set_option maxRecDepth 100000
theorem symbolSequencesFact0 : (Rows.symbolSequencesRow.wf (OpenSpec.ofChange Rows.symbolSequencesSpec)) = true := by kernel_rfl
theorem symbolSequencesFact1 : (laidOutB Tryd.prog) = true := laid
theorem symbolSequencesFact2 : (mapsRowed Tryd.prog) = true := fMaps
theorem symbolSequencesFact3 : (Tryd.f9.params.all (Tryd.prog.readableRec ·)) = true := by kernel_rfl
theorem symbolSequencesFact4 : (namedTie Tryd.prog Rows.symbolSequencesRow.named Rows.symbolSequencesSpec.vars) = true := by kernel_rfl
theorem symbolSequencesFact5 : ((Rows.symbolSequencesRow.stops == [])) = true := by kernel_rfl
theorem symbolSequencesFact6 : ((Tryd.prog.stops == [])) = true := by rw [fStops]; rfl
theorem symbolSequencesFact7 : ((Rows.symbolSequencesRow.knobs == [])) = true := by kernel_rfl
theorem symbolSequencesFact8 : ((Tryd.prog.stopKnobs == [])) = true := by rw [fKnobs]; rfl
theorem symbolSequencesFact9 : ((Rows.symbolSequencesRow.inPlace == Tryd.prog.inPlace 9)) = true := by kernel_rfl
theorem symbolSequencesFact10 : ((Rows.symbolSequencesRow.unfollowed == Tryd.prog.unfollowed 9)) = true := by kernel_rfl
theorem symbolSequencesFact11 : ((Rows.symbolSequencesRow.recurses == Tryd.prog.recurses 9)) = true := by kernel_rfl
theorem symbolSequencesFact12 : ((Rows.symbolSequencesRow.named == Tryd.prog.varsNamed 9)) = true := by kernel_rfl
theorem symbolSequencesFact13 : ((Rows.symbolSequencesRow.maps == (Tryd.f9.params.toList ++ Rows.symbolSequencesSpec.plain.varTypes Tryd.prog).any (Tryd.prog.mapsRec ·))) = true := by kernel_rfl
theorem symbolSequencesFact14 : ((Rows.symbolSequencesRow.ifaces == (Tryd.f9.params.toList ++ Rows.symbolSequencesSpec.plain.varTypes Tryd.prog).any (Tryd.prog.ifacesRec ·))) = true := by kernel_rfl
theorem symbolSequencesFact15 : ((Rows.symbolSequencesRow.mapsOut == Tryd.prog.mapsAmong Tryd.f9.resultTypes.toList)) = true := by kernel_rfl
theorem symbolSequencesFact16 : ((Rows.symbolSequencesRow.loops == (Tryd.f9.params.toList ++ Rows.symbolSequencesSpec.plain.varTypes Tryd.prog).any (Tryd.prog.loopsFrom ·))) = true := by kernel_rfl
theorem symbolSequencesFact17 : ((Rows.symbolSequencesRow.wideKeys == (Tryd.f9.params.toList ++ Rows.symbolSequencesSpec.plain.varTypes Tryd.prog ++ Tryd.f9.resultTypes.toList).any (Tryd.prog.wideKeysFrom ·))) = true := by kernel_rfl
theorem symbolSequencesFact18 : (Rows.symbolSequencesSpec.vars.all (Tryd.prog.varReadable ·)) = true := by kernel_rfl
theorem symbolSequencesFact19 : (Tryd.f9.resultTypes.all (fun t => Tryd.prog.readableRec t && decide (t < Tryd.prog.types.size))) = true := by kernel_rfl
theorem symbolSequencesFact20 : ((Rows.symbolSequencesRow.ifacesOut == Tryd.f9.resultTypes.toList.any (Tryd.prog.ifacesRec ·))) = true := by kernel_rfl
theorem symbolSequencesFact21 : ((Rows.symbolSequencesRow.loopsOut == Tryd.f9.resultTypes.toList.any (Tryd.prog.loopsFrom ·))) = true := by kernel_rfl
theorem symbolSequencesFact22 : ((Rows.symbolSequencesRow.plainKeys == Tryd.prog.plainKeys)) = true := by kernel_rfl
theorem symbolSequencesFact23 : (Rows.symbolSequencesRow.shortTexts.isNone) = true := by kernel_rfl
theorem symbolSequencesFact24 : (Tryd.prog.stopsHeard) = true := fHeard
theorem symbolSequencesFact25 : (Tryd.prog.mayEnter) = true := fEnter
theorem symbolSequencesFact26 : ((Rows.symbolSequencesRow.lifted == Tryd.prog.liftsFinal)) = true := by kernel_rfl
theorem symbolSequencesFact27 : ((Tryd.prog.make == some Rows.symbolSequencesRow.make)) = true := by kernel_rfl
theorem symbolSequencesFacts : joinedFacts Tryd.prog 9 Tryd.f9 Rows.symbolSequencesSpec Rows.symbolSequencesRow = true := by
 unfold joinedFacts
 rw [symbolSequencesFact0, symbolSequencesFact1, symbolSequencesFact2, symbolSequencesFact3, symbolSequencesFact4, symbolSequencesFact5, symbolSequencesFact6, symbolSequencesFact7, symbolSequencesFact8, symbolSequencesFact9, symbolSequencesFact10, symbolSequencesFact11, symbolSequencesFact12, symbolSequencesFact13, symbolSequencesFact14, symbolSequencesFact15, symbolSequencesFact16, symbolSequencesFact17, symbolSequencesFact18, symbolSequencesFact19, symbolSequencesFact20, symbolSequencesFact21, symbolSequencesFact22, symbolSequencesFact23, symbolSequencesFact24, symbolSequencesFact25, symbolSequencesFact26, symbolSequencesFact27]
 kernel_rfl
theorem symbolSequencesNamed : Tryd.prog.funcNamed "cassegrain/cassegrainlaw04.SymbolSequences" = some 9 := by kernel_rfl
theorem symbolSequences_holds : Rows.SymbolSequencesSaid :=
 OpenClaim.holds_of_wide 9 Tryd.f9 rfl rfl rfl rfl rfl rfl rfl ⟨rfl, rfl, rfl, rfl, rfl⟩ rfl rfl rfl rfl rfl symbolSequencesNamed Tryd.func9 symbolSequencesFacts
  (of_decide_eq_true (by kernel_rfl)) (by unfold Func.isWrapper; first | (rw [if_pos (by decide +kernel)]; kernel_rfl) | (rw [if_neg (by decide +kernel)]; exact ⟨rfl, rfl⟩))
  (fun os started H enc _ => symbolSequencesLifted os started H enc)
theorem symbolSequencesParams : (Tryd.f9.params.toList.all fun t => !Tryd.prog.wantsStandIn t) = true := by kernel_rfl
theorem symbolSequencesWf : Rows.symbolSequencesRow.wfByText (OpenSpec.ofChange Rows.symbolSequencesSpec) = true := by kernel_rfl
theorem symbolSequencesGoes : false = Rows.symbolSequencesRow.goesBy Tryd.pinned.checked.prog := by kernel_rfl
theorem symbolSequences_card : Rows.SymbolSequencesCardSaid :=
 Claim7.holds_tied_plain_at .later [] [.data, .data, .data] true (true, "fc35d03b8b601be7e2432c9146edea038834c15e3c955cd5ed778deb69910b8c") false
  symbolSequences_holds (fun _ h => by cases h) symbolSequencesWf (fun _ h => by cases h) symbolSequences_row_tie rfl ⟨rfl, rfl⟩ fMain rfl
  (fun f fn hf hfn => by
    obtain rfl : f = 9 := Option.some.inj (symbolSequencesNamed.symm.trans hf) |>.symm
    obtain rfl : fn = Tryd.f9 := (Option.some.inj (Tryd.func9.symm.trans hfn)).symm
    exact ⟨fLooks, fun j t ht => by
     have := List.all_eq_true.1 symbolSequencesParams t (by rw [Array.mem_toList_iff]; exact Array.mem_of_getElem? ht)
     show Tryd.prog.wantsStandIn t = false
     simpa using this⟩)
  symbolSequencesGoes
#print axioms symbolSequences_card
end Go.Proofs.YthckjfbhdjjnkaaDoor
