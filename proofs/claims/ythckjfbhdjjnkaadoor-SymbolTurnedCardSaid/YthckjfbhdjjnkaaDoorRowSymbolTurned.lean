import Derived.Test.YthckjfbhdjjnkaaDoorTurnLaw
import Derived.Test.YthckjfbhdjjnkaaDoorFacts4
import Derived.Test.YthckjfbhdjjnkaaDoorTie
import Derived.Test.YthckjfbhdjjnkaaDoorCards
import Derived.WalkKit
import Derived.ProofKit
import Derived.OpenShut
import Derived.JoinedCond
import Derived.SevenTiedAt
set_option linter.unusedSimpArgs false
namespace Go.Proofs.YthckjfbhdjjnkaaDoor
open Go.Ev Go.ChangeShapes Go.WideShapes Go.ChangeAt Go.RowKit
theorem symbolTurnedLaw : ∀ cs, Typed [(.slice (.agg (.pair (.int .i64) (.int .i64)))), (.agg (.pair (.int .i64) (.int .i64))), (.int .i64)] cs → Meets Tryd.prog 14 cs saysTrue := law_of_spec (shs := [(.slice (.agg (.pair (.int .i64) (.int .i64)))), (.agg (.pair (.int .i64) (.int .i64))), (.int .i64)]) i14 (fun x _ => turned_true x.1 x.2.1 x.2.2)
set_option maxRecDepth 100000 in
theorem symbolTurnedLifted (os : Os) (started : os.Started) (H : Type) (enc : TypeId × Value → H) :
 ReturnsInHanded {} Tryd.checked os 14 .any (fun w args => (Rows.symbolTurnedSpec.pre enc Tryd.prog Tryd.f14 Rows.symbolTurnedRow.domain false w args ∧ laidMet Tryd.prog spLaid w) ∧ sizedMet enc Tryd.prog Tryd.f14 (OpenSpec.ofChange Rows.symbolTurnedSpec) false w args)
  (Rows.symbolTurnedSpec.post enc Tryd.prog Tryd.f14 false true false false) := by
 refine returnsInHanded_of_change_and (C := Tryd.checked) (X := fun w _ => laidMet Tryd.prog spLaid w) (fun _ _ _ hh h => h.of_heap hh) own started (by kernel_rfl) Tryd.func14
  (ChangeSpec.witness_at (enc := enc) (C := Tryd.checked) (os := os) (X := fun w _ => laidMet Tryd.prog spLaid w) false (laidWorld os) #[.slice none 0 0, .agg #[.int .i64 0, .int .i64 0], .int .i64 0] 8 rfl (by kernel_rfl) (by kernel_rfl) (by kernel_rfl) (by kernel_rfl) (by kernel_rfl) (laidWorld_met os _)) ?_
 intro W base args ds gs before hval hW _ _ hL _
 refine contract_of_law (shs := [(.slice (.agg (.pair (.int .i64) (.int .i64)))), (.agg (.pair (.int .i64) (.int .i64))), (.int .i64)]) (tb := 4) laid (by kernel_rfl) (by kernel_rfl) rfl (by kernel_rfl) (by kernel_rfl) rfl (fun ds h => ?_) symbolTurnedLaw (globsOf_laid hL) hval hW
 match ds, h with
 | [_, _, _], _ => rfl
set_option maxRecDepth 100000
theorem symbolTurnedFact0 : (Rows.symbolTurnedRow.wf (OpenSpec.ofChange Rows.symbolTurnedSpec)) = true := by kernel_rfl
theorem symbolTurnedFact1 : (laidOutB Tryd.prog) = true := laid
theorem symbolTurnedFact2 : (mapsRowed Tryd.prog) = true := fMaps
theorem symbolTurnedFact3 : (Tryd.f14.params.all (Tryd.prog.readableRec ·)) = true := by kernel_rfl
theorem symbolTurnedFact4 : (namedTie Tryd.prog Rows.symbolTurnedRow.named Rows.symbolTurnedSpec.vars) = true := by kernel_rfl
theorem symbolTurnedFact5 : ((Rows.symbolTurnedRow.stops == [])) = true := by kernel_rfl
theorem symbolTurnedFact6 : ((Tryd.prog.stops == [])) = true := by rw [fStops]; rfl
theorem symbolTurnedFact7 : ((Rows.symbolTurnedRow.knobs == [])) = true := by kernel_rfl
theorem symbolTurnedFact8 : ((Tryd.prog.stopKnobs == [])) = true := by rw [fKnobs]; rfl
theorem symbolTurnedFact9 : ((Rows.symbolTurnedRow.inPlace == Tryd.prog.inPlace 14)) = true := by kernel_rfl
theorem symbolTurnedFact10 : ((Rows.symbolTurnedRow.unfollowed == Tryd.prog.unfollowed 14)) = true := by kernel_rfl
theorem symbolTurnedFact11 : ((Rows.symbolTurnedRow.recurses == Tryd.prog.recurses 14)) = true := by kernel_rfl
theorem symbolTurnedFact12 : ((Rows.symbolTurnedRow.named == Tryd.prog.varsNamed 14)) = true := by kernel_rfl
theorem symbolTurnedFact13 : ((Rows.symbolTurnedRow.maps == (Tryd.f14.params.toList ++ Rows.symbolTurnedSpec.plain.varTypes Tryd.prog).any (Tryd.prog.mapsRec ·))) = true := by kernel_rfl
theorem symbolTurnedFact14 : ((Rows.symbolTurnedRow.ifaces == (Tryd.f14.params.toList ++ Rows.symbolTurnedSpec.plain.varTypes Tryd.prog).any (Tryd.prog.ifacesRec ·))) = true := by kernel_rfl
theorem symbolTurnedFact15 : ((Rows.symbolTurnedRow.mapsOut == Tryd.prog.mapsAmong Tryd.f14.resultTypes.toList)) = true := by kernel_rfl
theorem symbolTurnedFact16 : ((Rows.symbolTurnedRow.loops == (Tryd.f14.params.toList ++ Rows.symbolTurnedSpec.plain.varTypes Tryd.prog).any (Tryd.prog.loopsFrom ·))) = true := by kernel_rfl
theorem symbolTurnedFact17 : ((Rows.symbolTurnedRow.wideKeys == (Tryd.f14.params.toList ++ Rows.symbolTurnedSpec.plain.varTypes Tryd.prog ++ Tryd.f14.resultTypes.toList).any (Tryd.prog.wideKeysFrom ·))) = true := by kernel_rfl
theorem symbolTurnedFact18 : (Rows.symbolTurnedSpec.vars.all (Tryd.prog.varReadable ·)) = true := by kernel_rfl
theorem symbolTurnedFact19 : (Tryd.f14.resultTypes.all (fun t => Tryd.prog.readableRec t && decide (t < Tryd.prog.types.size))) = true := by kernel_rfl
theorem symbolTurnedFact20 : ((Rows.symbolTurnedRow.ifacesOut == Tryd.f14.resultTypes.toList.any (Tryd.prog.ifacesRec ·))) = true := by kernel_rfl
theorem symbolTurnedFact21 : ((Rows.symbolTurnedRow.loopsOut == Tryd.f14.resultTypes.toList.any (Tryd.prog.loopsFrom ·))) = true := by kernel_rfl
theorem symbolTurnedFact22 : ((Rows.symbolTurnedRow.plainKeys == Tryd.prog.plainKeys)) = true := by kernel_rfl
theorem symbolTurnedFact23 : (Rows.symbolTurnedRow.shortTexts.isNone) = true := by kernel_rfl
theorem symbolTurnedFact24 : (Tryd.prog.stopsHeard) = true := fHeard
theorem symbolTurnedFact25 : (Tryd.prog.mayEnter) = true := fEnter
theorem symbolTurnedFact26 : ((Rows.symbolTurnedRow.lifted == Tryd.prog.liftsFinal)) = true := by kernel_rfl
theorem symbolTurnedFact27 : ((Tryd.prog.make == some Rows.symbolTurnedRow.make)) = true := by kernel_rfl
theorem symbolTurnedFacts : joinedFacts Tryd.prog 14 Tryd.f14 Rows.symbolTurnedSpec Rows.symbolTurnedRow = true := by
 unfold joinedFacts
 rw [symbolTurnedFact0, symbolTurnedFact1, symbolTurnedFact2, symbolTurnedFact3, symbolTurnedFact4, symbolTurnedFact5, symbolTurnedFact6, symbolTurnedFact7, symbolTurnedFact8, symbolTurnedFact9, symbolTurnedFact10, symbolTurnedFact11, symbolTurnedFact12, symbolTurnedFact13, symbolTurnedFact14, symbolTurnedFact15, symbolTurnedFact16, symbolTurnedFact17, symbolTurnedFact18, symbolTurnedFact19, symbolTurnedFact20, symbolTurnedFact21, symbolTurnedFact22, symbolTurnedFact23, symbolTurnedFact24, symbolTurnedFact25, symbolTurnedFact26, symbolTurnedFact27]
 kernel_rfl
theorem symbolTurnedNamed : Tryd.prog.funcNamed "cassegrain/cassegrainlaw04.SymbolTurned" = some 14 := by kernel_rfl
theorem symbolTurned_holds : Rows.SymbolTurnedSaid :=
 OpenClaim.holds_of_wide 14 Tryd.f14 rfl rfl rfl rfl rfl rfl rfl ⟨rfl, rfl, rfl, rfl, rfl⟩ rfl rfl rfl rfl rfl symbolTurnedNamed Tryd.func14 symbolTurnedFacts
  (of_decide_eq_true (by kernel_rfl)) (by unfold Func.isWrapper; first | (rw [if_pos (by decide +kernel)]; kernel_rfl) | (rw [if_neg (by decide +kernel)]; exact ⟨rfl, rfl⟩))
  (fun os started H enc _ => symbolTurnedLifted os started H enc)
theorem symbolTurnedParams : (Tryd.f14.params.toList.all fun t => !Tryd.prog.wantsStandIn t) = true := by kernel_rfl
theorem symbolTurnedWf : Rows.symbolTurnedRow.wfByText (OpenSpec.ofChange Rows.symbolTurnedSpec) = true := by kernel_rfl
theorem symbolTurnedGoes : false = Rows.symbolTurnedRow.goesBy Tryd.pinned.checked.prog := by kernel_rfl
theorem symbolTurned_card : Rows.SymbolTurnedCardSaid :=
 Claim7.holds_tied_plain_at .later [] [.data, .data, .data] true (true, "fc35d03b8b601be7e2432c9146edea038834c15e3c955cd5ed778deb69910b8c") false
  symbolTurned_holds (fun _ h => by cases h) symbolTurnedWf (fun _ h => by cases h) symbolTurned_row_tie rfl ⟨rfl, rfl⟩ fMain rfl
  (fun f fn hf hfn => by
    obtain rfl : f = 14 := Option.some.inj (symbolTurnedNamed.symm.trans hf) |>.symm
    obtain rfl : fn = Tryd.f14 := (Option.some.inj (Tryd.func14.symm.trans hfn)).symm
    exact ⟨fLooks, fun j t ht => by
     have := List.all_eq_true.1 symbolTurnedParams t (by rw [Array.mem_toList_iff]; exact Array.mem_of_getElem? ht)
     show Tryd.prog.wantsStandIn t = false
     simpa using this⟩)
  symbolTurnedGoes
#print axioms symbolTurned_card
end Go.Proofs.YthckjfbhdjjnkaaDoor
