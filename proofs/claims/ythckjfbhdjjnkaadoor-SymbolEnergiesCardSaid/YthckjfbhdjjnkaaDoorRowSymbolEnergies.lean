import Derived.Test.YthckjfbhdjjnkaaDoorEnergyLaw
import Derived.Test.YthckjfbhdjjnkaaDoorFacts4
import Derived.Test.YthckjfbhdjjnkaaDoorTie
import Derived.Test.YthckjfbhdjjnkaaDoorCards
import Derived.WalkKit
import Derived.ProofKit
import Derived.OpenShut
import Derived.JoinedCond
import Derived.SevenTiedAt
set_option linter.unusedSimpArgs false
namespace Go.Proofs.YthckjfbhdjjnkaaDoor
open Go.Ev Go.ChangeShapes Go.WideShapes Go.ChangeAt Go.RowKit
theorem symbolEnergiesLaw : ∀ cs, Typed [(.slice (.agg (.pair (.int .i64) (.int .i64)))), (.int .i64), (.int .i64)] cs → Meets Tryd.prog 13 cs saysTrue := law_of_spec (shs := [(.slice (.agg (.pair (.int .i64) (.int .i64)))), (.int .i64), (.int .i64)]) i13 (fun x _ => energies_true x.1 x.2.1 x.2.2)
set_option maxRecDepth 100000 in
theorem symbolEnergiesLifted (os : Os) (started : os.Started) (H : Type) (enc : TypeId × Value → H) :
 ReturnsInHanded {} Tryd.checked os 13 .any (fun w args => (Rows.symbolEnergiesSpec.pre enc Tryd.prog Tryd.f13 Rows.symbolEnergiesRow.domain false w args ∧ laidMet Tryd.prog spLaid w) ∧ sizedMet enc Tryd.prog Tryd.f13 (OpenSpec.ofChange Rows.symbolEnergiesSpec) false w args)
  (Rows.symbolEnergiesSpec.post enc Tryd.prog Tryd.f13 false true false false) := by
 refine returnsInHanded_of_change_and (C := Tryd.checked) (X := fun w _ => laidMet Tryd.prog spLaid w) (fun _ _ _ hh h => h.of_heap hh) own started (by kernel_rfl) Tryd.func13
  (ChangeSpec.witness_at (enc := enc) (C := Tryd.checked) (os := os) (X := fun w _ => laidMet Tryd.prog spLaid w) false (laidWorld os) #[.slice none 0 0, .int .i64 0, .int .i64 0] 8 rfl (by kernel_rfl) (by kernel_rfl) (by kernel_rfl) (by kernel_rfl) (by kernel_rfl) (laidWorld_met os _)) ?_
 intro W base args ds gs before hval hW _ _ hL _
 refine contract_of_law (shs := [(.slice (.agg (.pair (.int .i64) (.int .i64)))), (.int .i64), (.int .i64)]) (tb := 4) laid (by kernel_rfl) (by kernel_rfl) rfl (by kernel_rfl) (by kernel_rfl) rfl (fun ds h => ?_) symbolEnergiesLaw (globsOf_laid hL) hval hW
 match ds, h with
 | [_, _, _], _ => rfl
set_option maxRecDepth 100000
theorem symbolEnergiesFact0 : (Rows.symbolEnergiesRow.wf (OpenSpec.ofChange Rows.symbolEnergiesSpec)) = true := by kernel_rfl
theorem symbolEnergiesFact1 : (laidOutB Tryd.prog) = true := laid
theorem symbolEnergiesFact2 : (mapsRowed Tryd.prog) = true := fMaps
theorem symbolEnergiesFact3 : (Tryd.f13.params.all (Tryd.prog.readableRec ·)) = true := by kernel_rfl
theorem symbolEnergiesFact4 : (namedTie Tryd.prog Rows.symbolEnergiesRow.named Rows.symbolEnergiesSpec.vars) = true := by kernel_rfl
theorem symbolEnergiesFact5 : ((Rows.symbolEnergiesRow.stops == [])) = true := by kernel_rfl
theorem symbolEnergiesFact6 : ((Tryd.prog.stops == [])) = true := by rw [fStops]; rfl
theorem symbolEnergiesFact7 : ((Rows.symbolEnergiesRow.knobs == [])) = true := by kernel_rfl
theorem symbolEnergiesFact8 : ((Tryd.prog.stopKnobs == [])) = true := by rw [fKnobs]; rfl
theorem symbolEnergiesFact9 : ((Rows.symbolEnergiesRow.inPlace == Tryd.prog.inPlace 13)) = true := by kernel_rfl
theorem symbolEnergiesFact10 : ((Rows.symbolEnergiesRow.unfollowed == Tryd.prog.unfollowed 13)) = true := by kernel_rfl
theorem symbolEnergiesFact11 : ((Rows.symbolEnergiesRow.recurses == Tryd.prog.recurses 13)) = true := by kernel_rfl
theorem symbolEnergiesFact12 : ((Rows.symbolEnergiesRow.named == Tryd.prog.varsNamed 13)) = true := by kernel_rfl
theorem symbolEnergiesFact13 : ((Rows.symbolEnergiesRow.maps == (Tryd.f13.params.toList ++ Rows.symbolEnergiesSpec.plain.varTypes Tryd.prog).any (Tryd.prog.mapsRec ·))) = true := by kernel_rfl
theorem symbolEnergiesFact14 : ((Rows.symbolEnergiesRow.ifaces == (Tryd.f13.params.toList ++ Rows.symbolEnergiesSpec.plain.varTypes Tryd.prog).any (Tryd.prog.ifacesRec ·))) = true := by kernel_rfl
theorem symbolEnergiesFact15 : ((Rows.symbolEnergiesRow.mapsOut == Tryd.prog.mapsAmong Tryd.f13.resultTypes.toList)) = true := by kernel_rfl
theorem symbolEnergiesFact16 : ((Rows.symbolEnergiesRow.loops == (Tryd.f13.params.toList ++ Rows.symbolEnergiesSpec.plain.varTypes Tryd.prog).any (Tryd.prog.loopsFrom ·))) = true := by kernel_rfl
theorem symbolEnergiesFact17 : ((Rows.symbolEnergiesRow.wideKeys == (Tryd.f13.params.toList ++ Rows.symbolEnergiesSpec.plain.varTypes Tryd.prog ++ Tryd.f13.resultTypes.toList).any (Tryd.prog.wideKeysFrom ·))) = true := by kernel_rfl
theorem symbolEnergiesFact18 : (Rows.symbolEnergiesSpec.vars.all (Tryd.prog.varReadable ·)) = true := by kernel_rfl
theorem symbolEnergiesFact19 : (Tryd.f13.resultTypes.all (fun t => Tryd.prog.readableRec t && decide (t < Tryd.prog.types.size))) = true := by kernel_rfl
theorem symbolEnergiesFact20 : ((Rows.symbolEnergiesRow.ifacesOut == Tryd.f13.resultTypes.toList.any (Tryd.prog.ifacesRec ·))) = true := by kernel_rfl
theorem symbolEnergiesFact21 : ((Rows.symbolEnergiesRow.loopsOut == Tryd.f13.resultTypes.toList.any (Tryd.prog.loopsFrom ·))) = true := by kernel_rfl
theorem symbolEnergiesFact22 : ((Rows.symbolEnergiesRow.plainKeys == Tryd.prog.plainKeys)) = true := by kernel_rfl
theorem symbolEnergiesFact23 : (Rows.symbolEnergiesRow.shortTexts.isNone) = true := by kernel_rfl
theorem symbolEnergiesFact24 : (Tryd.prog.stopsHeard) = true := fHeard
theorem symbolEnergiesFact25 : (Tryd.prog.mayEnter) = true := fEnter
theorem symbolEnergiesFact26 : ((Rows.symbolEnergiesRow.lifted == Tryd.prog.liftsFinal)) = true := by kernel_rfl
theorem symbolEnergiesFact27 : ((Tryd.prog.make == some Rows.symbolEnergiesRow.make)) = true := by kernel_rfl
theorem symbolEnergiesFacts : joinedFacts Tryd.prog 13 Tryd.f13 Rows.symbolEnergiesSpec Rows.symbolEnergiesRow = true := by
 unfold joinedFacts
 rw [symbolEnergiesFact0, symbolEnergiesFact1, symbolEnergiesFact2, symbolEnergiesFact3, symbolEnergiesFact4, symbolEnergiesFact5, symbolEnergiesFact6, symbolEnergiesFact7, symbolEnergiesFact8, symbolEnergiesFact9, symbolEnergiesFact10, symbolEnergiesFact11, symbolEnergiesFact12, symbolEnergiesFact13, symbolEnergiesFact14, symbolEnergiesFact15, symbolEnergiesFact16, symbolEnergiesFact17, symbolEnergiesFact18, symbolEnergiesFact19, symbolEnergiesFact20, symbolEnergiesFact21, symbolEnergiesFact22, symbolEnergiesFact23, symbolEnergiesFact24, symbolEnergiesFact25, symbolEnergiesFact26, symbolEnergiesFact27]
 kernel_rfl
theorem symbolEnergiesNamed : Tryd.prog.funcNamed "cassegrain/cassegrainlaw04.SymbolEnergies" = some 13 := by kernel_rfl
theorem symbolEnergies_holds : Rows.SymbolEnergiesSaid :=
 OpenClaim.holds_of_wide 13 Tryd.f13 rfl rfl rfl rfl rfl rfl rfl ⟨rfl, rfl, rfl, rfl, rfl⟩ rfl rfl rfl rfl rfl symbolEnergiesNamed Tryd.func13 symbolEnergiesFacts
  (of_decide_eq_true (by kernel_rfl)) (by unfold Func.isWrapper; first | (rw [if_pos (by decide +kernel)]; kernel_rfl) | (rw [if_neg (by decide +kernel)]; exact ⟨rfl, rfl⟩))
  (fun os started H enc _ => symbolEnergiesLifted os started H enc)
theorem symbolEnergiesParams : (Tryd.f13.params.toList.all fun t => !Tryd.prog.wantsStandIn t) = true := by kernel_rfl
theorem symbolEnergiesWf : Rows.symbolEnergiesRow.wfByText (OpenSpec.ofChange Rows.symbolEnergiesSpec) = true := by kernel_rfl
theorem symbolEnergiesGoes : false = Rows.symbolEnergiesRow.goesBy Tryd.pinned.checked.prog := by kernel_rfl
theorem symbolEnergies_card : Rows.SymbolEnergiesCardSaid :=
 Claim7.holds_tied_plain_at .later [] [.data, .data, .data] true (true, "fc35d03b8b601be7e2432c9146edea038834c15e3c955cd5ed778deb69910b8c") false
  symbolEnergies_holds (fun _ h => by cases h) symbolEnergiesWf (fun _ h => by cases h) symbolEnergies_row_tie rfl ⟨rfl, rfl⟩ fMain rfl
  (fun f fn hf hfn => by
    obtain rfl : f = 13 := Option.some.inj (symbolEnergiesNamed.symm.trans hf) |>.symm
    obtain rfl : fn = Tryd.f13 := (Option.some.inj (Tryd.func13.symm.trans hfn)).symm
    exact ⟨fLooks, fun j t ht => by
     have := List.all_eq_true.1 symbolEnergiesParams t (by rw [Array.mem_toList_iff]; exact Array.mem_of_getElem? ht)
     show Tryd.prog.wantsStandIn t = false
     simpa using this⟩)
  symbolEnergiesGoes
#print axioms symbolEnergies_card
end Go.Proofs.YthckjfbhdjjnkaaDoor
