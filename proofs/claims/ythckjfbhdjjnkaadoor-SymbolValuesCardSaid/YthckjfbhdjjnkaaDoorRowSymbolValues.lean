import Derived.Test.YthckjfbhdjjnkaaDoorValuesLaw
import Derived.Test.YthckjfbhdjjnkaaDoorFacts4
import Derived.Test.YthckjfbhdjjnkaaDoorTie
import Derived.Test.YthckjfbhdjjnkaaDoorCards
import Derived.WalkKit
import Derived.ProofKit
import Derived.OpenShut
import Derived.JoinedCond
import Derived.SevenTiedAt
set_option linter.unusedSimpArgs false
namespace Go.Proofs.YthckjfbhdjjnkaaDoor
open Go.Ev Go.ChangeShapes Go.WideShapes Go.ChangeAt Go.RowKit
theorem symbolValuesLaw : ∀ cs, Typed [(.agg (.pair (.int .i64) (.int .i64))), (.int .i64), (.agg (.pair (.slice (.agg (.pair (.int .i64) (.int .i64)))) (.slice (.int .i64))))] cs → Meets Tryd.prog 11 cs saysTrue := law_of_spec (shs := [(.agg (.pair (.int .i64) (.int .i64))), (.int .i64), (.agg (.pair (.slice (.agg (.pair (.int .i64) (.int .i64)))) (.slice (.int .i64))))]) i11 (fun x _ => values_true x.1 x.2.1 x.2.2)
set_option maxRecDepth 100000 in
theorem symbolValuesLifted (os : Os) (started : os.Started) (H : Type) (enc : TypeId × Value → H) :
 ReturnsInHanded {} Tryd.checked os 11 .any (fun w args => (Rows.symbolValuesSpec.pre enc Tryd.prog Tryd.f11 Rows.symbolValuesRow.domain false w args ∧ laidMet Tryd.prog spLaid w) ∧ sizedMet enc Tryd.prog Tryd.f11 (OpenSpec.ofChange Rows.symbolValuesSpec) false w args)
  (Rows.symbolValuesSpec.post enc Tryd.prog Tryd.f11 false true false false) := by
 refine returnsInHanded_of_change_and (C := Tryd.checked) (X := fun w _ => laidMet Tryd.prog spLaid w) (fun _ _ _ hh h => h.of_heap hh) own started (by kernel_rfl) Tryd.func11
  (ChangeSpec.witness_at (enc := enc) (C := Tryd.checked) (os := os) (X := fun w _ => laidMet Tryd.prog spLaid w) false (laidWorld os) #[.agg #[.int .i64 0, .int .i64 0], .int .i64 0, .agg #[.slice none 0 0, .slice none 0 0]] 8 rfl (by kernel_rfl) (by kernel_rfl) (by kernel_rfl) (by kernel_rfl) (by kernel_rfl) (laidWorld_met os _)) ?_
 intro W base args ds gs before hval hW _ _ hL _
 refine contract_of_law (shs := [(.agg (.pair (.int .i64) (.int .i64))), (.int .i64), (.agg (.pair (.slice (.agg (.pair (.int .i64) (.int .i64)))) (.slice (.int .i64))))]) (tb := 4) laid (by kernel_rfl) (by kernel_rfl) rfl (by kernel_rfl) (by kernel_rfl) rfl (fun ds h => ?_) symbolValuesLaw (globsOf_laid hL) hval hW
 match ds, h with
 | [_, _, _], _ => rfl
set_option maxRecDepth 100000
theorem symbolValuesFact0 : (Rows.symbolValuesRow.wf (OpenSpec.ofChange Rows.symbolValuesSpec)) = true := by kernel_rfl
theorem symbolValuesFact1 : (laidOutB Tryd.prog) = true := laid
theorem symbolValuesFact2 : (mapsRowed Tryd.prog) = true := fMaps
theorem symbolValuesFact3 : (Tryd.f11.params.all (Tryd.prog.readableRec ·)) = true := by kernel_rfl
theorem symbolValuesFact4 : (namedTie Tryd.prog Rows.symbolValuesRow.named Rows.symbolValuesSpec.vars) = true := by kernel_rfl
theorem symbolValuesFact5 : ((Rows.symbolValuesRow.stops == [])) = true := by kernel_rfl
theorem symbolValuesFact6 : ((Tryd.prog.stops == [])) = true := by rw [fStops]; rfl
theorem symbolValuesFact7 : ((Rows.symbolValuesRow.knobs == [])) = true := by kernel_rfl
theorem symbolValuesFact8 : ((Tryd.prog.stopKnobs == [])) = true := by rw [fKnobs]; rfl
theorem symbolValuesFact9 : ((Rows.symbolValuesRow.inPlace == Tryd.prog.inPlace 11)) = true := by kernel_rfl
theorem symbolValuesFact10 : ((Rows.symbolValuesRow.unfollowed == Tryd.prog.unfollowed 11)) = true := by kernel_rfl
theorem symbolValuesFact11 : ((Rows.symbolValuesRow.recurses == Tryd.prog.recurses 11)) = true := by kernel_rfl
theorem symbolValuesFact12 : ((Rows.symbolValuesRow.named == Tryd.prog.varsNamed 11)) = true := by kernel_rfl
theorem symbolValuesFact13 : ((Rows.symbolValuesRow.maps == (Tryd.f11.params.toList ++ Rows.symbolValuesSpec.plain.varTypes Tryd.prog).any (Tryd.prog.mapsRec ·))) = true := by kernel_rfl
theorem symbolValuesFact14 : ((Rows.symbolValuesRow.ifaces == (Tryd.f11.params.toList ++ Rows.symbolValuesSpec.plain.varTypes Tryd.prog).any (Tryd.prog.ifacesRec ·))) = true := by kernel_rfl
theorem symbolValuesFact15 : ((Rows.symbolValuesRow.mapsOut == Tryd.prog.mapsAmong Tryd.f11.resultTypes.toList)) = true := by kernel_rfl
theorem symbolValuesFact16 : ((Rows.symbolValuesRow.loops == (Tryd.f11.params.toList ++ Rows.symbolValuesSpec.plain.varTypes Tryd.prog).any (Tryd.prog.loopsFrom ·))) = true := by kernel_rfl
theorem symbolValuesFact17 : ((Rows.symbolValuesRow.wideKeys == (Tryd.f11.params.toList ++ Rows.symbolValuesSpec.plain.varTypes Tryd.prog ++ Tryd.f11.resultTypes.toList).any (Tryd.prog.wideKeysFrom ·))) = true := by kernel_rfl
theorem symbolValuesFact18 : (Rows.symbolValuesSpec.vars.all (Tryd.prog.varReadable ·)) = true := by kernel_rfl
theorem symbolValuesFact19 : (Tryd.f11.resultTypes.all (fun t => Tryd.prog.readableRec t && decide (t < Tryd.prog.types.size))) = true := by kernel_rfl
theorem symbolValuesFact20 : ((Rows.symbolValuesRow.ifacesOut == Tryd.f11.resultTypes.toList.any (Tryd.prog.ifacesRec ·))) = true := by kernel_rfl
theorem symbolValuesFact21 : ((Rows.symbolValuesRow.loopsOut == Tryd.f11.resultTypes.toList.any (Tryd.prog.loopsFrom ·))) = true := by kernel_rfl
theorem symbolValuesFact22 : ((Rows.symbolValuesRow.plainKeys == Tryd.prog.plainKeys)) = true := by kernel_rfl
theorem symbolValuesFact23 : (Rows.symbolValuesRow.shortTexts.isNone) = true := by kernel_rfl
theorem symbolValuesFact24 : (Tryd.prog.stopsHeard) = true := fHeard
theorem symbolValuesFact25 : (Tryd.prog.mayEnter) = true := fEnter
theorem symbolValuesFact26 : ((Rows.symbolValuesRow.lifted == Tryd.prog.liftsFinal)) = true := by kernel_rfl
theorem symbolValuesFact27 : ((Tryd.prog.make == some Rows.symbolValuesRow.make)) = true := by kernel_rfl
theorem symbolValuesFacts : joinedFacts Tryd.prog 11 Tryd.f11 Rows.symbolValuesSpec Rows.symbolValuesRow = true := by
 unfold joinedFacts
 rw [symbolValuesFact0, symbolValuesFact1, symbolValuesFact2, symbolValuesFact3, symbolValuesFact4, symbolValuesFact5, symbolValuesFact6, symbolValuesFact7, symbolValuesFact8, symbolValuesFact9, symbolValuesFact10, symbolValuesFact11, symbolValuesFact12, symbolValuesFact13, symbolValuesFact14, symbolValuesFact15, symbolValuesFact16, symbolValuesFact17, symbolValuesFact18, symbolValuesFact19, symbolValuesFact20, symbolValuesFact21, symbolValuesFact22, symbolValuesFact23, symbolValuesFact24, symbolValuesFact25, symbolValuesFact26, symbolValuesFact27]
 kernel_rfl
theorem symbolValuesNamed : Tryd.prog.funcNamed "cassegrain/cassegrainlaw04.SymbolValues" = some 11 := by kernel_rfl
theorem symbolValues_holds : Rows.SymbolValuesSaid :=
 OpenClaim.holds_of_wide 11 Tryd.f11 rfl rfl rfl rfl rfl rfl rfl ⟨rfl, rfl, rfl, rfl, rfl⟩ rfl rfl rfl rfl rfl symbolValuesNamed Tryd.func11 symbolValuesFacts
  (of_decide_eq_true (by kernel_rfl)) (by unfold Func.isWrapper; first | (rw [if_pos (by decide +kernel)]; kernel_rfl) | (rw [if_neg (by decide +kernel)]; exact ⟨rfl, rfl⟩))
  (fun os started H enc _ => symbolValuesLifted os started H enc)
theorem symbolValuesParams : (Tryd.f11.params.toList.all fun t => !Tryd.prog.wantsStandIn t) = true := by kernel_rfl
theorem symbolValuesWf : Rows.symbolValuesRow.wfByText (OpenSpec.ofChange Rows.symbolValuesSpec) = true := by kernel_rfl
theorem symbolValuesGoes : false = Rows.symbolValuesRow.goesBy Tryd.pinned.checked.prog := by kernel_rfl
theorem symbolValues_card : Rows.SymbolValuesCardSaid :=
 Claim7.holds_tied_plain_at .later [] [.data, .data, .data] true (true, "fc35d03b8b601be7e2432c9146edea038834c15e3c955cd5ed778deb69910b8c") false
  symbolValues_holds (fun _ h => by cases h) symbolValuesWf (fun _ h => by cases h) symbolValues_row_tie rfl ⟨rfl, rfl⟩ fMain rfl
  (fun f fn hf hfn => by
    obtain rfl : f = 11 := Option.some.inj (symbolValuesNamed.symm.trans hf) |>.symm
    obtain rfl : fn = Tryd.f11 := (Option.some.inj (Tryd.func11.symm.trans hfn)).symm
    exact ⟨fLooks, fun j t ht => by
     have := List.all_eq_true.1 symbolValuesParams t (by rw [Array.mem_toList_iff]; exact Array.mem_of_getElem? ht)
     show Tryd.prog.wantsStandIn t = false
     simpa using this⟩)
  symbolValuesGoes
#print axioms symbolValues_card
end Go.Proofs.YthckjfbhdjjnkaaDoor
