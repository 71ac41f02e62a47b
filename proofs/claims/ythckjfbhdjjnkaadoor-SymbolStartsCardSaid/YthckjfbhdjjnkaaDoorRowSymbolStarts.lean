import Derived.Test.YthckjfbhdjjnkaaDoorStartsLaw
import Derived.Test.YthckjfbhdjjnkaaDoorFacts4
import Derived.Test.YthckjfbhdjjnkaaDoorTie
import Derived.Test.YthckjfbhdjjnkaaDoorCards
import Derived.WalkKit
import Derived.ProofKit
import Derived.OpenShut
import Derived.JoinedCond
import Derived.SevenTiedAt
set_option linter.unusedSimpArgs false
namespace Go.Proofs.YthckjfbhdjjnkaaDoor
open Go.Ev Go.ChangeShapes Go.WideShapes Go.ChangeAt Go.RowKit
theorem symbolStartsLaw : ∀ cs, Typed [(.agg (.pair (.int .i64) (.int .i64))), (.slice (.agg (.pair (.int .i64) (.int .i64))))] cs → Meets Tryd.prog 7 cs saysTrue := law_of_spec (shs := [(.agg (.pair (.int .i64) (.int .i64))), (.slice (.agg (.pair (.int .i64) (.int .i64))))]) i7 (fun x _ => starts_true x.1 x.2)
set_option maxRecDepth 100000 in
theorem symbolStartsLifted (os : Os) (started : os.Started) (H : Type) (enc : TypeId × Value → H) :
 ReturnsInHanded {} Tryd.checked os 7 .any (fun w args => (Rows.symbolStartsSpec.pre enc Tryd.prog Tryd.f7 Rows.symbolStartsRow.domain false w args ∧ laidMet Tryd.prog spLaid w) ∧ sizedMet enc Tryd.prog Tryd.f7 (OpenSpec.ofChange Rows.symbolStartsSpec) false w args)
  (Rows.symbolStartsSpec.post enc Tryd.prog Tryd.f7 false true false false) := by
 refine returnsInHanded_of_change_and (C := Tryd.checked) (X := fun w _ => laidMet Tryd.prog spLaid w) (fun _ _ _ hh h => h.of_heap hh) own started (by kernel_rfl) Tryd.func7
  (ChangeSpec.witness_at (enc := enc) (C := Tryd.checked) (os := os) (X := fun w _ => laidMet Tryd.prog spLaid w) false (laidWorld os) #[.agg #[.int .i64 0, .int .i64 0], .slice none 0 0] 8 rfl (by kernel_rfl) (by kernel_rfl) (by kernel_rfl) (by kernel_rfl) (by kernel_rfl) (laidWorld_met os _)) ?_
 intro W base args ds gs before hval hW _ _ hL _
 refine contract_of_law (shs := [(.agg (.pair (.int .i64) (.int .i64))), (.slice (.agg (.pair (.int .i64) (.int .i64))))]) (tb := 4) laid (by kernel_rfl) (by kernel_rfl) rfl (by kernel_rfl) (by kernel_rfl) rfl (fun ds h => ?_) symbolStartsLaw (globsOf_laid hL) hval hW
 match ds, h with
 | [_, _], _ => rfl
set_option maxRecDepth 100000
theorem symbolStartsFact0 : (Rows.symbolStartsRow.wf (OpenSpec.ofChange Rows.symbolStartsSpec)) = true := by kernel_rfl
theorem symbolStartsFact1 : (laidOutB Tryd.prog) = true := laid
theorem symbolStartsFact2 : (mapsRowed Tryd.prog) = true := fMaps
theorem symbolStartsFact3 : (Tryd.f7.params.all (Tryd.prog.readableRec ·)) = true := by kernel_rfl
theorem symbolStartsFact4 : (namedTie Tryd.prog Rows.symbolStartsRow.named Rows.symbolStartsSpec.vars) = true := by kernel_rfl
theorem symbolStartsFact5 : ((Rows.symbolStartsRow.stops == [])) = true := by kernel_rfl
theorem symbolStartsFact6 : ((Tryd.prog.stops == [])) = true := by rw [fStops]; rfl
theorem symbolStartsFact7 : ((Rows.symbolStartsRow.knobs == [])) = true := by kernel_rfl
theorem symbolStartsFact8 : ((Tryd.prog.stopKnobs == [])) = true := by rw [fKnobs]; rfl
theorem symbolStartsFact9 : ((Rows.symbolStartsRow.inPlace == Tryd.prog.inPlace 7)) = true := by kernel_rfl
theorem symbolStartsFact10 : ((Rows.symbolStartsRow.unfollowed == Tryd.prog.unfollowed 7)) = true := by kernel_rfl
theorem symbolStartsFact11 : ((Rows.symbolStartsRow.recurses == Tryd.prog.recurses 7)) = true := by kernel_rfl
theorem symbolStartsFact12 : ((Rows.symbolStartsRow.named == Tryd.prog.varsNamed 7)) = true := by kernel_rfl
theorem symbolStartsFact13 : ((Rows.symbolStartsRow.maps == (Tryd.f7.params.toList ++ Rows.symbolStartsSpec.plain.varTypes Tryd.prog).any (Tryd.prog.mapsRec ·))) = true := by kernel_rfl
theorem symbolStartsFact14 : ((Rows.symbolStartsRow.ifaces == (Tryd.f7.params.toList ++ Rows.symbolStartsSpec.plain.varTypes Tryd.prog).any (Tryd.prog.ifacesRec ·))) = true := by kernel_rfl
theorem symbolStartsFact15 : ((Rows.symbolStartsRow.mapsOut == Tryd.prog.mapsAmong Tryd.f7.resultTypes.toList)) = true := by kernel_rfl
theorem symbolStartsFact16 : ((Rows.symbolStartsRow.loops == (Tryd.f7.params.toList ++ Rows.symbolStartsSpec.plain.varTypes Tryd.prog).any (Tryd.prog.loopsFrom ·))) = true := by kernel_rfl
theorem symbolStartsFact17 : ((Rows.symbolStartsRow.wideKeys == (Tryd.f7.params.toList ++ Rows.symbolStartsSpec.plain.varTypes Tryd.prog ++ Tryd.f7.resultTypes.toList).any (Tryd.prog.wideKeysFrom ·))) = true := by kernel_rfl
theorem symbolStartsFact18 : (Rows.symbolStartsSpec.vars.all (Tryd.prog.varReadable ·)) = true := by kernel_rfl
theorem symbolStartsFact19 : (Tryd.f7.resultTypes.all (fun t => Tryd.prog.readableRec t && decide (t < Tryd.prog.types.size))) = true := by kernel_rfl
theorem symbolStartsFact20 : ((Rows.symbolStartsRow.ifacesOut == Tryd.f7.resultTypes.toList.any (Tryd.prog.ifacesRec ·))) = true := by kernel_rfl
theorem symbolStartsFact21 : ((Rows.symbolStartsRow.loopsOut == Tryd.f7.resultTypes.toList.any (Tryd.prog.loopsFrom ·))) = true := by kernel_rfl
theorem symbolStartsFact22 : ((Rows.symbolStartsRow.plainKeys == Tryd.prog.plainKeys)) = true := by kernel_rfl
theorem symbolStartsFact23 : (Rows.symbolStartsRow.shortTexts.isNone) = true := by kernel_rfl
theorem symbolStartsFact24 : (Tryd.prog.stopsHeard) = true := fHeard
theorem symbolStartsFact25 : (Tryd.prog.mayEnter) = true := fEnter
theorem symbolStartsFact26 : ((Rows.symbolStartsRow.lifted == Tryd.prog.liftsFinal)) = true := by kernel_rfl
theorem symbolStartsFact27 : ((Tryd.prog.make == some Rows.symbolStartsRow.make)) = true := by kernel_rfl
theorem symbolStartsFacts : joinedFacts Tryd.prog 7 Tryd.f7 Rows.symbolStartsSpec Rows.symbolStartsRow = true := by
 unfold joinedFacts
 rw [symbolStartsFact0, symbolStartsFact1, symbolStartsFact2, symbolStartsFact3, symbolStartsFact4, symbolStartsFact5, symbolStartsFact6, symbolStartsFact7, symbolStartsFact8, symbolStartsFact9, symbolStartsFact10, symbolStartsFact11, symbolStartsFact12, symbolStartsFact13, symbolStartsFact14, symbolStartsFact15, symbolStartsFact16, symbolStartsFact17, symbolStartsFact18, symbolStartsFact19, symbolStartsFact20, symbolStartsFact21, symbolStartsFact22, symbolStartsFact23, symbolStartsFact24, symbolStartsFact25, symbolStartsFact26, symbolStartsFact27]
 kernel_rfl
theorem symbolStartsNamed : Tryd.prog.funcNamed "cassegrain/cassegrainlaw04.SymbolStarts" = some 7 := by kernel_rfl
theorem symbolStarts_holds : Rows.SymbolStartsSaid :=
 OpenClaim.holds_of_wide 7 Tryd.f7 rfl rfl rfl rfl rfl rfl rfl ⟨rfl, rfl, rfl, rfl, rfl⟩ rfl rfl rfl rfl rfl symbolStartsNamed Tryd.func7 symbolStartsFacts
  (of_decide_eq_true (by kernel_rfl)) (by unfold Func.isWrapper; first | (rw [if_pos (by decide +kernel)]; kernel_rfl) | (rw [if_neg (by decide +kernel)]; exact ⟨rfl, rfl⟩))
  (fun os started H enc _ => symbolStartsLifted os started H enc)
theorem symbolStartsParams : (Tryd.f7.params.toList.all fun t => !Tryd.prog.wantsStandIn t) = true := by kernel_rfl
theorem symbolStartsWf : Rows.symbolStartsRow.wfByText (OpenSpec.ofChange Rows.symbolStartsSpec) = true := by kernel_rfl
theorem symbolStartsGoes : false = Rows.symbolStartsRow.goesBy Tryd.pinned.checked.prog := by kernel_rfl
theorem symbolStarts_card : Rows.SymbolStartsCardSaid :=
 Claim7.holds_tied_plain_at .later [] [.data, .data, .data] true (true, "fc35d03b8b601be7e2432c9146edea038834c15e3c955cd5ed778deb69910b8c") false
  symbolStarts_holds (fun _ h => by cases h) symbolStartsWf (fun _ h => by cases h) symbolStarts_row_tie rfl ⟨rfl, rfl⟩ fMain rfl
  (fun f fn hf hfn => by
    obtain rfl : f = 7 := Option.some.inj (symbolStartsNamed.symm.trans hf) |>.symm
    obtain rfl : fn = Tryd.f7 := (Option.some.inj (Tryd.func7.symm.trans hfn)).symm
    exact ⟨fLooks, fun j t ht => by
     have := List.all_eq_true.1 symbolStartsParams t (by rw [Array.mem_toList_iff]; exact Array.mem_of_getElem? ht)
     show Tryd.prog.wantsStandIn t = false
     simpa using this⟩)
  symbolStartsGoes
#print axioms symbolStarts_card
end Go.Proofs.YthckjfbhdjjnkaaDoor
