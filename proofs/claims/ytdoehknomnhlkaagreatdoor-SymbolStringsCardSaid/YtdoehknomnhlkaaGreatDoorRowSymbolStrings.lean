import Derived.Test.YtdoehknomnhlkaaGreatDoorSymStr
import Derived.Test.YtdoehknomnhlkaaGreatDoorFacts5
import Derived.Test.YtdoehknomnhlkaaGreatDoorTie
import Derived.Test.YtdoehknomnhlkaaGreatDoorCards
import Derived.WalkKit
import Derived.ProofKit
import Derived.OpenShut
import Derived.JoinedCond
import Derived.SevenTiedAt
set_option linter.unusedSimpArgs false
namespace Go.Proofs.YtdoehknomnhlkaaGreatDoor
open Go.Ev Go.ChangeShapes Go.WideShapes Go.ChangeAt Go.RowKit
theorem symbolStringsLaw : ∀ cs, Typed [(.slice (.int .i64)), .str] cs → Meets Tryz.prog 5 cs saysTrue := law_of_spec (shs := [(.slice (.int .i64)), .str]) i5 (fun x h => strings_true x.1 x.2 fun y hy => by obtain ⟨i, hi⟩ := List.mem_iff_getElem?.1 hy; exact inI_of (h.1.2 i y hi))
set_option maxRecDepth 100000 in
theorem symbolStringsLifted (os : Os) (started : os.Started) (H : Type) (enc : TypeId × Value → H) :
 ReturnsInHanded {} Tryz.checked os 5 .any (fun w args => (Rows.symbolStringsSpec.pre enc Tryz.prog Tryz.f5 Rows.symbolStringsRow.domain false w args ∧ laidMet Tryz.prog spLaid w) ∧ sizedMet enc Tryz.prog Tryz.f5 (OpenSpec.ofChange Rows.symbolStringsSpec) false w args)
  (Rows.symbolStringsSpec.post enc Tryz.prog Tryz.f5 false true false false) := by
 refine returnsShaped (C := Tryz.checked) (X := fun w _ => laidMet Tryz.prog spLaid w) (fun _ _ _ hh h => h.of_heap hh) own started (by kernel_rfl) Tryz.func5
  (ChangeSpec.witness_at (enc := enc) (C := Tryz.checked) (os := os) (X := fun w _ => laidMet Tryz.prog spLaid w) false (laidWorld os) #[.slice none 0 0, .string ByteArray.empty] 8 rfl (by kernel_rfl) (by kernel_rfl) (by kernel_rfl) (by kernel_rfl) (by kernel_rfl) (laidWorld_met os _)) ?_
 intro W base args ds gs before hval hW hsh hL
 refine contract_of_law (shs := [(.slice (.int .i64)), .str]) (tb := 4) laid (by kernel_rfl) (by kernel_rfl) rfl (by kernel_rfl) (by kernel_rfl) rfl (fun ds h => ?_) symbolStringsLaw (globsOf_laid hL hsh) hval hW
 match ds, h with
 | [_, _], _ => rfl
set_option maxRecDepth 100000
theorem symbolStringsFact0 : (Rows.symbolStringsRow.wf (OpenSpec.ofChange Rows.symbolStringsSpec)) = true := by kernel_rfl
theorem symbolStringsFact1 : (laidOutB Tryz.prog) = true := laid
theorem symbolStringsFact2 : (mapsRowed Tryz.prog) = true := fMaps
theorem symbolStringsFact3 : (Tryz.f5.params.all (Tryz.prog.readableRec ·)) = true := by kernel_rfl
theorem symbolStringsFact4 : (namedTie Tryz.prog Rows.symbolStringsRow.named Rows.symbolStringsSpec.vars) = true := by kernel_rfl
theorem symbolStringsFact5 : ((Rows.symbolStringsRow.stops == [])) = true := by kernel_rfl
theorem symbolStringsFact6 : ((Tryz.prog.stops == [])) = true := by rw [fStops]; rfl
theorem symbolStringsFact7 : ((Rows.symbolStringsRow.knobs == [])) = true := by kernel_rfl
theorem symbolStringsFact8 : ((Tryz.prog.stopKnobs == [])) = true := by rw [fKnobs]; rfl
theorem symbolStringsFact9 : ((Rows.symbolStringsRow.inPlace == Tryz.prog.inPlace 5)) = true := by kernel_rfl
theorem symbolStringsFact10 : ((Rows.symbolStringsRow.unfollowed == Tryz.prog.unfollowed 5)) = true := by kernel_rfl
theorem symbolStringsFact11 : ((Rows.symbolStringsRow.recurses == Tryz.prog.recurses 5)) = true := by kernel_rfl
theorem symbolStringsFact12 : ((Rows.symbolStringsRow.named == Tryz.prog.varsNamed 5)) = true := by kernel_rfl
theorem symbolStringsFact13 : ((Rows.symbolStringsRow.maps == (Tryz.f5.params.toList ++ Rows.symbolStringsSpec.plain.varTypes Tryz.prog).any (Tryz.prog.mapsRec ·))) = true := by kernel_rfl
theorem symbolStringsFact14 : ((Rows.symbolStringsRow.ifaces == (Tryz.f5.params.toList ++ Rows.symbolStringsSpec.plain.varTypes Tryz.prog).any (Tryz.prog.ifacesRec ·))) = true := by kernel_rfl
theorem symbolStringsFact15 : ((Rows.symbolStringsRow.mapsOut == Tryz.prog.mapsAmong Tryz.f5.resultTypes.toList)) = true := by kernel_rfl
theorem symbolStringsFact16 : ((Rows.symbolStringsRow.loops == (Tryz.f5.params.toList ++ Rows.symbolStringsSpec.plain.varTypes Tryz.prog).any (Tryz.prog.loopsFrom ·))) = true := by kernel_rfl
theorem symbolStringsFact17 : ((Rows.symbolStringsRow.wideKeys == (Tryz.f5.params.toList ++ Rows.symbolStringsSpec.plain.varTypes Tryz.prog ++ Tryz.f5.resultTypes.toList).any (Tryz.prog.wideKeysFrom ·))) = true := by kernel_rfl
theorem symbolStringsFact18 : (Rows.symbolStringsSpec.vars.all (Tryz.prog.varReadable ·)) = true := by kernel_rfl
theorem symbolStringsFact19 : (Tryz.f5.resultTypes.all (fun t => Tryz.prog.readableRec t && decide (t < Tryz.prog.types.size))) = true := by kernel_rfl
theorem symbolStringsFact20 : ((Rows.symbolStringsRow.ifacesOut == Tryz.f5.resultTypes.toList.any (Tryz.prog.ifacesRec ·))) = true := by kernel_rfl
theorem symbolStringsFact21 : ((Rows.symbolStringsRow.loopsOut == Tryz.f5.resultTypes.toList.any (Tryz.prog.loopsFrom ·))) = true := by kernel_rfl
theorem symbolStringsFact22 : ((Rows.symbolStringsRow.plainKeys == Tryz.prog.plainKeys)) = true := by kernel_rfl
theorem symbolStringsFact23 : (Rows.symbolStringsRow.shortTexts.isNone) = true := by kernel_rfl
theorem symbolStringsFact24 : (Tryz.prog.stopsHeard) = true := fHeard
theorem symbolStringsFact25 : (Tryz.prog.mayEnter) = true := fEnter
theorem symbolStringsFact26 : ((Rows.symbolStringsRow.lifted == Tryz.prog.liftsFinal)) = true := by kernel_rfl
theorem symbolStringsFact27 : ((Tryz.prog.make == some Rows.symbolStringsRow.make)) = true := by kernel_rfl
theorem symbolStringsFacts : joinedFacts Tryz.prog 5 Tryz.f5 Rows.symbolStringsSpec Rows.symbolStringsRow = true := by
 unfold joinedFacts
 rw [symbolStringsFact0, symbolStringsFact1, symbolStringsFact2, symbolStringsFact3, symbolStringsFact4, symbolStringsFact5, symbolStringsFact6, symbolStringsFact7, symbolStringsFact8, symbolStringsFact9, symbolStringsFact10, symbolStringsFact11, symbolStringsFact12, symbolStringsFact13, symbolStringsFact14, symbolStringsFact15, symbolStringsFact16, symbolStringsFact17, symbolStringsFact18, symbolStringsFact19, symbolStringsFact20, symbolStringsFact21, symbolStringsFact22, symbolStringsFact23, symbolStringsFact24, symbolStringsFact25, symbolStringsFact26, symbolStringsFact27]
 kernel_rfl
theorem symbolStringsNamed : Tryz.prog.funcNamed "cassegrain/cassegrainlaw04.SymbolStrings" = some 5 := by kernel_rfl
theorem symbolStrings_holds : Rows.SymbolStringsSaid :=
 OpenClaim.holds_of_wide 5 Tryz.f5 rfl rfl rfl rfl rfl rfl rfl ⟨rfl, rfl, rfl, rfl, rfl⟩ rfl rfl rfl rfl rfl symbolStringsNamed Tryz.func5 symbolStringsFacts
  (of_decide_eq_true (by kernel_rfl)) (by unfold Func.isWrapper; first | (rw [if_pos (by decide +kernel)]; kernel_rfl) | (rw [if_neg (by decide +kernel)]; exact ⟨rfl, rfl⟩))
  (fun os started H enc _ => symbolStringsLifted os started H enc)
theorem symbolStringsParams : (Tryz.f5.params.toList.all fun t => !Tryz.prog.wantsStandIn t) = true := by kernel_rfl
theorem symbolStringsWf : Rows.symbolStringsRow.wfByText (OpenSpec.ofChange Rows.symbolStringsSpec) = true := by kernel_rfl
theorem symbolStringsGoes : false = Rows.symbolStringsRow.goesBy Tryz.pinned.checked.prog := by kernel_rfl
theorem symbolStrings_card : Rows.SymbolStringsCardSaid :=
 Claim7.holds_tied_plain_at .later [] [.data, .data, .data, .data, .sentinel, .sentinel, .pinned] true (true, "c5119c5f6dad273ce700befe837f5a28e87e3deafe0e06913fa7e94917cb8d26") true
  symbolStrings_holds (fun _ h => by cases h) symbolStringsWf (fun _ h => by cases h) symbolStrings_row_tie rfl ⟨rfl, rfl⟩ fMain rfl
  (fun f fn hf hfn => by
    obtain rfl : f = 5 := Option.some.inj (symbolStringsNamed.symm.trans hf) |>.symm
    obtain rfl : fn = Tryz.f5 := (Option.some.inj (Tryz.func5.symm.trans hfn)).symm
    exact ⟨fLooks, fun j t ht => by
     have := List.all_eq_true.1 symbolStringsParams t (by rw [Array.mem_toList_iff]; exact Array.mem_of_getElem? ht)
     show Tryz.prog.wantsStandIn t = false
     simpa using this⟩)
  symbolStringsGoes
#print axioms symbolStrings_card
end Go.Proofs.YtdoehknomnhlkaaGreatDoor
