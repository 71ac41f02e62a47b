import Derived.Test.YthckjfbhdjjnkaaDoorSeqsLaw
import Derived.Test.YthckjfbhdjjnkaaDoorFacts4
import Derived.Test.YthckjfbhdjjnkaaDoorTie
import Derived.Test.YthckjfbhdjjnkaaDoorCards
import Derived.WalkKit
import Derived.ProofKit
import Derived.OpenShut
import Derived.JoinedCond
import Derived.SevenTiedAt
set_option linter.unusedSimpArgs false
namespace Go.Proofs.YthckjfbhdjjnkaaDoor
open Go.Ev Go.ChangeShapes Go.WideShapes Go.ChangeAt Go.RowKit
theorem symbolTwiceLaw : ∀ cs, Typed [(.agg (.pair (.int .i64) (.pair (.int .i64) (.int .i64)))), (.slice (.int .i64)), (.int .i64)] cs → Meets Tryd.prog 10 cs saysTrue := law_of_spec (shs := [(.agg (.pair (.int .i64) (.pair (.int .i64) (.int .i64)))), (.slice (.int .i64)), (.int .i64)]) i10 (fun x _ => twice_true x.1 x.2.1 x.2.2)
set_option maxRecDepth 100000 in
theorem symbolTwiceLifted (os : Os) (started : os.Started) (H : Type) (enc : TypeId × Value → H) :
 ReturnsInHanded {} Tryd.checked os 10 .any (fun w args => (Rows.symbolTwiceSpec.pre enc Tryd.prog Tryd.f10 Rows.symbolTwiceRow.domain false w args ∧ laidMet Tryd.prog spLaid w) ∧ sizedMet enc Tryd.prog Tryd.f10 (OpenSpec.ofChange Rows.symbolTwiceSpec) false w args)
  (Rows.symbolTwiceSpec.post enc Tryd.prog Tryd.f10 false true false false) := by
 refine returnsInHanded_of_change_and (C := Tryd.checked) (X := fun w _ => laidMet Tryd.prog spLaid w) (fun _ _ _ hh h => h.of_heap hh) own started (by kernel_rfl) Tryd.func10
  (ChangeSpec.witness_at (enc := enc) (C := Tryd.checked) (os := os) (X := fun w _ => laidMet Tryd.prog spLaid w) false (laidWorld os) #[.agg #[.int .i64 0, .int .i64 0, .int .i64 0], .slice none 0 0, .int .i64 0] 8 rfl (by kernel_rfl) (by kernel_rfl) (by kernel_rfl) (by kernel_rfl) (by kernel_rfl) (laidWorld_met os _)) ?_
 intro W base args ds gs before hval hW _ _ hL _
 refine contract_of_law (shs := [(.agg (.pair (.int .i64) (.pair (.int .i64) (.int .i64)))), (.slice (.int .i64)), (.int .i64)]) (tb := 4) laid (by kernel_rfl) (by kernel_rfl) rfl (by kernel_rfl) (by kernel_rfl) rfl (fun ds h => ?_) symbolTwiceLaw (globsOf_laid hL) hval hW
 match ds, h with
 | [_, _, _], _ => rfl
set_option maxRecDepth 100000
theorem symbolTwiceFact0 : (Rows.symbolTwiceRow.wf (OpenSpec.ofChange Rows.symbolTwiceSpec)) = true := by kernel_rfl
theorem symbolTwiceFact1 : (laidOutB Tryd.prog) = true := laid
theorem symbolTwiceFact2 : (mapsRowed Tryd.prog) = true := fMaps
theorem symbolTwiceFact3 : (Tryd.f10.params.all (Tryd.prog.readableRec ·)) = true := by kernel_rfl
theorem symbolTwiceFact4 : (namedTie Tryd.prog Rows.symbolTwiceRow.named Rows.symbolTwiceSpec.vars) = true := by kernel_rfl
theorem symbolTwiceFact5 : ((Rows.symbolTwiceRow.stops == [])) = true := by kernel_rfl
theorem symbolTwiceFact6 : ((Tryd.prog.stops == [])) = true := by rw [fStops]; rfl
theorem symbolTwiceFact7 : ((Rows.symbolTwiceRow.knobs == [])) = true := by kernel_rfl
theorem symbolTwiceFact8 : ((Tryd.prog.stopKnobs == [])) = true := by rw [fKnobs]; rfl
theorem symbolTwiceFact9 : ((Rows.symbolTwiceRow.inPlace == Tryd.prog.inPlace 10)) = true := by kernel_rfl
theorem symbolTwiceFact10 : ((Rows.symbolTwiceRow.unfollowed == Tryd.prog.unfollowed 10)) = true := by kernel_rfl
theorem symbolTwiceFact11 : ((Rows.symbolTwiceRow.recurses == Tryd.prog.recurses 10)) = true := by kernel_rfl
theorem symbolTwiceFact12 : ((Rows.symbolTwiceRow.named == Tryd.prog.varsNamed 10)) = true := by kernel_rfl
theorem symbolTwiceFact13 : ((Rows.symbolTwiceRow.maps == (Tryd.f10.params.toList ++ Rows.symbolTwiceSpec.plain.varTypes Tryd.prog).any (Tryd.prog.mapsRec ·))) = true := by kernel_rfl
theorem symbolTwiceFact14 : ((Rows.symbolTwiceRow.ifaces == (Tryd.f10.params.toList ++ Rows.symbolTwiceSpec.plain.varTypes Tryd.prog).any (Tryd.prog.ifacesRec ·))) = true := by kernel_rfl
theorem symbolTwiceFact15 : ((Rows.symbolTwiceRow.mapsOut == Tryd.prog.mapsAmong Tryd.f10.resultTypes.toList)) = true := by kernel_rfl
theorem symbolTwiceFact16 : ((Rows.symbolTwiceRow.loops == (Tryd.f10.params.toList ++ Rows.symbolTwiceSpec.plain.varTypes Tryd.prog).any (Tryd.prog.loopsFrom ·))) = true := by kernel_rfl
theorem symbolTwiceFact17 : ((Rows.symbolTwiceRow.wideKeys == (Tryd.f10.params.toList ++ Rows.symbolTwiceSpec.plain.varTypes Tryd.prog ++ Tryd.f10.resultTypes.toList).any (Tryd.prog.wideKeysFrom ·))) = true := by kernel_rfl
theorem symbolTwiceFact18 : (Rows.symbolTwiceSpec.vars.all (Tryd.prog.varReadable ·)) = true := by kernel_rfl
theorem symbolTwiceFact19 : (Tryd.f10.resultTypes.all (fun t => Tryd.prog.readableRec t && decide (t < Tryd.prog.types.size))) = true := by kernel_rfl
theorem symbolTwiceFact20 : ((Rows.symbolTwiceRow.ifacesOut == Tryd.f10.resultTypes.toList.any (Tryd.prog.ifacesRec ·))) = true := by kernel_rfl
theorem symbolTwiceFact21 : ((Rows.symbolTwiceRow.loopsOut == Tryd.f10.resultTypes.toList.any (Tryd.prog.loopsFrom ·))) = true := by kernel_rfl
theorem symbolTwiceFact22 : ((Rows.symbolTwiceRow.plainKeys == Tryd.prog.plainKeys)) = true := by kernel_rfl
theorem symbolTwiceFact23 : (Rows.symbolTwiceRow.shortTexts.isNone) = true := by kernel_rfl
theorem symbolTwiceFact24 : (Tryd.prog.stopsHeard) = true := fHeard
theorem symbolTwiceFact25 : (Tryd.prog.mayEnter) = true := fEnter
theorem symbolTwiceFact26 : ((Rows.symbolTwiceRow.lifted == Tryd.prog.liftsFinal)) = true := by kernel_rfl
theorem symbolTwiceFact27 : ((Tryd.prog.make == some Rows.symbolTwiceRow.make)) = true := by kernel_rfl
theorem symbolTwiceFacts : joinedFacts Tryd.prog 10 Tryd.f10 Rows.symbolTwiceSpec Rows.symbolTwiceRow = true := by
 unfold joinedFacts
 rw [symbolTwiceFact0, symbolTwiceFact1, symbolTwiceFact2, symbolTwiceFact3, symbolTwiceFact4, symbolTwiceFact5, symbolTwiceFact6, symbolTwiceFact7, symbolTwiceFact8, symbolTwiceFact9, symbolTwiceFact10, symbolTwiceFact11, symbolTwiceFact12, symbolTwiceFact13, symbolTwiceFact14, symbolTwiceFact15, symbolTwiceFact16, symbolTwiceFact17, symbolTwiceFact18, symbolTwiceFact19, symbolTwiceFact20, symbolTwiceFact21, symbolTwiceFact22, symbolTwiceFact23, symbolTwiceFact24, symbolTwiceFact25, symbolTwiceFact26, symbolTwiceFact27]
 kernel_rfl
theorem symbolTwiceNamed : Tryd.prog.funcNamed "cassegrain/cassegrainlaw04.SymbolTwice" = some 10 := by kernel_rfl
theorem symbolTwice_holds : Rows.SymbolTwiceSaid :=
 OpenClaim.holds_of_wide 10 Tryd.f10 rfl rfl rfl rfl rfl rfl rfl ⟨rfl, rfl, rfl, rfl, rfl⟩ rfl rfl rfl rfl rfl symbolTwiceNamed Tryd.func10 symbolTwiceFacts
  (of_decide_eq_true (by kernel_rfl)) (by unfold Func.isWrapper; first | (rw [if_pos (by decide +kernel)]; kernel_rfl) | (rw [if_neg (by decide +kernel)]; exact ⟨rfl, rfl⟩))
  (fun os started H enc _ => symbolTwiceLifted os started H enc)
theorem symbolTwiceParams : (Tryd.f10.params.toList.all fun t => !Tryd.prog.wantsStandIn t) = true := by kernel_rfl
theorem symbolTwiceWf : Rows.symbolTwiceRow.wfByText (OpenSpec.ofChange Rows.symbolTwiceSpec) = true := by kernel_rfl
theorem symbolTwiceGoes : false = Rows.symbolTwiceRow.goesBy Tryd.pinned.checked.prog := by kernel_rfl
theorem symbolTwice_card : Rows.SymbolTwiceCardSaid :=
 Claim7.holds_tied_plain_at .later [] [.data, .data, .data] true (true, "fc35d03b8b601be7e2432c9146edea038834c15e3c955cd5ed778deb69910b8c") false
  symbolTwice_holds (fun _ h => by cases h) symbolTwiceWf (fun _ h => by cases h) symbolTwice_row_tie rfl ⟨rfl, rfl⟩ fMain rfl
  (fun f fn hf hfn => by
    obtain rfl : f = 10 := Option.some.inj (symbolTwiceNamed.symm.trans hf) |>.symm
    obtain rfl : fn = Tryd.f10 := (Option.some.inj (Tryd.func10.symm.trans hfn)).symm
    exact ⟨fLooks, fun j t ht => by
     have := List.all_eq_true.1 symbolTwiceParams t (by rw [Array.mem_toList_iff]; exact Array.mem_of_getElem? ht)
     show Tryd.prog.wantsStandIn t = false
     simpa using this⟩)
  symbolTwiceGoes
#print axioms symbolTwice_card
end Go.Proofs.YthckjfbhdjjnkaaDoor
