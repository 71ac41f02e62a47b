import Derived.Test.YthckjfbhdjjnkaaDoorFindLaw
import Derived.Test.YthckjfbhdjjnkaaDoorFacts4
import Derived.Test.YthckjfbhdjjnkaaDoorTie
import Derived.Test.YthckjfbhdjjnkaaDoorCards
import Derived.WalkKit
import Derived.ProofKit
import Derived.OpenShut
import Derived.JoinedCond
import Derived.SevenTiedAt
set_option linter.unusedSimpArgs false
namespace Go.Proofs.YthckjfbhdjjnkaaDoor
open Go.Ev Go.ChangeShapes Go.WideShapes Go.ChangeAt Go.RowKit
theorem symbolFindsLaw : ∀ cs, Typed [(.agg (.pair (.slice (.int .i64)) (.pair (.int .i64) (.pair (.int .i64) (.pair (.int .i64) (.pair (.int .i64) (.int .i64))))))), (.slice (.int .i64))] cs → Meets Tryd.prog 4 cs saysTrue := law_of_spec (shs := [(.agg (.pair (.slice (.int .i64)) (.pair (.int .i64) (.pair (.int .i64) (.pair (.int .i64) (.pair (.int .i64) (.int .i64))))))), (.slice (.int .i64))]) i4 (fun x _ => finds_true x.1 x.2)
set_option maxRecDepth 100000 in
theorem symbolFindsLifted (os : Os) (started : os.Started) (H : Type) (enc : TypeId × Value → H) :
 ReturnsInHanded {} Tryd.checked os 4 .any (fun w args => (Rows.symbolFindsSpec.pre enc Tryd.prog Tryd.f4 Rows.symbolFindsRow.domain false w args ∧ laidMet Tryd.prog spLaid w) ∧ sizedMet enc Tryd.prog Tryd.f4 (OpenSpec.ofChange Rows.symbolFindsSpec) false w args)
  (Rows.symbolFindsSpec.post enc Tryd.prog Tryd.f4 false true false false) := by
 refine returnsInHanded_of_change_and (C := Tryd.checked) (X := fun w _ => laidMet Tryd.prog spLaid w) (fun _ _ _ hh h => h.of_heap hh) own started (by kernel_rfl) Tryd.func4
  (ChangeSpec.witness_at (enc := enc) (C := Tryd.checked) (os := os) (X := fun w _ => laidMet Tryd.prog spLaid w) false (laidWorld os) #[.agg #[.slice none 0 0, .int .i64 0, .int .i64 0, .int .i64 0, .int .i64 0, .int .i64 0], .slice none 0 0] 8 rfl (by kernel_rfl) (by kernel_rfl) (by kernel_rfl) (by kernel_rfl) (by kernel_rfl) (laidWorld_met os _)) ?_
 intro W base args ds gs before hval hW _ _ hL _
 refine contract_of_law (shs := [(.agg (.pair (.slice (.int .i64)) (.pair (.int .i64) (.pair (.int .i64) (.pair (.int .i64) (.pair (.int .i64) (.int .i64))))))), (.slice (.int .i64))]) (tb := 4) laid (by kernel_rfl) (by kernel_rfl) rfl (by kernel_rfl) (by kernel_rfl) rfl (fun ds h => ?_) symbolFindsLaw (globsOf_laid hL) hval hW
 match ds, h with
 | [_, _], _ => rfl
set_option maxRecDepth 100000
theorem symbolFindsFact0 : (Rows.symbolFindsRow.wf (OpenSpec.ofChange Rows.symbolFindsSpec)) = true := by kernel_rfl
theorem symbolFindsFact1 : (laidOutB Tryd.prog) = true := laid
theorem symbolFindsFact2 : (mapsRowed Tryd.prog) = true := fMaps
theorem symbolFindsFact3 : (Tryd.f4.params.all (Tryd.prog.readableRec ·)) = true := by kernel_rfl
theorem symbolFindsFact4 : (namedTie Tryd.prog Rows.symbolFindsRow.named Rows.symbolFindsSpec.vars) = true := by kernel_rfl
theorem symbolFindsFact5 : ((Rows.symbolFindsRow.stops == [])) = true := by kernel_rfl
theorem symbolFindsFact6 : ((Tryd.prog.stops == [])) = true := by rw [fStops]; rfl
theorem symbolFindsFact7 : ((Rows.symbolFindsRow.knobs == [])) = true := by kernel_rfl
theorem symbolFindsFact8 : ((Tryd.prog.stopKnobs == [])) = true := by rw [fKnobs]; rfl
theorem symbolFindsFact9 : ((Rows.symbolFindsRow.inPlace == Tryd.prog.inPlace 4)) = true := by kernel_rfl
theorem symbolFindsFact10 : ((Rows.symbolFindsRow.unfollowed == Tryd.prog.unfollowed 4)) = true := by kernel_rfl
theorem symbolFindsFact11 : ((Rows.symbolFindsRow.recurses == Tryd.prog.recurses 4)) = true := by kernel_rfl
theorem symbolFindsFact12 : ((Rows.symbolFindsRow.named == Tryd.prog.varsNamed 4)) = true := by kernel_rfl
theorem symbolFindsFact13 : ((Rows.symbolFindsRow.maps == (Tryd.f4.params.toList ++ Rows.symbolFindsSpec.plain.varTypes Tryd.prog).any (Tryd.prog.mapsRec ·))) = true := by kernel_rfl
theorem symbolFindsFact14 : ((Rows.symbolFindsRow.ifaces == (Tryd.f4.params.toList ++ Rows.symbolFindsSpec.plain.varTypes Tryd.prog).any (Tryd.prog.ifacesRec ·))) = true := by kernel_rfl
theorem symbolFindsFact15 : ((Rows.symbolFindsRow.mapsOut == Tryd.prog.mapsAmong Tryd.f4.resultTypes.toList)) = true := by kernel_rfl
theorem symbolFindsFact16 : ((Rows.symbolFindsRow.loops == (Tryd.f4.params.toList ++ Rows.symbolFindsSpec.plain.varTypes Tryd.prog).any (Tryd.prog.loopsFrom ·))) = true := by kernel_rfl
theorem symbolFindsFact17 : ((Rows.symbolFindsRow.wideKeys == (Tryd.f4.params.toList ++ Rows.symbolFindsSpec.plain.varTypes Tryd.prog ++ Tryd.f4.resultTypes.toList).any (Tryd.prog.wideKeysFrom ·))) = true := by kernel_rfl
theorem symbolFindsFact18 : (Rows.symbolFindsSpec.vars.all (Tryd.prog.varReadable ·)) = true := by kernel_rfl
theorem symbolFindsFact19 : (Tryd.f4.resultTypes.all (fun t => Tryd.prog.readableRec t && decide (t < Tryd.prog.types.size))) = true := by kernel_rfl
theorem symbolFindsFact20 : ((Rows.symbolFindsRow.ifacesOut == Tryd.f4.resultTypes.toList.any (Tryd.prog.ifacesRec ·))) = true := by kernel_rfl
theorem symbolFindsFact21 : ((Rows.symbolFindsRow.loopsOut == Tryd.f4.resultTypes.toList.any (Tryd.prog.loopsFrom ·))) = true := by kernel_rfl
theorem symbolFindsFact22 : ((Rows.symbolFindsRow.plainKeys == Tryd.prog.plainKeys)) = true := by kernel_rfl
theorem symbolFindsFact23 : (Rows.symbolFindsRow.shortTexts.isNone) = true := by kernel_rfl
theorem symbolFindsFact24 : (Tryd.prog.stopsHeard) = true := fHeard
theorem symbolFindsFact25 : (Tryd.prog.mayEnter) = true := fEnter
theorem symbolFindsFact26 : ((Rows.symbolFindsRow.lifted == Tryd.prog.liftsFinal)) = true := by kernel_rfl
theorem symbolFindsFact27 : ((Tryd.prog.make == some Rows.symbolFindsRow.make)) = true := by kernel_rfl
theorem symbolFindsFacts : joinedFacts Tryd.prog 4 Tryd.f4 Rows.symbolFindsSpec Rows.symbolFindsRow = true := by
 unfold joinedFacts
 rw [symbolFindsFact0, symbolFindsFact1, symbolFindsFact2, symbolFindsFact3, symbolFindsFact4, symbolFindsFact5, symbolFindsFact6, symbolFindsFact7, symbolFindsFact8, symbolFindsFact9, symbolFindsFact10, symbolFindsFact11, symbolFindsFact12, symbolFindsFact13, symbolFindsFact14, symbolFindsFact15, symbolFindsFact16, symbolFindsFact17, symbolFindsFact18, symbolFindsFact19, symbolFindsFact20, symbolFindsFact21, symbolFindsFact22, symbolFindsFact23, symbolFindsFact24, symbolFindsFact25, symbolFindsFact26, symbolFindsFact27]
 kernel_rfl
theorem symbolFindsNamed : Tryd.prog.funcNamed "cassegrain/cassegrainlaw04.SymbolFinds" = some 4 := by kernel_rfl
theorem symbolFinds_holds : Rows.SymbolFindsSaid :=
 OpenClaim.holds_of_wide 4 Tryd.f4 rfl rfl rfl rfl rfl rfl rfl ⟨rfl, rfl, rfl, rfl, rfl⟩ rfl rfl rfl rfl rfl symbolFindsNamed Tryd.func4 symbolFindsFacts
  (of_decide_eq_true (by kernel_rfl)) (by unfold Func.isWrapper; first | (rw [if_pos (by decide +kernel)]; kernel_rfl) | (rw [if_neg (by decide +kernel)]; exact ⟨rfl, rfl⟩))
  (fun os started H enc _ => symbolFindsLifted os started H enc)
theorem symbolFindsParams : (Tryd.f4.params.toList.all fun t => !Tryd.prog.wantsStandIn t) = true := by kernel_rfl
theorem symbolFindsWf : Rows.symbolFindsRow.wfByText (OpenSpec.ofChange Rows.symbolFindsSpec) = true := by kernel_rfl
theorem symbolFindsGoes : false = Rows.symbolFindsRow.goesBy Tryd.pinned.checked.prog := by kernel_rfl
theorem symbolFinds_card : Rows.SymbolFindsCardSaid :=
 Claim7.holds_tied_plain_at .later [] [.data, .data, .data] true (true, "fc35d03b8b601be7e2432c9146edea038834c15e3c955cd5ed778deb69910b8c") false
  symbolFinds_holds (fun _ h => by cases h) symbolFindsWf (fun _ h => by cases h) symbolFinds_row_tie rfl ⟨rfl, rfl⟩ fMain rfl
  (fun f fn hf hfn => by
    obtain rfl : f = 4 := Option.some.inj (symbolFindsNamed.symm.trans hf) |>.symm
    obtain rfl : fn = Tryd.f4 := (Option.some.inj (Tryd.func4.symm.trans hfn)).symm
    exact ⟨fLooks, fun j t ht => by
     have := List.all_eq_true.1 symbolFindsParams t (by rw [Array.mem_toList_iff]; exact Array.mem_of_getElem? ht)
     show Tryd.prog.wantsStandIn t = false
     simpa using this⟩)
  symbolFindsGoes
#print axioms symbolFinds_card
end Go.Proofs.YthckjfbhdjjnkaaDoor
