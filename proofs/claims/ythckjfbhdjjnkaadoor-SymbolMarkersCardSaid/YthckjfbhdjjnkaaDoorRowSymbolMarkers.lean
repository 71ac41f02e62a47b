import Derived.Test.YthckjfbhdjjnkaaDoorMarkersLaw
import Derived.Test.YthckjfbhdjjnkaaDoorFacts4
import Derived.Test.YthckjfbhdjjnkaaDoorTie
import Derived.Test.YthckjfbhdjjnkaaDoorCards
import Derived.WalkKit
import Derived.ProofKit
import Derived.OpenShut
import Derived.JoinedCond
import Derived.SevenTiedAt
set_option linter.unusedSimpArgs false
namespace Go.Proofs.YthckjfbhdjjnkaaDoor
open Go.Ev Go.ChangeShapes Go.WideShapes Go.ChangeAt Go.RowKit
theorem symbolMarkersLaw : ∀ cs, Typed [(.agg (.pair (.slice (.int .i64)) (.pair (.int .i64) (.pair (.int .i64) (.pair (.int .i64) (.pair (.int .i64) (.int .i64))))))), (.slice (.int .i64)), (.agg (.pair (.int .i64) (.int .i64)))] cs → Meets Tryd.prog 3 cs saysTrue := law_of_spec (shs := [(.agg (.pair (.slice (.int .i64)) (.pair (.int .i64) (.pair (.int .i64) (.pair (.int .i64) (.pair (.int .i64) (.int .i64))))))), (.slice (.int .i64)), (.agg (.pair (.int .i64) (.int .i64)))]) i3 (fun x _ => markers_true x.1 x.2.1 x.2.2)
set_option maxRecDepth 100000 in
theorem symbolMarkersLifted (os : Os) (started : os.Started) (H : Type) (enc : TypeId × Value → H) :
 ReturnsInHanded {} Tryd.checked os 3 .any (fun w args => (Rows.symbolMarkersSpec.pre enc Tryd.prog Tryd.f3 Rows.symbolMarkersRow.domain false w args ∧ laidMet Tryd.prog spLaid w) ∧ sizedMet enc Tryd.prog Tryd.f3 (OpenSpec.ofChange Rows.symbolMarkersSpec) false w args)
  (Rows.symbolMarkersSpec.post enc Tryd.prog Tryd.f3 false true false false) := by
 refine returnsInHanded_of_change_and (C := Tryd.checked) (X := fun w _ => laidMet Tryd.prog spLaid w) (fun _ _ _ hh h => h.of_heap hh) own started (by kernel_rfl) Tryd.func3
  (ChangeSpec.witness_at (enc := enc) (C := Tryd.checked) (os := os) (X := fun w _ => laidMet Tryd.prog spLaid w) false (laidWorld os) #[.agg #[.slice none 0 0, .int .i64 0, .int .i64 0, .int .i64 0, .int .i64 0, .int .i64 0], .slice none 0 0, .agg #[.int .i64 0, .int .i64 0]] 8 rfl (by kernel_rfl) (by kernel_rfl) (by kernel_rfl) (by kernel_rfl) (by kernel_rfl) (laidWorld_met os _)) ?_
 intro W base args ds gs before hval hW _ _ hL _
 refine contract_of_law (shs := [(.agg (.pair (.slice (.int .i64)) (.pair (.int .i64) (.pair (.int .i64) (.pair (.int .i64) (.pair (.int .i64) (.int .i64))))))), (.slice (.int .i64)), (.agg (.pair (.int .i64) (.int .i64)))]) (tb := 4) laid (by kernel_rfl) (by kernel_rfl) rfl (by kernel_rfl) (by kernel_rfl) rfl (fun ds h => ?_) symbolMarkersLaw (globsOf_laid hL) hval hW
 match ds, h with
 | [_, _, _], _ => rfl
set_option maxRecDepth 100000
theorem symbolMarkersFact0 : (Rows.symbolMarkersRow.wf (OpenSpec.ofChange Rows.symbolMarkersSpec)) = true := by kernel_rfl
theorem symbolMarkersFact1 : (laidOutB Tryd.prog) = true := laid
theorem symbolMarkersFact2 : (mapsRowed Tryd.prog) = true := fMaps
theorem symbolMarkersFact3 : (Tryd.f3.params.all (Tryd.prog.readableRec ·)) = true := by kernel_rfl
theorem symbolMarkersFact4 : (namedTie Tryd.prog Rows.symbolMarkersRow.named Rows.symbolMarkersSpec.vars) = true := by kernel_rfl
theorem symbolMarkersFact5 : ((Rows.symbolMarkersRow.stops == [])) = true := by kernel_rfl
theorem symbolMarkersFact6 : ((Tryd.prog.stops == [])) = true := by rw [fStops]; rfl
theorem symbolMarkersFact7 : ((Rows.symbolMarkersRow.knobs == [])) = true := by kernel_rfl
theorem symbolMarkersFact8 : ((Tryd.prog.stopKnobs == [])) = true := by rw [fKnobs]; rfl
theorem symbolMarkersFact9 : ((Rows.symbolMarkersRow.inPlace == Tryd.prog.inPlace 3)) = true := by kernel_rfl
theorem symbolMarkersFact10 : ((Rows.symbolMarkersRow.unfollowed == Tryd.prog.unfollowed 3)) = true := by kernel_rfl
theorem symbolMarkersFact11 : ((Rows.symbolMarkersRow.recurses == Tryd.prog.recurses 3)) = true := by kernel_rfl
theorem symbolMarkersFact12 : ((Rows.symbolMarkersRow.named == Tryd.prog.varsNamed 3)) = true := by kernel_rfl
theorem symbolMarkersFact13 : ((Rows.symbolMarkersRow.maps == (Tryd.f3.params.toList ++ Rows.symbolMarkersSpec.plain.varTypes Tryd.prog).any (Tryd.prog.mapsRec ·))) = true := by kernel_rfl
theorem symbolMarkersFact14 : ((Rows.symbolMarkersRow.ifaces == (Tryd.f3.params.toList ++ Rows.symbolMarkersSpec.plain.varTypes Tryd.prog).any (Tryd.prog.ifacesRec ·))) = true := by kernel_rfl
theorem symbolMarkersFact15 : ((Rows.symbolMarkersRow.mapsOut == Tryd.prog.mapsAmong Tryd.f3.resultTypes.toList)) = true := by kernel_rfl
theorem symbolMarkersFact16 : ((Rows.symbolMarkersRow.loops == (Tryd.f3.params.toList ++ Rows.symbolMarkersSpec.plain.varTypes Tryd.prog).any (Tryd.prog.loopsFrom ·))) = true := by kernel_rfl
theorem symbolMarkersFact17 : ((Rows.symbolMarkersRow.wideKeys == (Tryd.f3.params.toList ++ Rows.symbolMarkersSpec.plain.varTypes Tryd.prog ++ Tryd.f3.resultTypes.toList).any (Tryd.prog.wideKeysFrom ·))) = true := by kernel_rfl
theorem symbolMarkersFact18 : (Rows.symbolMarkersSpec.vars.all (Tryd.prog.varReadable ·)) = true := by kernel_rfl
theorem symbolMarkersFact19 : (Tryd.f3.resultTypes.all (fun t => Tryd.prog.readableRec t && decide (t < Tryd.prog.types.size))) = true := by kernel_rfl
theorem symbolMarkersFact20 : ((Rows.symbolMarkersRow.ifacesOut == Tryd.f3.resultTypes.toList.any (Tryd.prog.ifacesRec ·))) = true := by kernel_rfl
theorem symbolMarkersFact21 : ((Rows.symbolMarkersRow.loopsOut == Tryd.f3.resultTypes.toList.any (Tryd.prog.loopsFrom ·))) = true := by kernel_rfl
theorem symbolMarkersFact22 : ((Rows.symbolMarkersRow.plainKeys == Tryd.prog.plainKeys)) = true := by kernel_rfl
theorem symbolMarkersFact23 : (Rows.symbolMarkersRow.shortTexts.isNone) = true := by kernel_rfl
theorem symbolMarkersFact24 : (Tryd.prog.stopsHeard) = true := fHeard
theorem symbolMarkersFact25 : (Tryd.prog.mayEnter) = true := fEnter
theorem symbolMarkersFact26 : ((Rows.symbolMarkersRow.lifted == Tryd.prog.liftsFinal)) = true := by kernel_rfl
theorem symbolMarkersFact27 : ((Tryd.prog.make == some Rows.symbolMarkersRow.make)) = true := by kernel_rfl
theorem symbolMarkersFacts : joinedFacts Tryd.prog 3 Tryd.f3 Rows.symbolMarkersSpec Rows.symbolMarkersRow = true := by
 unfold joinedFacts
 rw [symbolMarkersFact0, symbolMarkersFact1, symbolMarkersFact2, symbolMarkersFact3, symbolMarkersFact4, symbolMarkersFact5, symbolMarkersFact6, symbolMarkersFact7, symbolMarkersFact8, symbolMarkersFact9, symbolMarkersFact10, symbolMarkersFact11, symbolMarkersFact12, symbolMarkersFact13, symbolMarkersFact14, symbolMarkersFact15, symbolMarkersFact16, symbolMarkersFact17, symbolMarkersFact18, symbolMarkersFact19, symbolMarkersFact20, symbolMarkersFact21, symbolMarkersFact22, symbolMarkersFact23, symbolMarkersFact24, symbolMarkersFact25, symbolMarkersFact26, symbolMarkersFact27]
 kernel_rfl
theorem symbolMarkersNamed : Tryd.prog.funcNamed "cassegrain/cassegrainlaw04.SymbolMarkers" = some 3 := by kernel_rfl
theorem symbolMarkers_holds : Rows.SymbolMarkersSaid :=
 OpenClaim.holds_of_wide 3 Tryd.f3 rfl rfl rfl rfl rfl rfl rfl ⟨rfl, rfl, rfl, rfl, rfl⟩ rfl rfl rfl rfl rfl symbolMarkersNamed Tryd.func3 symbolMarkersFacts
  (of_decide_eq_true (by kernel_rfl)) (by unfold Func.isWrapper; first | (rw [if_pos (by decide +kernel)]; kernel_rfl) | (rw [if_neg (by decide +kernel)]; exact ⟨rfl, rfl⟩))
  (fun os started H enc _ => symbolMarkersLifted os started H enc)
theorem symbolMarkersParams : (Tryd.f3.params.toList.all fun t => !Tryd.prog.wantsStandIn t) = true := by kernel_rfl
theorem symbolMarkersWf : Rows.symbolMarkersRow.wfByText (OpenSpec.ofChange Rows.symbolMarkersSpec) = true := by kernel_rfl
theorem symbolMarkersGoes : false = Rows.symbolMarkersRow.goesBy Tryd.pinned.checked.prog := by kernel_rfl
theorem symbolMarkers_card : Rows.SymbolMarkersCardSaid :=
 Claim7.holds_tied_plain_at .later [] [.data, .data, .data] true (true, "fc35d03b8b601be7e2432c9146edea038834c15e3c955cd5ed778deb69910b8c") false
  symbolMarkers_holds (fun _ h => by cases h) symbolMarkersWf (fun _ h => by cases h) symbolMarkers_row_tie rfl ⟨rfl, rfl⟩ fMain rfl
  (fun f fn hf hfn => by
    obtain rfl : f = 3 := Option.some.inj (symbolMarkersNamed.symm.trans hf) |>.symm
    obtain rfl : fn = Tryd.f3 := (Option.some.inj (Tryd.func3.symm.trans hfn)).symm
    exact ⟨fLooks, fun j t ht => by
     have := List.all_eq_true.1 symbolMarkersParams t (by rw [Array.mem_toList_iff]; exact Array.mem_of_getElem? ht)
     show Tryd.prog.wantsStandIn t = false
     simpa using this⟩)
  symbolMarkersGoes
#print axioms symbolMarkers_card
end Go.Proofs.YthckjfbhdjjnkaaDoor
