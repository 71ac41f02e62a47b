/- TopRangingResolves: the statement holds for every input; condition: the package-level variable reads as listed, which the card ties to the program's text. -/
import Derived.Test.YtdoehknomnhlkaaDoorResolve
import Derived.Test.YtdoehknomnhlkaaDoorFacts7
import Derived.Test.YtdoehknomnhlkaaDoorTie
import Derived.Test.YtdoehknomnhlkaaDoorCards
import Derived.WalkKit
import Derived.ProofKit
import Derived.OpenShut
import Derived.JoinedCond
import Derived.SevenTiedAt
set_option linter.unusedSimpArgs false
namespace Go.Proofs.YtdoehknomnhlkaaDoor
open Go.Ev Go.ChangeShapes Go.WideShapes Go.ChangeAt Go.RowKit
theorem topRangingResolvesLaw : ∀ cs, Typed [(.agg (.pair (.int .i64) (.pair (.slice (.int .i64)) (.pair (.slice (.int .i64)) (.pair (.int .i64) (.int .i64))))))] cs → Meets Tryd.prog 4 cs saysTrue := law_of_spec (shs := [(.agg (.pair (.int .i64) (.pair (.slice (.int .i64)) (.pair (.slice (.int .i64)) (.pair (.int .i64) (.int .i64))))))]) i4 (fun x _ => resolves_true x)
set_option maxRecDepth 100000 in
theorem topRangingResolvesLifted (os : Os) (started : os.Started) (H : Type) (enc : TypeId × Value → H) :
 ReturnsInHanded {} Tryd.checked os 4 .any (fun w args => (Rows.topRangingResolvesSpec.pre enc Tryd.prog Tryd.f4 Rows.topRangingResolvesRow.domain false w args ∧ laidMet Tryd.prog spLaid w) ∧ sizedMet enc Tryd.prog Tryd.f4 (OpenSpec.ofChange Rows.topRangingResolvesSpec) false w args)
  (Rows.topRangingResolvesSpec.post enc Tryd.prog Tryd.f4 false true false false) := by
 refine returnsInHanded_of_change_and (C := Tryd.checked) (X := fun w _ => laidMet Tryd.prog spLaid w) (fun _ _ _ hh h => h.of_heap hh) own started (by kernel_rfl) Tryd.func4
  (ChangeSpec.witness_at (enc := enc) (C := Tryd.checked) (os := os) (X := fun w _ => laidMet Tryd.prog spLaid w) false (laidWorld os) #[.agg #[.int .i64 0, .slice none 0 0, .slice none 0 0, .int .i64 0, .int .i64 0]] 8 rfl (by kernel_rfl) (by kernel_rfl) (by kernel_rfl) (by kernel_rfl) (by kernel_rfl) (laidWorld_met os _)) ?_
 intro W base args ds gs before hval hW _ _ hL _
 refine contract_of_law (shs := [(.agg (.pair (.int .i64) (.pair (.slice (.int .i64)) (.pair (.slice (.int .i64)) (.pair (.int .i64) (.int .i64))))))]) (tb := 4) laid (by kernel_rfl) (by kernel_rfl) rfl (by kernel_rfl) (by kernel_rfl) rfl (fun ds h => ?_) topRangingResolvesLaw (globsOf_laid hL) hval hW
 match ds, h with
 | [_], _ => rfl
set_option maxRecDepth 100000
theorem topRangingResolvesFact0 : (Rows.topRangingResolvesRow.wf (OpenSpec.ofChange Rows.topRangingResolvesSpec)) = true := by kernel_rfl
theorem topRangingResolvesFact1 : (laidOutB Tryd.prog) = true := laid
theorem topRangingResolvesFact2 : (mapsRowed Tryd.prog) = true := fMaps
theorem topRangingResolvesFact3 : (Tryd.f4.params.all (Tryd.prog.readableRec ·)) = true := by kernel_rfl
theorem topRangingResolvesFact4 : (namedTie Tryd.prog Rows.topRangingResolvesRow.named Rows.topRangingResolvesSpec.vars) = true := by kernel_rfl
theorem topRangingResolvesFact5 : ((Rows.topRangingResolvesRow.stops == [])) = true := by kernel_rfl
theorem topRangingResolvesFact6 : ((Tryd.prog.stops == [])) = true := by rw [fStops]; rfl
theorem topRangingResolvesFact7 : ((Rows.topRangingResolvesRow.knobs == [])) = true := by kernel_rfl
theorem topRangingResolvesFact8 : ((Tryd.prog.stopKnobs == [])) = true := by rw [fKnobs]; rfl
theorem topRangingResolvesFact9 : ((Rows.topRangingResolvesRow.inPlace == Tryd.prog.inPlace 4)) = true := by kernel_rfl
theorem topRangingResolvesFact10 : ((Rows.topRangingResolvesRow.unfollowed == Tryd.prog.unfollowed 4)) = true := by kernel_rfl
theorem topRangingResolvesFact11 : ((Rows.topRangingResolvesRow.recurses == Tryd.prog.recurses 4)) = true := by kernel_rfl
theorem topRangingResolvesFact12 : ((Rows.topRangingResolvesRow.named == Tryd.prog.varsNamed 4)) = true := by kernel_rfl
theorem topRangingResolvesFact13 : ((Rows.topRangingResolvesRow.maps == (Tryd.f4.params.toList ++ Rows.topRangingResolvesSpec.plain.varTypes Tryd.prog).any (Tryd.prog.mapsRec ·))) = true := by kernel_rfl
theorem topRangingResolvesFact14 : ((Rows.topRangingResolvesRow.ifaces == (Tryd.f4.params.toList ++ Rows.topRangingResolvesSpec.plain.varTypes Tryd.prog).any (Tryd.prog.ifacesRec ·))) = true := by kernel_rfl
theorem topRangingResolvesFact15 : ((Rows.topRangingResolvesRow.mapsOut == Tryd.prog.mapsAmong Tryd.f4.resultTypes.toList)) = true := by kernel_rfl
theorem topRangingResolvesFact16 : ((Rows.topRangingResolvesRow.loops == (Tryd.f4.params.toList ++ Rows.topRangingResolvesSpec.plain.varTypes Tryd.prog).any (Tryd.prog.loopsFrom ·))) = true := by kernel_rfl
theorem topRangingResolvesFact17 : ((Rows.topRangingResolvesRow.wideKeys == (Tryd.f4.params.toList ++ Rows.topRangingResolvesSpec.plain.varTypes Tryd.prog ++ Tryd.f4.resultTypes.toList).any (Tryd.prog.wideKeysFrom ·))) = true := by kernel_rfl
theorem topRangingResolvesFact18 : (Rows.topRangingResolvesSpec.vars.all (Tryd.prog.varReadable ·)) = true := by kernel_rfl
theorem topRangingResolvesFact19 : (Tryd.f4.resultTypes.all (fun t => Tryd.prog.readableRec t && decide (t < Tryd.prog.types.size))) = true := by kernel_rfl
theorem topRangingResolvesFact20 : ((Rows.topRangingResolvesRow.ifacesOut == Tryd.f4.resultTypes.toList.any (Tryd.prog.ifacesRec ·))) = true := by kernel_rfl
theorem topRangingResolvesFact21 : ((Rows.topRangingResolvesRow.loopsOut == Tryd.f4.resultTypes.toList.any (Tryd.prog.loopsFrom ·))) = true := by kernel_rfl
theorem topRangingResolvesFact22 : ((Rows.topRangingResolvesRow.plainKeys == Tryd.prog.plainKeys)) = true := by kernel_rfl
theorem topRangingResolvesFact23 : (Rows.topRangingResolvesRow.shortTexts.isNone) = true := by kernel_rfl
theorem topRangingResolvesFact24 : (Tryd.prog.stopsHeard) = true := fHeard
theorem topRangingResolvesFact25 : (Tryd.prog.mayEnter) = true := fEnter
theorem topRangingResolvesFact26 : ((Rows.topRangingResolvesRow.lifted == Tryd.prog.liftsFinal)) = true := by kernel_rfl
theorem topRangingResolvesFact27 : ((Tryd.prog.make == some Rows.topRangingResolvesRow.make)) = true := by kernel_rfl
theorem topRangingResolvesFacts : joinedFacts Tryd.prog 4 Tryd.f4 Rows.topRangingResolvesSpec Rows.topRangingResolvesRow = true := by
 unfold joinedFacts
 rw [topRangingResolvesFact0, topRangingResolvesFact1, topRangingResolvesFact2, topRangingResolvesFact3, topRangingResolvesFact4, topRangingResolvesFact5, topRangingResolvesFact6, topRangingResolvesFact7, topRangingResolvesFact8, topRangingResolvesFact9, topRangingResolvesFact10, topRangingResolvesFact11, topRangingResolvesFact12, topRangingResolvesFact13, topRangingResolvesFact14, topRangingResolvesFact15, topRangingResolvesFact16, topRangingResolvesFact17, topRangingResolvesFact18, topRangingResolvesFact19, topRangingResolvesFact20, topRangingResolvesFact21, topRangingResolvesFact22, topRangingResolvesFact23, topRangingResolvesFact24, topRangingResolvesFact25, topRangingResolvesFact26, topRangingResolvesFact27]
 kernel_rfl
theorem topRangingResolvesNamed : Tryd.prog.funcNamed "cassegrain/cassegraintop.TopRangingResolves" = some 4 := by kernel_rfl
theorem topRangingResolves_holds : Rows.TopRangingResolvesSaid :=
 OpenClaim.holds_of_wide 4 Tryd.f4 rfl rfl rfl rfl rfl rfl rfl ⟨rfl, rfl, rfl, rfl, rfl⟩ rfl rfl rfl rfl rfl topRangingResolvesNamed Tryd.func4 topRangingResolvesFacts
  (of_decide_eq_true (by kernel_rfl)) (by unfold Func.isWrapper; first | (rw [if_pos (by decide +kernel)]; kernel_rfl) | (rw [if_neg (by decide +kernel)]; exact ⟨rfl, rfl⟩))
  (fun os started H enc _ => topRangingResolvesLifted os started H enc)
theorem topRangingResolvesParams : (Tryd.f4.params.toList.all fun t => !Tryd.prog.wantsStandIn t) = true := by kernel_rfl
theorem topRangingResolvesWf : Rows.topRangingResolvesRow.wfByText (OpenSpec.ofChange Rows.topRangingResolvesSpec) = true := by kernel_rfl
theorem topRangingResolvesGoes : false = Rows.topRangingResolvesRow.goesBy Tryd.pinned.checked.prog := by kernel_rfl
theorem topRangingResolves_card : Rows.TopRangingResolvesCardSaid :=
 Claim7.holds_tied_plain_at .later [] [.data] true (true, "29c768bec3825d8d0af820096dde26eca2c566ab211de3fca6d1d9eb736e2b12") false
  topRangingResolves_holds (fun _ h => by cases h) topRangingResolvesWf (fun _ h => by cases h) topRangingResolves_row_tie rfl ⟨rfl, rfl⟩ fMain rfl
  (fun f fn hf hfn => by
    obtain rfl : f = 4 := Option.some.inj (topRangingResolvesNamed.symm.trans hf) |>.symm
    obtain rfl : fn = Tryd.f4 := (Option.some.inj (Tryd.func4.symm.trans hfn)).symm
    exact ⟨fLooks, fun j t ht => by
     have := List.all_eq_true.1 topRangingResolvesParams t (by rw [Array.mem_toList_iff]; exact Array.mem_of_getElem? ht)
     show Tryd.prog.wantsStandIn t = false
     simpa using this⟩)
  topRangingResolvesGoes
#print axioms topRangingResolves_card
end Go.Proofs.YtdoehknomnhlkaaDoor
