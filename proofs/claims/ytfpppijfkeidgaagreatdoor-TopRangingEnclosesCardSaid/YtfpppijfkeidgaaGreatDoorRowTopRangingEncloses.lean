/- TopRangingEncloses: the statement holds for every input; condition: the package-level variables read as listed, which the card ties to the program's text. -/
import Derived.Test.YtfpppijfkeidgaaGreatDoorEnclTop
import Derived.Test.YtfpppijfkeidgaaGreatDoorFacts5
import Derived.Test.YtfpppijfkeidgaaGreatDoorTie
import Derived.Test.YtfpppijfkeidgaaGreatDoorCards
import Derived.WalkKit
import Derived.ProofKit
import Derived.OpenShut
import Derived.JoinedCond
import Derived.SevenTiedAt
set_option linter.unusedSimpArgs false
namespace Go.Proofs.YtfpppijfkeidgaaGreatDoor
open Go.Ev Go.ChangeShapes Go.WideShapes Go.ChangeAt Go.RowKit
theorem topRangingEnclosesLaw : ∀ cs, Typed [(.agg (.pair (.int .i64) (.pair (.int .i64) (.pair (.int .i64) (.pair (.slice (.agg (.pair (.int .i64) (.int .i64)))) (.pair (.slice (.int .i64)) (.slice (.agg (.pair (.int .i64) (.int .i64)))))))))), (.slice (.agg (.pair (.int .i64) (.pair (.int .i64) (.int .i64))))), (.int .i64)] cs → Meets Tryz.prog 3 cs saysTrue := law_of_spec (shs := [(.agg (.pair (.int .i64) (.pair (.int .i64) (.pair (.int .i64) (.pair (.slice (.agg (.pair (.int .i64) (.int .i64)))) (.pair (.slice (.int .i64)) (.slice (.agg (.pair (.int .i64) (.int .i64)))))))))), (.slice (.agg (.pair (.int .i64) (.pair (.int .i64) (.int .i64))))), (.int .i64)]) i3 (fun x _ => encl_true x.1 x.2.1 x.2.2)
set_option maxRecDepth 100000 in
theorem topRangingEnclosesLifted (os : Os) (started : os.Started) (H : Type) (enc : TypeId × Value → H) :
 ReturnsInHanded {} Tryz.checked os 3 .any (fun w args => (Rows.topRangingEnclosesSpec.pre enc Tryz.prog Tryz.f3 Rows.topRangingEnclosesRow.domain false w args ∧ laidMet Tryz.prog spLaid w) ∧ sizedMet enc Tryz.prog Tryz.f3 (OpenSpec.ofChange Rows.topRangingEnclosesSpec) false w args)
  (Rows.topRangingEnclosesSpec.post enc Tryz.prog Tryz.f3 false true false false) := by
 refine returnsShaped (C := Tryz.checked) (X := fun w _ => laidMet Tryz.prog spLaid w) (fun _ _ _ hh h => h.of_heap hh) own started (by kernel_rfl) Tryz.func3
  (ChangeSpec.witness_at (enc := enc) (C := Tryz.checked) (os := os) (X := fun w _ => laidMet Tryz.prog spLaid w) false (laidWorld os) #[.agg #[.int .i64 0, .int .i64 0, .int .i64 0, .slice none 0 0, .slice none 0 0, .slice none 0 0], .slice none 0 0, .int .i64 0] 8 rfl (by kernel_rfl) (by kernel_rfl) (by kernel_rfl) (by kernel_rfl) (by kernel_rfl) (laidWorld_met os _)) ?_
 intro W base args ds gs before hval hW hsh hL
 refine contract_of_law (shs := [(.agg (.pair (.int .i64) (.pair (.int .i64) (.pair (.int .i64) (.pair (.slice (.agg (.pair (.int .i64) (.int .i64)))) (.pair (.slice (.int .i64)) (.slice (.agg (.pair (.int .i64) (.int .i64)))))))))), (.slice (.agg (.pair (.int .i64) (.pair (.int .i64) (.int .i64))))), (.int .i64)]) (tb := 4) laid (by kernel_rfl) (by kernel_rfl) rfl (by kernel_rfl) (by kernel_rfl) rfl (fun ds h => ?_) topRangingEnclosesLaw (globsOf_laid hL hsh) hval hW
 match ds, h with
 | [_, _, _], _ => rfl
set_option maxRecDepth 100000
theorem topRangingEnclosesFact0 : (Rows.topRangingEnclosesRow.wf (OpenSpec.ofChange Rows.topRangingEnclosesSpec)) = true := by kernel_rfl
theorem topRangingEnclosesFact1 : (laidOutB Tryz.prog) = true := laid
theorem topRangingEnclosesFact2 : (mapsRowed Tryz.prog) = true := fMaps
theorem topRangingEnclosesFact3 : (Tryz.f3.params.all (Tryz.prog.readableRec ·)) = true := by kernel_rfl
theorem topRangingEnclosesFact4 : (namedTie Tryz.prog Rows.topRangingEnclosesRow.named Rows.topRangingEnclosesSpec.vars) = true := by kernel_rfl
theorem topRangingEnclosesFact5 : ((Rows.topRangingEnclosesRow.stops == [])) = true := by kernel_rfl
theorem topRangingEnclosesFact6 : ((Tryz.prog.stops == [])) = true := by rw [fStops]; rfl
theorem topRangingEnclosesFact7 : ((Rows.topRangingEnclosesRow.knobs == [])) = true := by kernel_rfl
theorem topRangingEnclosesFact8 : ((Tryz.prog.stopKnobs == [])) = true := by rw [fKnobs]; rfl
theorem topRangingEnclosesFact9 : ((Rows.topRangingEnclosesRow.inPlace == Tryz.prog.inPlace 3)) = true := by kernel_rfl
theorem topRangingEnclosesFact10 : ((Rows.topRangingEnclosesRow.unfollowed == Tryz.prog.unfollowed 3)) = true := by kernel_rfl
theorem topRangingEnclosesFact11 : ((Rows.topRangingEnclosesRow.recurses == Tryz.prog.recurses 3)) = true := by kernel_rfl
theorem topRangingEnclosesFact12 : ((Rows.topRangingEnclosesRow.named == Tryz.prog.varsNamed 3)) = true := by kernel_rfl
theorem topRangingEnclosesFact13 : ((Rows.topRangingEnclosesRow.maps == (Tryz.f3.params.toList ++ Rows.topRangingEnclosesSpec.plain.varTypes Tryz.prog).any (Tryz.prog.mapsRec ·))) = true := by kernel_rfl
theorem topRangingEnclosesFact14 : ((Rows.topRangingEnclosesRow.ifaces == (Tryz.f3.params.toList ++ Rows.topRangingEnclosesSpec.plain.varTypes Tryz.prog).any (Tryz.prog.ifacesRec ·))) = true := by kernel_rfl
theorem topRangingEnclosesFact15 : ((Rows.topRangingEnclosesRow.mapsOut == Tryz.prog.mapsAmong Tryz.f3.resultTypes.toList)) = true := by kernel_rfl
theorem topRangingEnclosesFact16 : ((Rows.topRangingEnclosesRow.loops == (Tryz.f3.params.toList ++ Rows.topRangingEnclosesSpec.plain.varTypes Tryz.prog).any (Tryz.prog.loopsFrom ·))) = true := by kernel_rfl
theorem topRangingEnclosesFact17 : ((Rows.topRangingEnclosesRow.wideKeys == (Tryz.f3.params.toList ++ Rows.topRangingEnclosesSpec.plain.varTypes Tryz.prog ++ Tryz.f3.resultTypes.toList).any (Tryz.prog.wideKeysFrom ·))) = true := by kernel_rfl
theorem topRangingEnclosesFact18 : (Rows.topRangingEnclosesSpec.vars.all (Tryz.prog.varReadable ·)) = true := by kernel_rfl
theorem topRangingEnclosesFact19 : (Tryz.f3.resultTypes.all (fun t => Tryz.prog.readableRec t && decide (t < Tryz.prog.types.size))) = true := by kernel_rfl
theorem topRangingEnclosesFact20 : ((Rows.topRangingEnclosesRow.ifacesOut == Tryz.f3.resultTypes.toList.any (Tryz.prog.ifacesRec ·))) = true := by kernel_rfl
theorem topRangingEnclosesFact21 : ((Rows.topRangingEnclosesRow.loopsOut == Tryz.f3.resultTypes.toList.any (Tryz.prog.loopsFrom ·))) = true := by kernel_rfl
theorem topRangingEnclosesFact22 : ((Rows.topRangingEnclosesRow.plainKeys == Tryz.prog.plainKeys)) = true := by kernel_rfl
theorem topRangingEnclosesFact23 : (Rows.topRangingEnclosesRow.shortTexts.isNone) = true := by kernel_rfl
theorem topRangingEnclosesFact24 : (Tryz.prog.stopsHeard) = true := fHeard
theorem topRangingEnclosesFact25 : (Tryz.prog.mayEnter) = true := fEnter
theorem topRangingEnclosesFact26 : ((Rows.topRangingEnclosesRow.lifted == Tryz.prog.liftsFinal)) = true := by kernel_rfl
theorem topRangingEnclosesFact27 : ((Tryz.prog.make == some Rows.topRangingEnclosesRow.make)) = true := by kernel_rfl
theorem topRangingEnclosesFacts : joinedFacts Tryz.prog 3 Tryz.f3 Rows.topRangingEnclosesSpec Rows.topRangingEnclosesRow = true := by
 unfold joinedFacts
 rw [topRangingEnclosesFact0, topRangingEnclosesFact1, topRangingEnclosesFact2, topRangingEnclosesFact3, topRangingEnclosesFact4, topRangingEnclosesFact5, topRangingEnclosesFact6, topRangingEnclosesFact7, topRangingEnclosesFact8, topRangingEnclosesFact9, topRangingEnclosesFact10, topRangingEnclosesFact11, topRangingEnclosesFact12, topRangingEnclosesFact13, topRangingEnclosesFact14, topRangingEnclosesFact15, topRangingEnclosesFact16, topRangingEnclosesFact17, topRangingEnclosesFact18, topRangingEnclosesFact19, topRangingEnclosesFact20, topRangingEnclosesFact21, topRangingEnclosesFact22, topRangingEnclosesFact23, topRangingEnclosesFact24, topRangingEnclosesFact25, topRangingEnclosesFact26, topRangingEnclosesFact27]
 kernel_rfl
theorem topRangingEnclosesNamed : Tryz.prog.funcNamed "cassegrain/cassegraintop.TopRangingEncloses" = some 3 := by kernel_rfl
theorem topRangingEncloses_holds : Rows.TopRangingEnclosesSaid :=
 OpenClaim.holds_of_wide 3 Tryz.f3 rfl rfl rfl rfl rfl rfl rfl ⟨rfl, rfl, rfl, rfl, rfl⟩ rfl rfl rfl rfl rfl topRangingEnclosesNamed Tryz.func3 topRangingEnclosesFacts
  (of_decide_eq_true (by kernel_rfl)) (by unfold Func.isWrapper; first | (rw [if_pos (by decide +kernel)]; kernel_rfl) | (rw [if_neg (by decide +kernel)]; exact ⟨rfl, rfl⟩))
  (fun os started H enc _ => topRangingEnclosesLifted os started H enc)
theorem topRangingEnclosesParams : (Tryz.f3.params.toList.all fun t => !Tryz.prog.wantsStandIn t) = true := by kernel_rfl
theorem topRangingEnclosesWf : Rows.topRangingEnclosesRow.wfByText (OpenSpec.ofChange Rows.topRangingEnclosesSpec) = true := by kernel_rfl
theorem topRangingEnclosesGoes : false = Rows.topRangingEnclosesRow.goesBy Tryz.pinned.checked.prog := by kernel_rfl
theorem topRangingEncloses_card : Rows.TopRangingEnclosesCardSaid :=
 Claim7.holds_tied_plain_at .later [] [.data, .data, .data, .data, .sentinel, .sentinel, .data, .widerDeep, .pinned] true (true, "16d0c761cd3f92b91cf7867def2c86f1785df7a7c0550421e744bd8ec550d365") true
  topRangingEncloses_holds (fun _ h => by cases h) topRangingEnclosesWf (fun _ h => by cases h) topRangingEncloses_row_tie rfl ⟨rfl, rfl⟩ fMain rfl
  (fun f fn hf hfn => by
    obtain rfl : f = 3 := Option.some.inj (topRangingEnclosesNamed.symm.trans hf) |>.symm
    obtain rfl : fn = Tryz.f3 := (Option.some.inj (Tryz.func3.symm.trans hfn)).symm
    exact ⟨fLooks, fun j t ht => by
     have := List.all_eq_true.1 topRangingEnclosesParams t (by rw [Array.mem_toList_iff]; exact Array.mem_of_getElem? ht)
     show Tryz.prog.wantsStandIn t = false
     simpa using this⟩)
  topRangingEnclosesGoes
#print axioms topRangingEncloses_card
end Go.Proofs.YtfpppijfkeidgaaGreatDoor
