/- TopSampleNoneLost: the statement holds for every input; condition: the package-level variables read as listed, which the card ties to the program's text. -/
import Derived.Test.YtcdpgjlaajdfmaaGreatDoorNoneLost
import Derived.Test.YtcdpgjlaajdfmaaGreatDoorFacts5
import Derived.Test.YtcdpgjlaajdfmaaGreatDoorTie
import Derived.Test.YtcdpgjlaajdfmaaGreatDoorCards
import Derived.WalkKit
import Derived.ProofKit
import Derived.OpenShut
import Derived.JoinedCond
import Derived.SevenTiedAt
set_option linter.unusedSimpArgs false
namespace Go.Proofs.YtcdpgjlaajdfmaaGreatDoor
open Go.Ev Go.ChangeShapes Go.WideShapes Go.ChangeAt Go.RowKit
theorem topSampleNoneLostLaw : ∀ cs, Typed [(.agg (.pair (.int .i64) (.pair (.slice (.agg (.pair (.int .i64) (.int .i64)))) (.slice (.int .i64))))), (.agg (.pair (.int .i64) (.pair (.int .i64) (.int .i64)))), (.agg (.pair (.slice (.int .i64)) (.int .i64)))] cs → Meets Tryz.prog 4 cs saysTrue := law_of_spec (shs := [(.agg (.pair (.int .i64) (.pair (.slice (.agg (.pair (.int .i64) (.int .i64)))) (.slice (.int .i64))))), (.agg (.pair (.int .i64) (.pair (.int .i64) (.int .i64)))), (.agg (.pair (.slice (.int .i64)) (.int .i64)))]) i4 (fun x _ => lost_true x.1 x.2.1 x.2.2)
set_option maxRecDepth 100000 in
theorem topSampleNoneLostLifted (os : Os) (started : os.Started) (H : Type) (enc : TypeId × Value → H) :
 ReturnsInHanded {} Tryz.checked os 4 .any (fun w args => (Rows.topSampleNoneLostSpec.pre enc Tryz.prog Tryz.f4 Rows.topSampleNoneLostRow.domain false w args ∧ laidMet Tryz.prog spLaid w) ∧ sizedMet enc Tryz.prog Tryz.f4 (OpenSpec.ofChange Rows.topSampleNoneLostSpec) false w args)
  (Rows.topSampleNoneLostSpec.post enc Tryz.prog Tryz.f4 false true false false) := by
 refine returnsShaped (C := Tryz.checked) (X := fun w _ => laidMet Tryz.prog spLaid w) (fun _ _ _ hh h => h.of_heap hh) own started (by kernel_rfl) Tryz.func4
  (ChangeSpec.witness_at (enc := enc) (C := Tryz.checked) (os := os) (X := fun w _ => laidMet Tryz.prog spLaid w) false (laidWorld os) #[.agg #[.int .i64 0, .slice none 0 0, .slice none 0 0], .agg #[.int .i64 0, .int .i64 0, .int .i64 0], .agg #[.slice none 0 0, .int .i64 0]] 8 rfl (by kernel_rfl) (by kernel_rfl) (by kernel_rfl) (by kernel_rfl) (by kernel_rfl) (laidWorld_met os _)) ?_
 intro W base args ds gs before hval hW hsh hL
 refine contract_of_law (shs := [(.agg (.pair (.int .i64) (.pair (.slice (.agg (.pair (.int .i64) (.int .i64)))) (.slice (.int .i64))))), (.agg (.pair (.int .i64) (.pair (.int .i64) (.int .i64)))), (.agg (.pair (.slice (.int .i64)) (.int .i64)))]) (tb := 4) laid (by kernel_rfl) (by kernel_rfl) rfl (by kernel_rfl) (by kernel_rfl) rfl (fun ds h => ?_) topSampleNoneLostLaw (globsOf_laid hL hsh) hval hW
 match ds, h with
 | [_, _, _], _ => rfl
set_option maxRecDepth 100000
theorem topSampleNoneLostFact0 : (Rows.topSampleNoneLostRow.wf (OpenSpec.ofChange Rows.topSampleNoneLostSpec)) = true := by kernel_rfl
theorem topSampleNoneLostFact1 : (laidOutB Tryz.prog) = true := laid
theorem topSampleNoneLostFact2 : (mapsRowed Tryz.prog) = true := fMaps
theorem topSampleNoneLostFact3 : (Tryz.f4.params.all (Tryz.prog.readableRec ·)) = true := by kernel_rfl
theorem topSampleNoneLostFact4 : (namedTie Tryz.prog Rows.topSampleNoneLostRow.named Rows.topSampleNoneLostSpec.vars) = true := by kernel_rfl
theorem topSampleNoneLostFact5 : ((Rows.topSampleNoneLostRow.stops == [])) = true := by kernel_rfl
theorem topSampleNoneLostFact6 : ((Tryz.prog.stops == [])) = true := by rw [fStops]; rfl
theorem topSampleNoneLostFact7 : ((Rows.topSampleNoneLostRow.knobs == [])) = true := by kernel_rfl
theorem topSampleNoneLostFact8 : ((Tryz.prog.stopKnobs == [])) = true := by rw [fKnobs]; rfl
theorem topSampleNoneLostFact9 : ((Rows.topSampleNoneLostRow.inPlace == Tryz.prog.inPlace 4)) = true := by kernel_rfl
theorem topSampleNoneLostFact10 : ((Rows.topSampleNoneLostRow.unfollowed == Tryz.prog.unfollowed 4)) = true := by kernel_rfl
theorem topSampleNoneLostFact11 : ((Rows.topSampleNoneLostRow.recurses == Tryz.prog.recurses 4)) = true := by kernel_rfl
theorem topSampleNoneLostFact12 : ((Rows.topSampleNoneLostRow.named == Tryz.prog.varsNamed 4)) = true := by kernel_rfl
theorem topSampleNoneLostFact13 : ((Rows.topSampleNoneLostRow.maps == (Tryz.f4.params.toList ++ Rows.topSampleNoneLostSpec.plain.varTypes Tryz.prog).any (Tryz.prog.mapsRec ·))) = true := by kernel_rfl
theorem topSampleNoneLostFact14 : ((Rows.topSampleNoneLostRow.ifaces == (Tryz.f4.params.toList ++ Rows.topSampleNoneLostSpec.plain.varTypes Tryz.prog).any (Tryz.prog.ifacesRec ·))) = true := by kernel_rfl
theorem topSampleNoneLostFact15 : ((Rows.topSampleNoneLostRow.mapsOut == Tryz.prog.mapsAmong Tryz.f4.resultTypes.toList)) = true := by kernel_rfl
theorem topSampleNoneLostFact16 : ((Rows.topSampleNoneLostRow.loops == (Tryz.f4.params.toList ++ Rows.topSampleNoneLostSpec.plain.varTypes Tryz.prog).any (Tryz.prog.loopsFrom ·))) = true := by kernel_rfl
theorem topSampleNoneLostFact17 : ((Rows.topSampleNoneLostRow.wideKeys == (Tryz.f4.params.toList ++ Rows.topSampleNoneLostSpec.plain.varTypes Tryz.prog ++ Tryz.f4.resultTypes.toList).any (Tryz.prog.wideKeysFrom ·))) = true := by kernel_rfl
theorem topSampleNoneLostFact18 : (Rows.topSampleNoneLostSpec.vars.all (Tryz.prog.varReadable ·)) = true := by kernel_rfl
theorem topSampleNoneLostFact19 : (Tryz.f4.resultTypes.all (fun t => Tryz.prog.readableRec t && decide (t < Tryz.prog.types.size))) = true := by kernel_rfl
theorem topSampleNoneLostFact20 : ((Rows.topSampleNoneLostRow.ifacesOut == Tryz.f4.resultTypes.toList.any (Tryz.prog.ifacesRec ·))) = true := by kernel_rfl
theorem topSampleNoneLostFact21 : ((Rows.topSampleNoneLostRow.loopsOut == Tryz.f4.resultTypes.toList.any (Tryz.prog.loopsFrom ·))) = true := by kernel_rfl
theorem topSampleNoneLostFact22 : ((Rows.topSampleNoneLostRow.plainKeys == Tryz.prog.plainKeys)) = true := by kernel_rfl
theorem topSampleNoneLostFact23 : (Rows.topSampleNoneLostRow.shortTexts.isNone) = true := by kernel_rfl
theorem topSampleNoneLostFact24 : (Tryz.prog.stopsHeard) = true := fHeard
theorem topSampleNoneLostFact25 : (Tryz.prog.mayEnter) = true := fEnter
theorem topSampleNoneLostFact26 : ((Rows.topSampleNoneLostRow.lifted == Tryz.prog.liftsFinal)) = true := by kernel_rfl
theorem topSampleNoneLostFact27 : ((Tryz.prog.make == some Rows.topSampleNoneLostRow.make)) = true := by kernel_rfl
theorem topSampleNoneLostFacts : joinedFacts Tryz.prog 4 Tryz.f4 Rows.topSampleNoneLostSpec Rows.topSampleNoneLostRow = true := by
 unfold joinedFacts
 rw [topSampleNoneLostFact0, topSampleNoneLostFact1, topSampleNoneLostFact2, topSampleNoneLostFact3, topSampleNoneLostFact4, topSampleNoneLostFact5, topSampleNoneLostFact6, topSampleNoneLostFact7, topSampleNoneLostFact8, topSampleNoneLostFact9, topSampleNoneLostFact10, topSampleNoneLostFact11, topSampleNoneLostFact12, topSampleNoneLostFact13, topSampleNoneLostFact14, topSampleNoneLostFact15, topSampleNoneLostFact16, topSampleNoneLostFact17, topSampleNoneLostFact18, topSampleNoneLostFact19, topSampleNoneLostFact20, topSampleNoneLostFact21, topSampleNoneLostFact22, topSampleNoneLostFact23, topSampleNoneLostFact24, topSampleNoneLostFact25, topSampleNoneLostFact26, topSampleNoneLostFact27]
 kernel_rfl
theorem topSampleNoneLostNamed : Tryz.prog.funcNamed "cassegrain/cassegraintop.TopSampleNoneLost" = some 4 := by kernel_rfl
theorem topSampleNoneLost_holds : Rows.TopSampleNoneLostSaid :=
 OpenClaim.holds_of_wide 4 Tryz.f4 rfl rfl rfl rfl rfl rfl rfl ⟨rfl, rfl, rfl, rfl, rfl⟩ rfl rfl rfl rfl rfl topSampleNoneLostNamed Tryz.func4 topSampleNoneLostFacts
  (of_decide_eq_true (by kernel_rfl)) (by unfold Func.isWrapper; first | (rw [if_pos (by decide +kernel)]; kernel_rfl) | (rw [if_neg (by decide +kernel)]; exact ⟨rfl, rfl⟩))
  (fun os started H enc _ => topSampleNoneLostLifted os started H enc)
theorem topSampleNoneLostParams : (Tryz.f4.params.toList.all fun t => !Tryz.prog.wantsStandIn t) = true := by kernel_rfl
theorem topSampleNoneLostWf : Rows.topSampleNoneLostRow.wfByText (OpenSpec.ofChange Rows.topSampleNoneLostSpec) = true := by kernel_rfl
theorem topSampleNoneLostGoes : false = Rows.topSampleNoneLostRow.goesBy Tryz.pinned.checked.prog := by kernel_rfl
theorem topSampleNoneLost_card : Rows.TopSampleNoneLostCardSaid :=
 Claim7.holds_tied_plain_at .later [] [.data, .data, .data, .data, .sentinel, .sentinel, .pinned] true (true, "5cecdf3dc3e5583d1b9d2917316ac0785569ac78b043339a2187ea529e59e5e0") true
  topSampleNoneLost_holds (fun _ h => by cases h) topSampleNoneLostWf (fun _ h => by cases h) topSampleNoneLost_row_tie rfl ⟨rfl, rfl⟩ fMain rfl
  (fun f fn hf hfn => by
    obtain rfl : f = 4 := Option.some.inj (topSampleNoneLostNamed.symm.trans hf) |>.symm
    obtain rfl : fn = Tryz.f4 := (Option.some.inj (Tryz.func4.symm.trans hfn)).symm
    exact ⟨fLooks, fun j t ht => by
     have := List.all_eq_true.1 topSampleNoneLostParams t (by rw [Array.mem_toList_iff]; exact Array.mem_of_getElem? ht)
     show Tryz.prog.wantsStandIn t = false
     simpa using this⟩)
  topSampleNoneLostGoes
#print axioms topSampleNoneLost_card
end Go.Proofs.YtcdpgjlaajdfmaaGreatDoor
