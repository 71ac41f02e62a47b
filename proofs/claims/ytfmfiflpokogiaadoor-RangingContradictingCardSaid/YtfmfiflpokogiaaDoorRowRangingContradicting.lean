import Derived.Test.YtfmfiflpokogiaaDoorContrLaw
import Derived.Test.YtfmfiflpokogiaaDoorFacts7
import Derived.Test.YtfmfiflpokogiaaDoorTie
import Derived.Test.YtfmfiflpokogiaaDoorCards
import Derived.WalkKit
import Derived.ProofKit
import Derived.OpenShut
import Derived.JoinedCond
import Derived.SevenTiedAt
set_option linter.unusedSimpArgs false
namespace Go.Proofs.YtfmfiflpokogiaaDoor
open Go.Ev Go.ChangeShapes Go.WideShapes Go.ChangeAt Go.RowKit
theorem rangingContradictingLaw : ∀ cs, Typed [(.slice (.agg (.pair (.int .i64) (.pair (.int .i64) (.pair (.int .i64) (.pair (.int .i64) (.int .i64)))))))] cs → Meets Tryd.prog 4 cs saysTrue := law_of_spec (shs := [(.slice (.agg (.pair (.int .i64) (.pair (.int .i64) (.pair (.int .i64) (.pair (.int .i64) (.int .i64)))))))]) i4 (fun x _ => contr_true x)
set_option maxRecDepth 100000 in
theorem rangingContradictingLifted (os : Os) (started : os.Started) (H : Type) (enc : TypeId × Value → H) :
 ReturnsInHanded {} Tryd.checked os 4 .any (fun w args => (Rows.rangingContradictingSpec.pre enc Tryd.prog Tryd.f4 Rows.rangingContradictingRow.domain false w args ∧ laidMet Tryd.prog spLaid w) ∧ sizedMet enc Tryd.prog Tryd.f4 (OpenSpec.ofChange Rows.rangingContradictingSpec) false w args)
  (Rows.rangingContradictingSpec.post enc Tryd.prog Tryd.f4 false true false false) := by
 refine returnsInHanded_of_change_and (C := Tryd.checked) (X := fun w _ => laidMet Tryd.prog spLaid w) (fun _ _ _ hh h => h.of_heap hh) own started (by kernel_rfl) Tryd.func4
  (ChangeSpec.witness_at (enc := enc) (C := Tryd.checked) (os := os) (X := fun w _ => laidMet Tryd.prog spLaid w) false (laidWorld os) #[.slice none 0 0] 8 rfl (by kernel_rfl) (by kernel_rfl) (by kernel_rfl) (by kernel_rfl) (by kernel_rfl) (laidWorld_met os _)) ?_
 intro W base args ds gs before hval hW _ _ hL _
 refine contract_of_law (shs := [(.slice (.agg (.pair (.int .i64) (.pair (.int .i64) (.pair (.int .i64) (.pair (.int .i64) (.int .i64)))))))]) (tb := 4) laid (by kernel_rfl) (by kernel_rfl) rfl (by kernel_rfl) (by kernel_rfl) rfl (fun ds h => ?_) rangingContradictingLaw (globsOf_laid hL) hval hW
 match ds, h with
 | [_], _ => rfl
set_option maxRecDepth 100000
theorem rangingContradictingFact0 : (Rows.rangingContradictingRow.wf (OpenSpec.ofChange Rows.rangingContradictingSpec)) = true := by kernel_rfl
theorem rangingContradictingFact1 : (laidOutB Tryd.prog) = true := laid
theorem rangingContradictingFact2 : (mapsRowed Tryd.prog) = true := fMaps
theorem rangingContradictingFact3 : (Tryd.f4.params.all (Tryd.prog.readableRec ·)) = true := by kernel_rfl
theorem rangingContradictingFact4 : (namedTie Tryd.prog Rows.rangingContradictingRow.named Rows.rangingContradictingSpec.vars) = true := by kernel_rfl
theorem rangingContradictingFact5 : ((Rows.rangingContradictingRow.stops == [])) = true := by kernel_rfl
theorem rangingContradictingFact6 : ((Tryd.prog.stops == [])) = true := by rw [fStops]; rfl
theorem rangingContradictingFact7 : ((Rows.rangingContradictingRow.knobs == [])) = true := by kernel_rfl
theorem rangingContradictingFact8 : ((Tryd.prog.stopKnobs == [])) = true := by rw [fKnobs]; rfl
theorem rangingContradictingFact9 : ((Rows.rangingContradictingRow.inPlace == Tryd.prog.inPlace 4)) = true := by kernel_rfl
theorem rangingContradictingFact10 : ((Rows.rangingContradictingRow.unfollowed == Tryd.prog.unfollowed 4)) = true := by kernel_rfl
theorem rangingContradictingFact11 : ((Rows.rangingContradictingRow.recurses == Tryd.prog.recurses 4)) = true := by kernel_rfl
theorem rangingContradictingFact12 : ((Rows.rangingContradictingRow.named == Tryd.prog.varsNamed 4)) = true := by kernel_rfl
theorem rangingContradictingFact13 : ((Rows.rangingContradictingRow.maps == (Tryd.f4.params.toList ++ Rows.rangingContradictingSpec.plain.varTypes Tryd.prog).any (Tryd.prog.mapsRec ·))) = true := by kernel_rfl
theorem rangingContradictingFact14 : ((Rows.rangingContradictingRow.ifaces == (Tryd.f4.params.toList ++ Rows.rangingContradictingSpec.plain.varTypes Tryd.prog).any (Tryd.prog.ifacesRec ·))) = true := by kernel_rfl
theorem rangingContradictingFact15 : ((Rows.rangingContradictingRow.mapsOut == Tryd.prog.mapsAmong Tryd.f4.resultTypes.toList)) = true := by kernel_rfl
theorem rangingContradictingFact16 : ((Rows.rangingContradictingRow.loops == (Tryd.f4.params.toList ++ Rows.rangingContradictingSpec.plain.varTypes Tryd.prog).any (Tryd.prog.loopsFrom ·))) = true := by kernel_rfl
theorem rangingContradictingFact17 : ((Rows.rangingContradictingRow.wideKeys == (Tryd.f4.params.toList ++ Rows.rangingContradictingSpec.plain.varTypes Tryd.prog ++ Tryd.f4.resultTypes.toList).any (Tryd.prog.wideKeysFrom ·))) = true := by kernel_rfl
theorem rangingContradictingFact18 : (Rows.rangingContradictingSpec.vars.all (Tryd.prog.varReadable ·)) = true := by kernel_rfl
theorem rangingContradictingFact19 : (Tryd.f4.resultTypes.all (fun t => Tryd.prog.readableRec t && decide (t < Tryd.prog.types.size))) = true := by kernel_rfl
theorem rangingContradictingFact20 : ((Rows.rangingContradictingRow.ifacesOut == Tryd.f4.resultTypes.toList.any (Tryd.prog.ifacesRec ·))) = true := by kernel_rfl
theorem rangingContradictingFact21 : ((Rows.rangingContradictingRow.loopsOut == Tryd.f4.resultTypes.toList.any (Tryd.prog.loopsFrom ·))) = true := by kernel_rfl
theorem rangingContradictingFact22 : ((Rows.rangingContradictingRow.plainKeys == Tryd.prog.plainKeys)) = true := by kernel_rfl
theorem rangingContradictingFact23 : (Rows.rangingContradictingRow.shortTexts.isNone) = true := by kernel_rfl
theorem rangingContradictingFact24 : (Tryd.prog.stopsHeard) = true := fHeard
theorem rangingContradictingFact25 : (Tryd.prog.mayEnter) = true := fEnter
theorem rangingContradictingFact26 : ((Rows.rangingContradictingRow.lifted == Tryd.prog.liftsFinal)) = true := by kernel_rfl
theorem rangingContradictingFact27 : ((Tryd.prog.make == some Rows.rangingContradictingRow.make)) = true := by kernel_rfl
theorem rangingContradictingFacts : joinedFacts Tryd.prog 4 Tryd.f4 Rows.rangingContradictingSpec Rows.rangingContradictingRow = true := by
 unfold joinedFacts
 rw [rangingContradictingFact0, rangingContradictingFact1, rangingContradictingFact2, rangingContradictingFact3, rangingContradictingFact4, rangingContradictingFact5, rangingContradictingFact6, rangingContradictingFact7, rangingContradictingFact8, rangingContradictingFact9, rangingContradictingFact10, rangingContradictingFact11, rangingContradictingFact12, rangingContradictingFact13, rangingContradictingFact14, rangingContradictingFact15, rangingContradictingFact16, rangingContradictingFact17, rangingContradictingFact18, rangingContradictingFact19, rangingContradictingFact20, rangingContradictingFact21, rangingContradictingFact22, rangingContradictingFact23, rangingContradictingFact24, rangingContradictingFact25, rangingContradictingFact26, rangingContradictingFact27]
 kernel_rfl
theorem rangingContradictingNamed : Tryd.prog.funcNamed "cassegrain/cassegrainlaw07.RangingContradicting" = some 4 := by kernel_rfl
theorem rangingContradicting_holds : Rows.RangingContradictingSaid :=
 OpenClaim.holds_of_wide 4 Tryd.f4 rfl rfl rfl rfl rfl rfl rfl ⟨rfl, rfl, rfl, rfl, rfl⟩ rfl rfl rfl rfl rfl rangingContradictingNamed Tryd.func4 rangingContradictingFacts
  (of_decide_eq_true (by kernel_rfl)) (by unfold Func.isWrapper; first | (rw [if_pos (by decide +kernel)]; kernel_rfl) | (rw [if_neg (by decide +kernel)]; exact ⟨rfl, rfl⟩))
  (fun os started H enc _ => rangingContradictingLifted os started H enc)
theorem rangingContradictingParams : (Tryd.f4.params.toList.all fun t => !Tryd.prog.wantsStandIn t) = true := by kernel_rfl
theorem rangingContradictingWf : Rows.rangingContradictingRow.wfByText (OpenSpec.ofChange Rows.rangingContradictingSpec) = true := by kernel_rfl
theorem rangingContradictingGoes : false = Rows.rangingContradictingRow.goesBy Tryd.pinned.checked.prog := by kernel_rfl
theorem rangingContradicting_card : Rows.RangingContradictingCardSaid :=
 Claim7.holds_tied_plain_at .later [] [.data] true (true, "b9a990e41395d9caa781e6d6f13123fc7fc88690115b0761975b0f7740f8aa07") false
  rangingContradicting_holds (fun _ h => by cases h) rangingContradictingWf (fun _ h => by cases h) rangingContradicting_row_tie rfl ⟨rfl, rfl⟩ fMain rfl
  (fun f fn hf hfn => by
    obtain rfl : f = 4 := Option.some.inj (rangingContradictingNamed.symm.trans hf) |>.symm
    obtain rfl : fn = Tryd.f4 := (Option.some.inj (Tryd.func4.symm.trans hfn)).symm
    exact ⟨fLooks, fun j t ht => by
     have := List.all_eq_true.1 rangingContradictingParams t (by rw [Array.mem_toList_iff]; exact Array.mem_of_getElem? ht)
     show Tryd.prog.wantsStandIn t = false
     simpa using this⟩)
  rangingContradictingGoes
#print axioms rangingContradicting_card
end Go.Proofs.YtfmfiflpokogiaaDoor
