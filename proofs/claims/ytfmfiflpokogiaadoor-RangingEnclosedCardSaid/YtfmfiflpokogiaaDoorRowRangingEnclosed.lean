import Derived.Test.YtfmfiflpokogiaaDoorEncdLaw
import Derived.Test.YtfmfiflpokogiaaDoorFacts7
import Derived.Test.YtfmfiflpokogiaaDoorTie
import Derived.Test.YtfmfiflpokogiaaDoorCards
import Derived.WalkKit
import Derived.ProofKit
import Derived.OpenShut
import Derived.JoinedCond
import Derived.SevenTiedAt
set_option linter.unusedSimpArgs false
namespace Go.Proofs.YtfmfiflpokogiaaDoor
open Go.Ev Go.ChangeShapes Go.WideShapes Go.ChangeAt Go.RowKit
theorem rangingEnclosedLaw : ∀ cs, Typed [(.slice (.agg (.pair (.int .i64) (.pair (.int .i64) (.pair (.int .i64) (.pair (.int .i64) (.int .i64))))))), (.agg (.pair (.pair (.int .i64) (.int .i64)) (.pair (.int .i64) (.int .i64)))), (.int .i64)] cs → Meets Tryd.prog 6 cs saysTrue := law_of_spec (shs := [(.slice (.agg (.pair (.int .i64) (.pair (.int .i64) (.pair (.int .i64) (.pair (.int .i64) (.int .i64))))))), (.agg (.pair (.pair (.int .i64) (.int .i64)) (.pair (.int .i64) (.int .i64)))), (.int .i64)]) i6 (fun x _ => encd_true x)
set_option maxRecDepth 100000 in
theorem rangingEnclosedLifted (os : Os) (started : os.Started) (H : Type) (enc : TypeId × Value → H) :
 ReturnsInHanded {} Tryd.checked os 6 .any (fun w args => (Rows.rangingEnclosedSpec.pre enc Tryd.prog Tryd.f6 Rows.rangingEnclosedRow.domain false w args ∧ laidMet Tryd.prog spLaid w) ∧ sizedMet enc Tryd.prog Tryd.f6 (OpenSpec.ofChange Rows.rangingEnclosedSpec) false w args)
  (Rows.rangingEnclosedSpec.post enc Tryd.prog Tryd.f6 false true false false) := by
 refine returnsInHanded_of_change_and (C := Tryd.checked) (X := fun w _ => laidMet Tryd.prog spLaid w) (fun _ _ _ hh h => h.of_heap hh) own started (by kernel_rfl) Tryd.func6
  (ChangeSpec.witness_at (enc := enc) (C := Tryd.checked) (os := os) (X := fun w _ => laidMet Tryd.prog spLaid w) false (laidWorld os) #[.slice none 0 0, .agg #[.int .i64 0, .int .i64 0, .int .i64 0, .int .i64 0], .int .i64 0] 8 rfl (by kernel_rfl) (by kernel_rfl) (by kernel_rfl) (by kernel_rfl) (by kernel_rfl) (laidWorld_met os _)) ?_
 intro W base args ds gs before hval hW _ _ hL _
 refine contract_of_law (shs := [(.slice (.agg (.pair (.int .i64) (.pair (.int .i64) (.pair (.int .i64) (.pair (.int .i64) (.int .i64))))))), (.agg (.pair (.pair (.int .i64) (.int .i64)) (.pair (.int .i64) (.int .i64)))), (.int .i64)]) (tb := 4) laid (by kernel_rfl) (by kernel_rfl) rfl (by kernel_rfl) (by kernel_rfl) rfl (fun ds h => ?_) rangingEnclosedLaw (globsOf_laid hL) hval hW
 match ds, h with
 | [_, _, _], _ => rfl
set_option maxRecDepth 100000
theorem rangingEnclosedFact0 : (Rows.rangingEnclosedRow.wf (OpenSpec.ofChange Rows.rangingEnclosedSpec)) = true := by kernel_rfl
theorem rangingEnclosedFact1 : (laidOutB Tryd.prog) = true := laid
theorem rangingEnclosedFact2 : (mapsRowed Tryd.prog) = true := fMaps
theorem rangingEnclosedFact3 : (Tryd.f6.params.all (Tryd.prog.readableRec ·)) = true := by kernel_rfl
theorem rangingEnclosedFact4 : (namedTie Tryd.prog Rows.rangingEnclosedRow.named Rows.rangingEnclosedSpec.vars) = true := by kernel_rfl
theorem rangingEnclosedFact5 : ((Rows.rangingEnclosedRow.stops == [])) = true := by kernel_rfl
theorem rangingEnclosedFact6 : ((Tryd.prog.stops == [])) = true := by rw [fStops]; rfl
theorem rangingEnclosedFact7 : ((Rows.rangingEnclosedRow.knobs == [])) = true := by kernel_rfl
theorem rangingEnclosedFact8 : ((Tryd.prog.stopKnobs == [])) = true := by rw [fKnobs]; rfl
theorem rangingEnclosedFact9 : ((Rows.rangingEnclosedRow.inPlace == Tryd.prog.inPlace 6)) = true := by kernel_rfl
theorem rangingEnclosedFact10 : ((Rows.rangingEnclosedRow.unfollowed == Tryd.prog.unfollowed 6)) = true := by kernel_rfl
theorem rangingEnclosedFact11 : ((Rows.rangingEnclosedRow.recurses == Tryd.prog.recurses 6)) = true := by kernel_rfl
theorem rangingEnclosedFact12 : ((Rows.rangingEnclosedRow.named == Tryd.prog.varsNamed 6)) = true := by kernel_rfl
theorem rangingEnclosedFact13 : ((Rows.rangingEnclosedRow.maps == (Tryd.f6.params.toList ++ Rows.rangingEnclosedSpec.plain.varTypes Tryd.prog).any (Tryd.prog.mapsRec ·))) = true := by kernel_rfl
theorem rangingEnclosedFact14 : ((Rows.rangingEnclosedRow.ifaces == (Tryd.f6.params.toList ++ Rows.rangingEnclosedSpec.plain.varTypes Tryd.prog).any (Tryd.prog.ifacesRec ·))) = true := by kernel_rfl
theorem rangingEnclosedFact15 : ((Rows.rangingEnclosedRow.mapsOut == Tryd.prog.mapsAmong Tryd.f6.resultTypes.toList)) = true := by kernel_rfl
theorem rangingEnclosedFact16 : ((Rows.rangingEnclosedRow.loops == (Tryd.f6.params.toList ++ Rows.rangingEnclosedSpec.plain.varTypes Tryd.prog).any (Tryd.prog.loopsFrom ·))) = true := by kernel_rfl
theorem rangingEnclosedFact17 : ((Rows.rangingEnclosedRow.wideKeys == (Tryd.f6.params.toList ++ Rows.rangingEnclosedSpec.plain.varTypes Tryd.prog ++ Tryd.f6.resultTypes.toList).any (Tryd.prog.wideKeysFrom ·))) = true := by kernel_rfl
theorem rangingEnclosedFact18 : (Rows.rangingEnclosedSpec.vars.all (Tryd.prog.varReadable ·)) = true := by kernel_rfl
theorem rangingEnclosedFact19 : (Tryd.f6.resultTypes.all (fun t => Tryd.prog.readableRec t && decide (t < Tryd.prog.types.size))) = true := by kernel_rfl
theorem rangingEnclosedFact20 : ((Rows.rangingEnclosedRow.ifacesOut == Tryd.f6.resultTypes.toList.any (Tryd.prog.ifacesRec ·))) = true := by kernel_rfl
theorem rangingEnclosedFact21 : ((Rows.rangingEnclosedRow.loopsOut == Tryd.f6.resultTypes.toList.any (Tryd.prog.loopsFrom ·))) = true := by kernel_rfl
theorem rangingEnclosedFact22 : ((Rows.rangingEnclosedRow.plainKeys == Tryd.prog.plainKeys)) = true := by kernel_rfl
theorem rangingEnclosedFact23 : (Rows.rangingEnclosedRow.shortTexts.isNone) = true := by kernel_rfl
theorem rangingEnclosedFact24 : (Tryd.prog.stopsHeard) = true := fHeard
theorem rangingEnclosedFact25 : (Tryd.prog.mayEnter) = true := fEnter
theorem rangingEnclosedFact26 : ((Rows.rangingEnclosedRow.lifted == Tryd.prog.liftsFinal)) = true := by kernel_rfl
theorem rangingEnclosedFact27 : ((Tryd.prog.make == some Rows.rangingEnclosedRow.make)) = true := by kernel_rfl
theorem rangingEnclosedFacts : joinedFacts Tryd.prog 6 Tryd.f6 Rows.rangingEnclosedSpec Rows.rangingEnclosedRow = true := by
 unfold joinedFacts
 rw [rangingEnclosedFact0, rangingEnclosedFact1, rangingEnclosedFact2, rangingEnclosedFact3, rangingEnclosedFact4, rangingEnclosedFact5, rangingEnclosedFact6, rangingEnclosedFact7, rangingEnclosedFact8, rangingEnclosedFact9, rangingEnclosedFact10, rangingEnclosedFact11, rangingEnclosedFact12, rangingEnclosedFact13, rangingEnclosedFact14, rangingEnclosedFact15, rangingEnclosedFact16, rangingEnclosedFact17, rangingEnclosedFact18, rangingEnclosedFact19, rangingEnclosedFact20, rangingEnclosedFact21, rangingEnclosedFact22, rangingEnclosedFact23, rangingEnclosedFact24, rangingEnclosedFact25, rangingEnclosedFact26, rangingEnclosedFact27]
 kernel_rfl
theorem rangingEnclosedNamed : Tryd.prog.funcNamed "cassegrain/cassegrainlaw07.RangingEnclosed" = some 6 := by kernel_rfl
theorem rangingEnclosed_holds : Rows.RangingEnclosedSaid :=
 OpenClaim.holds_of_wide 6 Tryd.f6 rfl rfl rfl rfl rfl rfl rfl ⟨rfl, rfl, rfl, rfl, rfl⟩ rfl rfl rfl rfl rfl rangingEnclosedNamed Tryd.func6 rangingEnclosedFacts
  (of_decide_eq_true (by kernel_rfl)) (by unfold Func.isWrapper; first | (rw [if_pos (by decide +kernel)]; kernel_rfl) | (rw [if_neg (by decide +kernel)]; exact ⟨rfl, rfl⟩))
  (fun os started H enc _ => rangingEnclosedLifted os started H enc)
theorem rangingEnclosedParams : (Tryd.f6.params.toList.all fun t => !Tryd.prog.wantsStandIn t) = true := by kernel_rfl
theorem rangingEnclosedWf : Rows.rangingEnclosedRow.wfByText (OpenSpec.ofChange Rows.rangingEnclosedSpec) = true := by kernel_rfl
theorem rangingEnclosedGoes : false = Rows.rangingEnclosedRow.goesBy Tryd.pinned.checked.prog := by kernel_rfl
theorem rangingEnclosed_card : Rows.RangingEnclosedCardSaid :=
 Claim7.holds_tied_plain_at .later [] [.data] true (true, "b9a990e41395d9caa781e6d6f13123fc7fc88690115b0761975b0f7740f8aa07") false
  rangingEnclosed_holds (fun _ h => by cases h) rangingEnclosedWf (fun _ h => by cases h) rangingEnclosed_row_tie rfl ⟨rfl, rfl⟩ fMain rfl
  (fun f fn hf hfn => by
    obtain rfl : f = 6 := Option.some.inj (rangingEnclosedNamed.symm.trans hf) |>.symm
    obtain rfl : fn = Tryd.f6 := (Option.some.inj (Tryd.func6.symm.trans hfn)).symm
    exact ⟨fLooks, fun j t ht => by
     have := List.all_eq_true.1 rangingEnclosedParams t (by rw [Array.mem_toList_iff]; exact Array.mem_of_getElem? ht)
     show Tryd.prog.wantsStandIn t = false
     simpa using this⟩)
  rangingEnclosedGoes
#print axioms rangingEnclosed_card
end Go.Proofs.YtfmfiflpokogiaaDoor
