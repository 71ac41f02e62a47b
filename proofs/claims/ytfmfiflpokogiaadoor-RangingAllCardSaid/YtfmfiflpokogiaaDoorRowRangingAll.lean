import Derived.Test.YtfmfiflpokogiaaDoorAllLaw
import Derived.Test.YtfmfiflpokogiaaDoorFacts7
import Derived.Test.YtfmfiflpokogiaaDoorTie
import Derived.Test.YtfmfiflpokogiaaDoorCards
import Derived.WalkKit
import Derived.ProofKit
import Derived.OpenShut
import Derived.JoinedCond
import Derived.SevenTiedAt
set_option linter.unusedSimpArgs false
namespace Go.Proofs.YtfmfiflpokogiaaDoor
open Go.Ev Go.ChangeShapes Go.WideShapes Go.ChangeAt Go.RowKit
theorem rangingAllLaw : ∀ cs, Typed [(.slice (.agg (.pair (.int .i64) (.pair (.int .i64) (.int .i64))))), (.agg (.pair (.int .i64) (.int .i64))), (.agg (.pair (.int .i64) (.int .i64)))] cs → Meets Tryd.prog 9 cs saysTrue := law_of_spec (shs := [(.slice (.agg (.pair (.int .i64) (.pair (.int .i64) (.int .i64))))), (.agg (.pair (.int .i64) (.int .i64))), (.agg (.pair (.int .i64) (.int .i64)))]) i9 (fun x _ => all_true x)
set_option maxRecDepth 100000 in
theorem rangingAllLifted (os : Os) (started : os.Started) (H : Type) (enc : TypeId × Value → H) :
 ReturnsInHanded {} Tryd.checked os 9 .any (fun w args => (Rows.rangingAllSpec.pre enc Tryd.prog Tryd.f9 Rows.rangingAllRow.domain false w args ∧ laidMet Tryd.prog spLaid w) ∧ sizedMet enc Tryd.prog Tryd.f9 (OpenSpec.ofChange Rows.rangingAllSpec) false w args)
  (Rows.rangingAllSpec.post enc Tryd.prog Tryd.f9 false true false false) := by
 refine returnsInHanded_of_change_and (C := Tryd.checked) (X := fun w _ => laidMet Tryd.prog spLaid w) (fun _ _ _ hh h => h.of_heap hh) own started (by kernel_rfl) Tryd.func9
  (ChangeSpec.witness_at (enc := enc) (C := Tryd.checked) (os := os) (X := fun w _ => laidMet Tryd.prog spLaid w) false (laidWorld os) #[.slice none 0 0, .agg #[.int .i64 0, .int .i64 0], .agg #[.int .i64 0, .int .i64 0]] 8 rfl (by kernel_rfl) (by kernel_rfl) (by kernel_rfl) (by kernel_rfl) (by kernel_rfl) (laidWorld_met os _)) ?_
 intro W base args ds gs before hval hW _ _ hL _
 refine contract_of_law (shs := [(.slice (.agg (.pair (.int .i64) (.pair (.int .i64) (.int .i64))))), (.agg (.pair (.int .i64) (.int .i64))), (.agg (.pair (.int .i64) (.int .i64)))]) (tb := 4) laid (by kernel_rfl) (by kernel_rfl) rfl (by kernel_rfl) (by kernel_rfl) rfl (fun ds h => ?_) rangingAllLaw (globsOf_laid hL) hval hW
 match ds, h with
 | [_, _, _], _ => rfl
set_option maxRecDepth 100000
theorem rangingAllFact0 : (Rows.rangingAllRow.wf (OpenSpec.ofChange Rows.rangingAllSpec)) = true := by kernel_rfl
theorem rangingAllFact1 : (laidOutB Tryd.prog) = true := laid
theorem rangingAllFact2 : (mapsRowed Tryd.prog) = true := fMaps
theorem rangingAllFact3 : (Tryd.f9.params.all (Tryd.prog.readableRec ·)) = true := by kernel_rfl
theorem rangingAllFact4 : (namedTie Tryd.prog Rows.rangingAllRow.named Rows.rangingAllSpec.vars) = true := by kernel_rfl
theorem rangingAllFact5 : ((Rows.rangingAllRow.stops == [])) = true := by kernel_rfl
theorem rangingAllFact6 : ((Tryd.prog.stops == [])) = true := by rw [fStops]; rfl
theorem rangingAllFact7 : ((Rows.rangingAllRow.knobs == [])) = true := by kernel_rfl
theorem rangingAllFact8 : ((Tryd.prog.stopKnobs == [])) = true := by rw [fKnobs]; rfl
theorem rangingAllFact9 : ((Rows.rangingAllRow.inPlace == Tryd.prog.inPlace 9)) = true := by kernel_rfl
theorem rangingAllFact10 : ((Rows.rangingAllRow.unfollowed == Tryd.prog.unfollowed 9)) = true := by kernel_rfl
theorem rangingAllFact11 : ((Rows.rangingAllRow.recurses == Tryd.prog.recurses 9)) = true := by kernel_rfl
theorem rangingAllFact12 : ((Rows.rangingAllRow.named == Tryd.prog.varsNamed 9)) = true := by kernel_rfl
theorem rangingAllFact13 : ((Rows.rangingAllRow.maps == (Tryd.f9.params.toList ++ Rows.rangingAllSpec.plain.varTypes Tryd.prog).any (Tryd.prog.mapsRec ·))) = true := by kernel_rfl
theorem rangingAllFact14 : ((Rows.rangingAllRow.ifaces == (Tryd.f9.params.toList ++ Rows.rangingAllSpec.plain.varTypes Tryd.prog).any (Tryd.prog.ifacesRec ·))) = true := by kernel_rfl
theorem rangingAllFact15 : ((Rows.rangingAllRow.mapsOut == Tryd.prog.mapsAmong Tryd.f9.resultTypes.toList)) = true := by kernel_rfl
theorem rangingAllFact16 : ((Rows.rangingAllRow.loops == (Tryd.f9.params.toList ++ Rows.rangingAllSpec.plain.varTypes Tryd.prog).any (Tryd.prog.loopsFrom ·))) = true := by kernel_rfl
theorem rangingAllFact17 : ((Rows.rangingAllRow.wideKeys == (Tryd.f9.params.toList ++ Rows.rangingAllSpec.plain.varTypes Tryd.prog ++ Tryd.f9.resultTypes.toList).any (Tryd.prog.wideKeysFrom ·))) = true := by kernel_rfl
theorem rangingAllFact18 : (Rows.rangingAllSpec.vars.all (Tryd.prog.varReadable ·)) = true := by kernel_rfl
theorem rangingAllFact19 : (Tryd.f9.resultTypes.all (fun t => Tryd.prog.readableRec t && decide (t < Tryd.prog.types.size))) = true := by kernel_rfl
theorem rangingAllFact20 : ((Rows.rangingAllRow.ifacesOut == Tryd.f9.resultTypes.toList.any (Tryd.prog.ifacesRec ·))) = true := by kernel_rfl
theorem rangingAllFact21 : ((Rows.rangingAllRow.loopsOut == Tryd.f9.resultTypes.toList.any (Tryd.prog.loopsFrom ·))) = true := by kernel_rfl
theorem rangingAllFact22 : ((Rows.rangingAllRow.plainKeys == Tryd.prog.plainKeys)) = true := by kernel_rfl
theorem rangingAllFact23 : (Rows.rangingAllRow.shortTexts.isNone) = true := by kernel_rfl
theorem rangingAllFact24 : (Tryd.prog.stopsHeard) = true := fHeard
theorem rangingAllFact25 : (Tryd.prog.mayEnter) = true := fEnter
theorem rangingAllFact26 : ((Rows.rangingAllRow.lifted == Tryd.prog.liftsFinal)) = true := by kernel_rfl
theorem rangingAllFact27 : ((Tryd.prog.make == some Rows.rangingAllRow.make)) = true := by kernel_rfl
theorem rangingAllFacts : joinedFacts Tryd.prog 9 Tryd.f9 Rows.rangingAllSpec Rows.rangingAllRow = true := by
 unfold joinedFacts
 rw [rangingAllFact0, rangingAllFact1, rangingAllFact2, rangingAllFact3, rangingAllFact4, rangingAllFact5, rangingAllFact6, rangingAllFact7, rangingAllFact8, rangingAllFact9, rangingAllFact10, rangingAllFact11, rangingAllFact12, rangingAllFact13, rangingAllFact14, rangingAllFact15, rangingAllFact16, rangingAllFact17, rangingAllFact18, rangingAllFact19, rangingAllFact20, rangingAllFact21, rangingAllFact22, rangingAllFact23, rangingAllFact24, rangingAllFact25, rangingAllFact26, rangingAllFact27]
 kernel_rfl
theorem rangingAllNamed : Tryd.prog.funcNamed "cassegrain/cassegrainlaw07.RangingAll" = some 9 := by kernel_rfl
theorem rangingAll_holds : Rows.RangingAllSaid :=
 OpenClaim.holds_of_wide 9 Tryd.f9 rfl rfl rfl rfl rfl rfl rfl ⟨rfl, rfl, rfl, rfl, rfl⟩ rfl rfl rfl rfl rfl rangingAllNamed Tryd.func9 rangingAllFacts
  (of_decide_eq_true (by kernel_rfl)) (by unfold Func.isWrapper; first | (rw [if_pos (by decide +kernel)]; kernel_rfl) | (rw [if_neg (by decide +kernel)]; exact ⟨rfl, rfl⟩))
  (fun os started H enc _ => rangingAllLifted os started H enc)
theorem rangingAllParams : (Tryd.f9.params.toList.all fun t => !Tryd.prog.wantsStandIn t) = true := by kernel_rfl
theorem rangingAllWf : Rows.rangingAllRow.wfByText (OpenSpec.ofChange Rows.rangingAllSpec) = true := by kernel_rfl
theorem rangingAllGoes : false = Rows.rangingAllRow.goesBy Tryd.pinned.checked.prog := by kernel_rfl
theorem rangingAll_card : Rows.RangingAllCardSaid :=
 Claim7.holds_tied_plain_at .later [] [.data] true (true, "b9a990e41395d9caa781e6d6f13123fc7fc88690115b0761975b0f7740f8aa07") false
  rangingAll_holds (fun _ h => by cases h) rangingAllWf (fun _ h => by cases h) rangingAll_row_tie rfl ⟨rfl, rfl⟩ fMain rfl
  (fun f fn hf hfn => by
    obtain rfl : f = 9 := Option.some.inj (rangingAllNamed.symm.trans hf) |>.symm
    obtain rfl : fn = Tryd.f9 := (Option.some.inj (Tryd.func9.symm.trans hfn)).symm
    exact ⟨fLooks, fun j t ht => by
     have := List.all_eq_true.1 rangingAllParams t (by rw [Array.mem_toList_iff]; exact Array.mem_of_getElem? ht)
     show Tryd.prog.wantsStandIn t = false
     simpa using this⟩)
  rangingAllGoes
#print axioms rangingAll_card
end Go.Proofs.YtfmfiflpokogiaaDoor
