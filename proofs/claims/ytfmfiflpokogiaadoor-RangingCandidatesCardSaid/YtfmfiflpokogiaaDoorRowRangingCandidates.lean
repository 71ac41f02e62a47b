import Derived.Test.YtfmfiflpokogiaaDoorCandLaw
import Derived.Test.YtfmfiflpokogiaaDoorFacts7
import Derived.Test.YtfmfiflpokogiaaDoorTie
import Derived.Test.YtfmfiflpokogiaaDoorCards
import Derived.WalkKit
import Derived.ProofKit
import Derived.OpenShut
import Derived.JoinedCond
import Derived.SevenTiedAt
set_option linter.unusedSimpArgs false
namespace Go.Proofs.YtfmfiflpokogiaaDoor
open Go.Ev Go.ChangeShapes Go.WideShapes Go.ChangeAt Go.RowKit
theorem rangingCandidatesLaw : ∀ cs, Typed [(.slice (.agg (.pair (.int .i64) (.pair (.int .i64) (.int .i64))))), (.agg (.pair (.int .i64) (.int .i64)))] cs → Meets Tryd.prog 7 cs saysTrue := law_of_spec (shs := [(.slice (.agg (.pair (.int .i64) (.pair (.int .i64) (.int .i64))))), (.agg (.pair (.int .i64) (.int .i64)))]) i7 (fun x _ => cands_true x)
set_option maxRecDepth 100000 in
theorem rangingCandidatesLifted (os : Os) (started : os.Started) (H : Type) (enc : TypeId × Value → H) :
 ReturnsInHanded {} Tryd.checked os 7 .any (fun w args => (Rows.rangingCandidatesSpec.pre enc Tryd.prog Tryd.f7 Rows.rangingCandidatesRow.domain false w args ∧ laidMet Tryd.prog spLaid w) ∧ sizedMet enc Tryd.prog Tryd.f7 (OpenSpec.ofChange Rows.rangingCandidatesSpec) false w args)
  (Rows.rangingCandidatesSpec.post enc Tryd.prog Tryd.f7 false true false false) := by
 refine returnsInHanded_of_change_and (C := Tryd.checked) (X := fun w _ => laidMet Tryd.prog spLaid w) (fun _ _ _ hh h => h.of_heap hh) own started (by kernel_rfl) Tryd.func7
  (ChangeSpec.witness_at (enc := enc) (C := Tryd.checked) (os := os) (X := fun w _ => laidMet Tryd.prog spLaid w) false (laidWorld os) #[.slice none 0 0, .agg #[.int .i64 0, .int .i64 0]] 8 rfl (by kernel_rfl) (by kernel_rfl) (by kernel_rfl) (by kernel_rfl) (by kernel_rfl) (laidWorld_met os _)) ?_
 intro W base args ds gs before hval hW _ _ hL _
 refine contract_of_law (shs := [(.slice (.agg (.pair (.int .i64) (.pair (.int .i64) (.int .i64))))), (.agg (.pair (.int .i64) (.int .i64)))]) (tb := 4) laid (by kernel_rfl) (by kernel_rfl) rfl (by kernel_rfl) (by kernel_rfl) rfl (fun ds h => ?_) rangingCandidatesLaw (globsOf_laid hL) hval hW
 match ds, h with
 | [_, _], _ => rfl
set_option maxRecDepth 100000
theorem rangingCandidatesFact0 : (Rows.rangingCandidatesRow.wf (OpenSpec.ofChange Rows.rangingCandidatesSpec)) = true := by kernel_rfl
theorem rangingCandidatesFact1 : (laidOutB Tryd.prog) = true := laid
theorem rangingCandidatesFact2 : (mapsRowed Tryd.prog) = true := fMaps
theorem rangingCandidatesFact3 : (Tryd.f7.params.all (Tryd.prog.readableRec ·)) = true := by kernel_rfl
theorem rangingCandidatesFact4 : (namedTie Tryd.prog Rows.rangingCandidatesRow.named Rows.rangingCandidatesSpec.vars) = true := by kernel_rfl
theorem rangingCandidatesFact5 : ((Rows.rangingCandidatesRow.stops == [])) = true := by kernel_rfl
theorem rangingCandidatesFact6 : ((Tryd.prog.stops == [])) = true := by rw [fStops]; rfl
theorem rangingCandidatesFact7 : ((Rows.rangingCandidatesRow.knobs == [])) = true := by kernel_rfl
theorem rangingCandidatesFact8 : ((Tryd.prog.stopKnobs == [])) = true := by rw [fKnobs]; rfl
theorem rangingCandidatesFact9 : ((Rows.rangingCandidatesRow.inPlace == Tryd.prog.inPlace 7)) = true := by kernel_rfl
theorem rangingCandidatesFact10 : ((Rows.rangingCandidatesRow.unfollowed == Tryd.prog.unfollowed 7)) = true := by kernel_rfl
theorem rangingCandidatesFact11 : ((Rows.rangingCandidatesRow.recurses == Tryd.prog.recurses 7)) = true := by kernel_rfl
theorem rangingCandidatesFact12 : ((Rows.rangingCandidatesRow.named == Tryd.prog.varsNamed 7)) = true := by kernel_rfl
theorem rangingCandidatesFact13 : ((Rows.rangingCandidatesRow.maps == (Tryd.f7.params.toList ++ Rows.rangingCandidatesSpec.plain.varTypes Tryd.prog).any (Tryd.prog.mapsRec ·))) = true := by kernel_rfl
theorem rangingCandidatesFact14 : ((Rows.rangingCandidatesRow.ifaces == (Tryd.f7.params.toList ++ Rows.rangingCandidatesSpec.plain.varTypes Tryd.prog).any (Tryd.prog.ifacesRec ·))) = true := by kernel_rfl
theorem rangingCandidatesFact15 : ((Rows.rangingCandidatesRow.mapsOut == Tryd.prog.mapsAmong Tryd.f7.resultTypes.toList)) = true := by kernel_rfl
theorem rangingCandidatesFact16 : ((Rows.rangingCandidatesRow.loops == (Tryd.f7.params.toList ++ Rows.rangingCandidatesSpec.plain.varTypes Tryd.prog).any (Tryd.prog.loopsFrom ·))) = true := by kernel_rfl
theorem rangingCandidatesFact17 : ((Rows.rangingCandidatesRow.wideKeys == (Tryd.f7.params.toList ++ Rows.rangingCandidatesSpec.plain.varTypes Tryd.prog ++ Tryd.f7.resultTypes.toList).any (Tryd.prog.wideKeysFrom ·))) = true := by kernel_rfl
theorem rangingCandidatesFact18 : (Rows.rangingCandidatesSpec.vars.all (Tryd.prog.varReadable ·)) = true := by kernel_rfl
theorem rangingCandidatesFact19 : (Tryd.f7.resultTypes.all (fun t => Tryd.prog.readableRec t && decide (t < Tryd.prog.types.size))) = true := by kernel_rfl
theorem rangingCandidatesFact20 : ((Rows.rangingCandidatesRow.ifacesOut == Tryd.f7.resultTypes.toList.any (Tryd.prog.ifacesRec ·))) = true := by kernel_rfl
theorem rangingCandidatesFact21 : ((Rows.rangingCandidatesRow.loopsOut == Tryd.f7.resultTypes.toList.any (Tryd.prog.loopsFrom ·))) = true := by kernel_rfl
theorem rangingCandidatesFact22 : ((Rows.rangingCandidatesRow.plainKeys == Tryd.prog.plainKeys)) = true := by kernel_rfl
theorem rangingCandidatesFact23 : (Rows.rangingCandidatesRow.shortTexts.isNone) = true := by kernel_rfl
theorem rangingCandidatesFact24 : (Tryd.prog.stopsHeard) = true := fHeard
theorem rangingCandidatesFact25 : (Tryd.prog.mayEnter) = true := fEnter
theorem rangingCandidatesFact26 : ((Rows.rangingCandidatesRow.lifted == Tryd.prog.liftsFinal)) = true := by kernel_rfl
theorem rangingCandidatesFact27 : ((Tryd.prog.make == some Rows.rangingCandidatesRow.make)) = true := by kernel_rfl
theorem rangingCandidatesFacts : joinedFacts Tryd.prog 7 Tryd.f7 Rows.rangingCandidatesSpec Rows.rangingCandidatesRow = true := by
 unfold joinedFacts
 rw [rangingCandidatesFact0, rangingCandidatesFact1, rangingCandidatesFact2, rangingCandidatesFact3, rangingCandidatesFact4, rangingCandidatesFact5, rangingCandidatesFact6, rangingCandidatesFact7, rangingCandidatesFact8, rangingCandidatesFact9, rangingCandidatesFact10, rangingCandidatesFact11, rangingCandidatesFact12, rangingCandidatesFact13, rangingCandidatesFact14, rangingCandidatesFact15, rangingCandidatesFact16, rangingCandidatesFact17, rangingCandidatesFact18, rangingCandidatesFact19, rangingCandidatesFact20, rangingCandidatesFact21, rangingCandidatesFact22, rangingCandidatesFact23, rangingCandidatesFact24, rangingCandidatesFact25, rangingCandidatesFact26, rangingCandidatesFact27]
 kernel_rfl
theorem rangingCandidatesNamed : Tryd.prog.funcNamed "cassegrain/cassegrainlaw07.RangingCandidates" = some 7 := by kernel_rfl
theorem rangingCandidates_holds : Rows.RangingCandidatesSaid :=
 OpenClaim.holds_of_wide 7 Tryd.f7 rfl rfl rfl rfl rfl rfl rfl ⟨rfl, rfl, rfl, rfl, rfl⟩ rfl rfl rfl rfl rfl rangingCandidatesNamed Tryd.func7 rangingCandidatesFacts
  (of_decide_eq_true (by kernel_rfl)) (by unfold Func.isWrapper; first | (rw [if_pos (by decide +kernel)]; kernel_rfl) | (rw [if_neg (by decide +kernel)]; exact ⟨rfl, rfl⟩))
  (fun os started H enc _ => rangingCandidatesLifted os started H enc)
theorem rangingCandidatesParams : (Tryd.f7.params.toList.all fun t => !Tryd.prog.wantsStandIn t) = true := by kernel_rfl
theorem rangingCandidatesWf : Rows.rangingCandidatesRow.wfByText (OpenSpec.ofChange Rows.rangingCandidatesSpec) = true := by kernel_rfl
theorem rangingCandidatesGoes : false = Rows.rangingCandidatesRow.goesBy Tryd.pinned.checked.prog := by kernel_rfl
theorem rangingCandidates_card : Rows.RangingCandidatesCardSaid :=
 Claim7.holds_tied_plain_at .later [] [.data] true (true, "b9a990e41395d9caa781e6d6f13123fc7fc88690115b0761975b0f7740f8aa07") false
  rangingCandidates_holds (fun _ h => by cases h) rangingCandidatesWf (fun _ h => by cases h) rangingCandidates_row_tie rfl ⟨rfl, rfl⟩ fMain rfl
  (fun f fn hf hfn => by
    obtain rfl : f = 7 := Option.some.inj (rangingCandidatesNamed.symm.trans hf) |>.symm
    obtain rfl : fn = Tryd.f7 := (Option.some.inj (Tryd.func7.symm.trans hfn)).symm
    exact ⟨fLooks, fun j t ht => by
     have := List.all_eq_true.1 rangingCandidatesParams t (by rw [Array.mem_toList_iff]; exact Array.mem_of_getElem? ht)
     show Tryd.prog.wantsStandIn t = false
     simpa using this⟩)
  rangingCandidatesGoes
#print axioms rangingCandidates_card
end Go.Proofs.YtfmfiflpokogiaaDoor
