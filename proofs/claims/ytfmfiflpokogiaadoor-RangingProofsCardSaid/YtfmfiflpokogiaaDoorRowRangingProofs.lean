import Derived.Test.YtfmfiflpokogiaaDoorProofsLaw
import Derived.Test.YtfmfiflpokogiaaDoorFacts7
import Derived.Test.YtfmfiflpokogiaaDoorTie
import Derived.Test.YtfmfiflpokogiaaDoorCards
import Derived.WalkKit
import Derived.ProofKit
import Derived.OpenShut
import Derived.JoinedCond
import Derived.SevenTiedAt
set_option linter.unusedSimpArgs false
namespace Go.Proofs.YtfmfiflpokogiaaDoor
open Go.Ev Go.ChangeShapes Go.WideShapes Go.ChangeAt Go.RowKit
theorem rangingProofsLaw : ∀ cs, Typed [(.slice (.agg (.pair (.int .i64) (.pair (.int .i64) (.pair (.int .i64) (.pair (.int .i64) (.int .i64))))))), (.agg (.pair (.int .i64) .bool))] cs → Meets Tryd.prog 16 cs saysTrue := law_of_spec (shs := [(.slice (.agg (.pair (.int .i64) (.pair (.int .i64) (.pair (.int .i64) (.pair (.int .i64) (.int .i64))))))), (.agg (.pair (.int .i64) .bool))]) i16 (fun x _ => proofs_true x)
set_option maxRecDepth 100000 in
theorem rangingProofsLifted (os : Os) (started : os.Started) (H : Type) (enc : TypeId × Value → H) :
    ReturnsInHanded {} Tryd.checked os 16 .any (fun w args => (Rows.rangingProofsSpec.pre enc Tryd.prog Tryd.f16 Rows.rangingProofsRow.domain false w args ∧ laidMet Tryd.prog spLaid w) ∧ sizedMet enc Tryd.prog Tryd.f16 (OpenSpec.ofChange Rows.rangingProofsSpec) false w args)
      (Rows.rangingProofsSpec.post enc Tryd.prog Tryd.f16 false true false false) := by
  refine returnsInHanded_of_change_and (C := Tryd.checked) (X := fun w _ => laidMet Tryd.prog spLaid w) (fun _ _ _ hh h => h.of_heap hh) own started (by kernel_rfl) Tryd.func16
    (ChangeSpec.witness_at (enc := enc) (C := Tryd.checked) (os := os) (X := fun w _ => laidMet Tryd.prog spLaid w) false (laidWorld os) #[.slice none 0 0, .agg #[.int .i64 0, .bool false]] 8 rfl (by kernel_rfl) (by kernel_rfl) (by kernel_rfl) (by kernel_rfl) (by kernel_rfl) (laidWorld_met os _)) ?_
  intro W base args ds gs before hval hW _ _ hL _
  refine contract_of_law (shs := [(.slice (.agg (.pair (.int .i64) (.pair (.int .i64) (.pair (.int .i64) (.pair (.int .i64) (.int .i64))))))), (.agg (.pair (.int .i64) .bool))]) (tb := 4) laid (by kernel_rfl) (by kernel_rfl) rfl (by kernel_rfl) (by kernel_rfl) rfl (fun ds h => ?_) rangingProofsLaw (globsOf_laid hL) hval hW
  match ds, h with
  | [_, _], _ => rfl
set_option maxRecDepth 100000
theorem rangingProofsFact0 : (Rows.rangingProofsRow.wf (OpenSpec.ofChange Rows.rangingProofsSpec)) = true := by kernel_rfl
theorem rangingProofsFact1 : (laidOutB Tryd.prog) = true := laid
theorem rangingProofsFact2 : (mapsRowed Tryd.prog) = true := fMaps
theorem rangingProofsFact3 : (Tryd.f16.params.all (Tryd.prog.readableRec ·)) = true := by kernel_rfl
theorem rangingProofsFact4 : (namedTie Tryd.prog Rows.rangingProofsRow.named Rows.rangingProofsSpec.vars) = true := by kernel_rfl
theorem rangingProofsFact5 : ((Rows.rangingProofsRow.stops == [])) = true := by kernel_rfl
theorem rangingProofsFact6 : ((Tryd.prog.stops == [])) = true := by rw [fStops]; rfl
theorem rangingProofsFact7 : ((Rows.rangingProofsRow.knobs == [])) = true := by kernel_rfl
theorem rangingProofsFact8 : ((Tryd.prog.stopKnobs == [])) = true := by rw [fKnobs]; rfl
theorem rangingProofsFact9 : ((Rows.rangingProofsRow.inPlace == Tryd.prog.inPlace 16)) = true := by kernel_rfl
theorem rangingProofsFact10 : ((Rows.rangingProofsRow.unfollowed == Tryd.prog.unfollowed 16)) = true := by kernel_rfl
theorem rangingProofsFact11 : ((Rows.rangingProofsRow.recurses == Tryd.prog.recurses 16)) = true := by kernel_rfl
theorem rangingProofsFact12 : ((Rows.rangingProofsRow.named == Tryd.prog.varsNamed 16)) = true := by kernel_rfl
theorem rangingProofsFact13 : ((Rows.rangingProofsRow.maps == (Tryd.f16.params.toList ++ Rows.rangingProofsSpec.plain.varTypes Tryd.prog).any (Tryd.prog.mapsRec ·))) = true := by kernel_rfl
theorem rangingProofsFact14 : ((Rows.rangingProofsRow.ifaces == (Tryd.f16.params.toList ++ Rows.rangingProofsSpec.plain.varTypes Tryd.prog).any (Tryd.prog.ifacesRec ·))) = true := by kernel_rfl
theorem rangingProofsFact15 : ((Rows.rangingProofsRow.mapsOut == Tryd.prog.mapsAmong Tryd.f16.resultTypes.toList)) = true := by kernel_rfl
theorem rangingProofsFact16 : ((Rows.rangingProofsRow.loops == (Tryd.f16.params.toList ++ Rows.rangingProofsSpec.plain.varTypes Tryd.prog).any (Tryd.prog.loopsFrom ·))) = true := by kernel_rfl
theorem rangingProofsFact17 : ((Rows.rangingProofsRow.wideKeys == (Tryd.f16.params.toList ++ Rows.rangingProofsSpec.plain.varTypes Tryd.prog ++ Tryd.f16.resultTypes.toList).any (Tryd.prog.wideKeysFrom ·))) = true := by kernel_rfl
theorem rangingProofsFact18 : (Rows.rangingProofsSpec.vars.all (Tryd.prog.varReadable ·)) = true := by kernel_rfl
theorem rangingProofsFact19 : (Tryd.f16.resultTypes.all (fun t => Tryd.prog.readableRec t && decide (t < Tryd.prog.types.size))) = true := by kernel_rfl
theorem rangingProofsFact20 : ((Rows.rangingProofsRow.ifacesOut == Tryd.f16.resultTypes.toList.any (Tryd.prog.ifacesRec ·))) = true := by kernel_rfl
theorem rangingProofsFact21 : ((Rows.rangingProofsRow.loopsOut == Tryd.f16.resultTypes.toList.any (Tryd.prog.loopsFrom ·))) = true := by kernel_rfl
theorem rangingProofsFact22 : ((Rows.rangingProofsRow.plainKeys == Tryd.prog.plainKeys)) = true := by kernel_rfl
theorem rangingProofsFact23 : (Rows.rangingProofsRow.shortTexts.isNone) = true := by kernel_rfl
theorem rangingProofsFact24 : (Tryd.prog.stopsHeard) = true := fHeard
theorem rangingProofsFact25 : (Tryd.prog.mayEnter) = true := fEnter
theorem rangingProofsFact26 : ((Rows.rangingProofsRow.lifted == Tryd.prog.liftsFinal)) = true := by kernel_rfl
theorem rangingProofsFact27 : ((Tryd.prog.make == some Rows.rangingProofsRow.make)) = true := by kernel_rfl
theorem rangingProofsFacts : joinedFacts Tryd.prog 16 Tryd.f16 Rows.rangingProofsSpec Rows.rangingProofsRow = true := by
  unfold joinedFacts
  rw [rangingProofsFact0, rangingProofsFact1, rangingProofsFact2, rangingProofsFact3, rangingProofsFact4, rangingProofsFact5, rangingProofsFact6, rangingProofsFact7, rangingProofsFact8, rangingProofsFact9, rangingProofsFact10, rangingProofsFact11, rangingProofsFact12, rangingProofsFact13, rangingProofsFact14, rangingProofsFact15, rangingProofsFact16, rangingProofsFact17, rangingProofsFact18, rangingProofsFact19, rangingProofsFact20, rangingProofsFact21, rangingProofsFact22, rangingProofsFact23, rangingProofsFact24, rangingProofsFact25, rangingProofsFact26, rangingProofsFact27]
  kernel_rfl
theorem rangingProofsNamed : Tryd.prog.funcNamed "cassegrain/cassegrainlaw07.RangingProofs" = some 16 := by kernel_rfl
theorem rangingProofs_holds : Rows.RangingProofsSaid :=
  OpenClaim.holds_of_wide 16 Tryd.f16 rfl rfl rfl rfl rfl rfl rfl ⟨rfl, rfl, rfl, rfl, rfl⟩ rfl rfl rfl rfl rfl rangingProofsNamed Tryd.func16 rangingProofsFacts
    (of_decide_eq_true (by kernel_rfl)) (by unfold Func.isWrapper; first | (rw [if_pos (by decide +kernel)]; kernel_rfl) | (rw [if_neg (by decide +kernel)]; exact ⟨rfl, rfl⟩))
    (fun os started H enc _ => rangingProofsLifted os started H enc)
theorem rangingProofsParams : (Tryd.f16.params.toList.all fun t => !Tryd.prog.wantsStandIn t) = true := by kernel_rfl
theorem rangingProofsWf : Rows.rangingProofsRow.wfByText (OpenSpec.ofChange Rows.rangingProofsSpec) = true := by kernel_rfl
theorem rangingProofsGoes : false = Rows.rangingProofsRow.goesBy Tryd.pinned.checked.prog := by kernel_rfl
theorem rangingProofs_card : Rows.RangingProofsCardSaid :=
  Claim7.holds_tied_plain_at .later [] [.data] true (true, "b9a990e41395d9caa781e6d6f13123fc7fc88690115b0761975b0f7740f8aa07") false
    rangingProofs_holds (fun _ h => by cases h) rangingProofsWf (fun _ h => by cases h) rangingProofs_row_tie rfl ⟨rfl, rfl⟩ fMain rfl
    (fun f fn hf hfn => by
      obtain rfl : f = 16 := Option.some.inj (rangingProofsNamed.symm.trans hf) |>.symm
      obtain rfl : fn = Tryd.f16 := (Option.some.inj (Tryd.func16.symm.trans hfn)).symm
      exact ⟨fLooks, fun j t ht => by
        have := List.all_eq_true.1 rangingProofsParams t (by rw [Array.mem_toList_iff]; exact Array.mem_of_getElem? ht)
        show Tryd.prog.wantsStandIn t = false
        simpa using this⟩)
    rangingProofsGoes
#print axioms rangingProofs_card
end Go.Proofs.YtfmfiflpokogiaaDoor
