/- RangingDelays: the statement holds for every input; condition: the package-level variable reads as listed, which the card ties to the program's text. -/
import Derived.Test.YtfmfiflpokogiaaDoorDelays
import Derived.Test.YtfmfiflpokogiaaDoorFacts7
import Derived.Test.YtfmfiflpokogiaaDoorTie
import Derived.Test.YtfmfiflpokogiaaDoorCards
import Derived.WalkKit
import Derived.ProofKit
import Derived.OpenShut
import Derived.JoinedCond
import Derived.SevenTiedAt
set_option linter.unusedSimpArgs false
namespace Go.Proofs.YtfmfiflpokogiaaDoor
open Go.Ev Go.ChangeShapes Go.WideShapes Go.ChangeAt Go.RowKit

theorem rangingDelaysLaw : ∀ cs, Typed [(.slice (.agg (.pair (.int .i64) (.pair (.int .i64) (.int .i64))))), (.slice (.agg (.pair (.int .i64) (.pair (.int .i64) (.pair (.int .i64) (.pair (.int .i64) (.int .i64))))))), (.agg (.pair (.int .i64) (.int .i64)))] cs → Meets Tryd.prog 12 cs saysTrue := law_of_spec (shs := [(.slice (.agg (.pair (.int .i64) (.pair (.int .i64) (.int .i64))))), (.slice (.agg (.pair (.int .i64) (.pair (.int .i64) (.pair (.int .i64) (.pair (.int .i64) (.int .i64))))))), (.agg (.pair (.int .i64) (.int .i64)))]) i12 (fun x _ => delays_true x)

set_option maxRecDepth 100000 in
theorem rangingDelaysLifted (os : Os) (started : os.Started) (H : Type) (enc : TypeId × Value → H) :
    ReturnsInHanded {} Tryd.checked os 12 .any (fun w args => (Rows.rangingDelaysSpec.pre enc Tryd.prog Tryd.f12 Rows.rangingDelaysRow.domain false w args ∧ laidMet Tryd.prog spLaid w) ∧ sizedMet enc Tryd.prog Tryd.f12 (OpenSpec.ofChange Rows.rangingDelaysSpec) false w args)
      (Rows.rangingDelaysSpec.post enc Tryd.prog Tryd.f12 false true false false) := by
  refine returnsInHanded_of_change_and (C := Tryd.checked) (X := fun w _ => laidMet Tryd.prog spLaid w) (fun _ _ _ hh h => h.of_heap hh) own started (by kernel_rfl) Tryd.func12
    (ChangeSpec.witness_at (enc := enc) (C := Tryd.checked) (os := os) (X := fun w _ => laidMet Tryd.prog spLaid w) false (laidWorld os) #[.slice none 0 0, .slice none 0 0, .agg #[.int .i64 0, .int .i64 0]] 8 rfl (by kernel_rfl) (by kernel_rfl) (by kernel_rfl) (by kernel_rfl) (by kernel_rfl) (laidWorld_met os _)) ?_
  intro W base args ds gs before hval hW _ _ hL _
  refine contract_of_law (shs := [(.slice (.agg (.pair (.int .i64) (.pair (.int .i64) (.int .i64))))), (.slice (.agg (.pair (.int .i64) (.pair (.int .i64) (.pair (.int .i64) (.pair (.int .i64) (.int .i64))))))), (.agg (.pair (.int .i64) (.int .i64)))]) (tb := 4) laid (by kernel_rfl) (by kernel_rfl) rfl (by kernel_rfl) (by kernel_rfl) rfl (fun ds h => ?_) rangingDelaysLaw (globsOf_laid hL) hval hW
  match ds, h with
  | [_, _, _], _ => rfl

set_option maxRecDepth 100000
theorem rangingDelaysFact0 : (Rows.rangingDelaysRow.wf (OpenSpec.ofChange Rows.rangingDelaysSpec)) = true := by kernel_rfl
theorem rangingDelaysFact1 : (laidOutB Tryd.prog) = true := laid
theorem rangingDelaysFact2 : (mapsRowed Tryd.prog) = true := fMaps
theorem rangingDelaysFact3 : (Tryd.f12.params.all (Tryd.prog.readableRec ·)) = true := by kernel_rfl
theorem rangingDelaysFact4 : (namedTie Tryd.prog Rows.rangingDelaysRow.named Rows.rangingDelaysSpec.vars) = true := by kernel_rfl
theorem rangingDelaysFact5 : ((Rows.rangingDelaysRow.stops == [])) = true := by kernel_rfl
theorem rangingDelaysFact6 : ((Tryd.prog.stops == [])) = true := by rw [fStops]; rfl
theorem rangingDelaysFact7 : ((Rows.rangingDelaysRow.knobs == [])) = true := by kernel_rfl
theorem rangingDelaysFact8 : ((Tryd.prog.stopKnobs == [])) = true := by rw [fKnobs]; rfl
theorem rangingDelaysFact9 : ((Rows.rangingDelaysRow.inPlace == Tryd.prog.inPlace 12)) = true := by kernel_rfl
theorem rangingDelaysFact10 : ((Rows.rangingDelaysRow.unfollowed == Tryd.prog.unfollowed 12)) = true := by kernel_rfl
theorem rangingDelaysFact11 : ((Rows.rangingDelaysRow.recurses == Tryd.prog.recurses 12)) = true := by kernel_rfl
theorem rangingDelaysFact12 : ((Rows.rangingDelaysRow.named == Tryd.prog.varsNamed 12)) = true := by kernel_rfl
theorem rangingDelaysFact13 : ((Rows.rangingDelaysRow.maps == (Tryd.f12.params.toList ++ Rows.rangingDelaysSpec.plain.varTypes Tryd.prog).any (Tryd.prog.mapsRec ·))) = true := by kernel_rfl
theorem rangingDelaysFact14 : ((Rows.rangingDelaysRow.ifaces == (Tryd.f12.params.toList ++ Rows.rangingDelaysSpec.plain.varTypes Tryd.prog).any (Tryd.prog.ifacesRec ·))) = true := by kernel_rfl
theorem rangingDelaysFact15 : ((Rows.rangingDelaysRow.mapsOut == Tryd.prog.mapsAmong Tryd.f12.resultTypes.toList)) = true := by kernel_rfl
theorem rangingDelaysFact16 : ((Rows.rangingDelaysRow.loops == (Tryd.f12.params.toList ++ Rows.rangingDelaysSpec.plain.varTypes Tryd.prog).any (Tryd.prog.loopsFrom ·))) = true := by kernel_rfl
theorem rangingDelaysFact17 : ((Rows.rangingDelaysRow.wideKeys == (Tryd.f12.params.toList ++ Rows.rangingDelaysSpec.plain.varTypes Tryd.prog ++ Tryd.f12.resultTypes.toList).any (Tryd.prog.wideKeysFrom ·))) = true := by kernel_rfl
theorem rangingDelaysFact18 : (Rows.rangingDelaysSpec.vars.all (Tryd.prog.varReadable ·)) = true := by kernel_rfl
theorem rangingDelaysFact19 : (Tryd.f12.resultTypes.all (fun t => Tryd.prog.readableRec t && decide (t < Tryd.prog.types.size))) = true := by kernel_rfl
theorem rangingDelaysFact20 : ((Rows.rangingDelaysRow.ifacesOut == Tryd.f12.resultTypes.toList.any (Tryd.prog.ifacesRec ·))) = true := by kernel_rfl
theorem rangingDelaysFact21 : ((Rows.rangingDelaysRow.loopsOut == Tryd.f12.resultTypes.toList.any (Tryd.prog.loopsFrom ·))) = true := by kernel_rfl
theorem rangingDelaysFact22 : ((Rows.rangingDelaysRow.plainKeys == Tryd.prog.plainKeys)) = true := by kernel_rfl
theorem rangingDelaysFact23 : (Rows.rangingDelaysRow.shortTexts.isNone) = true := by kernel_rfl
theorem rangingDelaysFact24 : (Tryd.prog.stopsHeard) = true := fHeard
theorem rangingDelaysFact25 : (Tryd.prog.mayEnter) = true := fEnter
theorem rangingDelaysFact26 : ((Rows.rangingDelaysRow.lifted == Tryd.prog.liftsFinal)) = true := by kernel_rfl
theorem rangingDelaysFact27 : ((Tryd.prog.make == some Rows.rangingDelaysRow.make)) = true := by kernel_rfl
theorem rangingDelaysFacts : joinedFacts Tryd.prog 12 Tryd.f12 Rows.rangingDelaysSpec Rows.rangingDelaysRow = true := by
  unfold joinedFacts
  rw [rangingDelaysFact0, rangingDelaysFact1, rangingDelaysFact2, rangingDelaysFact3, rangingDelaysFact4, rangingDelaysFact5, rangingDelaysFact6, rangingDelaysFact7, rangingDelaysFact8, rangingDelaysFact9, rangingDelaysFact10, rangingDelaysFact11, rangingDelaysFact12, rangingDelaysFact13, rangingDelaysFact14, rangingDelaysFact15, rangingDelaysFact16, rangingDelaysFact17, rangingDelaysFact18, rangingDelaysFact19, rangingDelaysFact20, rangingDelaysFact21, rangingDelaysFact22, rangingDelaysFact23, rangingDelaysFact24, rangingDelaysFact25, rangingDelaysFact26, rangingDelaysFact27]
  kernel_rfl

theorem rangingDelaysNamed : Tryd.prog.funcNamed "cassegrain/cassegrainlaw07.RangingDelays" = some 12 := by kernel_rfl
theorem rangingDelays_holds : Rows.RangingDelaysSaid :=
  OpenClaim.holds_of_wide 12 Tryd.f12 rfl rfl rfl rfl rfl rfl rfl ⟨rfl, rfl, rfl, rfl, rfl⟩ rfl rfl rfl rfl rfl rangingDelaysNamed Tryd.func12 rangingDelaysFacts
    (of_decide_eq_true (by kernel_rfl)) (by unfold Func.isWrapper; first | (rw [if_pos (by decide +kernel)]; kernel_rfl) | (rw [if_neg (by decide +kernel)]; exact ⟨rfl, rfl⟩))
    (fun os started H enc _ => rangingDelaysLifted os started H enc)

theorem rangingDelaysParams : (Tryd.f12.params.toList.all fun t => !Tryd.prog.wantsStandIn t) = true := by kernel_rfl
theorem rangingDelaysWf : Rows.rangingDelaysRow.wfByText (OpenSpec.ofChange Rows.rangingDelaysSpec) = true := by kernel_rfl
theorem rangingDelaysGoes : false = Rows.rangingDelaysRow.goesBy Tryd.pinned.checked.prog := by kernel_rfl
theorem rangingDelays_card : Rows.RangingDelaysCardSaid :=
  Claim7.holds_tied_plain_at .later [] [.data] true (true, "b9a990e41395d9caa781e6d6f13123fc7fc88690115b0761975b0f7740f8aa07") false
    rangingDelays_holds (fun _ h => by cases h) rangingDelaysWf (fun _ h => by cases h) rangingDelays_row_tie rfl ⟨rfl, rfl⟩ fMain rfl
    (fun f fn hf hfn => by
      obtain rfl : f = 12 := Option.some.inj (rangingDelaysNamed.symm.trans hf) |>.symm
      obtain rfl : fn = Tryd.f12 := (Option.some.inj (Tryd.func12.symm.trans hfn)).symm
      exact ⟨fLooks, fun j t ht => by
        have := List.all_eq_true.1 rangingDelaysParams t (by rw [Array.mem_toList_iff]; exact Array.mem_of_getElem? ht)
        show Tryd.prog.wantsStandIn t = false
        simpa using this⟩)
    rangingDelaysGoes
#print axioms rangingDelays_card
end Go.Proofs.YtfmfiflpokogiaaDoor
