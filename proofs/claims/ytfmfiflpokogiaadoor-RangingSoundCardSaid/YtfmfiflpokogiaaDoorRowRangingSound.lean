/- RangingSound: the statement holds for every input; condition: the package-level variable reads as listed, which the card ties to the program's text. -/
import Derived.Test.YtfmfiflpokogiaaDoorSound
import Derived.Test.YtfmfiflpokogiaaDoorFacts7
import Derived.Test.YtfmfiflpokogiaaDoorTie
import Derived.Test.YtfmfiflpokogiaaDoorCards
import Derived.WalkKit
import Derived.ProofKit
import Derived.OpenShut
import Derived.JoinedCond
import Derived.SevenTiedAt
set_option linter.unusedSimpArgs false
namespace Go.Proofs.YtfmfiflpokogiaaDoor
open Go.Ev Go.ChangeShapes Go.WideShapes Go.ChangeAt Go.RowKit

theorem rangingSoundLaw : ∀ cs, Typed [(.slice (.agg (.pair (.int .i64) (.pair (.int .i64) (.pair (.int .i64) (.pair (.int .i64) (.int .i64))))))), (.agg (.pair (.pair (.int .i64) .bool) (.pair (.pair (.int .i64) (.int .i64)) (.pair (.slice (.agg (.pair (.int .i64) (.pair .bool (.int .i64))))) (.int .i64))))), (.agg (.pair (.pair (.int .i64) (.int .i64)) (.pair (.int .i64) (.int .i64))))] cs → Meets Tryd.prog 15 cs saysTrue := law_of_spec (shs := [(.slice (.agg (.pair (.int .i64) (.pair (.int .i64) (.pair (.int .i64) (.pair (.int .i64) (.int .i64))))))), (.agg (.pair (.pair (.int .i64) .bool) (.pair (.pair (.int .i64) (.int .i64)) (.pair (.slice (.agg (.pair (.int .i64) (.pair .bool (.int .i64))))) (.int .i64))))), (.agg (.pair (.pair (.int .i64) (.int .i64)) (.pair (.int .i64) (.int .i64))))]) i15 (fun x _ => sound_true x)

set_option maxRecDepth 100000 in
theorem rangingSoundLifted (os : Os) (started : os.Started) (H : Type) (enc : TypeId × Value → H) :
    ReturnsInHanded {} Tryd.checked os 15 .any (fun w args => (Rows.rangingSoundSpec.pre enc Tryd.prog Tryd.f15 Rows.rangingSoundRow.domain false w args ∧ laidMet Tryd.prog spLaid w) ∧ sizedMet enc Tryd.prog Tryd.f15 (OpenSpec.ofChange Rows.rangingSoundSpec) false w args)
      (Rows.rangingSoundSpec.post enc Tryd.prog Tryd.f15 false true false false) := by
  refine returnsInHanded_of_change_and (C := Tryd.checked) (X := fun w _ => laidMet Tryd.prog spLaid w) (fun _ _ _ hh h => h.of_heap hh) own started (by kernel_rfl) Tryd.func15
    (ChangeSpec.witness_at (enc := enc) (C := Tryd.checked) (os := os) (X := fun w _ => laidMet Tryd.prog spLaid w) false (laidWorld os) #[.slice none 0 0, .agg #[.int .i64 0, .bool false, .int .i64 0, .int .i64 0, .slice none 0 0, .int .i64 0], .agg #[.int .i64 0, .int .i64 0, .int .i64 0, .int .i64 0]] 8 rfl (by kernel_rfl) (by kernel_rfl) (by kernel_rfl) (by kernel_rfl) (by kernel_rfl) (laidWorld_met os _)) ?_
  intro W base args ds gs before hval hW _ _ hL _
  refine contract_of_law (shs := [(.slice (.agg (.pair (.int .i64) (.pair (.int .i64) (.pair (.int .i64) (.pair (.int .i64) (.int .i64))))))), (.agg (.pair (.pair (.int .i64) .bool) (.pair (.pair (.int .i64) (.int .i64)) (.pair (.slice (.agg (.pair (.int .i64) (.pair .bool (.int .i64))))) (.int .i64))))), (.agg (.pair (.pair (.int .i64) (.int .i64)) (.pair (.int .i64) (.int .i64))))]) (tb := 4) laid (by kernel_rfl) (by kernel_rfl) rfl (by kernel_rfl) (by kernel_rfl) rfl (fun ds h => ?_) rangingSoundLaw (globsOf_laid hL) hval hW
  match ds, h with
  | [_, _, _], _ => rfl

set_option maxRecDepth 100000
theorem rangingSoundFact0 : (Rows.rangingSoundRow.wf (OpenSpec.ofChange Rows.rangingSoundSpec)) = true := by kernel_rfl
theorem rangingSoundFact1 : (laidOutB Tryd.prog) = true := laid
theorem rangingSoundFact2 : (mapsRowed Tryd.prog) = true := fMaps
theorem rangingSoundFact3 : (Tryd.f15.params.all (Tryd.prog.readableRec ·)) = true := by kernel_rfl
theorem rangingSoundFact4 : (namedTie Tryd.prog Rows.rangingSoundRow.named Rows.rangingSoundSpec.vars) = true := by kernel_rfl
theorem rangingSoundFact5 : ((Rows.rangingSoundRow.stops == [])) = true := by kernel_rfl
theorem rangingSoundFact6 : ((Tryd.prog.stops == [])) = true := by rw [fStops]; rfl
theorem rangingSoundFact7 : ((Rows.rangingSoundRow.knobs == [])) = true := by kernel_rfl
theorem rangingSoundFact8 : ((Tryd.prog.stopKnobs == [])) = true := by rw [fKnobs]; rfl
theorem rangingSoundFact9 : ((Rows.rangingSoundRow.inPlace == Tryd.prog.inPlace 15)) = true := by kernel_rfl
theorem rangingSoundFact10 : ((Rows.rangingSoundRow.unfollowed == Tryd.prog.unfollowed 15)) = true := by kernel_rfl
theorem rangingSoundFact11 : ((Rows.rangingSoundRow.recurses == Tryd.prog.recurses 15)) = true := by kernel_rfl
theorem rangingSoundFact12 : ((Rows.rangingSoundRow.named == Tryd.prog.varsNamed 15)) = true := by kernel_rfl
theorem rangingSoundFact13 : ((Rows.rangingSoundRow.maps == (Tryd.f15.params.toList ++ Rows.rangingSoundSpec.plain.varTypes Tryd.prog).any (Tryd.prog.mapsRec ·))) = true := by kernel_rfl
theorem rangingSoundFact14 : ((Rows.rangingSoundRow.ifaces == (Tryd.f15.params.toList ++ Rows.rangingSoundSpec.plain.varTypes Tryd.prog).any (Tryd.prog.ifacesRec ·))) = true := by kernel_rfl
theorem rangingSoundFact15 : ((Rows.rangingSoundRow.mapsOut == Tryd.prog.mapsAmong Tryd.f15.resultTypes.toList)) = true := by kernel_rfl
theorem rangingSoundFact16 : ((Rows.rangingSoundRow.loops == (Tryd.f15.params.toList ++ Rows.rangingSoundSpec.plain.varTypes Tryd.prog).any (Tryd.prog.loopsFrom ·))) = true := by kernel_rfl
theorem rangingSoundFact17 : ((Rows.rangingSoundRow.wideKeys == (Tryd.f15.params.toList ++ Rows.rangingSoundSpec.plain.varTypes Tryd.prog ++ Tryd.f15.resultTypes.toList).any (Tryd.prog.wideKeysFrom ·))) = true := by kernel_rfl
theorem rangingSoundFact18 : (Rows.rangingSoundSpec.vars.all (Tryd.prog.varReadable ·)) = true := by kernel_rfl
theorem rangingSoundFact19 : (Tryd.f15.resultTypes.all (fun t => Tryd.prog.readableRec t && decide (t < Tryd.prog.types.size))) = true := by kernel_rfl
theorem rangingSoundFact20 : ((Rows.rangingSoundRow.ifacesOut == Tryd.f15.resultTypes.toList.any (Tryd.prog.ifacesRec ·))) = true := by kernel_rfl
theorem rangingSoundFact21 : ((Rows.rangingSoundRow.loopsOut == Tryd.f15.resultTypes.toList.any (Tryd.prog.loopsFrom ·))) = true := by kernel_rfl
theorem rangingSoundFact22 : ((Rows.rangingSoundRow.plainKeys == Tryd.prog.plainKeys)) = true := by kernel_rfl
theorem rangingSoundFact23 : (Rows.rangingSoundRow.shortTexts.isNone) = true := by kernel_rfl
theorem rangingSoundFact24 : (Tryd.prog.stopsHeard) = true := fHeard
theorem rangingSoundFact25 : (Tryd.prog.mayEnter) = true := fEnter
theorem rangingSoundFact26 : ((Rows.rangingSoundRow.lifted == Tryd.prog.liftsFinal)) = true := by kernel_rfl
theorem rangingSoundFact27 : ((Tryd.prog.make == some Rows.rangingSoundRow.make)) = true := by kernel_rfl
theorem rangingSoundFacts : joinedFacts Tryd.prog 15 Tryd.f15 Rows.rangingSoundSpec Rows.rangingSoundRow = true := by
  unfold joinedFacts
  rw [rangingSoundFact0, rangingSoundFact1, rangingSoundFact2, rangingSoundFact3, rangingSoundFact4, rangingSoundFact5, rangingSoundFact6, rangingSoundFact7, rangingSoundFact8, rangingSoundFact9, rangingSoundFact10, rangingSoundFact11, rangingSoundFact12, rangingSoundFact13, rangingSoundFact14, rangingSoundFact15, rangingSoundFact16, rangingSoundFact17, rangingSoundFact18, rangingSoundFact19, rangingSoundFact20, rangingSoundFact21, rangingSoundFact22, rangingSoundFact23, rangingSoundFact24, rangingSoundFact25, rangingSoundFact26, rangingSoundFact27]
  kernel_rfl

theorem rangingSoundNamed : Tryd.prog.funcNamed "cassegrain/cassegrainlaw07.RangingSound" = some 15 := by kernel_rfl
theorem rangingSound_holds : Rows.RangingSoundSaid :=
  OpenClaim.holds_of_wide 15 Tryd.f15 rfl rfl rfl rfl rfl rfl rfl ⟨rfl, rfl, rfl, rfl, rfl⟩ rfl rfl rfl rfl rfl rangingSoundNamed Tryd.func15 rangingSoundFacts
    (of_decide_eq_true (by kernel_rfl)) (by unfold Func.isWrapper; first | (rw [if_pos (by decide +kernel)]; kernel_rfl) | (rw [if_neg (by decide +kernel)]; exact ⟨rfl, rfl⟩))
    (fun os started H enc _ => rangingSoundLifted os started H enc)

theorem rangingSoundParams : (Tryd.f15.params.toList.all fun t => !Tryd.prog.wantsStandIn t) = true := by kernel_rfl
theorem rangingSoundWf : Rows.rangingSoundRow.wfByText (OpenSpec.ofChange Rows.rangingSoundSpec) = true := by kernel_rfl
theorem rangingSoundGoes : false = Rows.rangingSoundRow.goesBy Tryd.pinned.checked.prog := by kernel_rfl
theorem rangingSound_card : Rows.RangingSoundCardSaid :=
  Claim7.holds_tied_plain_at .later [] [.data] true (true, "b9a990e41395d9caa781e6d6f13123fc7fc88690115b0761975b0f7740f8aa07") false
    rangingSound_holds (fun _ h => by cases h) rangingSoundWf (fun _ h => by cases h) rangingSound_row_tie rfl ⟨rfl, rfl⟩ fMain rfl
    (fun f fn hf hfn => by
      obtain rfl : f = 15 := Option.some.inj (rangingSoundNamed.symm.trans hf) |>.symm
      obtain rfl : fn = Tryd.f15 := (Option.some.inj (Tryd.func15.symm.trans hfn)).symm
      exact ⟨fLooks, fun j t ht => by
        have := List.all_eq_true.1 rangingSoundParams t (by rw [Array.mem_toList_iff]; exact Array.mem_of_getElem? ht)
        show Tryd.prog.wantsStandIn t = false
        simpa using this⟩)
    rangingSoundGoes
#print axioms rangingSound_card
end Go.Proofs.YtfmfiflpokogiaaDoor
